import Derived.Test.YtpfnjmaadghhoaaN8
import Derived.Test.YtpfnjmaadghhoaaProg
set_option maxRecDepth 100000
set_option maxHeartbeats 1000000
namespace Go.Proofs.Ytpfnjmaadghhoaa
open Go Go.RowKit K

def ref04_Bytes_j1 (_ : Nat) (v11 : (List Int)) : Option ((List Int)) :=
  some v11

def ref04_Bytes_j2 (_ : Nat) (cb_ref04_Bytes_l1 : (List Int) → Int → Option ((List Int))) (v18 : Int) (v26 : (List Int)) : Option ((List Int)) :=
  cb_ref04_Bytes_l1 v26 (w64 (v18 + 8))

def ref04_Bytes_j3 (K : Nat) (cb_ref04_Bytes_l1 : (List Int) → Int → Option ((List Int))) (v18 : Int) (v16 : (List Int)) (v28 : Int) : Option ((List Int)) :=
  (if v16.length + ([(IntKind.u8.wrap (v28))] : List Int).length ≤ 140737488355328 then (if v28 = 255 then (if (v16 ++ ([(IntKind.u8.wrap (v28))] : List Int)).length + ([0] : List Int).length ≤ 140737488355328 then ref04_Bytes_j2 K cb_ref04_Bytes_l1 v18 ((v16 ++ ([(IntKind.u8.wrap (v28))] : List Int)) ++ ([0] : List Int)) else none) else ref04_Bytes_j2 K cb_ref04_Bytes_l1 v18 (v16 ++ ([(IntKind.u8.wrap (v28))] : List Int))) else none)

def ref04_Bytes_l2 (K : Nat) (cb_ref04_Bytes_l1 : (List Int) → Int → Option ((List Int))) (v8 : (List Int)) (v18 : Int) (v16 : (List Int)) : Nat → Int → Int →  Option ((List Int))
  | 0, _, _ => none
  | k2 + 1, v40, v41 =>
    (if v41 < 8 then (if 0 ≤ (w64 (v18 + v41)) ∧ (w64 (v18 + v41)) < (v8.length : Int) then (ref04_Bytes_l2 K cb_ref04_Bytes_l1 v8 v18 v16 k2) (w64 ((w64 (v40 * 2)) + (v8.getD ((w64 (v18 + v41)).toNat) 0))) (w64 (v41 + 1)) else none) else ref04_Bytes_j3 K cb_ref04_Bytes_l1 v18 v16 v40)

def ref04_Bytes_l1 (K : Nat) (v8 : (List Int)) : Nat → (List Int) → Int →  Option ((List Int))
  | 0, _, _ => none
  | k1 + 1, v16, v18 =>
    (if v18 < (v8.length : Int) then ref04_Bytes_l2 K (ref04_Bytes_l1 K v8 k1) v8 v18 v16 K 0 0 else ref04_Bytes_j1 K v16)

def ref04_Bytes_j4 (K : Nat) (v8 : (List Int)) : Option ((List Int)) :=
  ref04_Bytes_l1 K v8 K ([] : List Int) 0

def ref04_Bytes_l3 (K : Nat)  : Nat → (List Int) →  Option ((List Int))
  | 0, _ => none
  | k3 + 1, v46 =>
    (if ¬ (Int.tmod (v46.length : Int) 8) = 0 then (if v46.length + ([1] : List Int).length ≤ 17592186044416 then (ref04_Bytes_l3 K k3) (v46 ++ ([1] : List Int)) else none) else ref04_Bytes_j4 K v46)

def ref04_Bytes (K : Nat) (a0_l : (List Int)) : Option ((List Int)) :=
  (if ([] : List Int).length + a0_l.length ≤ 17592186044416 then ref04_Bytes_l3 K K (([] : List Int) ++ a0_l) else none)

theorem c_ref04_Bytes (K : Nat) (a0_l : (List Int)) (sa0_l : Value) (r : (List Int)) (w0 : World) (S : Own) (hM0 : Mem w0 S [ro sa0_l 1 a0_l.length (ec e1 a0_l)] w0) (hm : ref04_Bytes K a0_l = some r) : Calls Try.prog 16 #[sa0_l] w0 fun e w' => ∃ u : Value, e = .returned (u) ∧ Mem w0 S [.row u 5 1 r.length (ec eb r)] w' := by
  unfold ref04_Bytes at hm
  refine calls_CW (n := 48) w0 S [ro sa0_l 1 a0_l.length (ec e1 a0_l)] Try.func16 rfl rfl rfl hM0 ?_
  refine CW.seq ?_
  refine CW.region ?_
  refine RW.yi (.slice none 0 0) rfl rfl (Yi.pv _ rfl) ?_
  refine RW.nil ?_
  refine EW.next ?_
  refine CW.seq ?_
  refine CW.region ?_
  refine RW.buildS (e := 3) (sz := 1) (vs := []) ((ec e1 ([] : List Int)).toArray) rfl rfl rfl rfl rfl (by decide) (fun _ => by kernel_rfl) (fun s4 => ?_)
  refine RW.yi (sa0_l) rfl rfl (Yi.pv _ rfl) ?_
  obtain ⟨g6, hm⟩ := of_guard hm
  refine RW.app (i := 0) (e := 3) (sz := 1) (by_ := 8) (z := .int .i64 0) (m := ([] : List Int).length) (mx := a0_l.length) (m' := (([] : List Int) ++ a0_l).length) (cs := ec e1 ([] : List Int)) (news := ec e1 a0_l) (cs' := ec e1 (([] : List Int) ++ a0_l)) rfl rfl Try.underlying26 (by kernel_rfl) rfl (by decide) (by decide) rfl rfl rfl (rdF 1 rfl) (ec_one e1_is _) (by omega) (ec_append _ _ _) (by simp only [List.length_append]) (fun s7 => ?_)
  refine RW.yi (s7) rfl rfl (Yi.pv _ rfl) ?_
  refine RW.nil ?_
  refine EW.next ?_
  refine CW.join (fun a w => ∃ (v8 : (List Int)) (s9 : Value), St 48 [(3, s9)] a ∧ Mem w0 S [.row s9 3 1 v8.length (ec e1 v8)] w ∧ ref04_Bytes_j4 K v8 = some r) ?_ ?_
  · refine CW.block ?_
    refine CW.loop (fun k a w => ∃ (v46 : (List Int)) (s47 : Value), St 48 [(3, s47)] a ∧ Mem w0 S [.row s47 3 1 v46.length (ec e1 v46)] w ∧ ref04_Bytes_l3 K k v46 = some r) K ?_ ?_ ?_
    · rintro a w ⟨_, _, _, _, hm⟩
      rw [ref04_Bytes_l3.eq_1] at hm
      cases hm
    · exact fun a w hs hM => ⟨(([] : List Int) ++ a0_l), s7, hs.sub ⟨rfl, trivial⟩, (hM.pick [0] rfl rfl), hm⟩
    · rintro k3 a w ⟨v46, s47, hs, hM, hm⟩
      rw [ref04_Bytes_l3.eq_2] at hm
      refine CW.enter hs hM ?_
      refine CW.seq ?_
      refine CW.seq ?_
      refine CW.region ?_
      refine RW.yi (s47) rfl rfl (Yi.pv _ rfl) ?_
      refine RW.yi (.int .i64 (v46.length : Int)) rfl rfl (Yi.lenS (cs := ec e1 v46) (m := v46.length) Try.underlying26 rfl (rdW 0 rfl)) ?_
      refine RW.yi (.int .i64 (Int.tmod (v46.length : Int) 8)) rfl rfl (Yi.rem rfl rfl (by decide)) ?_
      refine RW.yi (.bool (decide (¬ (Int.tmod (v46.length : Int) 8) = 0))) rfl rfl (Yi.pv _ rfl) ?_
      refine RW.nil ?_
      refine EW.next ?_
      refine CW.fork 14 (¬ (Int.tmod (v46.length : Int) 8) = 0) rfl (fun h50 => ?_) (fun h50 => ?_)
      · replace hm := (if_pos h50).symm.trans hm
        refine CW.cond_true rfl ?_
        refine CW.skip ?_
        refine EW.next ?_
        refine CW.block ?_
        refine CW.region ?_
        refine RW.yi (s47) rfl rfl (Yi.pv _ rfl) ?_
        refine RW.buildS (e := 3) (sz := 1) (vs := [.int .i64 1]) ((ec e1 ([1] : List Int)).toArray) rfl rfl rfl rfl rfl (by decide) (fun _ => by kernel_rfl) (fun s51 => ?_)
        obtain ⟨g53, hm⟩ := of_guard hm
        refine RW.app (i := 1) (e := 3) (sz := 1) (by_ := 8) (z := .int .i64 0) (m := v46.length) (mx := ([1] : List Int).length) (m' := (v46 ++ ([1] : List Int)).length) (cs := ec e1 v46) (news := ec e1 ([1] : List Int)) (cs' := ec e1 (v46 ++ ([1] : List Int))) rfl rfl Try.underlying26 (by kernel_rfl) rfl (by decide) (by decide) rfl rfl rfl (rdW 0 rfl) (ec_one e1_is _) (by omega) (ec_append _ _ _) (by simp only [List.length_append]) (fun s54 => ?_)
        refine RW.yi (s54) rfl rfl (Yi.pv _ rfl) ?_
        refine RW.nil ?_
        refine EW.bln ?_
        refine EW.thn ?_
        exact fun a w hs hM => ⟨(v46 ++ ([1] : List Int)), s54, hs.sub ⟨rfl, trivial⟩, (hM.pick [1] rfl rfl), hm⟩
      · replace hm := (if_neg h50).symm.trans hm
        refine CW.cond_false rfl ?_
        refine CW.exit ?_
        refine EW.thx ?_
        refine EW.thx ?_
        refine EW.blx ?_
        refine EW.thn ?_
        exact fun a w hs hM => ⟨v46, s47, hs.sub ⟨rfl, trivial⟩, (hM.pick [0] rfl rfl), hm⟩
  · rintro a w ⟨v8, s9, hs, hM, hm⟩
    unfold ref04_Bytes_j4 at hm
    refine CW.enter hs hM ?_
    refine CW.seq ?_
    refine CW.region ?_
    refine RW.yi (.slice none 0 0) rfl rfl (Yi.pv _ rfl) ?_
    refine RW.nil ?_
    refine EW.next ?_
    refine CW.join (fun a w => ∃ (v11 : (List Int)) (s12 : Value), St 48 [(4, s12)] a ∧ Mem w0 S [.row s12 5 1 v11.length (ec eb v11)] w ∧ ref04_Bytes_j1 K v11 = some r) ?_ ?_
    · refine CW.seq ?_
      refine CW.region ?_
      refine RW.yi (.int .i64 0) rfl rfl (Yi.pv _ rfl) ?_
      refine RW.nil ?_
      refine EW.next ?_
      refine CW.block ?_
      refine CW.loop (fun k a w => ∃ (v16 : (List Int)) (v18 : Int) (s17 : Value), St 48 [(3, s9), (4, s17), (5, .int .i64 v18)] a ∧ Mem w0 S [.row s9 3 1 v8.length (ec e1 v8), .row s17 5 1 v16.length (ec eb v16)] w ∧ ref04_Bytes_l1 K v8 k v16 v18 = some r) K ?_ ?_ ?_
      · rintro a w ⟨_, _, _, _, _, hm⟩
        rw [ref04_Bytes_l1.eq_1] at hm
        cases hm
      · exact fun a w hs hM => ⟨([] : List Int), 0, (.slice none 0 0), hs.sub ⟨rfl, rfl, rfl, trivial⟩, ((hM.nilRow 5 1).pick [1, 0] rfl rfl), hm⟩
      · rintro k1 a w ⟨v16, v18, s17, hs, hM, hm⟩
        rw [ref04_Bytes_l1.eq_2] at hm
        refine CW.enter hs hM ?_
        refine CW.seq ?_
        refine CW.seq ?_
        refine CW.region ?_
        refine RW.yi (.int .i64 v18) rfl rfl (Yi.pv _ rfl) ?_
        refine RW.yi (s9) rfl rfl (Yi.pv _ rfl) ?_
        refine RW.yi (.int .i64 (v8.length : Int)) rfl rfl (Yi.lenS (cs := ec e1 v8) (m := v8.length) Try.underlying26 rfl (rdW 0 rfl)) ?_
        refine RW.yi (.bool (decide (v18 < (v8.length : Int)))) rfl rfl (Yi.pv _ rfl) ?_
        refine RW.nil ?_
        refine EW.next ?_
        refine CW.fork 21 (v18 < (v8.length : Int)) rfl (fun h23 => ?_) (fun h23 => ?_)
        · replace hm := (if_pos h23).symm.trans hm
          refine CW.cond_true rfl ?_
          refine CW.skip ?_
          refine EW.next ?_
          refine CW.join (fun a w => ∃ (v26 : (List Int)) (s27 : Value), St 48 [(3, s9), (4, s27), (5, .int .i64 v18)] a ∧ Mem w0 S [.row s9 3 1 v8.length (ec e1 v8), .row s27 5 1 v26.length (ec eb v26)] w ∧ ref04_Bytes_j2 K (ref04_Bytes_l1 K v8 k1) v18 v26 = some r) ?_ ?_
          · refine CW.block ?_
            refine CW.seq ?_
            refine CW.region ?_
            refine RW.yi (.int .i64 0) rfl rfl (Yi.pv _ rfl) ?_
            refine RW.nil ?_
            refine EW.next ?_
            refine CW.join (fun a w => ∃ (v28 : Int), St 48 [(3, s9), (4, s17), (5, .int .i64 v18), (6, .int .i64 v28)] a ∧ Mem w0 S [.row s9 3 1 v8.length (ec e1 v8), .row s17 5 1 v16.length (ec eb v16)] w ∧ ref04_Bytes_j3 K (ref04_Bytes_l1 K v8 k1) v18 v16 v28 = some r) ?_ ?_
            · refine CW.seq ?_
              refine CW.region ?_
              refine RW.yi (.int .i64 0) rfl rfl (Yi.pv _ rfl) ?_
              refine RW.nil ?_
              refine EW.next ?_
              refine CW.block ?_
              refine CW.loop (fun k a w => ∃ (v40 : Int) (v41 : Int), St 48 [(3, s9), (4, s17), (5, .int .i64 v18), (6, .int .i64 v40), (7, .int .i64 v41)] a ∧ Mem w0 S [.row s9 3 1 v8.length (ec e1 v8), .row s17 5 1 v16.length (ec eb v16)] w ∧ ref04_Bytes_l2 K (ref04_Bytes_l1 K v8 k1) v8 v18 v16 k v40 v41 = some r) K ?_ ?_ ?_
              · rintro a w ⟨_, _, _, _, hm⟩
                rw [ref04_Bytes_l2.eq_1] at hm
                cases hm
              · exact fun a w hs hM => ⟨0, 0, hs.sub ⟨rfl, rfl, rfl, rfl, rfl, trivial⟩, (hM.pick [0, 1] rfl rfl), hm⟩
              · rintro k2 a w ⟨v40, v41, hs, hM, hm⟩
                rw [ref04_Bytes_l2.eq_2] at hm
                refine CW.enter hs hM ?_
                refine CW.seq ?_
                refine CW.seq ?_
                refine CW.region ?_
                refine RW.yi (.int .i64 v41) rfl rfl (Yi.pv _ rfl) ?_
                refine RW.yi (.bool (decide (v41 < 8))) rfl rfl (Yi.pv _ rfl) ?_
                refine RW.nil ?_
                refine EW.next ?_
                refine CW.fork 25 (v41 < 8) rfl (fun h44 => ?_) (fun h44 => ?_)
                · replace hm := (if_pos h44).symm.trans hm
                  refine CW.cond_true rfl ?_
                  refine CW.skip ?_
                  refine EW.next ?_
                  refine CW.seq ?_
                  refine CW.block ?_
                  refine CW.region ?_
                  refine RW.yi (.int .i64 v40) rfl rfl (Yi.pv _ rfl) ?_
                  refine RW.yi (.int .i64 (w64 (v40 * 2))) rfl rfl (Yi.pv _ rfl) ?_
                  refine RW.yi (s9) rfl rfl (Yi.pv _ rfl) ?_
                  refine RW.yi (.int .i64 v18) rfl rfl (Yi.pv _ rfl) ?_
                  refine RW.yi (.int .i64 v41) rfl rfl (Yi.pv _ rfl) ?_
                  refine RW.yi (.int .i64 (w64 (v18 + v41))) rfl rfl (Yi.pv _ rfl) ?_
                  obtain ⟨g45, hm⟩ := of_guard hm
                  refine RW.yi (.pointer (some (eaddr s9 1 ((w64 (v18 + v41)).toNat) 0))) rfl rfl (Yi.idxS (m := v8.length) Try.underlying26 Try.sizeOf3 rfl rfl (rdW 0 rfl) g45.1 g45.2) ?_
                  refine RW.yi (.int .i64 (v8.getD ((w64 (v18 + v41)).toNat) 0)) rfl rfl (Yi.loadS (m := v8.length) (cs := ec e1 v8) _ rfl (rdW 0 rfl) Try.isAgg3 (by omega) (by omega) (by rw [ec_get (d := 0) e1_is (by omega) (by decide)]; rfl)) ?_
                  refine RW.yi (.int .i64 (w64 ((w64 (v40 * 2)) + (v8.getD ((w64 (v18 + v41)).toNat) 0)))) rfl rfl (Yi.pv _ rfl) ?_
                  refine RW.yi (.int .i64 (w64 ((w64 (v40 * 2)) + (v8.getD ((w64 (v18 + v41)).toNat) 0)))) rfl rfl (Yi.pv _ rfl) ?_
                  refine RW.nil ?_
                  refine EW.bln ?_
                  refine EW.next ?_
                  refine CW.region ?_
                  refine RW.yi (.int .i64 v41) rfl rfl (Yi.pv _ rfl) ?_
                  refine RW.yi (.int .i64 (w64 (v41 + 1))) rfl rfl (Yi.pv _ rfl) ?_
                  refine RW.yi (.int .i64 (w64 (v41 + 1))) rfl rfl (Yi.pv _ rfl) ?_
                  refine RW.nil ?_
                  refine EW.thn ?_
                  exact fun a w hs hM => ⟨(w64 ((w64 (v40 * 2)) + (v8.getD ((w64 (v18 + v41)).toNat) 0))), (w64 (v41 + 1)), hs.sub ⟨rfl, rfl, rfl, rfl, rfl, trivial⟩, (hM.pick [0, 1] rfl rfl), hm⟩
                · replace hm := (if_neg h44).symm.trans hm
                  refine CW.cond_false rfl ?_
                  refine CW.exit ?_
                  refine EW.thx ?_
                  refine EW.thx ?_
                  refine EW.blx ?_
                  refine EW.thn ?_
                  exact fun a w hs hM => ⟨v40, hs.sub ⟨rfl, rfl, rfl, rfl, trivial⟩, (hM.pick [0, 1] rfl rfl), hm⟩
            · rintro a w ⟨v28, hs, hM, hm⟩
              unfold ref04_Bytes_j3 at hm
              refine CW.enter hs hM ?_
              refine CW.seq ?_
              refine CW.region ?_
              refine RW.yi (s17) rfl rfl (Yi.pv _ rfl) ?_
              refine RW.yi (.int .i64 v28) rfl rfl (Yi.pv _ rfl) ?_
              refine RW.yi (.int .u8 (IntKind.u8.wrap (v28))) rfl rfl (Yi.conv ⟨_, Try.underlying3⟩ Try.underlying5 rfl) ?_
              refine RW.buildS (e := 5) (sz := 1) (vs := [.int .u8 (IntKind.u8.wrap (v28))]) ((ec eb ([(IntKind.u8.wrap (v28))] : List Int)).toArray) rfl rfl rfl rfl rfl (by decide) (fun _ => by kernel_rfl) (fun s29 => ?_)
              obtain ⟨g31, hm⟩ := of_guard hm
              refine RW.app (i := 2) (e := 5) (sz := 1) (by_ := 1) (z := .int .u8 0) (m := v16.length) (mx := ([(IntKind.u8.wrap (v28))] : List Int).length) (m' := (v16 ++ ([(IntKind.u8.wrap (v28))] : List Int)).length) (cs := ec eb v16) (news := ec eb ([(IntKind.u8.wrap (v28))] : List Int)) (cs' := ec eb (v16 ++ ([(IntKind.u8.wrap (v28))] : List Int))) rfl rfl Try.underlying34 (by kernel_rfl) rfl (by decide) (by decide) rfl rfl rfl (rdW 0 rfl) (ec_one eb_is _) (by omega) (ec_append _ _ _) (by simp only [List.length_append]) (fun s32 => ?_)
              refine RW.yi (s32) rfl rfl (Yi.pv _ rfl) ?_
              refine RW.nil ?_
              refine EW.next ?_
              refine CW.seq ?_
              refine CW.region ?_
              refine RW.yi (.int .i64 v28) rfl rfl (Yi.pv _ rfl) ?_
              refine RW.yi (.bool (decide (v28 = 255))) rfl rfl (Yi.pv _ rfl) ?_
              refine RW.nil ?_
              refine EW.next ?_
              refine CW.fork 43 (v28 = 255) rfl (fun h33 => ?_) (fun h33 => ?_)
              · replace hm := (if_pos h33).symm.trans hm
                refine CW.cond_true rfl ?_
                refine CW.region ?_
                refine RW.yi (s32) rfl rfl (Yi.pv _ rfl) ?_
                refine RW.buildS (e := 5) (sz := 1) (vs := [.int .u8 0]) ((ec eb ([0] : List Int)).toArray) rfl rfl rfl rfl rfl (by decide) (fun _ => by kernel_rfl) (fun s34 => ?_)
                obtain ⟨g36, hm⟩ := of_guard hm
                refine RW.app (i := 3) (e := 5) (sz := 1) (by_ := 1) (z := .int .u8 0) (m := (v16 ++ ([(IntKind.u8.wrap (v28))] : List Int)).length) (mx := ([0] : List Int).length) (m' := ((v16 ++ ([(IntKind.u8.wrap (v28))] : List Int)) ++ ([0] : List Int)).length) (cs := ec eb (v16 ++ ([(IntKind.u8.wrap (v28))] : List Int))) (news := ec eb ([0] : List Int)) (cs' := ec eb ((v16 ++ ([(IntKind.u8.wrap (v28))] : List Int)) ++ ([0] : List Int))) rfl rfl Try.underlying34 (by kernel_rfl) rfl (by decide) (by decide) rfl rfl rfl (rdW 0 rfl) (ec_one eb_is _) (by omega) (ec_append _ _ _) (by simp only [List.length_append]) (fun s37 => ?_)
                refine RW.yi (s37) rfl rfl (Yi.pv _ rfl) ?_
                refine RW.nil ?_
                refine EW.bln ?_
                refine EW.thn ?_
                exact fun a w hs hM => ⟨((v16 ++ ([(IntKind.u8.wrap (v28))] : List Int)) ++ ([0] : List Int)), s37, hs.sub ⟨rfl, rfl, rfl, trivial⟩, (hM.pick [2, 3] rfl rfl), hm⟩
              · replace hm := (if_neg h33).symm.trans hm
                refine CW.cond_false rfl ?_
                refine CW.skip ?_
                refine EW.bln ?_
                refine EW.thn ?_
                exact fun a w hs hM => ⟨(v16 ++ ([(IntKind.u8.wrap (v28))] : List Int)), s32, hs.sub ⟨rfl, rfl, rfl, trivial⟩, (hM.pick [1, 2] rfl rfl), hm⟩
          · rintro a w ⟨v26, s27, hs, hM, hm⟩
            unfold ref04_Bytes_j2 at hm
            refine CW.enter hs hM ?_
            refine CW.region ?_
            refine RW.yi (.int .i64 v18) rfl rfl (Yi.pv _ rfl) ?_
            refine RW.yi (.int .i64 (w64 (v18 + 8))) rfl rfl (Yi.pv _ rfl) ?_
            refine RW.yi (.int .i64 (w64 (v18 + 8))) rfl rfl (Yi.pv _ rfl) ?_
            refine RW.nil ?_
            refine EW.thn ?_
            exact fun a w hs hM => ⟨v26, (w64 (v18 + 8)), s27, hs.sub ⟨rfl, rfl, rfl, trivial⟩, (hM.pick [0, 1] rfl rfl), hm⟩
        · replace hm := (if_neg h23).symm.trans hm
          refine CW.cond_false rfl ?_
          refine CW.exit ?_
          refine EW.thx ?_
          refine EW.thx ?_
          refine EW.blx ?_
          refine EW.thn ?_
          exact fun a w hs hM => ⟨v16, s17, hs.sub ⟨rfl, trivial⟩, (hM.pick [1] rfl rfl), hm⟩
    · rintro a w ⟨v11, s12, hs, hM, hm⟩
      unfold ref04_Bytes_j1 at hm
      refine CW.enter hs hM ?_
      refine CW.seq ?_
      refine CW.region ?_
      refine RW.yi (s12) rfl rfl (Yi.pv _ rfl) ?_
      refine RW.yi (s12) rfl rfl (Yi.pv _ rfl) ?_
      refine RW.nil ?_
      refine EW.next ?_
      refine CW.ret ?_
      obtain rfl := Option.some.inj hm
      exact EW.done (rs := [.tmp 2]) rfl (.tmp (t := 2) (v := s12) rfl .nil) (fun _ hM => ⟨(s12), rfl, (hM.pick [0] rfl rfl)⟩)

end Go.Proofs.Ytpfnjmaadghhoaa
