import Derived.Test.YtoepbakbpimkiaaN8
import Derived.Test.YtoepbakbpimkiaaProg
set_option maxRecDepth 100000
set_option maxHeartbeats 1000000
namespace Go.Proofs.Ytoepbakbpimkiaa
open Go Go.RowKit K

def huff_Table_Spec_2 (_ : Nat)  : Option (Unit) :=
  some ()

theorem c_huff_Table_Spec_2 (K : Nat)   (r : Unit) (w0 : World) (S : Own) (hM0 : Mem w0 S [] w0) (hm : huff_Table_Spec_2 K  = some r) : Calls Try.prog 17 #[.pointer none] w0 fun e w' => ∃ _u : Unit, e = .returned (.agg (cat [(16, (iv zf)), p1 (.slice none 0 0)])) ∧ Mem w0 S [] w' := by
  unfold huff_Table_Spec_2 at hm
  refine calls_CW (n := 18) w0 S [] Try.func17 rfl rfl rfl hM0 ?_
  refine CW.seq ?_
  refine CW.region ?_
  refine RW.alloc (z := .agg (cat [(16, (iv zf)), p1 (.slice none 0 0)])) (cat [(16, (iv zf)), p1 (.slice none 0 0)]) rfl rfl (fun _ => by kernel_rfl) rfl (fun b1 => ?_)
  refine RW.nil ?_
  refine EW.next ?_
  refine CW.seq ?_
  refine CW.seq ?_
  refine CW.region ?_
  refine RW.yi (.pointer none) rfl rfl (Yi.pv _ rfl) ?_
  refine RW.yi (.bool true) rfl rfl (Yi.eqNil true rfl rfl Try.underlying27 (.inl ⟨rfl, rfl⟩)) ?_
  refine RW.nil ?_
  refine EW.next ?_
  refine CW.cond_true rfl ?_
  refine CW.seq ?_
  refine CW.region ?_
  refine RW.yi (.agg (cat [(16, (iv zf)), p1 (.slice none 0 0)])) rfl rfl (Yi.build (vs := []) _ rfl rfl (fun _ => by kernel_rfl)) ?_
  refine RW.conv1 (fun w hM => ones_cat (ps := [(16, (iv zf)), p1 (.slice none 0 0)]) (ones_cons (fun _ => rfl) (ones_cons (fun _ => rfl) ones_nil))) (fun hone => ?_)
  refine RW.storeQ (i := 0) (m := 17) (cs' := cat [(16, (iv zf)), p1 (.slice none 0 0)]) rfl rfl rfl rfl Try.sizeOf25 (by rw [cat_size]; rfl) (by rw [cat_size]; show _ ≤ 17; omega) hone (fun c' hs hget => (cat_spl (A := []) (X := [(16, (iv zf)), p1 (.slice none 0 0)]) (B := []) (Y := [(16, (iv zf)), p1 (.slice none 0 0)]) rfl hs (by first | exact hget | (rw [cat_one]; exact hget)))) ?_
  refine RW.nil ?_
  refine EW.next ?_
  refine CW.ret ?_
  refine EW.thr ?_
  obtain rfl := Option.some.inj hm
  exact EW.done (rs := [.cell 2 25]) rfl (.cellW (i := 0) (cs := cat [(16, (iv zf)), p1 (.slice none 0 0)]) rfl rfl Try.isAgg25 (by simp only [cat_size]; exact Try.sizeOf25) .nil) (fun _ hM => ⟨(), rfl, (hM.pick [] rfl rfl)⟩)

end Go.Proofs.Ytoepbakbpimkiaa
