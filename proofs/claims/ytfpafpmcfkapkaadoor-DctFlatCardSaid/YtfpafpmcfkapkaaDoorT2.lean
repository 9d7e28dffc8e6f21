import Derived.Test.YtfpafpmcfkapkaaDoorT0
import Derived.Test.YtfpafpmcfkapkaaDoorK5
set_option maxRecDepth 100000
namespace Go.Proofs.YtfpafpmcfkapkaaDoor
open Go Go.RowKit K
def rWaves (_ : Nat)  : Option ((List Int)) :=
  some ([2896, 2896, 2896, 2896, 2896, 2896, 2896, 2896, 4017, 3406, 2276, 799, (-799), (-2276), (-3406), (-4017), 3784, 1567, (-1567), (-3784), (-3784), (-1567), 1567, 3784, 3406, (-799), (-4017), (-2276), 2276, 4017, 799, (-3406), 2896, (-2896), (-2896), 2896, 2896, (-2896), (-2896), 2896, 2276, (-4017), 799, 3406, (-3406), (-799), 4017, (-2276), 1567, (-3784), 3784, (-1567), (-1567), 3784, (-3784), 1567, 799, (-2276), 3406, (-4017), 4017, (-3406), 2276, (-799)] : List Int)

theorem c_rWaves (K : Nat)  (r : (List Int)) (w0 : World) (hm : rWaves K  = some r) : Calls Tryd.prog 17 #[] w0 fun e w' => ∃ u, e = .returned (u) ∧ w'.ownsRow w0.heap.size 3 1 u r.length (ic r) ∧ Below w0.heap.size w0 w' := by
  unfold rWaves at hm
  refine calls_CW (n := 2) w0 [] [] Tryd.func17 rfl rfl rfl (Mem.begin w0) ?_
  refine CW.seq ?_
  refine CW.region ?_
  refine RW.nilRow 3 1 ?_
  refine RW.yi (.slice none 0 0) rfl rfl (Yi.pv _ rfl) ?_
  refine RW.nil ?_
  refine EW.next ?_
  refine CW.seq ?_
  refine CW.region ?_
  refine RW.buildS (e := 3) (sz := 1) (vs := [.int .i64 2896, .int .i64 2896, .int .i64 2896, .int .i64 2896, .int .i64 2896, .int .i64 2896, .int .i64 2896, .int .i64 2896, .int .i64 4017, .int .i64 3406, .int .i64 2276, .int .i64 799, .int .i64 (-799), .int .i64 (-2276), .int .i64 (-3406), .int .i64 (-4017), .int .i64 3784, .int .i64 1567, .int .i64 (-1567), .int .i64 (-3784), .int .i64 (-3784), .int .i64 (-1567), .int .i64 1567, .int .i64 3784, .int .i64 3406, .int .i64 (-799), .int .i64 (-4017), .int .i64 (-2276), .int .i64 2276, .int .i64 4017, .int .i64 799, .int .i64 (-3406), .int .i64 2896, .int .i64 (-2896), .int .i64 (-2896), .int .i64 2896, .int .i64 2896, .int .i64 (-2896), .int .i64 (-2896), .int .i64 2896, .int .i64 2276, .int .i64 (-4017), .int .i64 799, .int .i64 3406, .int .i64 (-3406), .int .i64 (-799), .int .i64 4017, .int .i64 (-2276), .int .i64 1567, .int .i64 (-3784), .int .i64 3784, .int .i64 (-1567), .int .i64 (-1567), .int .i64 3784, .int .i64 (-3784), .int .i64 1567, .int .i64 799, .int .i64 (-2276), .int .i64 3406, .int .i64 (-4017), .int .i64 4017, .int .i64 (-3406), .int .i64 2276, .int .i64 (-799)]) ((ic ([2896, 2896, 2896, 2896, 2896, 2896, 2896, 2896, 4017, 3406, 2276, 799, (-799), (-2276), (-3406), (-4017), 3784, 1567, (-1567), (-3784), (-3784), (-1567), 1567, 3784, 3406, (-799), (-4017), (-2276), 2276, 4017, 799, (-3406), 2896, (-2896), (-2896), 2896, 2896, (-2896), (-2896), 2896, 2276, (-4017), 799, 3406, (-3406), (-799), 4017, (-2276), 1567, (-3784), 3784, (-1567), (-1567), 3784, (-3784), 1567, 799, (-2276), 3406, (-4017), 4017, (-3406), 2276, (-799)] : List Int)).toArray) rfl rfl rfl rfl rfl (by decide) (fun _ => by kernel_rfl) (fun s2 => ?_)
  refine RW.yi (s2) rfl rfl (Yi.pv _ rfl) ?_
  refine RW.nil ?_
  refine EW.next ?_
  refine CW.ret ?_
  obtain rfl := Option.some.inj hm
  exact EW.doneS (rs := [.tmp 0]) (i := 0) rfl (.tmp (t := 0) (v := s2) rfl .nil) rfl (fun _ hM ho => ⟨_, rfl, ho, hM.below⟩)
end Go.Proofs.YtfpafpmcfkapkaaDoor