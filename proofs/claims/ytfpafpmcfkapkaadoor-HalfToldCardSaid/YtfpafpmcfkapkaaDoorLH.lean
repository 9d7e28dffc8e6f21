import Derived.Test.YtfpafpmcfkapkaaDoorR
import Derived.Test.YtfpafpmcfkapkaaDoorH0

namespace Go.Proofs.YtfpafpmcfkapkaaDoor
open Go.ChangeShapes Go.WideShapes Go.ChangeAt Go.RowKit K
def laidL : List (String × DataW Unit) := [("clerestory/half.parts", Rows.laid_clerestory_half_parts)]
def layIn (cs : Array Value) : Obj → Obj
  | .cells _ t frozen => .cells cs t frozen
  | o => o
noncomputable def laidWorld (os : Os) : World :=
  { World.holding Tryd.prog os ⟨#[], #[], []⟩ with heap := ((World.holding Tryd.prog os ⟨#[], #[], []⟩).heap).modify 1 (layIn (cf 64 (iv partsF))) }
theorem mem_row {b off g n : Nat} (h : MemPlace.cell b off ∈ MemPlace.row ⟨g, 0, none⟩ n) : b = g := by
  simp [MemPlace.row] at h
  omega
theorem iv_noiface {n off : Nat} {f : Nat → Int} {u : TypeId} {v : Value} (h : (cf n (iv f))[off]? = some (.iface u v)) : False := by
  by_cases ho : off < n
  · rw [cf_get ho] at h; cases h
  · rw [Array.getElem?_eq_none (by rw [cf_size]; omega)] at h; cases h
theorem laidWorld_1 (os : Os) (args : Array Value) : ((laidWorld os).forCall (fun _ _ => 0) ⟨#[], args, []⟩).memory.heap[1]? = some (.cells (cf 64 (iv partsF)) 50 (0, 0)) := by kernel_rfl
theorem laidWorld_met (os : Os) (args : Array Value) : laidMet Tryd.prog laidL ((laidWorld os).forCall (fun _ _ => 0) ⟨#[], args, []⟩).memory := by
  refine ⟨_, ⟨1, 50, cf 64 (iv partsF), 8, [], _, by kernel_rfl, by kernel_rfl, by kernel_rfl, by kernel_rfl, rfl, rfl⟩, of_decide_eq_true (by kernel_rfl), fun b off h => ?_⟩
  simp only [List.append_nil] at h
  · have hb := mem_row h
    subst hb
    refine ⟨⟨_, _, laidWorld_1 os args⟩, fun u v hc => ?_⟩
    simp only [World.cell?, laidWorld_1 os args] at hc
    exact (iv_noiface hc).elim
theorem gl_laid {W : World} (h : laidMet Tryd.prog laidL W) : Gl GH W := by
  intro p hp
  simp only [GH, List.mem_cons, List.not_mem_nil, or_false] at hp
  · subst hp
    obtain ⟨g, t, cs, fu, p, h1, h2, h3, h4⟩ := laid_reads h 0 rfl
    exact gl_tell (t := 50) (d := Rows.laid_clerestory_half_parts) (N := 64) (f := partsF) (by kernel_rfl) (by kernel_rfl) (by
      have hT : Tell Tryd.prog W 50 64 partsF (Rows.laid_clerestory_half_parts) := by
        have e : Rows.laid_clerestory_half_parts = (.agg ((List.range 2).map fun i50 => .agg ((List.range 8).map fun i49 => .agg ((List.range 4).map fun i48 => .lit (.int .i64 (partsF (0 + i50 * 32 + i49 * 4 + i48 * 1)))))) : DataW Unit) := by kernel_rfl
        rw [e]; exact (.arr (N := 32) Tryd.underlying50 (by kernel_rfl) fun _ _ => (.arr (N := 4) Tryd.underlying49 (by kernel_rfl) fun _ _ => (.arr (N := 1) Tryd.underlying48 (by kernel_rfl) fun _ _ => (.int Tryd.underlying3 (congrArg partsF (by omega))))))
      exact hT) ⟨g, t, cs, fu, p, h1, h2, h3, h4⟩
end Go.Proofs.YtfpafpmcfkapkaaDoor
