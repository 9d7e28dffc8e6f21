import Derived.Test.YtfpafpmcfkapkaaDoorR
import Derived.Test.YtfpafpmcfkapkaaDoorT0

namespace Go.Proofs.YtfpafpmcfkapkaaDoor
open Go.ChangeShapes Go.WideShapes Go.ChangeAt Go.RowKit K
def laidL : List (String × DataW Unit) := [("clerestory/dct.waves", Rows.laid_clerestory_dct_waves)]
def layIn (cs : Array Value) : Obj → Obj
  | .cells _ t frozen => .cells cs t frozen
  | o => o
noncomputable def laidWorld (os : Os) : World :=
  { World.holding Tryd.prog os ⟨#[], #[], []⟩ with heap := ((World.holding Tryd.prog os ⟨#[], #[], []⟩).heap).modify 0 (layIn (cf 64 (iv wavesF))) }
theorem mem_row {b off g n : Nat} (h : MemPlace.cell b off ∈ MemPlace.row ⟨g, 0, none⟩ n) : b = g := by
  simp [MemPlace.row] at h
  omega
theorem iv_noiface {n off : Nat} {f : Nat → Int} {u : TypeId} {v : Value} (h : (cf n (iv f))[off]? = some (.iface u v)) : False := by
  by_cases ho : off < n
  · rw [cf_get ho] at h; cases h
  · rw [Array.getElem?_eq_none (by rw [cf_size]; omega)] at h; cases h
theorem laidWorld_0 (os : Os) (args : Array Value) : ((laidWorld os).forCall (fun _ _ => 0) ⟨#[], args, []⟩).memory.heap[0]? = some (.cells (cf 64 (iv wavesF)) 46 (0, 0)) := by kernel_rfl
theorem laidWorld_met (os : Os) (args : Array Value) : laidMet Tryd.prog laidL ((laidWorld os).forCall (fun _ _ => 0) ⟨#[], args, []⟩).memory := by
  refine ⟨_, ⟨0, 46, cf 64 (iv wavesF), 8, [], _, by kernel_rfl, by kernel_rfl, by kernel_rfl, by kernel_rfl, rfl, rfl⟩, of_decide_eq_true (by kernel_rfl), fun b off h => ?_⟩
  simp only [List.append_nil] at h
  · have hb := mem_row h
    subst hb
    refine ⟨⟨_, _, laidWorld_0 os args⟩, fun u v hc => ?_⟩
    simp only [World.cell?, laidWorld_0 os args] at hc
    exact (iv_noiface hc).elim
theorem gl_laid {W : World} (h : laidMet Tryd.prog laidL W) : Gl GG W := by
  intro p hp
  simp only [GG, List.mem_cons, List.not_mem_nil, or_false] at hp
  · subst hp
    obtain ⟨g, t, cs, fu, p, h1, h2, h3, h4⟩ := laid_reads h 0 rfl
    exact gl_tell (t := 46) (d := Rows.laid_clerestory_dct_waves) (N := 64) (f := wavesF) (by kernel_rfl) (by kernel_rfl) (by
      have hT : Tell Tryd.prog W 46 64 wavesF (Rows.laid_clerestory_dct_waves) := by
        have e : Rows.laid_clerestory_dct_waves = (.agg ((List.range 8).map fun i46 => .agg ((List.range 8).map fun i45 => .lit (.int .i64 (wavesF (0 + i46 * 8 + i45 * 1))))) : DataW Unit) := by kernel_rfl
        rw [e]; exact (.arr (N := 8) Tryd.underlying46 (by kernel_rfl) fun _ _ => (.arr (N := 1) Tryd.underlying45 (by kernel_rfl) fun _ _ => (.int Tryd.underlying3 (congrArg wavesF (by omega)))))
      exact hT) ⟨g, t, cs, fu, p, h1, h2, h3, h4⟩
end Go.Proofs.YtfpafpmcfkapkaaDoor
