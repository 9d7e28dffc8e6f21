import Derived.Test.YtplfcapahmjmgaaDoorR
import Derived.Test.YtplfcapahmjmgaaDoorT1

namespace Go.Proofs.YtplfcapahmjmgaaDoor
open Go.ChangeShapes Go.WideShapes Go.ChangeAt Go.RowKit K
def laidL : List (String × DataW Unit) := [("clerestory/quant.bright", Rows.laid_clerestory_quant_bright), ("clerestory/quant.tinted", Rows.laid_clerestory_quant_tinted)]
def layIn (cs : Array Value) : Obj → Obj
  | .cells _ t frozen => .cells cs t frozen
  | o => o
noncomputable def laidWorld (os : Os) : World :=
  { World.holding Tryd.prog os ⟨#[], #[], []⟩ with heap := (((World.holding Tryd.prog os ⟨#[], #[], []⟩).heap).modify 0 (layIn (cf 64 (iv brightF)))).modify 1 (layIn (cf 64 (iv tintedF))) }
theorem mem_row {b off g n : Nat} (h : MemPlace.cell b off ∈ MemPlace.row ⟨g, 0, none⟩ n) : b = g := by
  simp [MemPlace.row] at h
  omega
theorem iv_noiface {n off : Nat} {f : Nat → Int} {u : TypeId} {v : Value} (h : (cf n (iv f))[off]? = some (.iface u v)) : False := by
  by_cases ho : off < n
  · rw [cf_get ho] at h; cases h
  · rw [Array.getElem?_eq_none (by rw [cf_size]; omega)] at h; cases h
theorem laidWorld_0 (os : Os) (args : Array Value) : ((laidWorld os).forCall (fun _ _ => 0) ⟨#[], args, []⟩).memory.heap[0]? = some (.cells (cf 64 (iv brightF)) 26 (0, 0)) := by kernel_rfl
theorem laidWorld_1 (os : Os) (args : Array Value) : ((laidWorld os).forCall (fun _ _ => 0) ⟨#[], args, []⟩).memory.heap[1]? = some (.cells (cf 64 (iv tintedF)) 26 (0, 0)) := by kernel_rfl
theorem laidWorld_met (os : Os) (args : Array Value) : laidMet Tryd.prog laidL ((laidWorld os).forCall (fun _ _ => 0) ⟨#[], args, []⟩).memory := by
  refine ⟨_, ⟨0, 26, cf 64 (iv brightF), 8, [], _, by kernel_rfl, by kernel_rfl, by kernel_rfl, by kernel_rfl, ⟨1, 26, cf 64 (iv tintedF), 8, [], _, by kernel_rfl, by kernel_rfl, by kernel_rfl, by kernel_rfl, rfl, rfl⟩, rfl⟩, of_decide_eq_true (by kernel_rfl), fun b off h => ?_⟩
  simp only [List.append_nil, List.mem_append] at h
  rcases h with h | h
  · have hb := mem_row h
    subst hb
    refine ⟨⟨_, _, laidWorld_0 os args⟩, fun u v hc => ?_⟩
    simp only [World.cell?, laidWorld_0 os args] at hc
    exact (iv_noiface hc).elim
  · have hb := mem_row h
    subst hb
    refine ⟨⟨_, _, laidWorld_1 os args⟩, fun u v hc => ?_⟩
    simp only [World.cell?, laidWorld_1 os args] at hc
    exact (iv_noiface hc).elim
theorem gl_laid {W : World} (h : laidMet Tryd.prog laidL W) : Gl GG W := by
  intro p hp
  simp only [GG, List.mem_cons, List.not_mem_nil, or_false] at hp
  rcases hp with rfl | hp
  · exact gl_of (t := 26) (e := 3) (by kernel_rfl) (by kernel_rfl) Tryd.underlying26 Tryd.underlying3 (by kernel_rfl) (by kernel_rfl) (laid_reads h 0 rfl)
  · subst hp
    exact gl_of (t := 26) (e := 3) (by kernel_rfl) (by kernel_rfl) Tryd.underlying26 Tryd.underlying3 (by kernel_rfl) (by kernel_rfl) (laid_reads h 1 rfl)
end Go.Proofs.YtplfcapahmjmgaaDoor
