/- Slices of numbers that came in: what a walk may know of them. -/
import Derived.Test.YtnpkhkfhlpopbaaFrame
import Derived.Test.YtnpkhkfhlpopbaaBase
namespace Go.Proofs.Ytnpkhkfhlpopbaa
set_option linter.unusedSimpArgs false
set_option linter.unusedVariables false
open Go.RowKit Go.ChangeShapes Go.WideShapes Go.ChangeAt

/-- A slice value that reads as the numbers xs. -/
def InSlice (k : IntKind) (w : World) (v : Value) (xs : List Int) : Prop :=
  ∃ ao cap, v = .slice ao xs.length cap ∧ (∀ x ∈ xs, (Lit.int k x).wf = true) ∧ xs.length ≤ maxLen ∧
    (0 < xs.length → ∃ b off, ao = some ⟨b, off, none⟩ ∧ b < w.heap.size ∧ ∀ j, j < xs.length → w.cell? ⟨b, off + j, none⟩ = some (.int k (xs.getD j 0)))

set_option maxRecDepth 100000 in
theorem open_inslice {H : Type} {enc : TypeId × Value → H} {k : IntKind} {T E : TypeId} (hT : Try.prog.underlying T = some (.slice E)) (hE : Try.prog.underlying E = some (.int k)) (hC : Try.prog.cellsOf E = 1)
    {W : World} {base : Nat} {v : Value} {d : DataW H} {p : List MemPlace} (hv : Value.okWide Try.prog W .any base T v) (h : DataW.Trod enc Try.prog W 0 (fun _ => true) true T v d p) :
    ∃ xs, InSlice k W v xs := by
  obtain ⟨a0, len, cap, rfl⟩ := okWide_slice hT hv
  obtain ⟨fuel, hf⟩ := h
  rcases open_ints hT hE hC hf with ⟨hcs, hx⟩ | ⟨a, len', cap', zs, hcs, _, hl, hm, hz, hx, hcell, hwz⟩
  · simp only [Value.cells, List.cons.injEq, Value.slice.injEq, and_true] at hcs
    obtain ⟨rfl, rfl, rfl⟩ := hcs
    exact ⟨[], none, 0, rfl, by simp, by simp, fun h => by simp at h⟩
  · simp only [Value.cells, List.cons.injEq, Value.slice.injEq, and_true] at hcs
    obtain ⟨rfl, rfl, rfl⟩ := hcs
    rw [if_pos rfl] at hz
    have hlen : (zs.take len).length = len := by rw [List.length_take]; omega
    refine ⟨zs.take len, some a, cap, by rw [hlen], fun x hx => hwz x (List.mem_of_mem_take hx), by rw [hlen]; exact Nat.le_trans hl hm, fun hpos => ?_⟩
    rw [hlen] at hpos ⊢
    have h0 := hcell 0 (by omega)
    obtain ⟨b, off, rfl, hc⟩ := ints_at hcell (by omega)
    refine ⟨b, off, rfl, ?_, fun j hj => ?_⟩
    · have := World.block_lt_of_cell? W _ (hc 0 (by omega))
      exact this
    · rw [hc j (by omega)]
      simp [List.getD, List.getElem?_take, hj]

theorem InSlice.below {k : IntKind} {w w' : World} {v : Value} {xs : List Int} (h : InSlice k w v xs) (hb : Below w.heap.size w w') : InSlice k w' v xs := by
  obtain ⟨ao, cap, h1, h2, h3, h4⟩ := h
  refine ⟨ao, cap, h1, h2, h3, fun hp => ?_⟩
  obtain ⟨b, off, e1, e2, e3⟩ := h4 hp
  exact ⟨b, off, e1, Nat.lt_of_lt_of_le e2 hb.size, fun j hj => (hb.cell (p := ⟨b, off + j, none⟩) e2).trans (e3 j hj)⟩
theorem wf_getD {k : IntKind} {xs : List Int} (h : ∀ x ∈ xs, (Lit.int k x).wf = true) (j : Nat) (hj : j < xs.length) : (Lit.int k (xs.getD j 0)).wf = true := by
  have : xs.getD j 0 = xs[j] := by simp [List.getD, hj]
  rw [this]
  exact h _ (List.getElem_mem hj)

end Go.Proofs.Ytnpkhkfhlpopbaa
