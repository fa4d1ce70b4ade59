/- Slices of structs of integers that came in: what a walk may know of them. -/
import Derived.Test.YtnpkhkfhlpopbaaFrame
import Derived.Test.YtnpkhkfhlpopbaaBase
import Derived.Deep.Slices
import Derived.Deep.Fields
import Derived.ChangeSame
namespace Go.Proofs.Ytnpkhkfhlpopbaa
set_option linter.unusedSimpArgs false
set_option linter.unusedVariables false
open Go.RowKit Go.ChangeShapes Go.WideShapes Go.ChangeAt Go.Deep

/-- A slice value of n structs; field j of element i is the integer R i j of kind ks j; m fields each. -/
def InStructs (m : Nat) (ks : Nat → IntKind) (w : World) (v : Value) (n : Nat) (R : Nat → Nat → Int) : Prop :=
  ∃ ao cap, v = .slice ao n cap ∧ n ≤ maxLen ∧
    (0 < n → ∃ b off, ao = some ⟨b, off, none⟩ ∧ b < w.heap.size ∧ ∀ i j, i < n → j < m → w.cell? ⟨b, off + (i * m + j), none⟩ = some (.int (ks j) (R i j)) ∧ (Lit.int (ks j) (R i j)).wf = true)

set_option maxRecDepth 100000 in
theorem open_instructs {H : Type} {enc : TypeId × Value → H} {T E : TypeId} {fs : Array Field} {ks : Nat → IntKind} (hT : Try.prog.underlying T = some (.slice E)) (hE : Try.prog.underlying E = some (.struct fs))
    (hone : oneCellFields Try.prog fs = true) (hC : Try.prog.cellsOf E = fs.size) (hpos : 0 < fs.size) (hk : ∀ j f, fs[j]? = some f → Try.prog.underlying f.type = some (.int (ks j)))
    {W : World} {base : Nat} {v : Value} {d : DataW H} {p : List MemPlace} (hv : Value.okWide Try.prog W .any base T v) (h : DataW.Trod enc Try.prog W 0 (fun _ => true) true T v d p) :
    ∃ n R, InStructs fs.size ks W v n R := by
  obtain ⟨a0, len, cap, rfl⟩ := okWide_slice hT hv
  obtain ⟨fuel, hf⟩ := h
  rcases open_slice hT hf with ⟨hcs, _⟩ | ⟨a, len', cap', m, nf, D, Pl, hcs, _, hl, hm, hmm, _, hi⟩
  · simp only [Value.cells, List.cons.injEq, Value.slice.injEq, and_true] at hcs
    obtain ⟨rfl, rfl, rfl⟩ := hcs
    exact ⟨0, fun _ _ => 0, none, 0, rfl, Nat.zero_le _, fun h => absurd h (Nat.lt_irrefl 0)⟩
  · simp only [Value.cells, List.cons.injEq, Value.slice.injEq, and_true] at hcs
    obtain ⟨rfl, rfl, rfl⟩ := hcs
    rw [if_pos rfl] at hmm
    have hx : ∀ q : Nat × Nat, ∃ x : Int, q.1 < len → q.2 < fs.size → W.cell? (a.add (q.1 * fs.size + q.2)) = some (.int (ks q.2) x) ∧ (Lit.int (ks q.2) x).wf = true := by
      rintro ⟨i, j⟩
      by_cases hij : i < len ∧ j < fs.size
      · obtain ⟨cs', hc, ht'⟩ := hi i (by omega)
        obtain ⟨ys, n', _, _, hlen, hyl, hfld⟩ := DataW.trod_struct hE ht'
        obtain ⟨_, hcl, hat⟩ := World.cells?_some hc
        have hj : fs[j]? = some fs[j] := Array.getElem?_eq_getElem hij.2
        obtain ⟨ho, hkk⟩ := hone_of hone j _ hj
        rw [hC] at hcl hat
        have h1 := hfld j _ hj
        rw [ho, hkk] at h1
        have hd : (cs'.drop j).take 1 = [cs'[j]'(by omega)] := by
          rw [List.drop_eq_getElem_cons (by omega)]
          rfl
        rw [hd] at h1
        have hys : ys[j]? = some (ys[j]'(by omega)) := List.getElem?_eq_getElem (by omega)
        obtain ⟨x, ex, _, wx⟩ := DataW.trod_int (hk j _ hj) (h1.trans hys)
        simp only [List.cons.injEq, and_true] at ex
        refine ⟨x, fun _ _ => ⟨?_, wx⟩⟩
        have hcell := hat j hij.2
        rw [Go.Deep.add_add] at hcell
        rw [hcell, List.getElem?_eq_getElem (by omega), ex]
      · exact ⟨0, fun h1 h2 => absurd ⟨h1, h2⟩ hij⟩
    obtain ⟨F, hF⟩ := Classical.axiomOfChoice hx
    refine ⟨len, fun i j => F (i, j), some a, cap, rfl, Nat.le_trans hl hm, fun h0 => ?_⟩
    obtain ⟨b, off, spot⟩ := a
    have h00 := (hF (0, 0) h0 hpos).1
    have hspot : spot = none := by simpa [Addr.add] using World.cell?_spot h00
    subst hspot
    refine ⟨b, off, rfl, ?_, fun i j h1 h2 => ?_⟩
    · have := World.block_lt_of_cell? W _ h00
      simpa [Addr.add] using this
    · have := hF (i, j) h1 h2
      rw [add_plain] at this
      exact this

theorem InStructs.below {m : Nat} {ks : Nat → IntKind} {w w' : World} {v : Value} {n : Nat} {R : Nat → Nat → Int} (h : InStructs m ks w v n R) (hb : Below w.heap.size w w') : InStructs m ks w' v n R := by
  obtain ⟨ao, cap, h1, h2, h3⟩ := h
  refine ⟨ao, cap, h1, h2, fun hp => ?_⟩
  obtain ⟨b, off, e1, e2, e3⟩ := h3 hp
  exact ⟨b, off, e1, Nat.lt_of_lt_of_le e2 hb.size, fun i j hi hj => ⟨(hb.cell (p := ⟨b, off + (i * m + j), none⟩) e2).trans (e3 i j hi hj).1, (e3 i j hi hj).2⟩⟩

end Go.Proofs.Ytnpkhkfhlpopbaa
