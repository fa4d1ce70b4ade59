/- A thread that came in by value: its numbers, and its batch. -/
import Derived.Test.YtcellcjojfbajaaThr2
import Derived.Lib.SmallJoins
namespace Go.Proofs.Ytcellcjojfbajaa
set_option linter.unusedSimpArgs false
set_option linter.unusedVariables false
open Go.RowKit Go.ChangeShapes Go.WideShapes Go.ChangeAt Go.Deep

section
variable {H : Type} {enc : TypeId × Value → H}
theorem Try.cells78 : Try.prog.cellsOf 78 = 3 := by kernel_rfl
theorem Try.cells30 : Try.prog.cellsOf 30 = 13 := by kernel_rfl
end
set_option maxRecDepth 100000 in
theorem open_instructs_f {H : Type} {enc : TypeId × Value → H} {T E : TypeId} {fs : Array Field} {ks : Nat → IntKind} (hT : Try.prog.underlying T = some (.slice E)) (hE : Try.prog.underlying E = some (.struct fs))
    (hone : oneCellFields Try.prog fs = true) (hC : Try.prog.cellsOf E = fs.size) (hpos : 0 < fs.size) (hk : ∀ j f, fs[j]? = some f → Try.prog.underlying f.type = some (.int (ks j)))
    {W : World} {fuel : Nat} {v : Value} {y : DataW H × List MemPlace} (hf : DataW.trod enc Try.prog W 0 (fun _ => true) true fuel T [v] = some y) :
    ∃ n R, InStructs fs.size ks W v n R := by
  obtain ⟨a0, len, cap, hvv⟩ := Joins.slice_form hT hf
  simp only [List.cons.injEq, and_true] at hvv
  subst hvv
  rcases open_slice hT hf with ⟨hcs, _⟩ | ⟨a, len', cap', m, nf, D, Pl, hcs, _, hl, hm, hmm, _, hi⟩
  · simp only [List.cons.injEq, Value.slice.injEq, and_true] at hcs
    obtain ⟨rfl, rfl, rfl⟩ := hcs
    exact ⟨0, fun _ _ => 0, none, 0, rfl, Nat.zero_le _, fun h => absurd h (Nat.lt_irrefl 0)⟩
  · simp only [List.cons.injEq, Value.slice.injEq, and_true] at hcs
    obtain ⟨rfl, rfl, rfl⟩ := hcs
    rw [if_pos rfl] at hmm
    have hx : ∀ q : Nat × Nat, ∃ x : Int, q.1 < len → q.2 < fs.size → W.cell? (a.add (q.1 * fs.size + q.2)) = some (.int (ks q.2) x) ∧ (Lit.int (ks q.2) x).wf = true := by
      rintro ⟨i, j⟩
      by_cases hij : i < len ∧ j < fs.size
      · obtain ⟨cs', hc, ht'⟩ := hi i (by omega)
        obtain ⟨ys, n', _, _, hlen, hyl, hfld⟩ := DataW.trod_struct hE ht'
        obtain ⟨_, hcl, hat⟩ := World.cells?_some hc
        have hj : fs[j]? = some fs[j] := Array.getElem?_eq_getElem hij.2
        obtain ⟨ho, hkk⟩ := hone_of hone j _ hj
        rw [hC] at hcl hat
        have h1 := hfld j _ hj
        rw [ho, hkk] at h1
        have hd : (cs'.drop j).take 1 = [cs'[j]'(by omega)] := by
          rw [List.drop_eq_getElem_cons (by omega)]
          rfl
        rw [hd] at h1
        have hys : ys[j]? = some (ys[j]'(by omega)) := List.getElem?_eq_getElem (by omega)
        obtain ⟨x, ex, _, wx⟩ := DataW.trod_int (hk j _ hj) (h1.trans hys)
        simp only [List.cons.injEq, and_true] at ex
        refine ⟨x, fun _ _ => ⟨?_, wx⟩⟩
        have hcell := hat j hij.2
        rw [Go.Deep.add_add] at hcell
        rw [hcell, List.getElem?_eq_getElem (by omega), ex]
      · exact ⟨0, fun h1 h2 => absurd ⟨h1, h2⟩ hij⟩
    obtain ⟨F, hF⟩ := Classical.axiomOfChoice hx
    refine ⟨len, fun i j => F (i, j), some a, cap, rfl, Nat.le_trans hl hm, fun h0 => ?_⟩
    obtain ⟨b, off, spot⟩ := a
    have h00 := (hF (0, 0) h0 hpos).1
    have hspot : spot = none := by simpa [Addr.add] using World.cell?_spot h00
    subst hspot
    refine ⟨b, off, rfl, ?_, fun i j h1 h2 => ?_⟩
    · have := World.block_lt_of_cell? W _ h00
      simpa [Addr.add] using this
    · have := hF (i, j) h1 h2
      rw [add_plain] at this
      exact this


section
variable {H : Type} {enc : TypeId × Value → H}
theorem open_its {W : World} {fuel : Nat} {v : Value} {y : DataW H × List MemPlace} (hf : DataW.trod enc Try.prog W 0 (fun _ => true) true fuel 28 [v] = some y) : ∃ n F, n ≤ maxLen ∧ Its W v n F := by
  obtain ⟨n, R, ao, cap, rfl, hm, hc⟩ := open_instructs_f (ks := fun _ => .i64) Try.underlying28 Try.underlying78 (by kernel_rfl) (by kernel_rfl) (by decide) (fun j f hj => by
    match j with
    | 0 => cases hj; exact Try.underlying3
    | 1 => cases hj; exact Try.underlying2
    | 2 => cases hj; exact Try.underlying2
    | n + 3 => simp at hj) hf
  refine ⟨n, fun k => R (k / 3) (k % 3), hm, ao, cap, rfl, fun h0 => ?_⟩
  obtain ⟨b, off, e1, e2, e3⟩ := hc h0
  refine ⟨b, off, e1, e2, fun k hk => ?_⟩
  have := (e3 (k / 3) (k % 3) (by omega) (Nat.mod_lt _ (by simp))).1
  simp only [List.size_toArray, List.length_cons, List.length_nil] at this
  rw [show k / 3 * (0 + 1 + 1 + 1) + k % 3 = k by omega] at this
  exact this
theorem list13 {cs : List Value} (h : cs.length = 13) : ∃ v0 v1 v2 v3 v4 v5 v6 v7 v8 v9 v10 v11 v12, cs = [v0, v1, v2, v3, v4, v5, v6, v7, v8, v9, v10, v11, v12] := by
  match cs, h with
  | [v0, v1, v2, v3, v4, v5, v6, v7, v8, v9, v10, v11, v12], _ => exact ⟨v0, v1, v2, v3, v4, v5, v6, v7, v8, v9, v10, v11, v12, rfl⟩
set_option maxRecDepth 100000 in
set_option maxHeartbeats 1000000 in
theorem open_thread {W : World} {base : Nat} {v : Value} {d : DataW H} {p : List MemPlace} (hv : Value.okWide Try.prog W .any base 30 v) (h : DataW.Trod enc Try.prog W 0 (fun _ => true) true 30 v d p) :
    ∃ i0 i1 i2 i3 i4 i5 i6 i7 i8 i9 i10 i11 bt n F, v = .agg #[.int .i64 i0, .int .i64 i1, .int .i64 i2, .int .i64 i3, .int .i64 i4, .int .i64 i5, .int .i64 i6, .int .i64 i7, .int .i64 i8, .int .i64 i9, .int .i64 i10, .int .i64 i11, bt] ∧ n ≤ maxLen ∧ Its W bt n F ∧ -9223372036854775808 ≤ i6 ∧ i6 ≤ 9223372036854775807 := by
  obtain ⟨cs, rfl, hsz⟩ := okWide_struct Try.underlying30 hv
  obtain ⟨fuel, hf⟩ := h
  obtain ⟨xs, m, _, _, hl, hlen, hfl⟩ := DataW.trod_struct Try.underlying30 hf
  obtain ⟨v0, v1, v2, v3, v4, v5, v6, v7, v8, v9, v10, v11, v12, hcs⟩ := list13 (cs := cs.toList) (by simpa using hsz.trans Try.cells30)
  have hcs' : cs = #[v0, v1, v2, v3, v4, v5, v6, v7, v8, v9, v10, v11, v12] := by
    obtain ⟨l⟩ := cs
    simp only at hcs
    rw [hcs]
  subst hcs'
  have hx : xs.length = 13 := hlen
  have h0 := hfl 0 _ rfl
  rw [List.getElem?_eq_getElem (by omega)] at h0
  have h1 := hfl 1 _ rfl
  rw [List.getElem?_eq_getElem (by omega)] at h1
  have h2 := hfl 2 _ rfl
  rw [List.getElem?_eq_getElem (by omega)] at h2
  have h3 := hfl 3 _ rfl
  rw [List.getElem?_eq_getElem (by omega)] at h3
  have h4 := hfl 4 _ rfl
  rw [List.getElem?_eq_getElem (by omega)] at h4
  have h5 := hfl 5 _ rfl
  rw [List.getElem?_eq_getElem (by omega)] at h5
  have h6 := hfl 6 _ rfl
  rw [List.getElem?_eq_getElem (by omega)] at h6
  have h7 := hfl 7 _ rfl
  rw [List.getElem?_eq_getElem (by omega)] at h7
  have h8 := hfl 8 _ rfl
  rw [List.getElem?_eq_getElem (by omega)] at h8
  have h9 := hfl 9 _ rfl
  rw [List.getElem?_eq_getElem (by omega)] at h9
  have h10 := hfl 10 _ rfl
  rw [List.getElem?_eq_getElem (by omega)] at h10
  have h11 := hfl 11 _ rfl
  rw [List.getElem?_eq_getElem (by omega)] at h11
  have h12 := hfl 12 _ rfl
  rw [List.getElem?_eq_getElem (by omega)] at h12
  obtain ⟨i0, e0, _, w0⟩ := DataW.trod_int (k := .i64) Try.underlying3 (cs := [v0]) h0
  obtain ⟨i1, e1, _, w1⟩ := DataW.trod_int (k := .i64) Try.underlying3 (cs := [v1]) h1
  obtain ⟨i2, e2, _, w2⟩ := DataW.trod_int (k := .i64) Try.underlying3 (cs := [v2]) h2
  obtain ⟨i3, e3, _, w3⟩ := DataW.trod_int (k := .i64) Try.underlying3 (cs := [v3]) h3
  obtain ⟨i4, e4, _, w4⟩ := DataW.trod_int (k := .i64) Try.underlying2 (cs := [v4]) h4
  obtain ⟨i5, e5, _, w5⟩ := DataW.trod_int (k := .i64) Try.underlying2 (cs := [v5]) h5
  obtain ⟨i6, e6, _, w6⟩ := DataW.trod_int (k := .i64) Try.underlying3 (cs := [v6]) h6
  obtain ⟨i7, e7, _, w7⟩ := DataW.trod_int (k := .i64) Try.underlying3 (cs := [v7]) h7
  obtain ⟨i8, e8, _, w8⟩ := DataW.trod_int (k := .i64) Try.underlying3 (cs := [v8]) h8
  obtain ⟨i9, e9, _, w9⟩ := DataW.trod_int (k := .i64) Try.underlying3 (cs := [v9]) h9
  obtain ⟨i10, e10, _, w10⟩ := DataW.trod_int (k := .i64) Try.underlying2 (cs := [v10]) h10
  obtain ⟨i11, e11, _, w11⟩ := DataW.trod_int (k := .i64) Try.underlying3 (cs := [v11]) h11
  obtain ⟨n, F, hn, hI⟩ := open_its (v := v12) h12
  simp only [List.cons.injEq, and_true] at e0 e1 e2 e3 e4 e5 e6 e7 e8 e9 e10 e11
  subst e0 e1 e2 e3 e4 e5 e6 e7 e8 e9 e10 e11
  have := bounds_i64 w6
  exact ⟨_, _, _, _, _, _, _, _, _, _, _, _, v12, n, F, rfl, hn, hI, by omega, by omega⟩
end

end Go.Proofs.Ytcellcjojfbajaa
