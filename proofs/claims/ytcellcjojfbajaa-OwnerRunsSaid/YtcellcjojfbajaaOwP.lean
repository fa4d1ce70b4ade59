/- A thread of package owner that lies in memory, step by step. -/
import Derived.Test.YtcellcjojfbajaaOw
import Derived.Test.YtcellcjojfbajaaOwBg
namespace Go.Proofs.Ytcellcjojfbajaa
set_option linter.unusedSimpArgs false
set_option linter.unusedVariables false
open Go.RowKit
open Go.ChangeShapes Go.WideShapes Go.ChangeAt

theorem Its.zero (w : World) (ao : Option Addr) (cap : Nat) : Its w (.slice ao 0 cap) 0 (fun _ => 0) := ⟨ao, cap, rfl, fun h => absurd h (Nat.lt_irrefl 0)⟩
/-- The cells and the thread behind k steps: E k is done to the cells ahead of step k. -/
def owIt (N : Int) (E : Nat → List Int → List Int) (xs : List Int) (t : Th) : Nat → List Int × Th
  | 0 => (xs, t)
  | k + 1 => match owIt N E xs t k with | (x, u) => (owX N (E k x) u, owT N (E k x) u)
theorem owIt_succ {N : Int} {E : Nat → List Int → List Int} {xs : List Int} {t : Th} {k : Nat} {x : List Int} {u : Th} (h : owIt N E xs t k = (x, u)) : owIt N E xs t (k + 1) = (owX N (E k x) u, owT N (E k x) u) := by
  rw [owIt, h]
def noE (k : Nat) (x : List Int) : List Int := x
def Rg64 (n : Int) : Prop := -9223372036854775808 ≤ n ∧ n ≤ 9223372036854775807
theorem Rg64.zero : Rg64 0 := by unfold Rg64; omega
theorem owT_i2 (N : Int) (xs : List Int) (t : Th) : (owT N xs t).i2 = if t.i1 = 1 then (if allocOk xs N 5 = true then (xs.length : Int) else t.i2) else t.i2 := by
  by_cases h1 : t.i1 = 1
  · rw [if_pos h1]; unfold owT; simp only [if_pos h1]
  · rw [if_neg h1]; simp only [owT, if_neg h1, apply_ite Th.i2, ite_self]
theorem owT_rg {N : Int} {xs : List Int} {t : Th} (h : Rg64 t.i2) (hl : xs.length ≤ 1000) : Rg64 (owT N xs t).i2 := by
  rw [owT_i2]
  split
  · split
    · unfold Rg64; omega
    · exact h
  · exact h
theorem owC_pos {N : Int} {xs : List Int} {t : Th} {st : Int} (h : 0 ≤ st) : 0 ≤ st + owC N xs t := by have := owC_rng N xs t; omega
theorem MS.lenk {W0 w : World} {b : Nat} {g : Option Nat} {N st : Int} {xs : List Int} (h : MS W0 w b g N xs st) : xs.length ≤ 1000 := h.len
/-- What is laid beside the memory is not the memory's, whatever its row grows to. -/
theorem foot_on {b r : Nat} {g g' : Option Nat} {w : World} (h : ¬ Foot b g r) (hr : r < w.heap.size) (hg : g' = g ∨ ∃ k, g' = some k ∧ w.heap.size ≤ k) : ¬ Foot b g' r := fun e => by
  rcases hg with rfl | ⟨k, rfl, hk⟩
  · exact h e
  · rcases e with e | e
    · exact h (.inl e)
    · simp at e; omega
theorem MS.farx2 {W0 w w' : World} {b r : Nat} {g : Option Nat} {N st : Int} {xs : List Int} (h : MS W0 w b g N xs st) (hk : Kept (fun k => k = r) w w') (hW : W0.heap.size ≤ r) (hF : ¬ Foot b g r) : MS W0 w' b g N xs st := h.farx hk hW hF
/-- The thread that begins. -/
def begT (k v : Int) (t : Th) : Th := if t.i1 = 0 then { t with i1 := if t.i2 = 0 then 1 else 2, i3 := wrap64 (t.i3 + 1), i4 := wordOf k v } else t
theorem oBegin_f (w : World) (t : Th) (k v : Int) (bt : Value) (n : Nat) (F : Nat → Int) (hI : Its w bt n F) (hn : n ≤ 1000000) (k1 : 0 ≤ k) (k2 : k ≤ 255) (v1 : -2147483648 ≤ v) (v2 : v ≤ 2147483647) :
    Calls Try.prog 11 #[thV t bt, .agg #[.int .u8 k, .int .i32 v]] w fun e w' => ∃ bt', e = .returned (.tuple #[thV (begT k v t) bt', .bool (decide (t.i1 = 0))]) ∧ Its w' bt' n F ∧ Below w.heap.size w w' := by
  obtain ⟨i0, i1, i2, i3, i4, i5, i6, i7, i8, i9, i10, i11⟩ := t
  by_cases h1 : i1 = 0
  · by_cases h2 : i2 = 0
    · have := oBegin_b w i0 i1 i2 i3 i4 i5 i6 i7 i8 i9 i10 i11 k v bt n F hI hn k1 k2 v1 v2 (by simp [h1]) (by simp [h2])
      simpa [thV, begT, h1, h2] using this
    · have := oBegin_c w i0 i1 i2 i3 i4 i5 i6 i7 i8 i9 i10 i11 k v bt n F hI hn k1 k2 v1 v2 (by simp [h1]) (by simp [h2])
      simpa [thV, begT, h1, h2] using this
  · have := oBegin_a w i0 i1 i2 i3 i4 i5 i6 i7 i8 i9 i10 i11 k v bt n F hI hn k1 k2 v1 v2 (by simp [h1])
    simpa [thV, begT, h1] using this
/-- Blocks that lie beside the memory and beside the thread at r. -/
def Side (w : World) (b : Nat) (g : Option Nat) (r : Nat) (L : List (Nat × Obj)) : Prop := ∀ p ∈ L, w.heap[p.1]? = some p.2 ∧ ¬ Foot b g p.1 ∧ p.1 ≠ r
/-- A memory, a thread at r, and blocks beside them. -/
structure LS (W0 w : World) (b : Nat) (g : Option Nat) (N : Int) (X : List Int) (st : Int) (r : Nat) (T : Th) (bt : Value) (L : List (Nat × Obj)) : Prop where
  ms : MS W0 w b g N X st
  at_ : w.heap[r]? = some (.cells #[.int .i64 T.i0, .int .i64 T.i1, .int .i64 T.i2, .int .i64 T.i3, .int .i64 T.i4, .int .i64 T.i5, .int .i64 T.i6, .int .i64 T.i7, .int .i64 T.i8, .int .i64 T.i9, .int .i64 T.i10, .int .i64 T.i11, bt] 30 (0, 0))
  far : ¬ Foot b g r
  hi : W0.heap.size ≤ r
  side : Side w b g r L
  s0 : 0 ≤ st
  rg : Rg64 T.i2
section
variable {W0 w w' : World} {b : Nat} {g g' : Option Nat} {N : Int} {X X' : List Int} {st st' : Int} {r : Nat} {T T' : Th} {bt bt' : Value} {L : List (Nat × Obj)}
theorem LS.lt (h : LS W0 w b g N X st r T bt L) : r < w.heap.size := (Array.getElem?_eq_some_iff.1 h.at_).1
theorem LS.get (h : LS W0 w b g N X st r T bt L) {q : Nat} {o : Obj} (hm : (q, o) ∈ L) : w.heap[q]? = some o := (h.side _ hm).1
theorem LS.below (h : LS W0 w b g N X st r T bt L) (hb : Below w.heap.size w w') : LS W0 w' b g N X st r T bt L :=
  ⟨h.ms.below hb, (hb.block r h.lt).trans h.at_, h.far, h.hi, fun p hp => ⟨(hb.block p.1 (Array.getElem?_eq_some_iff.1 (h.side p hp).1).1).trans (h.side p hp).1, (h.side p hp).2⟩, h.s0, h.rg⟩
theorem LS.mem (h : LS W0 w b g N X st r T bt L) (m : MS W0 w' b g' N X' st') (hk : Kept (Foot b g) w w') (hg : g' = g ∨ ∃ k, g' = some k ∧ w.heap.size ≤ k) (h0 : 0 ≤ st') : LS W0 w' b g' N X' st' r T bt L :=
  ⟨m, (hk.block r h.lt h.far).trans h.at_, foot_on h.far h.lt hg, h.hi, fun p hp => ⟨(hk.block p.1 (Array.getElem?_eq_some_iff.1 (h.side p hp).1).1 (h.side p hp).2.1).trans (h.side p hp).1, foot_on (h.side p hp).2.1 (Array.getElem?_eq_some_iff.1 (h.side p hp).1).1 hg, (h.side p hp).2.2⟩, h0, h.rg⟩
theorem LS.put (h : LS W0 w b g N X st r T bt L) (hk : Kept (fun k => k = r) w w') (ha : w'.heap[r]? = some (.cells #[.int .i64 T'.i0, .int .i64 T'.i1, .int .i64 T'.i2, .int .i64 T'.i3, .int .i64 T'.i4, .int .i64 T'.i5, .int .i64 T'.i6, .int .i64 T'.i7, .int .i64 T'.i8, .int .i64 T'.i9, .int .i64 T'.i10, .int .i64 T'.i11, bt'] 30 (0, 0))) (rg : Rg64 T'.i2) : LS W0 w' b g N X st r T' bt' L :=
  ⟨h.ms.farx hk h.hi h.far, ha, h.far, h.hi, fun p hp => ⟨(hk.block p.1 (Array.getElem?_eq_some_iff.1 (h.side p hp).1).1 (h.side p hp).2.2).trans (h.side p hp).1, (h.side p hp).2⟩, h.s0, rg⟩
theorem LS.eqs (h : LS W0 w b g N X st r T bt L) (e1 : X = X') (e2 : T = T') : LS W0 w b g N X' st r T' bt L := e1 ▸ e2 ▸ h
theorem LS.self (h : LS W0 w b g N X st r T bt L) : w.heap[r]? = some (.cells #[.int .i64 T.i0, .int .i64 T.i1, .int .i64 T.i2, .int .i64 T.i3, .int .i64 T.i4, .int .i64 T.i5, .int .i64 T.i6, .int .i64 T.i7, .int .i64 T.i8, .int .i64 T.i9, .int .i64 T.i10, .int .i64 T.i11, bt] 30 (0, 0)) := h.at_
theorem LS.sub (h : LS W0 w b g N X st r T bt L) {L' : List (Nat × Obj)} (hs : ∀ p ∈ L', p ∈ L) : LS W0 w b g N X st r T bt L' := ⟨h.ms, h.at_, h.far, h.hi, fun p hp => h.side p (hs p hp), h.s0, h.rg⟩
theorem LS.more (h : LS W0 w b g N X st r T bt L) {q : Nat} {o : Obj} (hq : w.heap[q]? = some o) (hf : ¬ Foot b g q) (hn : q ≠ r) : LS W0 w b g N X st r T bt ((q, o) :: L) :=
  ⟨h.ms, h.at_, h.far, h.hi, fun p hp => by
    rcases List.mem_cons.1 hp with rfl | hp
    · exact ⟨hq, hf, hn⟩
    · exact h.side p hp, h.s0, h.rg⟩
theorem LS.other {q : Nat} {T2 : Th} {bt2 : Value} (h : LS W0 w b g N X st r T bt [(q, .cells #[.int .i64 T2.i0, .int .i64 T2.i1, .int .i64 T2.i2, .int .i64 T2.i3, .int .i64 T2.i4, .int .i64 T2.i5, .int .i64 T2.i6, .int .i64 T2.i7, .int .i64 T2.i8, .int .i64 T2.i9, .int .i64 T2.i10, .int .i64 T2.i11, bt2] 30 (0, 0))]) (rg : Rg64 T2.i2) (hW : W0.heap.size ≤ q) : LS W0 w b g N X st q T2 bt2 [(r, .cells #[.int .i64 T.i0, .int .i64 T.i1, .int .i64 T.i2, .int .i64 T.i3, .int .i64 T.i4, .int .i64 T.i5, .int .i64 T.i6, .int .i64 T.i7, .int .i64 T.i8, .int .i64 T.i9, .int .i64 T.i10, .int .i64 T.i11, bt] 30 (0, 0))] := by
  have hq := h.side _ (List.mem_singleton.2 rfl)
  refine ⟨h.ms, hq.1, hq.2.1, hW, fun p hp => ?_, h.s0, rg⟩
  rcases List.mem_singleton.1 hp with rfl
  exact ⟨h.at_, h.far, fun e => hq.2.2 e.symm⟩
/-- What is laid behind the memory is not the memory's. -/
theorem MS.new (h : MS W0 w b g N X st) {q : Nat} (hq : w.heap.size ≤ q) : ¬ Foot b g q := h.past q hq
end
theorem int_row {w : World} {g : Nat} {vs : List Int} (h : w.heap[g]? = some (.cells (vs.map (Value.int .i64)).toArray 3 (0, 0))) {i : Nat} (hi : i < vs.length) : w.cell? ⟨g, i, none⟩ = some (.int .i64 (vs.getD i 0)) := by
  rw [List.getD_eq_getElem?_getD, List.getElem?_eq_getElem hi]
  simp [World.cell?, h, hi]

end Go.Proofs.Ytcellcjojfbajaa
