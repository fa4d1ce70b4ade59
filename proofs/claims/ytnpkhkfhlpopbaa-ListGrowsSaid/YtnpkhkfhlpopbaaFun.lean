/- What cells and the reference of layer 2 tell, as functions of the cells, whatever the number; a memory beside a reference memory. -/
import Derived.Test.YtnpkhkfhlpopbaaMsAny
namespace Go.Proofs.Ytnpkhkfhlpopbaa
set_option linter.unusedSimpArgs false
set_option linter.unusedVariables false
open Go.RowKit

def cellAt (xs : List Int) (a : Int) : Int := if 0 ≤ a ∧ a < (xs.length : Int) then xs.getD a.toNat 0 else 0
def cellSet (xs : List Int) (a y : Int) : List Int := if 0 ≤ a ∧ a < (xs.length : Int) then xs.set a.toNat y else xs
def errAt (xs : List Int) (a : Int) : Int := if 0 ≤ a ∧ a < (xs.length : Int) then 0 else 10
def swapIs (xs : List Int) (a o : Int) : Bool := decide (0 ≤ a ∧ a < (xs.length : Int) ∧ xs.getD a.toNat 0 = o)
def cellSwap (xs : List Int) (a o y : Int) : List Int := if swapIs xs a o = true then cellSet xs a y else xs
def cntAt (xs : List Int) (a : Int) : Int := if 0 ≤ a ∧ a < (xs.length : Int) then 1 else 0
def allocOk (xs : List Int) (N n : Int) : Bool := decide (0 ≤ n ∧ n ≤ N - (xs.length : Int))
def allocAt (xs : List Int) (N n : Int) : Int := if allocOk xs N n = true then (xs.length : Int) else 0
def allocErr (xs : List Int) (N n : Int) : Int := if allocOk xs N n = true then 0 else if n < 0 then 1 else 11
def allocXs (xs : List Int) (N n : Int) : List Int := if allocOk xs N n = true then xs ++ List.replicate n.toNat 0 else xs
def allocCnt (xs : List Int) (N n : Int) : Int := if allocOk xs N n = true then 1 else 0

theorem cellAt_yes {xs : List Int} {a : Int} (h0 : 0 ≤ a) (h1 : a < (xs.length : Int)) : cellAt xs a = xs.getD a.toNat 0 := if_pos ⟨h0, h1⟩
theorem cellAt_no {xs : List Int} {a : Int} (h : a < 0 ∨ (xs.length : Int) ≤ a) : cellAt xs a = 0 := if_neg (by omega)
theorem cellSet_yes {xs : List Int} {a y : Int} (h0 : 0 ≤ a) (h1 : a < (xs.length : Int)) : cellSet xs a y = xs.set a.toNat y := if_pos ⟨h0, h1⟩
theorem cellSet_no {xs : List Int} {a y : Int} (h : a < 0 ∨ (xs.length : Int) ≤ a) : cellSet xs a y = xs := if_neg (by omega)
theorem cellSet_len (xs : List Int) (a y : Int) : (cellSet xs a y).length = xs.length := by unfold cellSet; split <;> simp
theorem cellSwap_len (xs : List Int) (a o y : Int) : (cellSwap xs a o y).length = xs.length := by unfold cellSwap; split; exact cellSet_len ..; rfl
theorem errAt_yes {xs : List Int} {a : Int} (h0 : 0 ≤ a) (h1 : a < (xs.length : Int)) : errAt xs a = 0 := if_pos ⟨h0, h1⟩
theorem errAt_no {xs : List Int} {a : Int} (h : a < 0 ∨ (xs.length : Int) ≤ a) : errAt xs a = 10 := if_neg (by omega)
theorem errAt_rng (xs : List Int) (a : Int) : 0 ≤ errAt xs a ∧ errAt xs a ≤ 10 := by unfold errAt; split <;> omega
theorem cntAt_yes {xs : List Int} {a : Int} (h0 : 0 ≤ a) (h1 : a < (xs.length : Int)) : cntAt xs a = 1 := if_pos ⟨h0, h1⟩
theorem cntAt_no {xs : List Int} {a : Int} (h : a < 0 ∨ (xs.length : Int) ≤ a) : cntAt xs a = 0 := if_neg (by omega)
theorem cntAt_rng (xs : List Int) (a : Int) : 0 ≤ cntAt xs a ∧ cntAt xs a ≤ 1 := by unfold cntAt; split <;> omega
theorem allocErr_rng (xs : List Int) (N n : Int) : 0 ≤ allocErr xs N n ∧ allocErr xs N n ≤ 11 := by unfold allocErr; repeat' split <;> omega
theorem allocCnt_rng (xs : List Int) (N n : Int) : 0 ≤ allocCnt xs N n ∧ allocCnt xs N n ≤ 1 := by unfold allocCnt; split <;> omega
theorem allocXs_len (xs : List Int) (N n : Int) (h : (xs.length : Int) ≤ N) : ((allocXs xs N n).length : Int) ≤ N := by
  unfold allocXs
  by_cases h : allocOk xs N n = true
  · rw [if_pos h]; unfold allocOk at h; have := of_decide_eq_true h; rw [List.length_append, List.length_replicate]; omega
  · rw [if_neg h]; assumption
theorem swapIs_hit {xs : List Int} {a o : Int} (h0 : 0 ≤ a) (h1 : a < (xs.length : Int)) (ho : xs.getD a.toNat 0 = o) : swapIs xs a o = true := decide_eq_true ⟨h0, h1, ho⟩
theorem swapIs_miss {xs : List Int} {a o : Int} (ho : xs.getD a.toNat 0 ≠ o) : swapIs xs a o = false := decide_eq_false (fun h => ho h.2.2)
theorem swapIs_no {xs : List Int} {a o : Int} (h : a < 0 ∨ (xs.length : Int) ≤ a) : swapIs xs a o = false := decide_eq_false (by omega)
theorem alloc_yes {xs : List Int} {N n : Int} (h0 : 0 ≤ n) (h1 : n ≤ N - (xs.length : Int)) : allocOk xs N n = true := decide_eq_true ⟨h0, h1⟩
theorem alloc_no {xs : List Int} {N n : Int} (h : n < 0 ∨ N - (xs.length : Int) < n) : allocOk xs N n = false := decide_eq_false (by omega)

section
variable {W0 w : World} {b : Nat} {g : Option Nat} {N st : Int} {xs : List Int}
theorem keptF {F : Nat → Prop} {w w' : World} (h : Below w.heap.size w w') : Kept F w w' := Kept.of_below h (fun k h1 h2 => by omega)
theorem MS.eqs {ys : List Int} {st' : Int} (h : MS W0 w b g N xs st) (e : xs = ys) (e' : st = st') : MS W0 w b g N ys st' := e ▸ e' ▸ h
theorem Load_f (h : MS W0 w b g N xs st) (a : Int) (s1 : st < 1000000) :
    Calls Try.prog 18 #[.pointer (some ⟨b, 0, none⟩), .int .i64 a] w fun e w' => e = .returned (.tuple #[.int .i64 (cellAt xs a), .int .u16 (errAt xs a)]) ∧ MS W0 w' b g N xs (st + cntAt xs a) ∧ Kept (Foot b g) w w' := by
  by_cases ha : 0 ≤ a ∧ a < (xs.length : Int)
  · exact (Load_ms h a ha.1 ha.2 s1).mono fun e w' ⟨e1, e2, e3⟩ => ⟨by rw [e1, cellAt_yes ha.1 ha.2, errAt_yes ha.1 ha.2], e2.eqs rfl (by rw [cntAt_yes ha.1 ha.2]), e3⟩
  · have hn : a < 0 ∨ (xs.length : Int) ≤ a := by omega
    exact (Load_ms_no h a hn).mono fun e w' ⟨e1, e2, e3⟩ => ⟨by rw [e1, cellAt_no hn, errAt_no hn], e2.eqs rfl (by rw [cntAt_no hn]; omega), keptF e3⟩
theorem Store_f (h : MS W0 w b g N xs st) (a y : Int) (s1 : st < 1000000) :
    Calls Try.prog 14 #[.pointer (some ⟨b, 0, none⟩), .int .i64 a, .int .i64 y] w fun e w' => e = .returned (.int .u16 (errAt xs a)) ∧ MS W0 w' b g N (cellSet xs a y) (st + cntAt xs a) ∧ Kept (Foot b g) w w' := by
  by_cases ha : 0 ≤ a ∧ a < (xs.length : Int)
  · exact (Store_ms h a y ha.1 ha.2 s1).mono fun e w' ⟨e1, e2, e3⟩ => ⟨by rw [e1, errAt_yes ha.1 ha.2], e2.eqs (by rw [cellSet_yes ha.1 ha.2]) (by rw [cntAt_yes ha.1 ha.2]), e3⟩
  · have hn : a < 0 ∨ (xs.length : Int) ≤ a := by omega
    exact (Store_ms_no h a y hn).mono fun e w' ⟨e1, e2, e3⟩ => ⟨by rw [e1, errAt_no hn], e2.eqs (by rw [cellSet_no hn]) (by rw [cntAt_no hn]; omega), keptF e3⟩
theorem Alloc_f (h : MS W0 w b g N xs st) (a : Int) (s1 : st < 1000000) :
    Calls Try.prog 30 #[.pointer (some ⟨b, 0, none⟩), .int .i64 a] w fun e w' => ∃ g', e = .returned (.tuple #[.int .i64 (allocAt xs N a), .int .u16 (allocErr xs N a)]) ∧ MS W0 w' b g' N (allocXs xs N a) (st + allocCnt xs N a) ∧ (g' = g ∨ ∃ k, g' = some k ∧ w.heap.size ≤ k) ∧ Kept (Foot b g) w w' := by
  by_cases ha : 0 ≤ a ∧ a ≤ N - (xs.length : Int)
  · exact (Alloc_ms h a ha.1 ha.2 s1).mono fun e w' ⟨g', e1, e2, e3, e4⟩ => ⟨g', by rw [e1, allocAt, allocErr, if_pos (alloc_yes ha.1 ha.2), if_pos (alloc_yes ha.1 ha.2)], e2.eqs (by rw [allocXs, if_pos (alloc_yes ha.1 ha.2)]) (by rw [allocCnt, if_pos (alloc_yes ha.1 ha.2)]), e3, e4⟩
  · by_cases h0 : a < 0
    · have hn := alloc_no (xs := xs) (N := N) (n := a) (.inl h0)
      exact (Alloc_ms_neg h a h0).mono fun e w' ⟨e1, e2, e3⟩ => ⟨g, by rw [e1, allocAt, allocErr, hn, if_neg (by decide), if_neg (by decide), if_pos h0], e2.eqs (by rw [allocXs, hn, if_neg (by decide)]) (by rw [allocCnt, hn, if_neg (by decide)]; omega), .inl rfl, keptF e3⟩
    · have hn := alloc_no (xs := xs) (N := N) (n := a) (.inr (by omega))
      exact (Alloc_ms_full h a (by omega) (by omega)).mono fun e w' ⟨e1, e2, e3⟩ => ⟨g, by rw [e1, allocAt, allocErr, hn, if_neg (by decide), if_neg (by decide), if_neg h0], e2.eqs (by rw [allocXs, hn, if_neg (by decide)]) (by rw [allocCnt, hn, if_neg (by decide)]; omega), .inl rfl, keptF e3⟩
end

section
variable {w : World} {v : Value} {q : Option Nat} {N st : Int} {xs : List Int}
theorem RVal.eqs {ys : List Int} {st' : Int} (h : RVal w v q N xs st) (e : xs = ys) (e' : st = st') : RVal w v q N ys st' := e ▸ e' ▸ h
theorem rStore_f (h : RVal w v q N xs st) (a y : Int) (hn : xs.length ≤ 1000000) (s0 : 0 ≤ st) (s1 : st < 4611686018427387904) :
    Calls Try.prog 31 #[v, .int .i64 a, .int .i64 y] w fun e w' => ∃ v' q', e = .returned (.tuple #[v', .int .i64 (errAt xs a)]) ∧ RVal w' v' q' N (cellSet xs a y) (st + cntAt xs a) ∧ (q' = q ∨ ∀ k, q' = some k → w.heap.size ≤ k) ∧ Below w.heap.size w w' := by
  by_cases ha : 0 ≤ a ∧ a < (xs.length : Int)
  · exact (rStore_yes N st a y xs v q w h ha.1 ha.2 hn s0 s1).mono fun e w' ⟨v', q', e1, e2, e4, e3⟩ => ⟨v', q', by rw [e1, errAt_yes ha.1 ha.2], e2.eqs (by rw [cellSet_yes ha.1 ha.2]) (by rw [cntAt_yes ha.1 ha.2]), .inr e4, e3⟩
  · have hn : a < 0 ∨ (xs.length : Int) ≤ a := by omega
    exact (rStore_no N st a y xs v q w h hn).mono fun e w' ⟨e1, e3⟩ => ⟨v, q, by rw [e1, errAt_no hn], (h.below e3).eqs (by rw [cellSet_no hn]) (by rw [cntAt_no hn]; omega), .inl rfl, e3⟩
theorem rAlloc_f (h : RVal w v q N xs st) (a : Int) (q0 : 0 ≤ N) (q1 : N ≤ 1000) (q2 : (xs.length : Int) ≤ N) (s0 : 0 ≤ st) (s1 : st < 4611686018427387904) :
    Calls Try.prog 29 #[v, .int .i64 a] w fun e w' => ∃ v' q', e = .returned (.tuple #[v', .int .i64 (allocAt xs N a), .int .i64 (allocErr xs N a)]) ∧ RVal w' v' q' N (allocXs xs N a) (st + allocCnt xs N a) ∧ (q' = q ∨ ∀ k, q' = some k → w.heap.size ≤ k) ∧ Below w.heap.size w w' := by
  by_cases ha : 0 ≤ a ∧ a ≤ N - (xs.length : Int)
  · exact (rAlloc_yes N st a xs v q w h ha.1 ha.2 q0 q1 q2 s0 s1).mono fun e w' ⟨v', q', e1, e2, e4, e3⟩ => ⟨v', q', by rw [e1, allocAt, allocErr, if_pos (alloc_yes ha.1 ha.2), if_pos (alloc_yes ha.1 ha.2)], e2.eqs (by rw [allocXs, if_pos (alloc_yes ha.1 ha.2)]) (by rw [allocCnt, if_pos (alloc_yes ha.1 ha.2)]), .inr e4, e3⟩
  · by_cases h0 : a < 0
    · have hn := alloc_no (xs := xs) (N := N) (n := a) (.inl h0)
      exact (rAlloc_neg N st a xs v q w h h0).mono fun e w' ⟨e1, e3⟩ => ⟨v, q, by rw [e1, allocAt, allocErr, hn, if_neg (by decide), if_neg (by decide), if_pos h0], (h.below e3).eqs (by rw [allocXs, hn, if_neg (by decide)]) (by rw [allocCnt, hn, if_neg (by decide)]; omega), .inl rfl, e3⟩
    · have hn := alloc_no (xs := xs) (N := N) (n := a) (.inr (by omega))
      exact (rAlloc_full N st a xs v q w h (by omega) (by omega) q0 q1 q2).mono fun e w' ⟨e1, e3⟩ => ⟨v, q, by rw [e1, allocAt, allocErr, hn, if_neg (by decide), if_neg (by decide), if_neg h0], (h.below e3).eqs (by rw [allocXs, hn, if_neg (by decide)]) (by rw [allocCnt, hn, if_neg (by decide)]; omega), .inl rfl, e3⟩
theorem rAt_f (h : RVal w v q N xs st) (a : Int) :
    Calls Try.prog 59 #[v, .int .i64 a] w fun e w' => e = .returned (.int .i64 (cellAt xs a)) ∧ Below w.heap.size w w' := by
  by_cases ha : 0 ≤ a ∧ a < (xs.length : Int)
  · exact (rAt_yes N st a xs v q w h ha.1 ha.2).mono fun e w' ⟨e1, e3⟩ => ⟨by rw [e1, cellAt_yes ha.1 ha.2], e3⟩
  · have hn : a < 0 ∨ (xs.length : Int) ≤ a := by omega
    exact (rAt_no N st a xs v q w h hn).mono fun e w' ⟨e1, e3⟩ => ⟨by rw [e1, cellAt_no hn], e3⟩
end

/-- A memory of a law beside a reference memory: they share no block. -/
def Both (W0 w : World) (b : Nat) (g : Option Nat) (N : Int) (xs : List Int) (st : Int) (v : Value) (q : Option Nat) (ys : List Int) (su : Int) : Prop :=
  MS W0 w b g N xs st ∧ RVal w v q N ys su ∧ (∀ k, q = some k → ¬ Foot b g k) ∧ (ys.length : Int) ≤ N ∧ 0 ≤ su
section
variable {W0 w : World} {b : Nat} {g : Option Nat} {N st su : Int} {xs ys : List Int} {v : Value} {q : Option Nat}
theorem Both.ms (h : Both W0 w b g N xs st v q ys su) : MS W0 w b g N xs st := h.1
theorem Both.rv (h : Both W0 w b g N xs st v q ys su) : RVal w v q N ys su := h.2.1
theorem Both.below {w' : World} (h : Both W0 w b g N xs st v q ys su) (hb : Below w.heap.size w w') : Both W0 w' b g N xs st v q ys su :=
  ⟨h.1.below hb, h.2.1.below hb, h.2.2⟩
theorem Both.q_lt (h : Both W0 w b g N xs st v q ys su) : ∀ k, q = some k → k < w.heap.size := fun k e => by subst e; exact h.2.1.lt
/-- The memory's turn. -/
theorem Both.m {w' : World} {g' : Option Nat} {xs' : List Int} {st' : Int} (h : Both W0 w b g N xs st v q ys su) (hm : MS W0 w' b g' N xs' st') (hk : Kept (Foot b g) w w') (hg : g' = g ∨ ∃ k, g' = some k ∧ w.heap.size ≤ k) : Both W0 w' b g' N xs' st' v q ys su := by
  refine ⟨hm, h.2.1.kept hk h.2.2.1, fun k e => ?_, h.2.2.2⟩
  rintro (e' | e')
  · exact h.2.2.1 k e (.inl e')
  · rcases hg with rfl | ⟨j, rfl, hj⟩
    · exact h.2.2.1 k e (.inr e')
    · cases e'
      have := h.q_lt _ e
      omega
/-- The reference's turn. -/
theorem Both.r {w' : World} {v' : Value} {q' : Option Nat} {ys' : List Int} {su' : Int} (h : Both W0 w b g N xs st v q ys su) (hr : RVal w' v' q' N ys' su') (hb : Below w.heap.size w w') (hq : q' = q ∨ ∀ k, q' = some k → w.heap.size ≤ k) (hl : (ys'.length : Int) ≤ N) (hs : 0 ≤ su') : Both W0 w' b g N xs st v' q' ys' su' := by
  refine ⟨h.1.below hb, hr, fun k e => ?_, hl, hs⟩
  rcases hq with rfl | hq
  · exact h.2.2.1 k e
  · have h1 := hq k e
    rintro (e' | e')
    · have := h.1.mem.lt; omega
    · subst e'; have := h.1.mem.row_lt; omega
theorem Both.len (h : Both W0 w b g N xs st v q ys su) : ys.length ≤ 1000 := by have := h.2.2.2.1; have := h.1.2.2.2.2.2.1; omega
theorem Both.N0 (h : Both W0 w b g N xs st v q ys su) : 0 ≤ N ∧ N ≤ 1000 := ⟨h.1.2.2.2.2.1, h.1.2.2.2.2.2.1⟩
theorem Load_b (h : Both W0 w b g N xs st v q ys su) (a : Int) (s1 : st < 1000000) :
    Calls Try.prog 18 #[.pointer (some ⟨b, 0, none⟩), .int .i64 a] w fun e w' => e = .returned (.tuple #[.int .i64 (cellAt xs a), .int .u16 (errAt xs a)]) ∧ Both W0 w' b g N xs (st + cntAt xs a) v q ys su ∧ Kept (Foot b g) w w' :=
  (Load_f h.1 a s1).mono fun e w' ⟨e1, e2, e3⟩ => ⟨e1, h.m e2 e3 (.inl rfl), e3⟩
theorem Store_b (h : Both W0 w b g N xs st v q ys su) (a y : Int) (s1 : st < 1000000) :
    Calls Try.prog 14 #[.pointer (some ⟨b, 0, none⟩), .int .i64 a, .int .i64 y] w fun e w' => e = .returned (.int .u16 (errAt xs a)) ∧ Both W0 w' b g N (cellSet xs a y) (st + cntAt xs a) v q ys su ∧ Kept (Foot b g) w w' :=
  (Store_f h.1 a y s1).mono fun e w' ⟨e1, e2, e3⟩ => ⟨e1, h.m e2 e3 (.inl rfl), e3⟩
theorem Alloc_b (h : Both W0 w b g N xs st v q ys su) (a : Int) (s1 : st < 1000000) :
    Calls Try.prog 30 #[.pointer (some ⟨b, 0, none⟩), .int .i64 a] w fun e w' => ∃ g', e = .returned (.tuple #[.int .i64 (allocAt xs N a), .int .u16 (allocErr xs N a)]) ∧ Both W0 w' b g' N (allocXs xs N a) (st + allocCnt xs N a) v q ys su ∧ (g' = g ∨ ∃ k, g' = some k ∧ w.heap.size ≤ k) ∧ Kept (Foot b g) w w' :=
  (Alloc_f h.1 a s1).mono fun e w' ⟨g', e1, e2, e4, e3⟩ => ⟨g', e1, h.m e2 e3 e4, e4, e3⟩
theorem rStore_b (h : Both W0 w b g N xs st v q ys su) (a y : Int) (s1 : su < 1000000) :
    Calls Try.prog 31 #[v, .int .i64 a, .int .i64 y] w fun e w' => ∃ v' q', e = .returned (.tuple #[v', .int .i64 (errAt ys a)]) ∧ Both W0 w' b g N xs st v' q' (cellSet ys a y) (su + cntAt ys a) ∧ (q' = q ∨ ∀ k, q' = some k → w.heap.size ≤ k) ∧ Below w.heap.size w w' :=
  (rStore_f h.rv a y (by have := h.len; omega) h.2.2.2.2 (by omega)).mono fun e w' ⟨v', q', e1, e2, e4, e3⟩ => ⟨v', q', e1, h.r e2 e3 e4 (by rw [cellSet_len]; exact h.2.2.2.1) (by have := h.2.2.2.2; have := cntAt_rng ys a; omega), e4, e3⟩
theorem rAlloc_b (h : Both W0 w b g N xs st v q ys su) (a : Int) (s1 : su < 1000000) :
    Calls Try.prog 29 #[v, .int .i64 a] w fun e w' => ∃ v' q', e = .returned (.tuple #[v', .int .i64 (allocAt ys N a), .int .i64 (allocErr ys N a)]) ∧ Both W0 w' b g N xs st v' q' (allocXs ys N a) (su + allocCnt ys N a) ∧ (q' = q ∨ ∀ k, q' = some k → w.heap.size ≤ k) ∧ Below w.heap.size w w' :=
  (rAlloc_f h.rv a h.N0.1 h.N0.2 h.2.2.2.1 h.2.2.2.2 (by omega)).mono fun e w' ⟨v', q', e1, e2, e4, e3⟩ => ⟨v', q', e1, h.r e2 e3 e4 (allocXs_len _ _ _ h.2.2.2.1) (by have := h.2.2.2.2; have := allocCnt_rng ys N a; omega), e4, e3⟩
theorem Both.far (h : Both W0 w b g N xs st v q ys su) : ∀ p, w.heap.size ≤ p → ¬ Foot b g p := fun p hp => by
  rintro (e | e)
  · have := h.1.mem.lt; omega
  · subst e; have := h.1.mem.row_lt; omega
theorem Both.kept {F : Nat → Prop} {w' : World} (h : Both W0 w b g N xs st v q ys su) (hk : Kept F w w') (hF : ∀ k, k < W0.heap.size → ¬ F k) (h1 : ¬ F b) (h2 : ∀ k, g = some k → ¬ F k) (h3 : ∀ k, q = some k → ¬ F k) : Both W0 w' b g N xs st v q ys su :=
  ⟨h.1.kept hk (h.1.B.trans (hk.below h.1.B.size hF)) h1 h2, h.2.1.kept hk h3, h.2.2⟩
theorem kept_set3 (w : World) (r : Nat) (u0 u1 u2 : Value) : Kept (fun k => k = r) w (((w.setCell ⟨r, 0, none⟩ u0).setCell ⟨r, 1, none⟩ u1).setCell ⟨r, 2, none⟩ u2) :=
  (((Kept.refl (fun k => k = r) w).setCell (p := ⟨r, 0, none⟩) (fun _ => rfl) u0).setCell (p := ⟨r, 1, none⟩) (fun _ => rfl) u1).setCell (p := ⟨r, 2, none⟩) (fun _ => rfl) u2
theorem Both.set3 (h : Both W0 w b g N xs st v q ys su) (r : Nat) (hr : W0.heap.size ≤ r) (h1 : b ≠ r) (h2 : ∀ k, g = some k → k ≠ r) (h3 : ∀ k, q = some k → k ≠ r) (u0 u1 u2 : Value) :
    Both W0 (((w.setCell ⟨r, 0, none⟩ u0).setCell ⟨r, 1, none⟩ u1).setCell ⟨r, 2, none⟩ u2) b g N xs st v q ys su :=
  h.kept (kept_set3 w r u0 u1 u2) (fun k hk e => by omega) h1 h2 h3
end

end Go.Proofs.Ytnpkhkfhlpopbaa
