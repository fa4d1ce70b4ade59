/- SweepNone: with an age that none has all stay; without a list nothing is done but that LOCK is free: the law returns true for every input. -/
import Derived.Test.YthdhilmmcabnlaaSwNone
import Derived.Test.YthdhilmmcabnlaaChainA
import Derived.Test.YthdhilmmcabnlaaFrame
import Derived.Deep.RegionHeld3
namespace Go.Proofs.Ythdhilmmcabnlaa
set_option linter.unusedSimpArgs false
set_option linter.unusedVariables false
open Go.RowKit
open Go.ChangeShapes Go.WideShapes Go.ChangeAt

theorem rg_set {l : List Int} (h : RgX l) (i : Nat) (v : Int) (hv : Rg v) : RgX (l.set i v) := fun x hx => by
  rcases List.mem_or_eq_of_mem_set hx with h1 | h1
  · exact h x h1
  · exact h1 ▸ hv
theorem rg_layN {cs on l : List Int} (hon : ∀ q, Rg (on.getD q 0)) (h : RgX l) : ∀ k, RgX (layN cs on l k)
  | 0 => h
  | k + 1 => by
    have ih := rg_layN (cs := cs) hon h k
    have h1 : RgX (if k = 0 then (layN cs on l k).set 1 (on.getD k 0) else (layN cs on l k).set ((on.getD (k - 1) 0).toNat + 3) (on.getD k 0)) := by
      split
      · exact rg_set ih _ _ (hon k)
      · exact rg_set ih _ _ (hon k)
    have h2 := rg_set h1 ((on.getD k 0).toNat + 1) 1 (by unfold Rg; omega)
    simp only [layN, layStep]
    split
    · exact rg_set h2 _ _ (by unfold Rg; omega)
    · exact h2
theorem rg_on (cs : List Int) (n m q : Nat) (hn : n ≤ 9) : Rg (((ord cs n).take m).getD q 0) := by
  by_cases hq : q < ((ord cs n).take m).length
  · have hm : ((ord cs n).take m).getD q 0 ∈ ord cs n := by
      rw [List.getD_eq_getElem?_getD, List.getElem?_eq_getElem hq]
      exact List.mem_of_mem_take (List.getElem_mem _)
    obtain ⟨j, h1, h2⟩ := (ord_mem cs n _).1 hm
    rw [h2]; unfold Rg; omega
  · rw [List.getD_eq_getElem?_getD, List.getElem?_eq_none (by omega)]
    show Rg 0
    unfold Rg; omega

theorem Ints_self (u v : Value) (xs : List Int) (w : World) (hu : Sl w u xs) (hv : Sl w v xs) (n1 : xs.length ≤ 1000000) : Calls Try.prog 19 #[u, v] w fun e w' => e = .returned (.bool true) ∧ Below w.heap.size w w' :=
  (Ints_any u v xs xs w hu hv n1).mono fun e w' ⟨h1, n, h2⟩ => ⟨by rw [h1, decide_eq_true rfl], h2 ▸ below_drewN (Below.refl _ _) n⟩
theorem Same64_slf (u v : Value) (xs : List Int) (w : World) (hu : Sl w u xs) (hv : Sl w v xs) (n1 : xs.length ≤ 1000000) : Calls Try.prog 21 #[u, v] w fun e w' => e = .returned (.bool true) ∧ Below w.heap.size w w' :=
  (Same64_sl u v xs xs w hu hv n1).mono fun e w' ⟨h1, n, h2⟩ => ⟨by rw [h1, decide_eq_true rfl], h2 ▸ below_drewN (Below.refl _ _) n⟩
theorem sl_lit3 (w : World) (a b c : Int) : Sl (w.alloc (.cells #[.int .i64 a, .int .i64 b, .int .i64 c] 2 (0, 0))) (.slice (some ⟨w.heap.size, 0, none⟩) 3 3) [a, b, c] :=
  (row_lit (vs := [a, b, c]) (n := 3) (heap_alloc_new _ _) rfl (by decide)).sl
theorem Row.tl {w : World} {g cap : Nat} {X : List Int} {n : Nat} (h : Row w (.slice (some ⟨g, 0, none⟩) X.length cap) X) (hn : n = X.length - 1) : Sl w (.slice (some ⟨g, 1, none⟩) n (cap - 1)) X.tail := by
  refine ⟨_, _, by rw [List.length_tail, hn], fun hp => ?_⟩
  rw [List.length_tail] at hp
  obtain ⟨g', c', cur, e, hg, _, _, hc, _⟩ := h.pos (by omega)
  cases e
  refine ⟨g, 1, rfl, (Array.getElem?_eq_some_iff.1 hg).1, fun j hj => ?_⟩
  rw [List.length_tail] at hj
  rw [hc (1 + j) (by omega)]
  cases X with
  | nil => simp at hj
  | cons x xs => rw [Nat.add_comm]; rfl

end Go.Proofs.Ythdhilmmcabnlaa
