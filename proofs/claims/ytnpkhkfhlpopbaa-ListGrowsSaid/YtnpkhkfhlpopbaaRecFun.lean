/- Package record and the reference of layer 13, as functions of the cells. -/
import Derived.Test.YtnpkhkfhlpopbaaFun
import Derived.Test.YtnpkhkfhlpopbaaRec
import Derived.Test.YtnpkhkfhlpopbaaSlices
import Derived.Test.YtnpkhkfhlpopbaaFrame
import Derived.Deep.RegionHeld3
import Derived.Deep.QuietTactic
import Derived.BigQuiet
namespace Go.Proofs.Ytnpkhkfhlpopbaa
set_option linter.unusedSimpArgs false
set_option linter.unusedVariables false
open Go.RowKit
open Go.ChangeShapes Go.WideShapes Go.ChangeAt

def nthIs (n : Nat) (a : Int) : Bool := decide (3 ≤ a ∧ (a - 3) % 5 = 0 ∧ (a - 3) / 5 < manyOf n)
def nthOf (n : Nat) (a : Int) : Int := if nthIs n a = true then (a - 3) / 5 else 0
def recAt (xs : List Int) (a : Int) (j : Nat) : Int := if nthIs xs.length a = true then xs.getD (a.toNat + j) 0 else 0
def recV (xs : List Int) (a : Int) : Value := .agg #[.int .i64 (recAt xs a 0), .int .i64 (recAt xs a 1), .int .i64 (recAt xs a 2), .int .i64 (recAt xs a 3), .int .i64 (recAt xs a 4)]
theorem nth_yes {n : Nat} {a : Int} (h1 : 3 ≤ a) (h2 : (a - 3) % 5 = 0) (h3 : (a - 3) / 5 < manyOf n) : nthIs n a = true := decide_eq_true ⟨h1, h2, h3⟩
theorem nth_no {n : Nat} {a : Int} (h : NoRec n a) : nthIs n a = false := decide_eq_false (by unfold NoRec at h; omega)
theorem manyOf_rng {n : Nat} (h : n ≤ 1000) : 0 ≤ manyOf n ∧ manyOf n ≤ 199 := by unfold manyOf; omega
section
variable {W0 w : World} {b : Nat} {g : Option Nat} {N st : Int} {xs : List Int}
theorem Nth_f (h : MS W0 w b g N xs st) (a : Int) (ha2 : a ≤ 9223372036854775807) : Calls Try.prog 64 #[.pointer (some ⟨b, 0, none⟩), .int .i64 a] w fun e w' => e = .returned (.tuple #[.int .i64 (nthOf xs.length a), .bool (nthIs xs.length a)]) ∧ MS W0 w' b g N xs st ∧ Below w.heap.size w w' := by
  by_cases hn : 3 ≤ a ∧ (a - 3) % 5 = 0 ∧ (a - 3) / 5 < manyOf xs.length
  · exact (Nth_ms h a _ rfl hn.1 ha2 hn.2.1 hn.2.2).mono fun e w' ⟨e1, e2⟩ => ⟨by rw [e1, nthOf, nth_yes hn.1 hn.2.1 hn.2.2, if_pos rfl], e2⟩
  · have h0 : NoRec xs.length a := by unfold NoRec; omega
    exact (Nth_ms_no h a ha2 h0).mono fun e w' ⟨e1, e2⟩ => ⟨by rw [e1, nthOf, nth_no h0, if_neg (by decide)], e2⟩
theorem See_f (h : MS W0 w b g N xs st) (a : Int) (ha2 : a ≤ 9223372036854775807) : Calls Try.prog 54 #[.pointer (some ⟨b, 0, none⟩), .int .i64 a] w fun e w' => e = .returned (.tuple #[recV xs a, .bool (nthIs xs.length a)]) ∧ MS W0 w' b g N xs st ∧ Below w.heap.size w w' := by
  by_cases hn : 3 ≤ a ∧ (a - 3) % 5 = 0 ∧ (a - 3) / 5 < manyOf xs.length
  · exact (See_ms h a _ rfl hn.1 ha2 hn.2.1 hn.2.2).mono fun e w' ⟨e1, e2⟩ => ⟨by rw [e1]; simp only [recV, recAt, nth_yes hn.1 hn.2.1 hn.2.2, if_true, Nat.add_zero], e2⟩
  · have h0 : NoRec xs.length a := by unfold NoRec; omega
    exact (See_no h a ha2 h0).mono fun e w' ⟨e1, e2⟩ => ⟨by rw [e1]; simp only [recV, recAt, nth_no h0, if_neg (show ¬ (false = true) by decide)], e2⟩
end
set_option maxHeartbeats 400000 in
theorem rBase_f (k : Int) (w : World) : Calls Try.prog 62 #[.int .i64 k] w fun e w' => e = .returned (.int .i64 (if k < 0 ∨ 1000 < k then 0 else 3 + 5 * k)) ∧ w = w' := by
  by_cases h : k < 0 ∨ 1000 < k
  · rw [if_pos h]
    rcases h with h | h
    all_goals
      go_enter Try.func62, Try.ntmps62
      go_wp2
      go_ret
      exact ⟨rfl, rfl⟩
  · rw [if_neg h]
    have h1 : 0 ≤ k := by omega
    have h2 : k ≤ 1000 := by omega
    clear h
    go_enter Try.func62, Try.ntmps62
    go_wp2
    go_ret
    exact ⟨by first | rfl | (exact ret_int (by omega)), rfl⟩
theorem rBase_in (k : Int) (w : World) (h0 : 0 ≤ k) (h1 : k ≤ 1000) : Calls Try.prog 62 #[.int .i64 k] w fun e w' => e = .returned (.int .i64 (3 + 5 * k)) ∧ w = w' :=
  (rBase_f k w).mono fun e w' ⟨e1, e2⟩ => ⟨by rw [e1, if_neg (by omega)], e2⟩
theorem Base_f (k : Int) (w : World) : Calls Try.prog 37 #[.int .i64 k] w fun e w' => e = .returned (.int .i64 (if k < 0 ∨ 1000 < k then 0 else 3 + 5 * k)) ∧ w = w' := by
  by_cases h : k < 0 ∨ 1000 < k
  · rw [if_pos h]; exact Base_out k w h
  · rw [if_neg h]; exact Base_in k w (by omega) (by omega)
/-- What a cell holds: behind a definition, so that a region's facts may name it though a store turns it. -/
def theCell (w : World) (b j : Nat) : Value := (w.cell? ⟨b, j, none⟩).getD undef
theorem theCell_of {w : World} {b j : Nat} {v : Value} (h : w.cell? ⟨b, j, none⟩ = some v) : w.cell? ⟨b, j, none⟩ = some (theCell w b j) := by unfold theCell; rw [h]; rfl
theorem theCell_is {w : World} {b j : Nat} (h : (w.cell? ⟨b, j, none⟩).isSome = true) : w.cell? ⟨b, j, none⟩ = some (theCell w b j) := by
  obtain ⟨v, hv⟩ := Option.isSome_iff_exists.1 h
  exact theCell_of hv
theorem theCell_kept {w w' : World} {b j : Nat} (hb : Below w.heap.size w w') (hl : b < w.heap.size) (h : w.cell? ⟨b, j, none⟩ = some (theCell w b j)) : w'.cell? ⟨b, j, none⟩ = some (theCell w' b j) :=
  theCell_of ((hb.cell (p := ⟨b, j, none⟩) hl).trans h)
theorem theCell_set {w : World} {b j : Nat} {p : Addr} {u : Value} (h : w.cell? ⟨b, j, none⟩ = some (theCell w b j)) : (w.setCell p u).cell? ⟨b, j, none⟩ = some (theCell (w.setCell p u) b j) := by
  obtain ⟨v, hv⟩ := cell?_setCell_some (p := p) (x := u) h
  exact theCell_of hv
theorem cell_far {w : World} {b j : Nat} {p : Addr} {u v : Value} (hne : b ≠ p.block) (h : w.cell? ⟨b, j, none⟩ = some v) : (w.setCell p u).cell? ⟨b, j, none⟩ = some v :=
  (World.cell?_of_block (Below.heap_setCell _ _ _ _ hne)).trans h
def recV' (xs : List Int) (a : Int) : Value := .agg #[.int .i64 (cellAt xs a), .int .i64 (cellAt xs (a + 1)), .int .i64 (cellAt xs (a + 2)), .int .i64 (cellAt xs (a + 3)), .int .i64 (cellAt xs (a + 4))]
section
variable {w : World} {v : Value} {q : Option Nat} {N st : Int} {xs : List Int}
set_option maxHeartbeats 400000 in
theorem rMany_f (h : RVal w v q N xs st) (hl : xs.length ≤ 1000) : Calls Try.prog 61 #[v] w fun e w' => e = .returned (.int .i64 (manyOf xs.length)) ∧ Below w.heap.size w w' := by
  obtain ⟨ao, cap, rfl, -, -⟩ := h.open
  have hl2 : (xs.length : Int) ≤ 1000 := by omega
  clear h
  by_cases h3 : 3 < xs.length
  · have h4 : (3 : Int) < (xs.length : Int) := by omega
    go_enter Try.func61, Try.ntmps61
    go_wp2
    go_ret
    exact ⟨ret_int (by unfold manyOf; first | omega | (rw [Int.tdiv_eq_ediv_of_nonneg (by omega)]; omega)), by go_grown⟩
  · have h4 : (xs.length : Int) ≤ 3 := by omega
    go_enter Try.func61, Try.ntmps61
    go_wp2
    go_ret
    exact ⟨ret_int (by unfold manyOf; first | omega | (rw [Int.tdiv_eq_ediv_of_nonneg (by omega)]; omega)), by go_grown⟩
set_option maxRecDepth 100000 in
set_option maxHeartbeats 1000000 in
theorem rNth_f (h : RVal w v q N xs st) (hl : xs.length ≤ 1000) (a : Int) : Calls Try.prog 66 #[v, .int .i64 a] w fun e w' => e = .returned (.tuple #[.int .i64 (nthOf xs.length a), .bool (nthIs xs.length a)]) ∧ Below w.heap.size w w' := by
  obtain ⟨ao, cap, rfl, -, -⟩ := h.open
  have H := Lib.hid h
  obtain ⟨M, hM⟩ : ∃ M, manyOf xs.length = M := ⟨_, rfl⟩
  have hm := manyOf_rng hl
  rw [hM] at hm
  obtain ⟨hm0, hm1⟩ := hm
  have HM := Lib.hid hM
  clear h hM
  go_enter Try.func66, Try.ntmps66
  go_wp2
  obtain ⟨rr, hrr⟩ : ∃ r, w.heap.size = r := ⟨_, rfl⟩
  have Hrr := Lib.hid hrr
  obtain ⟨w1, hw1, d0, d1, d2, hB, hz⟩ : ∃ w1, w1 = w.alloc (.cells #[.int .i64 N, .slice ao xs.length cap, .int .i64 st] 35) ∧ w1.cell? ⟨w.heap.size, 0, none⟩ = some (.int .i64 N) ∧ w1.cell? ⟨w.heap.size, 1, none⟩ = some (.slice ao xs.length cap) ∧ w1.cell? ⟨w.heap.size, 2, none⟩ = some (.int .i64 st) ∧ Below w.heap.size w w1 ∧ w.heap.size < w1.heap.size :=
    ⟨_, rfl, by go_simp, by go_simp, by go_simp, by go_grown, by go_simp⟩
  rw [← hw1]
  rw [hrr] at d0 d1 d2 hz ⊢
  clear hw1 hrr
  have HB := Lib.hid (And.intro hB (And.intro d0 (And.intro d1 d2)))
  clear hB d0 d1 d2
  go_loopw [6] (fun j wr => ∃ i : Nat, (i : Int) ≤ M ∧ j = .int .i64 i ∧ Below w.heap.size w wr ∧ rr < wr.heap.size ∧ (wr.cell? ⟨rr, 0, none⟩ = some (.int .i64 N) ∧ wr.cell? ⟨rr, 1, none⟩ = some (.slice ao xs.length cap) ∧ wr.cell? ⟨rr, 2, none⟩ = some (.int .i64 st)) ∧ (∀ k : Nat, k < i → 3 + 5 * (k : Int) ≠ a)) (fun j _ => (M - intOf j).toNat)
  case atStart => exact ⟨0, by omega, rfl, HB.out.1, hz, HB.out.2, fun k hk => by omega⟩
  case round =>
    obtain ⟨i, hi, rfl, hB, hz1, ⟨d0, d1, d2⟩, hne⟩ := hrel
    have HB1 := Lib.hid hB
    have HN := Lib.hid hne
    have i0 : (0 : Int) ≤ (i : Int) := by omega
    clear hB hne HB hz
    go_wp2_with fail
    refine (rMany_f (H.out.below HB1.out) hl).mono ?_
    rintro e w2 ⟨rfl, hb⟩
    rw [HM.out]
    have z2 : rr < w2.heap.size := Nat.lt_of_lt_of_le hz1 hb.size
    have e0 := (hb.cell (p := ⟨rr, 0, none⟩) hz1).trans d0
    have e1 := (hb.cell (p := ⟨rr, 1, none⟩) hz1).trans d1
    have e2 := (hb.cell (p := ⟨rr, 2, none⟩) hz1).trans d2
    have HB2 := Lib.hid (HB1.out.trans (hb.mono HB1.out.size))
    clear d0 d1 d2 hb
    by_cases hlt : (i : Int) < M
    · by_cases he : 3 + 5 * (i : Int) = a
      · have hq : (3 + 5 * (i : Int) == a) = true := beq_iff_eq.2 he
        have he1 : nthIs xs.length a = true := nth_yes (by omega) (by omega) (by rw [HM.out]; omega)
        have he2 : nthOf xs.length a = i := by rw [nthOf, if_pos he1]; omega
        have HE := Lib.hid (And.intro he1 he2)
        clear he he1 he2
        go_wp2_with fail
        refine (rBase_in i _ (by omega) (by omega)).mono ?_
        rintro e w' ⟨rfl, rfl⟩
        go_wp2
        go_ret2
        exact ⟨by rw [HE.out.1, HE.out.2]; rfl, HB2.out⟩
      · have hq : (3 + 5 * (i : Int) == a) = false := beq_eq_false_iff_ne.2 he
        have HE := Lib.hid he
        clear he
        go_wp2_with fail
        refine (rBase_in i _ (by omega) (by omega)).mono ?_
        rintro e w' ⟨rfl, rfl⟩
        go_wp2
        go_roundw
        case rel => exact ⟨i + 1, by omega, by go_num, HB2.out, z2, ⟨e0, e1, e2⟩, fun k hk => by
          by_cases hki : k = i
          · subst hki; exact HE.out
          · exact HN.out k (by omega)⟩
        case measure => simp [intOf]; omega
    · obtain rfl : (i : Int) = M := by omega
      have he1 : nthIs xs.length a = false := by
        rw [nthIs, decide_eq_false_iff_not]
        rintro ⟨h1, h2, h3⟩
        rw [HM.out] at h3
        exact HN.out ((a - 3) / 5).toNat (by omega) (by omega)
      have HE := Lib.hid he1
      clear he1
      go_wp2
      go_ret2
      exact ⟨by rw [nthOf, HE.out]; rfl, HB2.out⟩

set_option maxRecDepth 100000 in
set_option maxHeartbeats 2000000 in
theorem rSee_no (h : RVal w v q N xs st) (hl : xs.length ≤ 1000) (a : Int) (hn : nthIs xs.length a = false) : Calls Try.prog 60 #[v, .int .i64 a] w fun e w' => e = .returned (.tuple #[recV xs a, .bool false]) ∧ Below w.heap.size w w' := by
  have hr : recV xs a = .agg #[.int .i64 0, .int .i64 0, .int .i64 0, .int .i64 0, .int .i64 0] := by simp only [recV, recAt, hn, if_neg (show ¬ (false = true) by decide)]
  have h0 : nthOf xs.length a = 0 := by rw [nthOf, hn]; rfl
  rw [hr]
  have Hn := Lib.hid (And.intro hn h0)
  obtain ⟨ao, cap, rfl, -, -⟩ := h.open
  have H := Lib.hid h
  clear h hn hr h0
  go_enter Try.func60, Try.ntmps60
  go_wp2_with fail
  refine (rNth_f (H.out.below (by go_grown)) hl a).mono ?_
  rintro e w1 ⟨rfl, hb⟩
  rw [Hn.out.1, Hn.out.2]
  have z1 : w.heap.size + 1 < w1.heap.size := by have := hb.size; simp at this; omega
  have c1_5_0 : w1.cell? ⟨w.heap.size + 1, 0, none⟩ = some (.int .i64 0) := (hb.cell (p := ⟨w.heap.size + 1, 0, none⟩) (by first | omega | (simp; omega) | (simp; done))).trans (by go_simp)
  have f1_5_0 : w1.frozen? ⟨w.heap.size + 1, 0, none⟩ = false := (hb.frozen (p := ⟨w.heap.size + 1, 0, none⟩) (by first | omega | (simp; omega) | (simp; done))).trans (by go_simp)
  have c1_5_1 : w1.cell? ⟨w.heap.size + 1, 1, none⟩ = some (.int .i64 0) := (hb.cell (p := ⟨w.heap.size + 1, 1, none⟩) (by first | omega | (simp; omega) | (simp; done))).trans (by go_simp)
  have f1_5_1 : w1.frozen? ⟨w.heap.size + 1, 1, none⟩ = false := (hb.frozen (p := ⟨w.heap.size + 1, 1, none⟩) (by first | omega | (simp; omega) | (simp; done))).trans (by go_simp)
  have c1_5_2 : w1.cell? ⟨w.heap.size + 1, 2, none⟩ = some (.int .i64 0) := (hb.cell (p := ⟨w.heap.size + 1, 2, none⟩) (by first | omega | (simp; omega) | (simp; done))).trans (by go_simp)
  have f1_5_2 : w1.frozen? ⟨w.heap.size + 1, 2, none⟩ = false := (hb.frozen (p := ⟨w.heap.size + 1, 2, none⟩) (by first | omega | (simp; omega) | (simp; done))).trans (by go_simp)
  have c1_5_3 : w1.cell? ⟨w.heap.size + 1, 3, none⟩ = some (.int .i64 0) := (hb.cell (p := ⟨w.heap.size + 1, 3, none⟩) (by first | omega | (simp; omega) | (simp; done))).trans (by go_simp)
  have f1_5_3 : w1.frozen? ⟨w.heap.size + 1, 3, none⟩ = false := (hb.frozen (p := ⟨w.heap.size + 1, 3, none⟩) (by first | omega | (simp; omega) | (simp; done))).trans (by go_simp)
  have c1_5_4 : w1.cell? ⟨w.heap.size + 1, 4, none⟩ = some (.int .i64 0) := (hb.cell (p := ⟨w.heap.size + 1, 4, none⟩) (by first | omega | (simp; omega) | (simp; done))).trans (by go_simp)
  have f1_5_4 : w1.frozen? ⟨w.heap.size + 1, 4, none⟩ = false := (hb.frozen (p := ⟨w.heap.size + 1, 4, none⟩) (by first | omega | (simp; omega) | (simp; done))).trans (by go_simp)
  have B1 : Below w.heap.size w w1 := Below.trans (by go_grown) (hb.mono (by simp; omega))
  clear hb
  go_wp2
  refine bodyPost_ret (v := .tuple #[.agg #[.int .i64 0, .int .i64 0, .int .i64 0, .int .i64 0, .int .i64 0], .bool false]) (by simp [results, Try.results60, go_sem, z1, c1_5_0, c1_5_1, c1_5_2, c1_5_3, c1_5_4]) rfl ⟨rfl, ?_⟩
  exact ((((B1.setCell (by simp) _).setCell (by simp) _).setCell (by simp) _).setCell (by simp) _).setCell (by simp) _
set_option maxRecDepth 100000 in
set_option maxHeartbeats 4000000 in
theorem rSee_yes (h : RVal w v q N xs st) (hl : xs.length ≤ 1000) (a : Int) (hn : nthIs xs.length a = true) : Calls Try.prog 60 #[v, .int .i64 a] w fun e w' => e = .returned (.tuple #[recV xs a, .bool true]) ∧ Below w.heap.size w w' := by
  have hd : 3 ≤ a ∧ (a - 3) % 5 = 0 ∧ (a - 3) / 5 < manyOf xs.length := of_decide_eq_true hn
  have ha : 3 ≤ a := hd.1
  have ha5 : a + 5 ≤ (xs.length : Int) := by have := hd.2; unfold manyOf at this; omega
  have hl2 : (xs.length : Int) ≤ 1000 := by omega
  have hr : recV xs a = recV' xs a := by
    simp only [recV, recV', recAt, hn, if_true]
    rw [cellAt_yes (by omega) (by omega), cellAt_yes (by omega) (by omega), cellAt_yes (by omega) (by omega), cellAt_yes (by omega) (by omega), cellAt_yes (by omega) (by omega), show (a + 1).toNat = a.toNat + 1 by omega, show (a + 2).toNat = a.toNat + 2 by omega, show (a + 3).toNat = a.toNat + 3 by omega, show (a + 4).toNat = a.toNat + 4 by omega, Nat.add_zero]
  have h0 : nthOf xs.length a = (a - 3) / 5 := by rw [nthOf, hn]; rfl
  rw [hr]
  obtain ⟨y0, hy0⟩ : ∃ y, cellAt xs a = y := ⟨_, rfl⟩
  obtain ⟨y1, hy1⟩ : ∃ y, cellAt xs (a + 1) = y := ⟨_, rfl⟩
  obtain ⟨y2, hy2⟩ : ∃ y, cellAt xs (a + 2) = y := ⟨_, rfl⟩
  obtain ⟨y3, hy3⟩ : ∃ y, cellAt xs (a + 3) = y := ⟨_, rfl⟩
  obtain ⟨y4, hy4⟩ : ∃ y, cellAt xs (a + 4) = y := ⟨_, rfl⟩
  unfold recV'
  rw [hy0, hy1, hy2, hy3, hy4]
  have Hn := Lib.hid (And.intro hn h0)
  obtain ⟨ao, cap, rfl, -, -⟩ := h.open
  have H := Lib.hid h
  have c0 := Lib.hid (fun (w1 : World) (hb : Below w.heap.size w w1) => hy0 ▸ rAt_f (h.below hb) a)
  have c1 := Lib.hid (fun (w1 : World) (hb : Below w.heap.size w w1) => hy1 ▸ rAt_f (h.below hb) (a + 1))
  have c2 := Lib.hid (fun (w1 : World) (hb : Below w.heap.size w w1) => hy2 ▸ rAt_f (h.below hb) (a + 2))
  have c3 := Lib.hid (fun (w1 : World) (hb : Below w.heap.size w w1) => hy3 ▸ rAt_f (h.below hb) (a + 3))
  have c4 := Lib.hid (fun (w1 : World) (hb : Below w.heap.size w w1) => hy4 ▸ rAt_f (h.below hb) (a + 4))
  have hs := Lib.hid (show IntKind.i64.wrap (a + 1) = a + 1 ∧ IntKind.i64.wrap (a + 2) = a + 2 ∧ IntKind.i64.wrap (a + 3) = a + 3 ∧ IntKind.i64.wrap (a + 4) = a + 4 from ⟨IntWalk.i64_in _ (by omega), IntWalk.i64_in _ (by omega), IntWalk.i64_in _ (by omega), IntWalk.i64_in _ (by omega)⟩)
  clear h hn hr h0 hd hy0 hy1 hy2 hy3 hy4
  go_enter Try.func60, Try.ntmps60
  go_wp2_with fail
  refine (rNth_f (H.out.below (by go_grown)) hl a).mono ?_
  rintro e w1 ⟨rfl, hb⟩
  rw [Hn.out.1, Hn.out.2]
  have z1 : w.heap.size + 1 < w1.heap.size := by have := hb.size; simp at this; omega
  have z0 : w.heap.size < w1.heap.size := by omega
  have c1_5_0 : w1.cell? ⟨w.heap.size + 1, 0, none⟩ = some (.int .i64 0) := (hb.cell (p := ⟨w.heap.size + 1, 0, none⟩) (by first | omega | (simp; omega) | (simp; done))).trans (by go_simp)
  have f1_5_0 : w1.frozen? ⟨w.heap.size + 1, 0, none⟩ = false := (hb.frozen (p := ⟨w.heap.size + 1, 0, none⟩) (by first | omega | (simp; omega) | (simp; done))).trans (by go_simp)
  have c1_5_1 : w1.cell? ⟨w.heap.size + 1, 1, none⟩ = some (.int .i64 0) := (hb.cell (p := ⟨w.heap.size + 1, 1, none⟩) (by first | omega | (simp; omega) | (simp; done))).trans (by go_simp)
  have f1_5_1 : w1.frozen? ⟨w.heap.size + 1, 1, none⟩ = false := (hb.frozen (p := ⟨w.heap.size + 1, 1, none⟩) (by first | omega | (simp; omega) | (simp; done))).trans (by go_simp)
  have c1_5_2 : w1.cell? ⟨w.heap.size + 1, 2, none⟩ = some (.int .i64 0) := (hb.cell (p := ⟨w.heap.size + 1, 2, none⟩) (by first | omega | (simp; omega) | (simp; done))).trans (by go_simp)
  have f1_5_2 : w1.frozen? ⟨w.heap.size + 1, 2, none⟩ = false := (hb.frozen (p := ⟨w.heap.size + 1, 2, none⟩) (by first | omega | (simp; omega) | (simp; done))).trans (by go_simp)
  have c1_5_3 : w1.cell? ⟨w.heap.size + 1, 3, none⟩ = some (.int .i64 0) := (hb.cell (p := ⟨w.heap.size + 1, 3, none⟩) (by first | omega | (simp; omega) | (simp; done))).trans (by go_simp)
  have f1_5_3 : w1.frozen? ⟨w.heap.size + 1, 3, none⟩ = false := (hb.frozen (p := ⟨w.heap.size + 1, 3, none⟩) (by first | omega | (simp; omega) | (simp; done))).trans (by go_simp)
  have c1_5_4 : w1.cell? ⟨w.heap.size + 1, 4, none⟩ = some (.int .i64 0) := (hb.cell (p := ⟨w.heap.size + 1, 4, none⟩) (by first | omega | (simp; omega) | (simp; done))).trans (by go_simp)
  have f1_5_4 : w1.frozen? ⟨w.heap.size + 1, 4, none⟩ = false := (hb.frozen (p := ⟨w.heap.size + 1, 4, none⟩) (by first | omega | (simp; omega) | (simp; done))).trans (by go_simp)
  have c1_3_0 : w1.cell? ⟨w.heap.size, 0, none⟩ = some (.int .i64 N) := (hb.cell (p := ⟨w.heap.size, 0, none⟩) (by first | omega | (simp; omega) | (simp; done))).trans (by go_simp)
  have c1_3_1 : w1.cell? ⟨w.heap.size, 1, none⟩ = some (.slice ao xs.length cap) := (hb.cell (p := ⟨w.heap.size, 1, none⟩) (by first | omega | (simp; omega) | (simp; done))).trans (by go_simp)
  have c1_3_2 : w1.cell? ⟨w.heap.size, 2, none⟩ = some (.int .i64 st) := (hb.cell (p := ⟨w.heap.size, 2, none⟩) (by first | omega | (simp; omega) | (simp; done))).trans (by go_simp)
  have B1 : Below w.heap.size w w1 := Below.trans (by go_grown) (hb.mono (by simp; omega))
  clear hb
  go_wp2
  go_region_held3 (fun w2 => Below w.heap.size w w2 ∧ w1.heap.size ≤ w2.heap.size ∧ w2.cell? ⟨w.heap.size, 0, none⟩ = some (.int .i64 N) ∧ w2.cell? ⟨w.heap.size, 1, none⟩ = some (.slice ao xs.length cap) ∧ w2.cell? ⟨w.heap.size, 2, none⟩ = some (.int .i64 st) ∧ w2.cell? ⟨w.heap.size + 1, 0, none⟩ = some (theCell w2 (w.heap.size + 1) 0) ∧ w2.frozen? ⟨w.heap.size + 1, 0, none⟩ = false ∧ w2.cell? ⟨w.heap.size + 1, 1, none⟩ = some (theCell w2 (w.heap.size + 1) 1) ∧ w2.frozen? ⟨w.heap.size + 1, 1, none⟩ = false ∧ w2.cell? ⟨w.heap.size + 1, 2, none⟩ = some (theCell w2 (w.heap.size + 1) 2) ∧ w2.frozen? ⟨w.heap.size + 1, 2, none⟩ = false ∧ w2.cell? ⟨w.heap.size + 1, 3, none⟩ = some (theCell w2 (w.heap.size + 1) 3) ∧ w2.frozen? ⟨w.heap.size + 1, 3, none⟩ = false ∧ w2.cell? ⟨w.heap.size + 1, 4, none⟩ = some (theCell w2 (w.heap.size + 1) 4) ∧ w2.frozen? ⟨w.heap.size + 1, 4, none⟩ = false)
    (first | (go_split_ands; refine ⟨?_, ?_, ?_, ?_, ?_, ?_, ?_, ?_, ?_, ?_, ?_, ?_, ?_, ?_, ?_⟩ <;> first | ((with_reducible refine Below.setCell ?_ ?_ _) <;> (repeat' (with_reducible refine Below.setCell ?_ ?_ _)) <;> first | (with_reducible assumption) | (simp; done)) | ((with_reducible refine theCell_set ?_); (repeat (with_reducible refine theCell_set ?_)); (with_reducible assumption)) | ((with_reducible refine cell_far ?_ ?_) <;> (repeat' (with_reducible refine cell_far ?_ ?_)) <;> first | (with_reducible assumption) | (simp; done) | (simp; omega)) | (simp [*]; done) | (simp; omega)) | (go_split_ands; refine ⟨?_, ?_, ?_, ?_, ?_, ?_, ?_, ?_, ?_, ?_, ?_, ?_, ?_, ?_, ?_⟩ <;> first | (with_reducible assumption) | (have := hb.size; omega) | ((with_reducible refine (hb.cell ?_).trans ?_); (first | omega | (simp; omega)); (with_reducible assumption)) | ((with_reducible refine (hb.frozen ?_).trans ?_); (first | omega | (simp; omega)); (with_reducible assumption)) | ((with_reducible refine theCell_kept hb ?_ ?_); (first | omega | (simp; omega)); (with_reducible assumption)) | (exact Below.trans (by with_reducible assumption) (hb.mono (by omega)))) | ((with_reducible show Below _ _ (World.drew _) ∧ _); exact ⟨B1.drew, Nat.le_refl _, c1_3_0, c1_3_1, c1_3_2, theCell_of c1_5_0, f1_5_0, theCell_of c1_5_1, f1_5_1, theCell_of c1_5_2, f1_5_2, theCell_of c1_5_3, f1_5_3, theCell_of c1_5_4, f1_5_4⟩))
    (first | (go_at_call_of 59 (Value.int .i64 a); go_split_ands; refine (c0.out _ (by assumption)).mono ?_; rintro e w' ⟨rfl, hb⟩) | (go_at_call 59; go_split_ands; (first | (rw [hs.out.1]; refine (c1.out _ (by assumption)).mono ?_) | (rw [hs.out.2.1]; refine (c2.out _ (by assumption)).mono ?_) | (rw [hs.out.2.2.1]; refine (c3.out _ (by assumption)).mono ?_) | (rw [hs.out.2.2.2]; refine (c4.out _ (by assumption)).mono ?_)); rintro e w' ⟨rfl, hb⟩))
  all_goals
    go_split_ands
    go_wp2
    have q0 := theCell_kept (b := w.heap.size + 1) (j := 0) hb (by omega) (by with_reducible assumption)
    have q1 := theCell_kept (b := w.heap.size + 1) (j := 1) hb (by omega) (by with_reducible assumption)
    have q2 := theCell_kept (b := w.heap.size + 1) (j := 2) hb (by omega) (by with_reducible assumption)
    have q3 := theCell_kept (b := w.heap.size + 1) (j := 3) hb (by omega) (by with_reducible assumption)
    have q4 := theCell_kept (b := w.heap.size + 1) (j := 4) hb (by omega) (by with_reducible assumption)
    refine bodyPost_ret (v := .tuple #[.agg #[.int .i64 y0, .int .i64 y1, .int .i64 y2, .int .i64 y3, .int .i64 y4], .bool true]) (by simp [results, Try.results60, go_sem, q0, q1, q2, q3, q4]) rfl ⟨rfl, by with_reducible assumption⟩
theorem rSee_f (h : RVal w v q N xs st) (hl : xs.length ≤ 1000) (a : Int) : Calls Try.prog 60 #[v, .int .i64 a] w fun e w' => e = .returned (.tuple #[recV xs a, .bool (nthIs xs.length a)]) ∧ Below w.heap.size w w' := by
  cases hn : nthIs xs.length a
  · exact rSee_no h hl a hn
  · exact rSee_yes h hl a hn

end

end Go.Proofs.Ytnpkhkfhlpopbaa
