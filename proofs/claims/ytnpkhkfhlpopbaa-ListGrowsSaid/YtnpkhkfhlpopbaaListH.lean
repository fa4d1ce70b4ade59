/- Who is stale, of package list. -/
import Derived.Test.YtnpkhkfhlpopbaaListG
import Derived.Test.YtnpkhkfhlpopbaaRef14B
namespace Go.Proofs.Ytnpkhkfhlpopbaa
set_option linter.unusedSimpArgs false
set_option linter.unusedVariables false
open Go.RowKit
open Go.ChangeShapes Go.WideShapes Go.ChangeAt

theorem staleL_drop (X : List Int) (age : Int) : staleL X age = ((reachL X).1.drop 1).filter (staleB X age) := rfl
theorem reachL_len (X : List Int) (hl : X.length ≤ 1000) : (reachL X).1.length ≤ 1002 := by
  rw [← reachC_eq X hl]
  unfold reachC
  split
  · rw [List.length_map]; exact chnF_length _ _ _ _
  · simp
set_option maxRecDepth 100000 in
set_option maxHeartbeats 1000000 in
theorem Stale_f (W0 w : World) (b : Nat) (g : Option Nat) (N st : Int) (X : List Int) (age : Int) (h : MS W0 w b g N X st) :
    Calls Try.prog 22 #[.pointer (some ⟨b, 0, none⟩), .int .i64 age] w fun e w' => ∃ v, e = .returned v ∧ Sl w' v (staleL X age) ∧ Below w.heap.size w w' := by
  have H := Lib.hid h
  have hl := h.len
  have hlen := reachL_len X hl
  rw [staleL_drop, ← reachC_eq X hl]
  rw [← reachC_eq X hl] at hlen
  clear h
  go_enter Try.func22, Try.ntmps22
  go_wp2_with fail
  refine (look_f W0 _ b g N st X (H.out.below (by go_grown))).mono ?_
  rintro e w1 ⟨ao, cap, M, rfl, row1, map1, hb1⟩
  generalize hA : w.heap.size = A at *
  have A1 : w1.heap[A]? = some (.cells #[.int .i64 age] 3 (0, 0)) := (hb1.block A (by simp; omega)).trans (by rw [← hA]; exact heap_alloc_new _ _)
  have B1 : Below A w w1 := by rw [← hA]; exact Below.trans (by go_grown) (hb1.mono (by simp))
  have H1 := Lib.hid (And.intro A1 (And.intro B1 (And.intro row1.sl map1)))
  have hA1 : A < w1.heap.size := (Array.getElem?_eq_some_iff.1 A1).1
  clear A1 B1 hb1 row1 map1
  go_wp2_with fail
  generalize hB : w1.heap.size = B
  generalize hW2 : World.alloc _ _ = W2
  have A2 : W2.heap[B]? = some (.cells #[.slice ao X.length cap, .map (some M)] 69 (0, 0)) := by rw [← hW2]; exact alloc_at hB _
  have B2 : Below w1.heap.size w1 W2 := by rw [← hW2]; go_grown
  have HV := Lib.hid (And.intro ((B2.block A hA1).trans H1.out.1) (And.intro (H1.out.2.1.trans (B2.mono (by omega))) (show VAt W2 B ao cap M X from ⟨A2, H1.out.2.2.2.below B2, H1.out.2.2.1.below B2⟩)))
  clear hW2 A2 B2
  refine (reachV_f W2 ao cap M X hl HV.out.2.2.sl HV.out.2.2.mp).mono ?_
  rintro e w3 ⟨u, rfl, hi, ho, hb3⟩
  have A3 := (hb3.block A (Array.getElem?_eq_some_iff.1 HV.out.1).1).trans HV.out.1
  have B3 := HV.out.2.1.trans (hb3.mono (by have := HV.out.2.1.size; omega))
  have V3 := HV.out.2.2.below hb3
  obtain ⟨LS, hLS⟩ : ∃ LS, (reachC X).1 = LS := ⟨_, rfl⟩
  obtain ⟨ok, hok⟩ : ∃ LS, (reachC X).2 = LS := ⟨_, rfl⟩
  rw [hLS] at hi hlen
  rw [hok]
  have hBM : B < W2.heap.size := HV.out.2.2.lt
  have hMM : M < W2.heap.size := HV.out.2.2.mp.lt
  have hAW : A < W2.heap.size := (Array.getElem?_eq_some_iff.1 HV.out.1).1
  have hsW : ∀ b off, ao = some ⟨b, off, none⟩ → 0 < X.length → b < W2.heap.size := fun b off e hp => by
    obtain ⟨ao', cap', e1, hc⟩ := HV.out.2.2.sl
    simp only [Value.slice.injEq] at e1
    obtain ⟨b', off', e2, e3, -⟩ := hc hp
    rw [← e1.1, e] at e2
    cases e2
    exact e3
  have HW := Lib.hid (And.intro A3 (And.intro B3 (And.intro V3 (And.intro hi hsW))))
  have HL := Lib.hid (And.intro hlen (And.intro ho hLS))
  clear A3 B3 V3 hLS hok hb3 hsW hlen ho
  rcases Nat.eq_zero_or_pos LS.length with h0 | hp
  · have e0 : LS = [] := List.eq_nil_of_length_eq_zero h0
    obtain ⟨ao', cap', rfl⟩ := hi.shape
    clear hi
    have HE := Lib.hid e0
    rw [e0]
    clear e0 h0
    simp only [List.length_nil]
    cases ao' with
    | none =>
      go_wp2_with fail
      refine (DeleteFunc_nil_s _ none cap' _ _).mono ?_
      rintro e w4 ⟨rfl, hb4⟩
      go_wp2
      go_ret
      exact ⟨_, rfl, by rw [HL.out.2.2, HE.out]; exact ⟨_, _, rfl, fun hp => absurd hp (by simp)⟩, by rw [hA]; exact HW.out.2.1.trans (hb4.mono (by have := HW.out.2.1.size; omega))⟩
    | some p =>
      go_wp2_with fail
      refine (DeleteFunc_nil_s _ (some p) cap' _ _).mono ?_
      rintro e w4 ⟨rfl, hb4⟩
      go_wp2
      go_ret
      exact ⟨_, rfl, by rw [HL.out.2.2, HE.out]; exact ⟨_, _, rfl, fun hp => absurd hp (by simp)⟩, by rw [hA]; exact HW.out.2.1.trans (hb4.mono (by have := HW.out.2.1.size; omega))⟩
  · obtain ⟨G, c9, cur, e9, hg, -, hle, -⟩ := hi.pos hp
    obtain ⟨G2, c2, e2, hR⟩ := hi.rowO hp
    rw [e9] at e2
    simp only [Value.slice.injEq, Option.some.injEq, Addr.mk.injEq, and_true, true_and] at e2
    obtain ⟨rfl, rfl⟩ := e2
    subst e9
    have hG := HL.out.2.1 G rfl
    have hR1 := hR.drop1 hp
    have HR := Lib.hid (And.intro hR1 hle)
    clear hi hR hR1 hg
    obtain ⟨n, hn⟩ : ∃ n, LS.length = n := ⟨_, rfl⟩
    rw [hn]
    have hn9 : n ≤ c9 := by omega
    rcases Nat.lt_or_ge 1 n with h1 | h1
    · have h1' : (1 : Int) < (n : Int) := by omega
      have hd : (LS.drop 1).length = n - 1 := by rw [List.length_drop, hn]
      have key := Lib.hid (DeleteFunc_s w3 G 1 (c9 - 1) (LS.drop 1) (.pointer (some ⟨B, 0, none⟩)) (.pointer (some ⟨A, 0, none⟩)) (fun a => !staleB X age a) (fun u => VAt u B ao cap M X ∧ u.heap[A]? = some (.cells #[.int .i64 age] 3 (0, 0))) (fun u x hu => Stale1_f u B M A cap ao X x age hu.1 hu.2 hl) (fun u u' hu hb => ⟨hu.1.below hb, (hb.block A (Array.getElem?_eq_some_iff.1 hu.2).1).trans hu.2⟩) (fun u u' hu hk => ⟨VAt.keptG hu.1 hk (by omega) (by omega) (fun b off e hp => by have := HW.out.2.2.2.2 b off e hp; omega), (hk.block A (Array.getElem?_eq_some_iff.1 hu.2).1 (by omega)).trans hu.2⟩) HR.out.1 ⟨HW.out.2.2.1, HW.out.1⟩ (by rw [hd]; have := HL.out.1; omega) (by rw [hd]; omega) (by omega))
      rw [hd] at key
      go_wp2_with fail
      refine key.out.mono ?_
      rintro e w4 ⟨i, rfl, hsl, hk⟩
      go_wp2
      go_ret
      refine ⟨_, rfl, ?_, by rw [hA]; exact HW.out.2.1.trans (hk.below (by have := HW.out.2.1.size; omega) (fun k h1 h2 => by omega))⟩
      rw [HL.out.2.2]
      have e : ((LS.drop 1).filter fun x => !(!staleB X age x)) = (LS.drop 1).filter (staleB X age) := by simp
      rw [← e]
      exact hsl
    · obtain rfl : n = 1 := by omega
      have hd : LS.drop 1 = [] := List.drop_eq_nil_of_le (by omega)
      rcases Nat.lt_or_ge 1 c9 with h9 | h9
      · have h9' : ¬ c9 = 1 := by omega
        go_wp2_with fail
        refine (DeleteFunc_nil_s _ _ _ _ _).mono ?_
        rintro e w4 ⟨rfl, hb4⟩
        go_wp2
        go_ret
        exact ⟨_, rfl, by rw [HL.out.2.2, hd]; exact ⟨_, _, rfl, fun hp => absurd hp (by simp)⟩, by rw [hA]; exact HW.out.2.1.trans (hb4.mono (by have := HW.out.2.1.size; omega))⟩
      · obtain rfl : c9 = 1 := by omega
        go_wp2_with fail
        refine (DeleteFunc_nil_s _ _ _ _ _).mono ?_
        rintro e w4 ⟨rfl, hb4⟩
        go_wp2
        go_ret
        exact ⟨_, rfl, by rw [HL.out.2.2, hd]; exact ⟨_, _, rfl, fun hp => absurd hp (by simp)⟩, by rw [hA]; exact HW.out.2.1.trans (hb4.mono (by have := HW.out.2.1.size; omega))⟩

end Go.Proofs.Ytnpkhkfhlpopbaa
