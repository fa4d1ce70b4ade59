/- CellsRoom: there are never more cells than the size; new ones stand behind all others; what is not there is told, and does not count: the law returns true for every input. -/
import Derived.Test.YtepkpfnghgocgaaMsAny
import Derived.Test.YtepkpfnghgocgaaSlices
import Derived.Test.YtepkpfnghgocgaaFrame
import Derived.Deep.RegionHeld3
import Derived.Deep.QuietTactic
import Derived.BigQuiet
namespace Go.Proofs.Ytepkpfnghgocgaa
set_option linter.unusedSimpArgs false
set_option linter.unusedVariables false
open Go.RowKit
open Go.ChangeShapes Go.WideShapes Go.ChangeAt

theorem Swap_ms_in {W0 w : World} {b : Nat} {g : Option Nat} {N st : Int} {xs : List Int} (h : MS W0 w b g N xs st) (a o y : Int) (h0 : 0 ≤ a) (h1 : a < xs.length) (s1 : st < 1000000) :
    Calls Try.prog 22 #[.pointer (some ⟨b, 0, none⟩), .int .i64 a, .int .i64 o, .int .i64 y] w fun e w' => ∃ r, e = .returned (.tuple #[.bool r, .int .u16 0]) ∧ ∃ ys, MS W0 w' b g N ys (st + 1) ∧ ys.length = xs.length := by
  by_cases ho : xs.getD a.toNat 0 = o
  · exact (Swap_ms_hit h a o y h0 h1 ho s1).mono fun e w' ⟨e1, e2, _⟩ => ⟨_, e1, _, e2, by simp⟩
  · exact (Swap_ms_miss h a o y h0 h1 ho s1).mono fun e w' ⟨e1, e2, _⟩ => ⟨_, e1, xs, e2, rfl⟩

set_option maxRecDepth 100000 in
set_option maxHeartbeats 4000000 in
theorem cellsRoom_a (size at1 : Int) (l : Value) (ls : List Int) (w : World) (hs : size ≤ 0) (hl : InSlice .u8 w l ls) :
    Calls Try.prog 5 #[.int .i64 size, l, .int .i64 at1] w fun e w' => e = .returned (.bool true) ∧ Below w.heap.size w w' := by
  obtain ⟨ao, cap, rfl, hwf, hmax, hcells⟩ := hl
  have Hc := Lib.hid (And.intro hwf hcells)
  clear hwf hcells
  have hN : capOf size = 0 := by unfold capOf; omega
  by_cases h60 : 60 < ls.length
  · have h60' : (60 : Int) < (ls.length : Int) := by omega
    go_enter Try.func5, Try.ntmps5
    go_wp2_with fail
    refine (New_ms size w _ (Below.refl _ _)).mono ?_
    rintro e w1 ⟨rfl, m1, -⟩
    have B1 := m1.B
    clear m1
    go_wp2_with fail
    refine (known2_any _).mono ?_
    rintro e w2 ⟨rfl, hb⟩
    go_wp2
    go_ret
    exact ⟨by first | rfl | (simp; done), B1.trans (hb.mono B1.size)⟩
  · have h60' : (ls.length : Int) ≤ 60 := by omega
    go_enter Try.func5, Try.ntmps5
    go_wp2_with fail
    refine (New_ms size w _ (Below.refl _ _)).mono ?_
    rintro e w1 ⟨rfl, m1, -⟩
    rw [hN] at m1
    have Hw := Lib.hid hN
    clear hN
    obtain ⟨bb, hbb⟩ : ∃ bb, w.heap.size = bb := ⟨_, rfl⟩
    have Hbb := Lib.hid hbb
    rw [hbb] at m1 ⊢
    clear hbb
    go_wp2
    go_loopw [9, 10, 11] (fun p q j wr => ∃ (k : Nat) (g : Option Nat) (xs : List Int) (st : Int), k ≤ ls.length ∧ p = .int .i64 xs.length ∧ q = .int .i64 st ∧ j = .int .i64 k ∧ MS w wr bb g 0 xs st ∧ st ≤ k) (fun _ _ j _ => ls.length - (intOf j).toNat)
    case atStart => exact ⟨0, none, [], 0, Nat.zero_le _, rfl, rfl, rfl, m1, by omega⟩
    case round =>
      obtain ⟨k, g, xs, st, hk, rfl, rfl, rfl, m, hst⟩ := hrel
      have s0 : 0 ≤ st := m.2.2.2.2.2.2.2
      have t0 : (0 : Int) ≤ (xs.length : Int) := by omega
      have t1 : (xs.length : Int) ≤ 0 := m.2.2.2.2.2.2.1
      have t2 : (xs.length : Int) ≤ 1000 := by omega
      clear m1
      by_cases hlt : k < ls.length
      · obtain ⟨bk, off, rfl, hbk, hcs⟩ := Hc.out.2 (by omega)
        have hc0 : w.cell? ⟨bk, off + k, none⟩ = some (.int .u8 (ls.getD k 0)) := hcs k hlt
        have hx0 := bounds_u8 (wf_getD Hc.out.1 k hlt)
        have hc1 := (m.B.cell (p := ⟨bk, off + k, none⟩) hbk).trans hc0
        clear hcs hc0
        obtain ⟨x, hx⟩ : ∃ x, ls.getD k 0 = x := ⟨_, rfl⟩
        rw [hx] at hc1 hx0
        clear hx
        have i1 : (0 : Int) ≤ (k : Int) := by omega
        have i2 : (k : Int) < (ls.length : Int) := by omega
        obtain ⟨A, hA⟩ : ∃ A, x % 32 = A := ⟨_, rfl⟩
        have a1 : 0 ≤ A := by omega
        have a2 : A < 32 := by omega
        obtain ⟨x0, x1⟩ := hx0
        by_cases hin : (xs.length : Int) + A ≤ 0
        · have hAl := Alloc_ms m A a1 (by omega) (by omega)
          go_wp2_with fail
          refine hAl.mono ?_
          rintro e w3 ⟨g3, rfl, m3, -, -⟩
          clear hAl m hc1
          go_wp2
          go_roundw
          case rel => exact ⟨k + 1, g3, _, _, by omega, by rw [List.length_append, List.length_replicate]; go_num, by go_num, by go_num, m3, by omega⟩
          case measure => simp [intOf]; omega
        · have hin' : 0 < (xs.length : Int) + A := by omega
          have hAl := Alloc_ms_full m A a1 (by omega)
          go_wp2_with fail
          refine hAl.mono ?_
          rintro e w3 ⟨rfl, m3, -⟩
          clear hAl m hc1
          go_wp2
          go_roundw
          case rel => exact ⟨k + 1, g, _, _, by omega, rfl, rfl, by go_num, m3, by omega⟩
          case measure => simp [intOf]; omega
      · obtain rfl : k = ls.length := by omega
        go_wp2_with fail
        refine (Load_ms_no m _ (.inr (Int.le_refl _))).mono ?_
        rintro e w3 ⟨rfl, m3, -⟩
        clear m
        go_wp2_with fail
        refine (Store_ms_no m3 (-1) 5 (.inl (by omega))).mono ?_
        rintro e w4 ⟨rfl, m4, -⟩
        clear m3
        by_cases hat : 0 ≤ at1 ∧ at1 < (xs.length : Int)
        · obtain ⟨at2, at3⟩ := hat
          go_wp2_with fail
          refine (Swap_ms_in m4 at1 0 0 at2 at3 (by omega)).mono ?_
          rintro e w5 ⟨r5, rfl, ys, m5, hl5⟩
          clear m4
          go_wp2_with fail
          refine (Alloc_ms_neg m5 (-1) (by omega)).mono ?_
          rintro e w6 ⟨rfl, m6, -⟩
          clear m5
          go_wp2_with fail
          refine (known2_any _).mono ?_
          rintro e w7 ⟨rfl, hb⟩
          have m7 := m6.below hb
          clear m6 hb
          go_wp2_with fail
          have ct := Top_ms m7
          rw [show (ys.length : Int) = (xs.length : Int) by omega] at ct
          refine ct.mono ?_
          rintro e w8 ⟨rfl, m8, -⟩
          clear m7 ct
          go_wp2_with fail
          refine (Steps_ms m8).mono ?_
          rintro e w9 ⟨rfl, rfl⟩
          go_wp2
          go_ret
          exact ⟨by first | rfl | (simp; done) | (simp; omega), m8.B⟩
        · have hat2 : at1 < 0 ∨ (xs.length : Int) ≤ at1 := by omega
          clear hat
          rcases hat2 with hat2 | hat2
          all_goals
            go_wp2_with fail
            refine (Swap_ms_no m4 at1 0 0 (by omega)).mono ?_
            rintro e w5 ⟨rfl, m5, -⟩
            clear m4
            go_wp2_with fail
            refine (Alloc_ms_neg m5 (-1) (by omega)).mono ?_
            rintro e w6 ⟨rfl, m6, -⟩
            clear m5
            go_wp2_with fail
            refine (known2_any _).mono ?_
            rintro e w7 ⟨rfl, hb⟩
            have m7 := m6.below hb
            clear m6 hb
            go_wp2_with fail
            have ct := Top_ms m7
            refine ct.mono ?_
            rintro e w8 ⟨rfl, m8, -⟩
            clear m7 ct
            go_wp2_with fail
            refine (Steps_ms m8).mono ?_
            rintro e w9 ⟨rfl, rfl⟩
            go_wp2
            go_ret
            exact ⟨by first | rfl | (simp; done) | (simp; omega), m8.B⟩

set_option maxRecDepth 100000 in
set_option maxHeartbeats 4000000 in
theorem cellsRoom_b (size at1 : Int) (l : Value) (ls : List Int) (w : World) (hs : 0 < size) (hs2 : size ≤ 1000) (hl : InSlice .u8 w l ls) :
    Calls Try.prog 5 #[.int .i64 size, l, .int .i64 at1] w fun e w' => e = .returned (.bool true) ∧ Below w.heap.size w w' := by
  obtain ⟨ao, cap, rfl, hwf, hmax, hcells⟩ := hl
  have Hc := Lib.hid (And.intro hwf hcells)
  clear hwf hcells
  have hN : capOf size = size := by unfold capOf; omega
  by_cases h60 : 60 < ls.length
  · have h60' : (60 : Int) < (ls.length : Int) := by omega
    go_enter Try.func5, Try.ntmps5
    go_wp2_with fail
    refine (New_ms size w _ (Below.refl _ _)).mono ?_
    rintro e w1 ⟨rfl, m1, -⟩
    have B1 := m1.B
    clear m1
    go_wp2_with fail
    refine (known2_any _).mono ?_
    rintro e w2 ⟨rfl, hb⟩
    go_wp2
    go_ret
    exact ⟨by first | rfl | (simp; done), B1.trans (hb.mono B1.size)⟩
  · have h60' : (ls.length : Int) ≤ 60 := by omega
    go_enter Try.func5, Try.ntmps5
    go_wp2_with fail
    refine (New_ms size w _ (Below.refl _ _)).mono ?_
    rintro e w1 ⟨rfl, m1, -⟩
    rw [hN] at m1
    have Hw := Lib.hid hN
    clear hN
    obtain ⟨bb, hbb⟩ : ∃ bb, w.heap.size = bb := ⟨_, rfl⟩
    have Hbb := Lib.hid hbb
    rw [hbb] at m1 ⊢
    clear hbb
    go_wp2
    go_loopw [9, 10, 11] (fun p q j wr => ∃ (k : Nat) (g : Option Nat) (xs : List Int) (st : Int), k ≤ ls.length ∧ p = .int .i64 xs.length ∧ q = .int .i64 st ∧ j = .int .i64 k ∧ MS w wr bb g size xs st ∧ st ≤ k) (fun _ _ j _ => ls.length - (intOf j).toNat)
    case atStart => exact ⟨0, none, [], 0, Nat.zero_le _, rfl, rfl, rfl, m1, by omega⟩
    case round =>
      obtain ⟨k, g, xs, st, hk, rfl, rfl, rfl, m, hst⟩ := hrel
      have s0 : 0 ≤ st := m.2.2.2.2.2.2.2
      have t0 : (0 : Int) ≤ (xs.length : Int) := by omega
      have t1 : (xs.length : Int) ≤ size := m.2.2.2.2.2.2.1
      have t2 : (xs.length : Int) ≤ 1000 := by omega
      clear m1
      by_cases hlt : k < ls.length
      · obtain ⟨bk, off, rfl, hbk, hcs⟩ := Hc.out.2 (by omega)
        have hc0 : w.cell? ⟨bk, off + k, none⟩ = some (.int .u8 (ls.getD k 0)) := hcs k hlt
        have hx0 := bounds_u8 (wf_getD Hc.out.1 k hlt)
        have hc1 := (m.B.cell (p := ⟨bk, off + k, none⟩) hbk).trans hc0
        clear hcs hc0
        obtain ⟨x, hx⟩ : ∃ x, ls.getD k 0 = x := ⟨_, rfl⟩
        rw [hx] at hc1 hx0
        clear hx
        have i1 : (0 : Int) ≤ (k : Int) := by omega
        have i2 : (k : Int) < (ls.length : Int) := by omega
        obtain ⟨A, hA⟩ : ∃ A, x % 32 = A := ⟨_, rfl⟩
        have a1 : 0 ≤ A := by omega
        have a2 : A < 32 := by omega
        obtain ⟨x0, x1⟩ := hx0
        by_cases hin : (xs.length : Int) + A ≤ size
        · have hAl := Alloc_ms m A a1 (by omega) (by omega)
          go_wp2_with fail
          refine hAl.mono ?_
          rintro e w3 ⟨g3, rfl, m3, -, -⟩
          clear hAl m hc1
          go_wp2
          go_roundw
          case rel => exact ⟨k + 1, g3, _, _, by omega, by rw [List.length_append, List.length_replicate]; go_num, by go_num, by go_num, m3, by omega⟩
          case measure => simp [intOf]; omega
        · have hin' : size < (xs.length : Int) + A := by omega
          have hAl := Alloc_ms_full m A a1 (by omega)
          go_wp2_with fail
          refine hAl.mono ?_
          rintro e w3 ⟨rfl, m3, -⟩
          clear hAl m hc1
          go_wp2
          go_roundw
          case rel => exact ⟨k + 1, g, _, _, by omega, rfl, rfl, by go_num, m3, by omega⟩
          case measure => simp [intOf]; omega
      · obtain rfl : k = ls.length := by omega
        go_wp2_with fail
        refine (Load_ms_no m _ (.inr (Int.le_refl _))).mono ?_
        rintro e w3 ⟨rfl, m3, -⟩
        clear m
        go_wp2_with fail
        refine (Store_ms_no m3 (-1) 5 (.inl (by omega))).mono ?_
        rintro e w4 ⟨rfl, m4, -⟩
        clear m3
        by_cases hat : 0 ≤ at1 ∧ at1 < (xs.length : Int)
        · obtain ⟨at2, at3⟩ := hat
          go_wp2_with fail
          refine (Swap_ms_in m4 at1 0 0 at2 at3 (by omega)).mono ?_
          rintro e w5 ⟨r5, rfl, ys, m5, hl5⟩
          clear m4
          go_wp2_with fail
          refine (Alloc_ms_neg m5 (-1) (by omega)).mono ?_
          rintro e w6 ⟨rfl, m6, -⟩
          clear m5
          go_wp2_with fail
          refine (known2_any _).mono ?_
          rintro e w7 ⟨rfl, hb⟩
          have m7 := m6.below hb
          clear m6 hb
          go_wp2_with fail
          have ct := Top_ms m7
          rw [show (ys.length : Int) = (xs.length : Int) by omega] at ct
          refine ct.mono ?_
          rintro e w8 ⟨rfl, m8, -⟩
          clear m7 ct
          go_wp2_with fail
          refine (Steps_ms m8).mono ?_
          rintro e w9 ⟨rfl, rfl⟩
          go_wp2
          go_ret
          exact ⟨by first | rfl | (simp; done) | (simp; omega), m8.B⟩
        · have hat2 : at1 < 0 ∨ (xs.length : Int) ≤ at1 := by omega
          clear hat
          rcases hat2 with hat2 | hat2
          all_goals
            go_wp2_with fail
            refine (Swap_ms_no m4 at1 0 0 (by omega)).mono ?_
            rintro e w5 ⟨rfl, m5, -⟩
            clear m4
            go_wp2_with fail
            refine (Alloc_ms_neg m5 (-1) (by omega)).mono ?_
            rintro e w6 ⟨rfl, m6, -⟩
            clear m5
            go_wp2_with fail
            refine (known2_any _).mono ?_
            rintro e w7 ⟨rfl, hb⟩
            have m7 := m6.below hb
            clear m6 hb
            go_wp2_with fail
            have ct := Top_ms m7
            refine ct.mono ?_
            rintro e w8 ⟨rfl, m8, -⟩
            clear m7 ct
            go_wp2_with fail
            refine (Steps_ms m8).mono ?_
            rintro e w9 ⟨rfl, rfl⟩
            go_wp2
            go_ret
            exact ⟨by first | rfl | (simp; done) | (simp; omega), m8.B⟩

set_option maxRecDepth 100000 in
set_option maxHeartbeats 4000000 in
theorem cellsRoom_c (size at1 : Int) (l : Value) (ls : List Int) (w : World) (hs : 1000 < size) (hl : InSlice .u8 w l ls) :
    Calls Try.prog 5 #[.int .i64 size, l, .int .i64 at1] w fun e w' => e = .returned (.bool true) ∧ Below w.heap.size w w' := by
  obtain ⟨ao, cap, rfl, hwf, hmax, hcells⟩ := hl
  have Hc := Lib.hid (And.intro hwf hcells)
  clear hwf hcells
  have hN : capOf size = 1000 := by unfold capOf; omega
  by_cases h60 : 60 < ls.length
  · have h60' : (60 : Int) < (ls.length : Int) := by omega
    go_enter Try.func5, Try.ntmps5
    go_wp2_with fail
    refine (New_ms size w _ (Below.refl _ _)).mono ?_
    rintro e w1 ⟨rfl, m1, -⟩
    have B1 := m1.B
    clear m1
    go_wp2_with fail
    refine (known2_any _).mono ?_
    rintro e w2 ⟨rfl, hb⟩
    go_wp2
    go_ret
    exact ⟨by first | rfl | (simp; done), B1.trans (hb.mono B1.size)⟩
  · have h60' : (ls.length : Int) ≤ 60 := by omega
    go_enter Try.func5, Try.ntmps5
    go_wp2_with fail
    refine (New_ms size w _ (Below.refl _ _)).mono ?_
    rintro e w1 ⟨rfl, m1, -⟩
    rw [hN] at m1
    have Hw := Lib.hid hN
    clear hN
    obtain ⟨bb, hbb⟩ : ∃ bb, w.heap.size = bb := ⟨_, rfl⟩
    have Hbb := Lib.hid hbb
    rw [hbb] at m1 ⊢
    clear hbb
    go_wp2
    go_loopw [9, 10, 11] (fun p q j wr => ∃ (k : Nat) (g : Option Nat) (xs : List Int) (st : Int), k ≤ ls.length ∧ p = .int .i64 xs.length ∧ q = .int .i64 st ∧ j = .int .i64 k ∧ MS w wr bb g 1000 xs st ∧ st ≤ k) (fun _ _ j _ => ls.length - (intOf j).toNat)
    case atStart => exact ⟨0, none, [], 0, Nat.zero_le _, rfl, rfl, rfl, m1, by omega⟩
    case round =>
      obtain ⟨k, g, xs, st, hk, rfl, rfl, rfl, m, hst⟩ := hrel
      have s0 : 0 ≤ st := m.2.2.2.2.2.2.2
      have t0 : (0 : Int) ≤ (xs.length : Int) := by omega
      have t1 : (xs.length : Int) ≤ 1000 := m.2.2.2.2.2.2.1
      have t2 : (xs.length : Int) ≤ 1000 := by omega
      clear m1
      by_cases hlt : k < ls.length
      · obtain ⟨bk, off, rfl, hbk, hcs⟩ := Hc.out.2 (by omega)
        have hc0 : w.cell? ⟨bk, off + k, none⟩ = some (.int .u8 (ls.getD k 0)) := hcs k hlt
        have hx0 := bounds_u8 (wf_getD Hc.out.1 k hlt)
        have hc1 := (m.B.cell (p := ⟨bk, off + k, none⟩) hbk).trans hc0
        clear hcs hc0
        obtain ⟨x, hx⟩ : ∃ x, ls.getD k 0 = x := ⟨_, rfl⟩
        rw [hx] at hc1 hx0
        clear hx
        have i1 : (0 : Int) ≤ (k : Int) := by omega
        have i2 : (k : Int) < (ls.length : Int) := by omega
        obtain ⟨A, hA⟩ : ∃ A, x % 32 = A := ⟨_, rfl⟩
        have a1 : 0 ≤ A := by omega
        have a2 : A < 32 := by omega
        obtain ⟨x0, x1⟩ := hx0
        by_cases hin : (xs.length : Int) + A ≤ 1000
        · have hAl := Alloc_ms m A a1 (by omega) (by omega)
          go_wp2_with fail
          refine hAl.mono ?_
          rintro e w3 ⟨g3, rfl, m3, -, -⟩
          clear hAl m hc1
          go_wp2
          go_roundw
          case rel => exact ⟨k + 1, g3, _, _, by omega, by rw [List.length_append, List.length_replicate]; go_num, by go_num, by go_num, m3, by omega⟩
          case measure => simp [intOf]; omega
        · have hin' : 1000 < (xs.length : Int) + A := by omega
          have hAl := Alloc_ms_full m A a1 (by omega)
          go_wp2_with fail
          refine hAl.mono ?_
          rintro e w3 ⟨rfl, m3, -⟩
          clear hAl m hc1
          go_wp2
          go_roundw
          case rel => exact ⟨k + 1, g, _, _, by omega, rfl, rfl, by go_num, m3, by omega⟩
          case measure => simp [intOf]; omega
      · obtain rfl : k = ls.length := by omega
        go_wp2_with fail
        refine (Load_ms_no m _ (.inr (Int.le_refl _))).mono ?_
        rintro e w3 ⟨rfl, m3, -⟩
        clear m
        go_wp2_with fail
        refine (Store_ms_no m3 (-1) 5 (.inl (by omega))).mono ?_
        rintro e w4 ⟨rfl, m4, -⟩
        clear m3
        by_cases hat : 0 ≤ at1 ∧ at1 < (xs.length : Int)
        · obtain ⟨at2, at3⟩ := hat
          go_wp2_with fail
          refine (Swap_ms_in m4 at1 0 0 at2 at3 (by omega)).mono ?_
          rintro e w5 ⟨r5, rfl, ys, m5, hl5⟩
          clear m4
          go_wp2_with fail
          refine (Alloc_ms_neg m5 (-1) (by omega)).mono ?_
          rintro e w6 ⟨rfl, m6, -⟩
          clear m5
          go_wp2_with fail
          refine (known2_any _).mono ?_
          rintro e w7 ⟨rfl, hb⟩
          have m7 := m6.below hb
          clear m6 hb
          go_wp2_with fail
          have ct := Top_ms m7
          rw [show (ys.length : Int) = (xs.length : Int) by omega] at ct
          refine ct.mono ?_
          rintro e w8 ⟨rfl, m8, -⟩
          clear m7 ct
          go_wp2_with fail
          refine (Steps_ms m8).mono ?_
          rintro e w9 ⟨rfl, rfl⟩
          go_wp2
          go_ret
          exact ⟨by first | rfl | (simp; done) | (simp; omega), m8.B⟩
        · have hat2 : at1 < 0 ∨ (xs.length : Int) ≤ at1 := by omega
          clear hat
          rcases hat2 with hat2 | hat2
          all_goals
            go_wp2_with fail
            refine (Swap_ms_no m4 at1 0 0 (by omega)).mono ?_
            rintro e w5 ⟨rfl, m5, -⟩
            clear m4
            go_wp2_with fail
            refine (Alloc_ms_neg m5 (-1) (by omega)).mono ?_
            rintro e w6 ⟨rfl, m6, -⟩
            clear m5
            go_wp2_with fail
            refine (known2_any _).mono ?_
            rintro e w7 ⟨rfl, hb⟩
            have m7 := m6.below hb
            clear m6 hb
            go_wp2_with fail
            have ct := Top_ms m7
            refine ct.mono ?_
            rintro e w8 ⟨rfl, m8, -⟩
            clear m7 ct
            go_wp2_with fail
            refine (Steps_ms m8).mono ?_
            rintro e w9 ⟨rfl, rfl⟩
            go_wp2
            go_ret
            exact ⟨by first | rfl | (simp; done) | (simp; omega), m8.B⟩

theorem cellsRoom_any (size at1 : Int) (l : Value) (ls : List Int) (w : World) (hl : InSlice .u8 w l ls) :
    Calls Try.prog 5 #[.int .i64 size, l, .int .i64 at1] w fun e w' => e = .returned (.bool true) ∧ Below w.heap.size w w' := by
  by_cases h1 : size ≤ 0
  · exact cellsRoom_a size at1 l ls w h1 hl
  · by_cases h2 : size ≤ 1000
    · exact cellsRoom_b size at1 l ls w (by omega) h2 hl
    · exact cellsRoom_c size at1 l ls w (by omega) hl

theorem Try.resTypes5 : Try.f5.resultTypes = #[4] := by kernel_rfl
theorem cellsRoom_rdint : Try.prog.readableRec 3 = true ∧ 3 < Try.prog.types.size := ⟨by kernel_rfl, of_decide_eq_true (by kernel_rfl)⟩
theorem cellsRoom_rdbytes : Try.prog.readableRec 41 = true ∧ 41 < Try.prog.types.size := ⟨by kernel_rfl, of_decide_eq_true (by kernel_rfl)⟩
set_option maxRecDepth 100000 in
theorem cellsRoom_lifted (os : Os) (started : os.Started) (H : Type) (enc : TypeId × Value → H) :
    ReturnsInHanded {} Try.checked os 5 .any (Rows.cellsRoomSpec.pre6 enc Try.prog Try.f5 Rows.cellsRoomRow.domain false) (Rows.cellsRoomSpec.post enc Try.prog Try.f5 false true false false) := by
  refine law_lifted (C := Try.checked) (T := 4) Try.own started (by kernel_rfl) Try.func5
    (ChangeSpec.witness6 (enc := enc) (C := Try.checked) false ⟨#[], #[.int .i64 0, .slice none 0 0, .int .i64 0], []⟩ 8 (by kernel_rfl) (by kernel_rfl) (by kernel_rfl) (by kernel_rfl))
    Try.laidOut (fun t ht => ?_) Try.resTypes5 Try.underlying4 rfl (fun ds hd => ?_) ?_
  · rw [Try.params5] at ht
    exact (show ∀ t ∈ [3, 41, 3], Try.prog.readableRec t = true ∧ t < Try.prog.types.size from List.forall_mem_cons.2 ⟨cellsRoom_rdint, List.forall_mem_cons.2 ⟨cellsRoom_rdbytes, List.forall_mem_cons.2 ⟨cellsRoom_rdint, fun _ h => by cases h⟩⟩⟩) t ht
  · rw [Try.params5] at hd
    match ds, hd with
    | [e0, e1, e2], _ => rfl
  · intro W base args ds p hval0 hA0
    have hval : ∀ (j : Nat) t v, Try.f5.params[j]? = some t → args[j]? = some v → Value.okWide Try.prog W .any base t v := hval0
    have hA : DataW.TrodAll enc Try.prog W 0 (fun _ => true) true Try.f5.params.toList args.toList ds p := hA0
    rw [Try.params5] at hA hval
    obtain ⟨v0, vs0, d0, ds0, p0, q0, hargs, rfl, rfl, h0, r0⟩ := trodAll_cons hA
    obtain ⟨v1, vs1, d1, ds1, p1, q1, rfl, rfl, rfl, h1, r1⟩ := trodAll_cons r0
    obtain ⟨v2, vs2, d2, ds2, p2, q2, rfl, rfl, rfl, h2, r2⟩ := trodAll_cons r1
    obtain ⟨rfl, rfl, rfl⟩ := trodAll_nil r2
    obtain rfl : args = #[v0, v1, v2] := by cases args; simp_all
    obtain ⟨n, rfl, _, _, wn⟩ := open_int Try.underlying3 (hval 0 3 v0 rfl rfl) h0
    have bn := bounds_i64 wn
    obtain ⟨l, sl⟩ := open_inslice (k := .u8) Try.underlying41 Try.underlying5 (by kernel_rfl) (hval 1 41 v1 rfl rfl) h1
    obtain ⟨a, rfl, _, _, wa⟩ := open_int Try.underlying3 (hval 2 3 v2 rfl rfl) h2
    have ba := bounds_i64 wa
    exact cellsRoom_any n a v1 l W sl

/-- CellsRoom: for every input the call returns true. -/
theorem cellsRoom_said : Rows.CellsRoomSaid :=
  OpenClaim.holds_of_wide 5 Try.f5 rfl rfl rfl rfl rfl rfl rfl ⟨rfl, rfl, rfl, rfl, rfl⟩ rfl rfl rfl rfl rfl (by as_aux_lemma => kernel_rfl) Try.func5 (by as_aux_lemma => kernel_rfl)
    (of_decide_eq_true (by as_aux_lemma => kernel_rfl)) (by unfold Func.isWrapper; first | (rw [if_pos (by decide +kernel)]; kernel_rfl) | (rw [if_neg (by decide +kernel)]; exact ⟨rfl, rfl⟩))
    (fun os started H enc _ => cellsRoom_lifted os started H enc)
#print axioms cellsRoom_said

end Go.Proofs.Ytepkpfnghgocgaa
