/- RecordPlaces: records stand one behind the other, from 3 on; each is told by its address, and no other number is one's: the law returns true for every input. -/
import Derived.Test.YtepkpfnghgocgaaRec
import Derived.Test.YtepkpfnghgocgaaFrame
namespace Go.Proofs.Ytepkpfnghgocgaa
set_option linter.unusedSimpArgs false
set_option linter.unusedVariables false
open Go.RowKit
open Go.ChangeShapes Go.WideShapes Go.ChangeAt

theorem Base_out_b (k : Int) (w : World) (h : k < 0 ∨ 1000 < k) : Calls Try.prog 19 #[.int .i64 k] w fun e w' => e = .returned (.int .i64 0) ∧ Below w.heap.size w w' :=
  (Base_out k w h).mono fun e w' ⟨h1, h2⟩ => ⟨h1, h2 ▸ Below.refl _ _⟩
set_option maxRecDepth 100000 in
set_option maxHeartbeats 8000000 in
theorem recordPlaces_core (n a v K : Int) (w : World) (n1 : 0 ≤ n) (n2 : n ≤ 255) (a1 : -9223372036854775808 ≤ a) (a2 : a ≤ 9223372036854775807) (hK : 1 + n % 64 = K) (k1 : 1 ≤ K) (k2 : K ≤ 64) :
    Calls Try.prog 7 #[.int .u8 n, .int .i64 a, .int .i64 v] w fun e w' => e = .returned (.bool true) ∧ Below w.heap.size w w' := by
  go_enter Try.func7, Try.ntmps7
  go_wp2_with fail
  refine (Open_ms K w w (Below.refl _ _) k1 k2).mono ?_
  rintro e w1 ⟨g0, rfl, m2, -⟩
  obtain ⟨bb, hbb⟩ : ∃ bb, w.heap.size = bb := ⟨_, rfl⟩
  have Hbb := Lib.hid hbb
  rw [hbb] at m2 ⊢
  clear hbb
  go_wp2
  go_loopw [9] (fun j wr => ∃ (i : Nat) (g : Option Nat) (xs : List Int) (st : Int), (i : Int) ≤ K ∧ j = .int .i64 i ∧ MS w wr bb g (3 + 5 * K) xs st ∧ (xs.length : Int) = 3 + 5 * i ∧ (∀ j, xs.getD j 0 = 0) ∧ st ≤ i + 1) (fun j _ => (K - intOf j).toNat)
  case atStart => exact ⟨0, g0, [0, 0, 0], 1, by omega, rfl, m2, rfl, getD_rep 3, by omega⟩
  case round =>
    obtain ⟨i, g, xs, st, hi, rfl, m, hlen, hz, hst⟩ := hrel
    have s0 : 0 ≤ st := m.2.2.2.2.2.2.2
    clear m2
    have Hlen := Lib.hid (And.intro hlen hz)
    have i0 : (0 : Int) ≤ (i : Int) := by omega
    clear hlen hz
    by_cases hlt : (i : Int) < K
    · have hAl := Alloc_ms m 5 (by omega) (by have := Hlen.out.1; omega) (by omega)
      rw [Hlen.out.1] at hAl
      go_wp2_with fail
      refine hAl.mono ?_
      rintro e w3 ⟨g3, rfl, m3, -, -⟩
      clear hAl m
      have hl3 : ((xs ++ List.replicate (5 : Int).toNat 0).length : Int) = 3 + 5 * (i + 1 : Nat) := by rw [List.length_append, List.length_replicate]; have := Hlen.out.1; omega
      have hz3 : ∀ j, (xs ++ List.replicate (5 : Int).toNat 0).getD j 0 = 0 := by
        intro j
        have := Hlen.out.2 j
        simp only [List.getD, List.getElem?_append, List.getElem?_replicate] at this ⊢
        split
        · exact this
        · split <;> rfl
      obtain ⟨ys, hys⟩ : ∃ l, xs ++ List.replicate (5 : Int).toNat 0 = l := ⟨_, rfl⟩
      rw [hys] at m3 hl3 hz3
      have Hl3 := Lib.hid (And.intro hl3 hz3)
      clear hys hl3 hz3
      go_wp2_with fail
      refine (Base_in i _ (by omega) (by omega)).mono ?_
      rintro e w' ⟨rfl, rfl⟩
      go_wp2_with fail
      have cc := Many_ms m3
      rw [show manyOf ys.length = i + 1 from by have := Hl3.out.1; unfold manyOf; omega] at cc
      refine cc.mono ?_
      rintro e w4 ⟨rfl, m4, -⟩
      clear m3 cc
      go_wp2_with fail
      refine (Nth_ms m4 (3 + 5 * i) i (by omega) (by omega) (by omega) (by omega) (by have := Hl3.out.1; unfold manyOf; omega)).mono ?_
      rintro e w5 ⟨rfl, m5, -⟩
      clear m4
      go_wp2
      go_roundw
      case rel => exact ⟨i + 1, g3, ys, _, by omega, by go_num, m5, Hl3.out.1, Hl3.out.2, by omega⟩
      case measure => simp [intOf]; omega
    · obtain rfl : (i : Int) = K := by omega
      have hmany : manyOf xs.length = i := by have := Hlen.out.1; unfold manyOf; omega
      have Hm := Lib.hid hmany
      clear hmany
      have hAl := Alloc_ms_full m 1 (by omega) (by have := Hlen.out.1; omega)
      go_wp2_with fail
      refine hAl.mono ?_
      rintro e w3 ⟨rfl, m3, -⟩
      clear hAl m
      have hcases : a < 3 ∨ (3 ≤ a ∧ 3 + 5 * (i : Int) ≤ a) ∨ (3 ≤ a ∧ a < 3 + 5 * (i : Int) ∧ (a - 3) % 5 = 0) ∨ (3 ≤ a ∧ a < 3 + 5 * (i : Int) ∧ ¬ (a - 3) % 5 = 0) := by omega
      rcases hcases with c1 | ⟨c1, c2⟩ | ⟨c1, c2, c3⟩ | ⟨c1, c2, c3⟩
      · go_wp2_with fail
        refine (Nth_ms_no m3 a a2 (.inl c1)).mono ?_
        rintro e w4 ⟨rfl, m4, -⟩
        clear m3
        go_wp2_with fail
        refine (Base_in (i - 1) _ (by omega) (by omega)).mono ?_
        rintro e w' ⟨rfl, rfl⟩
        go_wp2_with fail
        refine (Store_ms m4 (3 + 5 * (i - 1) + 2) v (by omega) (by have := Hlen.out.1; omega) (by omega)).mono ?_
        rintro e w5 ⟨rfl, m5, -⟩
        clear m4
        have Hy : RowKit.Hid ((xs.set (3 + 5 * ((i : Int) - 1) + 2).toNat v).getD (3 + 5 * ((i : Int) - 1)).toNat 0 = 0 ∧ (xs.set (3 + 5 * ((i : Int) - 1) + 2).toNat v).getD ((3 + 5 * ((i : Int) - 1)).toNat + 1) 0 = 0 ∧ (xs.set (3 + 5 * ((i : Int) - 1) + 2).toNat v).getD ((3 + 5 * ((i : Int) - 1)).toNat + 2) 0 = v ∧ (xs.set (3 + 5 * ((i : Int) - 1) + 2).toNat v).getD ((3 + 5 * ((i : Int) - 1)).toNat + 3) 0 = 0 ∧ (xs.set (3 + 5 * ((i : Int) - 1) + 2).toNat v).getD ((3 + 5 * ((i : Int) - 1)).toNat + 4) 0 = 0) :=
          ⟨(getD_set_ne _ _ _ _ (by omega)).trans (Hlen.out.2 _), (getD_set_ne _ _ _ _ (by omega)).trans (Hlen.out.2 _), (show (3 + 5 * ((i : Int) - 1) + 2).toNat = (3 + 5 * ((i : Int) - 1)).toNat + 2 by omega) ▸ getD_set_self xs _ v (by have := Hlen.out.1; omega), (getD_set_ne _ _ _ _ (by omega)).trans (Hlen.out.2 _), (getD_set_ne _ _ _ _ (by omega)).trans (Hlen.out.2 _)⟩
        go_wp2_with fail
        refine (Base_in (i - 1) _ (by omega) (by omega)).mono ?_
        rintro e w' ⟨rfl, rfl⟩
        go_wp2_with fail
        refine (See_core m5 (3 + 5 * (i - 1)) (i - 1) 0 0 v 0 0 Hy (by omega) (by omega) (by omega) (by omega) (by rw [List.length_set, Hm.out]; omega)).mono ?_
        rintro e w6 ⟨rfl, m6, -⟩
        clear m5
        have B6 := m6.B
        have Z6 : bb < w6.heap.size := m6.mem.lt
        clear m6
        go_wp2_with fail
        refine (known13_any _).mono ?_
        rintro e w7 ⟨rfl, hb7⟩
        have z7 : w6.heap.size < w7.heap.size := by have := hb7.size; first | omega | (simp at this; omega)
        have B7 : Below w6.heap.size w6 w7 := Below.trans (by go_grown) (hb7.mono (by first | omega | (simp; omega) | (simp; done)))
        have c7_0_0 : w7.cell? ⟨w6.heap.size, 0, none⟩ = some (.int .i64 0) := (hb7.cell (p := ⟨w6.heap.size, 0, none⟩) (by first | omega | (simp; omega) | (simp; done))).trans (by go_simp)
        have c7_0_1 : w7.cell? ⟨w6.heap.size, 1, none⟩ = some (.int .i64 0) := (hb7.cell (p := ⟨w6.heap.size, 1, none⟩) (by first | omega | (simp; omega) | (simp; done))).trans (by go_simp)
        have c7_0_2 : w7.cell? ⟨w6.heap.size, 2, none⟩ = some (.int .i64 v) := (hb7.cell (p := ⟨w6.heap.size, 2, none⟩) (by first | omega | (simp; omega) | (simp; done))).trans (by go_simp)
        have c7_0_3 : w7.cell? ⟨w6.heap.size, 3, none⟩ = some (.int .i64 0) := (hb7.cell (p := ⟨w6.heap.size, 3, none⟩) (by first | omega | (simp; omega) | (simp; done))).trans (by go_simp)
        have c7_0_4 : w7.cell? ⟨w6.heap.size, 4, none⟩ = some (.int .i64 0) := (hb7.cell (p := ⟨w6.heap.size, 4, none⟩) (by first | omega | (simp; omega) | (simp; done))).trans (by go_simp)
        clear hb7
        go_wp2_with fail
        refine (Base_out (-1) _ (by omega)).mono ?_
        rintro e w' ⟨rfl, rfl⟩
        go_wp2_with fail
        refine (Base_out 1001 _ (by omega)).mono ?_
        rintro e w' ⟨rfl, rfl⟩
        go_wp2
        go_ret
        exact ⟨by first | rfl | (simp; done) | (simp; omega), Below.trans B6 (B7.mono B6.size)⟩
      · go_wp2_with fail
        refine (Nth_ms_no m3 a a2 (by exact .inr (.inr (by rw [Hm.out]; omega)))).mono ?_
        rintro e w4 ⟨rfl, m4, -⟩
        clear m3
        go_wp2_with fail
        refine (Base_in (i - 1) _ (by omega) (by omega)).mono ?_
        rintro e w' ⟨rfl, rfl⟩
        go_wp2_with fail
        refine (Store_ms m4 (3 + 5 * (i - 1) + 2) v (by omega) (by have := Hlen.out.1; omega) (by omega)).mono ?_
        rintro e w5 ⟨rfl, m5, -⟩
        clear m4
        have Hy : RowKit.Hid ((xs.set (3 + 5 * ((i : Int) - 1) + 2).toNat v).getD (3 + 5 * ((i : Int) - 1)).toNat 0 = 0 ∧ (xs.set (3 + 5 * ((i : Int) - 1) + 2).toNat v).getD ((3 + 5 * ((i : Int) - 1)).toNat + 1) 0 = 0 ∧ (xs.set (3 + 5 * ((i : Int) - 1) + 2).toNat v).getD ((3 + 5 * ((i : Int) - 1)).toNat + 2) 0 = v ∧ (xs.set (3 + 5 * ((i : Int) - 1) + 2).toNat v).getD ((3 + 5 * ((i : Int) - 1)).toNat + 3) 0 = 0 ∧ (xs.set (3 + 5 * ((i : Int) - 1) + 2).toNat v).getD ((3 + 5 * ((i : Int) - 1)).toNat + 4) 0 = 0) :=
          ⟨(getD_set_ne _ _ _ _ (by omega)).trans (Hlen.out.2 _), (getD_set_ne _ _ _ _ (by omega)).trans (Hlen.out.2 _), (show (3 + 5 * ((i : Int) - 1) + 2).toNat = (3 + 5 * ((i : Int) - 1)).toNat + 2 by omega) ▸ getD_set_self xs _ v (by have := Hlen.out.1; omega), (getD_set_ne _ _ _ _ (by omega)).trans (Hlen.out.2 _), (getD_set_ne _ _ _ _ (by omega)).trans (Hlen.out.2 _)⟩
        go_wp2_with fail
        refine (Base_in (i - 1) _ (by omega) (by omega)).mono ?_
        rintro e w' ⟨rfl, rfl⟩
        go_wp2_with fail
        refine (See_core m5 (3 + 5 * (i - 1)) (i - 1) 0 0 v 0 0 Hy (by omega) (by omega) (by omega) (by omega) (by rw [List.length_set, Hm.out]; omega)).mono ?_
        rintro e w6 ⟨rfl, m6, -⟩
        clear m5
        have B6 := m6.B
        have Z6 : bb < w6.heap.size := m6.mem.lt
        clear m6
        go_wp2_with fail
        refine (known13_any _).mono ?_
        rintro e w7 ⟨rfl, hb7⟩
        have z7 : w6.heap.size < w7.heap.size := by have := hb7.size; first | omega | (simp at this; omega)
        have B7 : Below w6.heap.size w6 w7 := Below.trans (by go_grown) (hb7.mono (by first | omega | (simp; omega) | (simp; done)))
        have c7_0_0 : w7.cell? ⟨w6.heap.size, 0, none⟩ = some (.int .i64 0) := (hb7.cell (p := ⟨w6.heap.size, 0, none⟩) (by first | omega | (simp; omega) | (simp; done))).trans (by go_simp)
        have c7_0_1 : w7.cell? ⟨w6.heap.size, 1, none⟩ = some (.int .i64 0) := (hb7.cell (p := ⟨w6.heap.size, 1, none⟩) (by first | omega | (simp; omega) | (simp; done))).trans (by go_simp)
        have c7_0_2 : w7.cell? ⟨w6.heap.size, 2, none⟩ = some (.int .i64 v) := (hb7.cell (p := ⟨w6.heap.size, 2, none⟩) (by first | omega | (simp; omega) | (simp; done))).trans (by go_simp)
        have c7_0_3 : w7.cell? ⟨w6.heap.size, 3, none⟩ = some (.int .i64 0) := (hb7.cell (p := ⟨w6.heap.size, 3, none⟩) (by first | omega | (simp; omega) | (simp; done))).trans (by go_simp)
        have c7_0_4 : w7.cell? ⟨w6.heap.size, 4, none⟩ = some (.int .i64 0) := (hb7.cell (p := ⟨w6.heap.size, 4, none⟩) (by first | omega | (simp; omega) | (simp; done))).trans (by go_simp)
        clear hb7
        go_wp2_with fail
        refine (Base_out (-1) _ (by omega)).mono ?_
        rintro e w' ⟨rfl, rfl⟩
        go_wp2_with fail
        refine (Base_out 1001 _ (by omega)).mono ?_
        rintro e w' ⟨rfl, rfl⟩
        go_wp2
        go_ret
        exact ⟨by first | rfl | (simp; done) | (simp; omega), Below.trans B6 (B7.mono B6.size)⟩
      · go_wp2_with fail
        refine (Nth_ms m3 a _ rfl c1 a2 c3 (by rw [Hm.out]; omega)).mono ?_
        rintro e w4 ⟨rfl, m4, -⟩
        clear m3
        go_wp2_with fail
        refine (Base_in (i - 1) _ (by omega) (by omega)).mono ?_
        rintro e w' ⟨rfl, rfl⟩
        go_wp2_with fail
        refine (Store_ms m4 (3 + 5 * (i - 1) + 2) v (by omega) (by have := Hlen.out.1; omega) (by omega)).mono ?_
        rintro e w5 ⟨rfl, m5, -⟩
        clear m4
        have Hy : RowKit.Hid ((xs.set (3 + 5 * ((i : Int) - 1) + 2).toNat v).getD (3 + 5 * ((i : Int) - 1)).toNat 0 = 0 ∧ (xs.set (3 + 5 * ((i : Int) - 1) + 2).toNat v).getD ((3 + 5 * ((i : Int) - 1)).toNat + 1) 0 = 0 ∧ (xs.set (3 + 5 * ((i : Int) - 1) + 2).toNat v).getD ((3 + 5 * ((i : Int) - 1)).toNat + 2) 0 = v ∧ (xs.set (3 + 5 * ((i : Int) - 1) + 2).toNat v).getD ((3 + 5 * ((i : Int) - 1)).toNat + 3) 0 = 0 ∧ (xs.set (3 + 5 * ((i : Int) - 1) + 2).toNat v).getD ((3 + 5 * ((i : Int) - 1)).toNat + 4) 0 = 0) :=
          ⟨(getD_set_ne _ _ _ _ (by omega)).trans (Hlen.out.2 _), (getD_set_ne _ _ _ _ (by omega)).trans (Hlen.out.2 _), (show (3 + 5 * ((i : Int) - 1) + 2).toNat = (3 + 5 * ((i : Int) - 1)).toNat + 2 by omega) ▸ getD_set_self xs _ v (by have := Hlen.out.1; omega), (getD_set_ne _ _ _ _ (by omega)).trans (Hlen.out.2 _), (getD_set_ne _ _ _ _ (by omega)).trans (Hlen.out.2 _)⟩
        go_wp2_with fail
        refine (Base_in (i - 1) _ (by omega) (by omega)).mono ?_
        rintro e w' ⟨rfl, rfl⟩
        go_wp2_with fail
        refine (See_core m5 (3 + 5 * (i - 1)) (i - 1) 0 0 v 0 0 Hy (by omega) (by omega) (by omega) (by omega) (by rw [List.length_set, Hm.out]; omega)).mono ?_
        rintro e w6 ⟨rfl, m6, -⟩
        clear m5
        have B6 := m6.B
        have Z6 : bb < w6.heap.size := m6.mem.lt
        clear m6
        go_wp2_with fail
        refine (known13_any _).mono ?_
        rintro e w7 ⟨rfl, hb7⟩
        have z7 : w6.heap.size < w7.heap.size := by have := hb7.size; first | omega | (simp at this; omega)
        have B7 : Below w6.heap.size w6 w7 := Below.trans (by go_grown) (hb7.mono (by first | omega | (simp; omega) | (simp; done)))
        have c7_0_0 : w7.cell? ⟨w6.heap.size, 0, none⟩ = some (.int .i64 0) := (hb7.cell (p := ⟨w6.heap.size, 0, none⟩) (by first | omega | (simp; omega) | (simp; done))).trans (by go_simp)
        have c7_0_1 : w7.cell? ⟨w6.heap.size, 1, none⟩ = some (.int .i64 0) := (hb7.cell (p := ⟨w6.heap.size, 1, none⟩) (by first | omega | (simp; omega) | (simp; done))).trans (by go_simp)
        have c7_0_2 : w7.cell? ⟨w6.heap.size, 2, none⟩ = some (.int .i64 v) := (hb7.cell (p := ⟨w6.heap.size, 2, none⟩) (by first | omega | (simp; omega) | (simp; done))).trans (by go_simp)
        have c7_0_3 : w7.cell? ⟨w6.heap.size, 3, none⟩ = some (.int .i64 0) := (hb7.cell (p := ⟨w6.heap.size, 3, none⟩) (by first | omega | (simp; omega) | (simp; done))).trans (by go_simp)
        have c7_0_4 : w7.cell? ⟨w6.heap.size, 4, none⟩ = some (.int .i64 0) := (hb7.cell (p := ⟨w6.heap.size, 4, none⟩) (by first | omega | (simp; omega) | (simp; done))).trans (by go_simp)
        clear hb7
        go_wp2_with fail
        refine (Base_out (-1) _ (by omega)).mono ?_
        rintro e w' ⟨rfl, rfl⟩
        go_wp2_with fail
        refine (Base_out 1001 _ (by omega)).mono ?_
        rintro e w' ⟨rfl, rfl⟩
        go_wp2
        go_ret
        exact ⟨by first | rfl | (simp; done) | (simp; omega), Below.trans B6 (B7.mono B6.size)⟩
      · have C3 := Lib.hid c3
        obtain ⟨o, ho⟩ : ∃ o, (a - 3) % 5 = o := ⟨_, rfl⟩
        rw [ho] at c3
        have c4 : (o == 0) = false := by rw [beq_eq_false_iff_ne]; exact c3
        clear c3
        go_wp2_with fail
        refine (Nth_ms_no m3 a a2 (.inr (.inl C3.out))).mono ?_
        rintro e w4 ⟨rfl, m4, -⟩
        clear m3
        go_wp2_with fail
        refine (Base_in (i - 1) _ (by omega) (by omega)).mono ?_
        rintro e w' ⟨rfl, rfl⟩
        go_wp2_with fail
        refine (Store_ms m4 (3 + 5 * (i - 1) + 2) v (by omega) (by have := Hlen.out.1; omega) (by omega)).mono ?_
        rintro e w5 ⟨rfl, m5, -⟩
        clear m4
        have Hy : RowKit.Hid ((xs.set (3 + 5 * ((i : Int) - 1) + 2).toNat v).getD (3 + 5 * ((i : Int) - 1)).toNat 0 = 0 ∧ (xs.set (3 + 5 * ((i : Int) - 1) + 2).toNat v).getD ((3 + 5 * ((i : Int) - 1)).toNat + 1) 0 = 0 ∧ (xs.set (3 + 5 * ((i : Int) - 1) + 2).toNat v).getD ((3 + 5 * ((i : Int) - 1)).toNat + 2) 0 = v ∧ (xs.set (3 + 5 * ((i : Int) - 1) + 2).toNat v).getD ((3 + 5 * ((i : Int) - 1)).toNat + 3) 0 = 0 ∧ (xs.set (3 + 5 * ((i : Int) - 1) + 2).toNat v).getD ((3 + 5 * ((i : Int) - 1)).toNat + 4) 0 = 0) :=
          ⟨(getD_set_ne _ _ _ _ (by omega)).trans (Hlen.out.2 _), (getD_set_ne _ _ _ _ (by omega)).trans (Hlen.out.2 _), (show (3 + 5 * ((i : Int) - 1) + 2).toNat = (3 + 5 * ((i : Int) - 1)).toNat + 2 by omega) ▸ getD_set_self xs _ v (by have := Hlen.out.1; omega), (getD_set_ne _ _ _ _ (by omega)).trans (Hlen.out.2 _), (getD_set_ne _ _ _ _ (by omega)).trans (Hlen.out.2 _)⟩
        go_wp2_with fail
        refine (Base_in (i - 1) _ (by omega) (by omega)).mono ?_
        rintro e w' ⟨rfl, rfl⟩
        go_wp2_with fail
        refine (See_core m5 (3 + 5 * (i - 1)) (i - 1) 0 0 v 0 0 Hy (by omega) (by omega) (by omega) (by omega) (by rw [List.length_set, Hm.out]; omega)).mono ?_
        rintro e w6 ⟨rfl, m6, -⟩
        clear m5
        have B6 := m6.B
        have Z6 : bb < w6.heap.size := m6.mem.lt
        clear m6
        go_wp2_with fail
        refine (known13_any _).mono ?_
        rintro e w7 ⟨rfl, hb7⟩
        have z7 : w6.heap.size < w7.heap.size := by have := hb7.size; first | omega | (simp at this; omega)
        have B7 : Below w6.heap.size w6 w7 := Below.trans (by go_grown) (hb7.mono (by first | omega | (simp; omega) | (simp; done)))
        have c7_0_0 : w7.cell? ⟨w6.heap.size, 0, none⟩ = some (.int .i64 0) := (hb7.cell (p := ⟨w6.heap.size, 0, none⟩) (by first | omega | (simp; omega) | (simp; done))).trans (by go_simp)
        have c7_0_1 : w7.cell? ⟨w6.heap.size, 1, none⟩ = some (.int .i64 0) := (hb7.cell (p := ⟨w6.heap.size, 1, none⟩) (by first | omega | (simp; omega) | (simp; done))).trans (by go_simp)
        have c7_0_2 : w7.cell? ⟨w6.heap.size, 2, none⟩ = some (.int .i64 v) := (hb7.cell (p := ⟨w6.heap.size, 2, none⟩) (by first | omega | (simp; omega) | (simp; done))).trans (by go_simp)
        have c7_0_3 : w7.cell? ⟨w6.heap.size, 3, none⟩ = some (.int .i64 0) := (hb7.cell (p := ⟨w6.heap.size, 3, none⟩) (by first | omega | (simp; omega) | (simp; done))).trans (by go_simp)
        have c7_0_4 : w7.cell? ⟨w6.heap.size, 4, none⟩ = some (.int .i64 0) := (hb7.cell (p := ⟨w6.heap.size, 4, none⟩) (by first | omega | (simp; omega) | (simp; done))).trans (by go_simp)
        clear hb7
        go_wp2_with fail
        refine (Base_out (-1) _ (by omega)).mono ?_
        rintro e w' ⟨rfl, rfl⟩
        go_wp2_with fail
        refine (Base_out 1001 _ (by omega)).mono ?_
        rintro e w' ⟨rfl, rfl⟩
        go_wp2
        go_ret
        exact ⟨by first | rfl | (simp; done) | (simp; omega), Below.trans B6 (B7.mono B6.size)⟩

theorem recordPlaces_any (n a v : Int) (w : World) (n1 : 0 ≤ n) (n2 : n ≤ 255) (a1 : -9223372036854775808 ≤ a) (a2 : a ≤ 9223372036854775807) :
    Calls Try.prog 7 #[.int .u8 n, .int .i64 a, .int .i64 v] w fun e w' => e = .returned (.bool true) ∧ Below w.heap.size w w' :=
  recordPlaces_core n a v _ w n1 n2 a1 a2 rfl (by omega) (by omega)

theorem Try.resTypes7 : Try.f7.resultTypes = #[4] := by kernel_rfl
theorem recordPlaces_rdu8 : Try.prog.readableRec 5 = true ∧ 5 < Try.prog.types.size := ⟨by kernel_rfl, of_decide_eq_true (by kernel_rfl)⟩
theorem recordPlaces_rdint : Try.prog.readableRec 3 = true ∧ 3 < Try.prog.types.size := ⟨by kernel_rfl, of_decide_eq_true (by kernel_rfl)⟩
theorem recordPlaces_rdi64 : Try.prog.readableRec 2 = true ∧ 2 < Try.prog.types.size := ⟨by kernel_rfl, of_decide_eq_true (by kernel_rfl)⟩
set_option maxRecDepth 100000 in
theorem recordPlaces_lifted (os : Os) (started : os.Started) (H : Type) (enc : TypeId × Value → H) :
    ReturnsInHanded {} Try.checked os 7 .any (Rows.recordPlacesSpec.pre6 enc Try.prog Try.f7 Rows.recordPlacesRow.domain false) (Rows.recordPlacesSpec.post enc Try.prog Try.f7 false true false false) := by
  refine law_lifted (C := Try.checked) (T := 4) Try.own started (by kernel_rfl) Try.func7
    (ChangeSpec.witness6 (enc := enc) (C := Try.checked) false ⟨#[], #[.int .u8 0, .int .i64 0, .int .i64 0], []⟩ 8 (by kernel_rfl) (by kernel_rfl) (by kernel_rfl) (by kernel_rfl))
    Try.laidOut (fun t ht => ?_) Try.resTypes7 Try.underlying4 rfl (fun ds hd => ?_) ?_
  · rw [Try.params7] at ht
    exact (show ∀ t ∈ [5, 3, 2], Try.prog.readableRec t = true ∧ t < Try.prog.types.size from List.forall_mem_cons.2 ⟨recordPlaces_rdu8, List.forall_mem_cons.2 ⟨recordPlaces_rdint, List.forall_mem_cons.2 ⟨recordPlaces_rdi64, fun _ h => by cases h⟩⟩⟩) t ht
  · rw [Try.params7] at hd
    match ds, hd with
    | [e0, e1, e2], _ => rfl
  · intro W base args ds p hval0 hA0
    have hval : ∀ (j : Nat) t v, Try.f7.params[j]? = some t → args[j]? = some v → Value.okWide Try.prog W .any base t v := hval0
    have hA : DataW.TrodAll enc Try.prog W 0 (fun _ => true) true Try.f7.params.toList args.toList ds p := hA0
    rw [Try.params7] at hA hval
    obtain ⟨v0, vs0, d0, ds0, p0, q0, hargs, rfl, rfl, h0, r0⟩ := trodAll_cons hA
    obtain ⟨v1, vs1, d1, ds1, p1, q1, rfl, rfl, rfl, h1, r1⟩ := trodAll_cons r0
    obtain ⟨v2, vs2, d2, ds2, p2, q2, rfl, rfl, rfl, h2, r2⟩ := trodAll_cons r1
    obtain ⟨rfl, rfl, rfl⟩ := trodAll_nil r2
    obtain rfl : args = #[v0, v1, v2] := by cases args; simp_all
    obtain ⟨n, rfl, _, _, wn⟩ := open_int Try.underlying5 (hval 0 5 v0 rfl rfl) h0
    have bn := bounds_u8 wn
    obtain ⟨a, rfl, _, _, wa⟩ := open_int Try.underlying3 (hval 1 3 v1 rfl rfl) h1
    have ba := bounds_i64 wa
    obtain ⟨z, rfl, _, _, wz⟩ := open_int Try.underlying2 (hval 2 2 v2 rfl rfl) h2
    have bz := bounds_i64 wz
    exact recordPlaces_any n a z W bn.1 bn.2 ba.1 ba.2

/-- RecordPlaces: for every input the call returns true. -/
theorem recordPlaces_said : Rows.RecordPlacesSaid :=
  OpenClaim.holds_of_wide 7 Try.f7 rfl rfl rfl rfl rfl rfl rfl ⟨rfl, rfl, rfl, rfl, rfl⟩ rfl rfl rfl rfl rfl (by as_aux_lemma => kernel_rfl) Try.func7 (by as_aux_lemma => kernel_rfl)
    (of_decide_eq_true (by as_aux_lemma => kernel_rfl)) (by unfold Func.isWrapper; first | (rw [if_pos (by decide +kernel)]; kernel_rfl) | (rw [if_neg (by decide +kernel)]; exact ⟨rfl, rfl⟩))
    (fun os started H enc _ => recordPlaces_lifted os started H enc)
#print axioms recordPlaces_said

end Go.Proofs.Ytepkpfnghgocgaa
