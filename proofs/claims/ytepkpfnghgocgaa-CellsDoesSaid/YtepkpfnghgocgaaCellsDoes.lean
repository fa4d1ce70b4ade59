/- CellsDoes: any deeds at a memory of any size: each answers as the chapter says, and so does all that is asked behind each of them: the law returns true for every input. -/
import Derived.Test.YtepkpfnghgocgaaStep2
import Derived.Test.YtepkpfnghgocgaaStructs
import Derived.Test.YtepkpfnghgocgaaFrame
import Derived.Deep.RegionHeld3
import Derived.Deep.QuietTactic
import Derived.BigQuiet
namespace Go.Proofs.Ytepkpfnghgocgaa
set_option linter.unusedSimpArgs false
set_option linter.unusedVariables false
open Go.RowKit
open Go.ChangeShapes Go.WideShapes Go.ChangeAt

theorem Same64_self (u v : Value) (xs : List Int) (w : World) (hu : Row w u xs) (hv : Row w v xs) (n1 : xs.length ≤ 1000000) :
    Calls Try.prog 31 #[u, v] w fun e w' => e = .returned (.bool true) ∧ Below w.heap.size w w' :=
  (Same64_any u v xs xs w hu hv n1).mono fun e w' ⟨h1, n, h2⟩ => ⟨by rw [h1, decide_eq_true rfl], h2 ▸ below_drewN (Below.refl _ _) n⟩
set_option maxRecDepth 100000 in
set_option maxHeartbeats 4000000 in
theorem does_any (size : Int) (l : Value) (n : Nat) (R : Nat → Nat → Int) (w : World) (hl : InStructs 5 deedKind w l n R) (hn : n ≤ 40) :
    Calls Try.prog 29 #[.int .i64 size, l] w fun e w' => e = .returned (.bool true) ∧ Below w.heap.size w w' := by
  obtain ⟨ao, cap, rfl, hmax, hcells⟩ := hl
  have Hc := Lib.hid hcells
  clear hcells
  go_enter Try.func29, Try.ntmps29
  go_wp2_with fail
  refine (New_ms size w _ (Below.refl _ _)).mono ?_
  rintro e w1 ⟨rfl, m1, hb1⟩
  have bl := m1.mem.lt
  obtain ⟨N, hN⟩ : ∃ N, capOf size = N := ⟨_, rfl⟩
  rw [hN] at m1
  obtain ⟨bb, hbb⟩ : ∃ bb, w.heap.size = bb := ⟨_, rfl⟩
  have hwb : w.heap.size ≤ bb := by omega
  rw [hbb] at m1 bl ⊢
  go_wp2_with fail
  refine (rNew_any size _).mono ?_
  rintro e w2 ⟨rfl, hb2⟩
  rw [hN]
  have h2 : Both w w2 bb none N [] 0 (.agg #[.int .i64 N, .slice none 0 0, .int .i64 0]) none [] 0 :=
    ⟨m1.below hb2, ⟨.slice none 0 0, rfl, rfl, Row.nil _⟩, (fun k e => by cases e), by have := m1.2.2.2.2.2.2.1; exact this, by omega⟩
  have bl2 : bb < w2.heap.size := Nat.lt_of_lt_of_le bl hb2.size
  clear hN m1 hb1 hb2 hbb bl
  go_wp2
  obtain ⟨rb, hrb⟩ : ∃ rb, w2.heap.size = rb := ⟨_, rfl⟩
  have h3 : Both w (w2.alloc (.cells #[.int .i64 N, .slice none 0 0, .int .i64 0] 71)) bb none N [] 0 (.agg #[.int .i64 N, .slice none 0 0, .int .i64 0]) none [] 0 := h2.below (by go_grown)
  obtain ⟨w3, hw3, d0, d1, d2, e0, e1, e2, z3⟩ : ∃ w3, w3 = w2.alloc (.cells #[.int .i64 N, .slice none 0 0, .int .i64 0] 71) ∧ w3.cell? ⟨w2.heap.size, 0, none⟩ = some (.int .i64 N) ∧ w3.cell? ⟨w2.heap.size, 1, none⟩ = some (.slice none 0 0) ∧ w3.cell? ⟨w2.heap.size, 2, none⟩ = some (.int .i64 0) ∧
      w3.frozen? ⟨w2.heap.size, 0, none⟩ = false ∧ w3.frozen? ⟨w2.heap.size, 1, none⟩ = false ∧ w3.frozen? ⟨w2.heap.size, 2, none⟩ = false ∧ w2.heap.size < w3.heap.size := ⟨_, rfl, by go_simp, by go_simp, by go_simp, by go_simp, by go_simp, by go_simp, by go_simp⟩
  rw [← hw3] at h3 ⊢
  have hwr := h2.ms.B.size
  rw [hrb] at d0 d1 d2 e0 e1 e2 z3 bl2 hwr ⊢
  clear hw3 hrb h2
  have HD := Lib.hid (And.intro d0 (And.intro d1 (And.intro d2 (And.intro e0 (And.intro e1 e2)))))
  clear d0 d1 d2 e0 e1 e2
  go_loopw [5, 7] (fun p j wr => ∃ (i : Nat) (b : Nat) (g : Option Nat) (xs : List Int) (st : Int) (ao : Option Addr) (cap : Nat) (q : Option Nat), i ≤ n ∧ p = .pointer (some ⟨b, 0, none⟩) ∧ j = .int .i64 i ∧ Both w wr b g N xs st (.agg #[.int .i64 N, .slice ao xs.length cap, .int .i64 st]) q xs st ∧
      rb < wr.heap.size ∧ ¬ Foot b g rb ∧ (∀ k, q = some k → k ≠ rb) ∧ st ≤ i ∧
      (wr.cell? ⟨rb, 0, none⟩ = some (.int .i64 N) ∧ wr.cell? ⟨rb, 1, none⟩ = some (.slice ao xs.length cap) ∧ wr.cell? ⟨rb, 2, none⟩ = some (.int .i64 st) ∧ wr.frozen? ⟨rb, 0, none⟩ = false ∧ wr.frozen? ⟨rb, 1, none⟩ = false ∧ wr.frozen? ⟨rb, 2, none⟩ = false)) (fun _ j _ => n - (intOf j).toNat)
  case atStart => exact ⟨0, bb, none, [], 0, none, 0, none, Nat.zero_le _, rfl, rfl, h3, z3, (by rintro (e | e); omega; cases e), (fun k e => by cases e), by omega, HD.out⟩
  case round =>
    obtain ⟨i, b, g, xs, st, ao1, cap1, q, hi, rfl, rfl, h, hz, hF, hq, hst, d0, d1, d2, e0, e1, e2⟩ := hrel
    have s0 : 0 ≤ st := h.2.2.2.2
    have HF := Lib.hid (And.intro hF hq)
    clear h3 hF hq HD
    by_cases hlt : i < n
    · have hpn : 0 < n := by omega
      obtain ⟨bk, off, rfl, hbk, hcs⟩ := Hc.out hpn
      have hx : ∀ j, j < 5 → wr.cell? ⟨bk, off + (i * 5 + j), none⟩ = some (.int (deedKind j) (R i j)) := fun j hj => (h.ms.B.cell (p := ⟨bk, off + (i * 5 + j), none⟩) hbk).trans (hcs i j hlt hj).1
      have hx0 : wr.cell? ⟨bk, off + i * 5, none⟩ = some (.int .u8 (R i 0)) := hx 0 (by omega)
      have hx1 : wr.cell? ⟨bk, off + i * 5 + 1, none⟩ = some (.int .i64 (R i 1)) := hx 1 (by omega)
      have hx2 : wr.cell? ⟨bk, off + i * 5 + 2, none⟩ = some (.int .u8 (R i 2)) := hx 2 (by omega)
      have hx3 : wr.cell? ⟨bk, off + i * 5 + 3, none⟩ = some (.int .i64 (R i 3)) := hx 3 (by omega)
      have hx4 : wr.cell? ⟨bk, off + i * 5 + 4, none⟩ = some (.int .i64 (R i 4)) := hx 4 (by omega)
      have b0 := bounds_u8 (show (Lit.int .u8 (R i 0)).wf = true from (hcs i 0 hlt (by omega)).2)
      have b2 := bounds_u8 (show (Lit.int .u8 (R i 2)).wf = true from (hcs i 2 hlt (by omega)).2)
      obtain ⟨x0, hx0e⟩ : ∃ x, R i 0 = x := ⟨_, rfl⟩
      obtain ⟨x1, hx1e⟩ : ∃ x, R i 1 = x := ⟨_, rfl⟩
      obtain ⟨x2, hx2e⟩ : ∃ x, R i 2 = x := ⟨_, rfl⟩
      obtain ⟨x3, hx3e⟩ : ∃ x, R i 3 = x := ⟨_, rfl⟩
      obtain ⟨x4, hx4e⟩ : ∃ x, R i 4 = x := ⟨_, rfl⟩
      rw [hx0e] at hx0 b0
      rw [hx1e] at hx1
      rw [hx2e] at hx2 b2
      rw [hx3e] at hx3
      rw [hx4e] at hx4
      clear hx hcs hx0e hx1e hx2e hx3e hx4e
      obtain ⟨b01, b02⟩ := b0
      obtain ⟨b21, b22⟩ := b2
      have i1 : (0 : Int) ≤ (i : Int) := by omega
      have i2 : (i : Int) < (n : Int) := by omega
      have HH := Lib.hid h
      by_cases hN : 20 < x1
      · by_cases h3 : 0 < (i : Int) % 3
        · obtain ⟨y1, hy1⟩ : ∃ y, x1 % 8 = y := ⟨_, rfl⟩
          by_cases hk : x0 % 5 = 4
          · have hk4 : (x0 % 5 == 4) = true := by rw [hk]; rfl
            go_wp2_with fail
            refine (Copy_b (HH.out.below (by go_grown))).mono ?_
            rintro e w4 ⟨c, g4, rfl, h4, hc4, hg4, hb4⟩
            have z4 : wr.heap.size < w4.heap.size := by have := hb4.size; simp at this; omega
            have zr4 : rb < w4.heap.size := by omega
            have d4_0 : w4.cell? ⟨rb, 0, none⟩ = some (.int .i64 N) := (hb4.cell (p := ⟨rb, 0, none⟩) (by first | omega | (simp; omega) | (simp; done))).trans (by go_simp)
            have e4_0 : w4.frozen? ⟨rb, 0, none⟩ = false := (hb4.frozen (p := ⟨rb, 0, none⟩) (by first | omega | (simp; omega) | (simp; done))).trans (by go_simp)
            have d4_1 : w4.cell? ⟨rb, 1, none⟩ = some (.slice ao1 xs.length cap1) := (hb4.cell (p := ⟨rb, 1, none⟩) (by first | omega | (simp; omega) | (simp; done))).trans (by go_simp)
            have e4_1 : w4.frozen? ⟨rb, 1, none⟩ = false := (hb4.frozen (p := ⟨rb, 1, none⟩) (by first | omega | (simp; omega) | (simp; done))).trans (by go_simp)
            have d4_2 : w4.cell? ⟨rb, 2, none⟩ = some (.int .i64 st) := (hb4.cell (p := ⟨rb, 2, none⟩) (by first | omega | (simp; omega) | (simp; done))).trans (by go_simp)
            have e4_2 : w4.frozen? ⟨rb, 2, none⟩ = false := (hb4.frozen (p := ⟨rb, 2, none⟩) (by first | omega | (simp; omega) | (simp; done))).trans (by go_simp)
            have k4_0 : w4.cell? ⟨wr.heap.size, 0, none⟩ = some (.int .u8 x0) := (hb4.cell (p := ⟨wr.heap.size, 0, none⟩) (by first | omega | (simp; omega) | (simp; done))).trans (by go_simp)
            have k4_1 : w4.cell? ⟨wr.heap.size, 1, none⟩ = some (.int .i64 y1) := (hb4.cell (p := ⟨wr.heap.size, 1, none⟩) (by first | omega | (simp; omega) | (simp; done))).trans (by go_simp)
            have k4_2 : w4.cell? ⟨wr.heap.size, 2, none⟩ = some (.int .u8 x2) := (hb4.cell (p := ⟨wr.heap.size, 2, none⟩) (by first | omega | (simp; omega) | (simp; done))).trans (by go_simp)
            have k4_3 : w4.cell? ⟨wr.heap.size, 3, none⟩ = some (.int .i64 x3) := (hb4.cell (p := ⟨wr.heap.size, 3, none⟩) (by first | omega | (simp; omega) | (simp; done))).trans (by go_simp)
            have k4_4 : w4.cell? ⟨wr.heap.size, 4, none⟩ = some (.int .i64 x4) := (hb4.cell (p := ⟨wr.heap.size, 4, none⟩) (by first | omega | (simp; omega) | (simp; done))).trans (by go_simp)
            have HG : Hid (¬ Foot c g4 rb) := Lib.hid (by
              rintro (e | e)
              · simp at hc4; omega
              · have := hg4 rb e.symm; simp at this; omega)
            have H4 := Lib.hid h4
            clear hb4 h4 hc4 hg4 hx0 hx1 hx2 hx3 hx4 d0 d1 d2 e0 e1 e2
            go_wp2_with fail
            refine (step2_any w _ c g4 N st xs _ q H4.out (by omega) x0 y1 x2 x3 x4 b01 b02 b21 b22).mono ?_
            rintro e w5 ⟨v5, q5, g5, xs5, st5, rfl, h5, hst5, hg5, hq5, hk5⟩
            obtain ⟨ao5, cap5, rfl, -, -⟩ := h5.rv.open
            have z5 : rb < w5.heap.size := by have := hk5.size; first | omega | (simp at this; omega)
            have d5_0 : w5.cell? ⟨rb, 0, none⟩ = some (.int .i64 N) := (hk5.cell (p := ⟨rb, 0, none⟩) (by first | omega | (simp; omega) | (simp; done)) HG.out).trans (by go_simp)
            have e5_0 : w5.frozen? ⟨rb, 0, none⟩ = false := (hk5.frozen (p := ⟨rb, 0, none⟩) (by first | omega | (simp; omega) | (simp; done)) HG.out).trans (by go_simp)
            have d5_1 : w5.cell? ⟨rb, 1, none⟩ = some (.slice ao1 xs.length cap1) := (hk5.cell (p := ⟨rb, 1, none⟩) (by first | omega | (simp; omega) | (simp; done)) HG.out).trans (by go_simp)
            have e5_1 : w5.frozen? ⟨rb, 1, none⟩ = false := (hk5.frozen (p := ⟨rb, 1, none⟩) (by first | omega | (simp; omega) | (simp; done)) HG.out).trans (by go_simp)
            have d5_2 : w5.cell? ⟨rb, 2, none⟩ = some (.int .i64 st) := (hk5.cell (p := ⟨rb, 2, none⟩) (by first | omega | (simp; omega) | (simp; done)) HG.out).trans (by go_simp)
            have e5_2 : w5.frozen? ⟨rb, 2, none⟩ = false := (hk5.frozen (p := ⟨rb, 2, none⟩) (by first | omega | (simp; omega) | (simp; done)) HG.out).trans (by go_simp)
            have HG5 : Hid (¬ Foot c g5 rb) := Lib.hid (by
              rintro (e | e)
              · exact HG.out (.inl e)
              · rcases hg5 with rfl | hg5
                · exact HG.out (.inr e)
                · have := hg5 rb e.symm; omega)
            have HQ5 : Hid (∀ k, q5 = some k → k ≠ rb) := Lib.hid (fun k e => by
              rcases hq5 with rfl | hq5
              · exact HF.out.2 k e
              · have := hq5 k e; omega)
            have s5 : 0 ≤ st5 := h5.2.2.2.2
            have hl5 : xs5.length ≤ 1000 := h5.len
            have hl6 : (xs5.length : Int) ≤ 1000 := by omega
            have H5 := Lib.hid h5
            clear hk5 h5 hg5 hq5 d4_0 d4_1 d4_2 e4_0 e4_1 e4_2 k4_0 k4_1 k4_2 k4_3 k4_4
            go_wp2
            obtain ⟨W, hW, HW, zW, rW, c0, c1, c2, f0, f1, f2⟩ : ∃ W, W = (((w5.setCell ⟨rb, 0, none⟩ (.int .i64 N)).setCell ⟨rb, 1, none⟩ (.slice ao5 xs5.length cap5)).setCell ⟨rb, 2, none⟩ (.int .i64 st5)).alloc (.cells #[.int .i64 N, .slice ao5 xs5.length cap5, .int .i64 st5] 71) ∧
                Hid (Both w W c g5 N xs5 st5 (.agg #[.int .i64 N, .slice ao5 xs5.length cap5, .int .i64 st5]) q5 xs5 st5) ∧ w5.heap.size < W.heap.size ∧ rb < W.heap.size ∧ W.cell? ⟨rb, 0, none⟩ = some (.int .i64 N) ∧ W.cell? ⟨rb, 1, none⟩ = some (.slice ao5 xs5.length cap5) ∧ W.cell? ⟨rb, 2, none⟩ = some (.int .i64 st5) ∧
                W.frozen? ⟨rb, 0, none⟩ = false ∧ W.frozen? ⟨rb, 1, none⟩ = false ∧ W.frozen? ⟨rb, 2, none⟩ = false :=
              ⟨_, rfl, Lib.hid ((H5.out.set3 rb hwr (fun e => HG5.out (.inl e.symm)) (fun k e e2 => HG5.out (.inr (by rw [e, e2]))) HQ5.out _ _ _).below (by go_grown)), by go_simp, by go_simp, by go_simp, by go_simp, by go_simp, by go_simp, by go_simp, by go_simp⟩
            rw [← hW]
            clear hW d5_0 d5_1 d5_2 e5_0 e5_1 e5_2
            have hrow : Row W (.slice ao5 xs5.length cap5) xs5 := by
              obtain ⟨sl, e, _, hr⟩ := HW.out.rv
              cases e
              exact hr
            have HR := Lib.hid hrow
            clear hrow
            go_region_held3 (fun w1 => Below W.heap.size W w1 ∧ W.heap.size ≤ w1.heap.size ∧ w1.cell? ⟨rb, 0, none⟩ = some (.int .i64 N) ∧ w1.cell? ⟨rb, 1, none⟩ = some (.slice ao5 xs5.length cap5) ∧ w1.cell? ⟨rb, 2, none⟩ = some (.int .i64 st5))
              (first | (exact ⟨(Below.refl _ _).drew, Nat.le_refl _, c0, c1, c2⟩) | (go_split_ands; refine ⟨?_, ?_, ?_, ?_, ?_⟩ <;> first | assumption | (have := hb.size; omega) | (rw [hb.cell (by simp; omega)]; assumption) | exact Below.trans (by assumption) (hb.mono (by omega))))
              (first | (go_at_call 25; go_split_ands; refine (Cells_ms (HW.out.ms.below (by assumption))).mono ?_; rintro e w6 ⟨ao6, cap6, rfl, -, r6, hb, -⟩) | (go_at_call 31; go_split_ands; refine (Same64_self _ _ xs5 _ r6 (HR.out.below (by assumption)) (by omega)).mono ?_; rintro e w7 ⟨rfl, hb⟩) | (go_at_call 18; go_split_ands; refine (Top_ms (HW.out.ms.below (by assumption))).mono ?_; rintro e w8 ⟨rfl, -, hb⟩) | (go_at_call 26; go_split_ands; refine (Steps_ms (HW.out.ms.below (by assumption))).mono ?_; rintro e w9 ⟨rfl, rfl⟩))
            go_split_ands
            have B9 : Below W.heap.size W w8 := by assumption
            have q0 : w8.cell? ⟨rb, 0, none⟩ = some (.int .i64 N) := by assumption
            have q1 : w8.cell? ⟨rb, 1, none⟩ = some (.slice ao5 xs5.length cap5) := by assumption
            have q2 : w8.cell? ⟨rb, 2, none⟩ = some (.int .i64 st5) := by assumption
            have g0 := (B9.frozen (p := ⟨rb, 0, none⟩) rW).trans f0
            have g1 := (B9.frozen (p := ⟨rb, 1, none⟩) rW).trans f1
            have g2 := (B9.frozen (p := ⟨rb, 2, none⟩) rW).trans f2
            have z9 := Nat.lt_of_lt_of_le rW B9.size
            clear c0 c1 c2 f0 f1 f2
            go_wp2
            go_roundw
            case rel => exact ⟨i + 1, c, g5, xs5, st5, ao5, cap5, q5, by omega, rfl, by go_num, HW.out.below B9, z9, HG5.out, HQ5.out, by omega, q0, q1, q2, g0, g1, g2⟩
            case measure => simp [intOf]; omega
          
          · have hk4 : (x0 % 5 == 4) = false := by rw [beq_eq_false_iff_ne]; exact hk
            clear hk
            go_wp2_with fail
            have HG : Hid (¬ Foot b g rb) := Lib.hid HF.out.1
            refine (step2_any w _ b g N st xs _ q (HH.out.below (by go_grown)) (by omega) x0 y1 x2 x3 x4 b01 b02 b21 b22).mono ?_
            rintro e w5 ⟨v5, q5, g5, xs5, st5, rfl, h5, hst5, hg5, hq5, hk5⟩
            obtain ⟨ao5, cap5, rfl, -, -⟩ := h5.rv.open
            have z5 : rb < w5.heap.size := by have := hk5.size; first | omega | (simp at this; omega)
            have d5_0 : w5.cell? ⟨rb, 0, none⟩ = some (.int .i64 N) := (hk5.cell (p := ⟨rb, 0, none⟩) (by first | omega | (simp; omega) | (simp; done)) HG.out).trans (by go_simp)
            have e5_0 : w5.frozen? ⟨rb, 0, none⟩ = false := (hk5.frozen (p := ⟨rb, 0, none⟩) (by first | omega | (simp; omega) | (simp; done)) HG.out).trans (by go_simp)
            have d5_1 : w5.cell? ⟨rb, 1, none⟩ = some (.slice ao1 xs.length cap1) := (hk5.cell (p := ⟨rb, 1, none⟩) (by first | omega | (simp; omega) | (simp; done)) HG.out).trans (by go_simp)
            have e5_1 : w5.frozen? ⟨rb, 1, none⟩ = false := (hk5.frozen (p := ⟨rb, 1, none⟩) (by first | omega | (simp; omega) | (simp; done)) HG.out).trans (by go_simp)
            have d5_2 : w5.cell? ⟨rb, 2, none⟩ = some (.int .i64 st) := (hk5.cell (p := ⟨rb, 2, none⟩) (by first | omega | (simp; omega) | (simp; done)) HG.out).trans (by go_simp)
            have e5_2 : w5.frozen? ⟨rb, 2, none⟩ = false := (hk5.frozen (p := ⟨rb, 2, none⟩) (by first | omega | (simp; omega) | (simp; done)) HG.out).trans (by go_simp)
            have HG5 : Hid (¬ Foot b g5 rb) := Lib.hid (by
              rintro (e | e)
              · exact HG.out (.inl e)
              · rcases hg5 with rfl | hg5
                · exact HG.out (.inr e)
                · have := hg5 rb e.symm; simp at this; omega)
            have HQ5 : Hid (∀ k, q5 = some k → k ≠ rb) := Lib.hid (fun k e => by
              rcases hq5 with rfl | hq5
              · exact HF.out.2 k e
              · have := hq5 k e; simp at this; omega)
            have s5 : 0 ≤ st5 := h5.2.2.2.2
            have hl5 : xs5.length ≤ 1000 := h5.len
            have hl6 : (xs5.length : Int) ≤ 1000 := by omega
            have H5 := Lib.hid h5
            clear hk5 h5 hg5 hq5 hx0 hx1 hx2 hx3 hx4 d0 d1 d2 e0 e1 e2
            go_wp2
            obtain ⟨W, hW, HW, zW, rW, c0, c1, c2, f0, f1, f2⟩ : ∃ W, W = (((w5.setCell ⟨rb, 0, none⟩ (.int .i64 N)).setCell ⟨rb, 1, none⟩ (.slice ao5 xs5.length cap5)).setCell ⟨rb, 2, none⟩ (.int .i64 st5)).alloc (.cells #[.int .i64 N, .slice ao5 xs5.length cap5, .int .i64 st5] 71) ∧
                Hid (Both w W b g5 N xs5 st5 (.agg #[.int .i64 N, .slice ao5 xs5.length cap5, .int .i64 st5]) q5 xs5 st5) ∧ w5.heap.size < W.heap.size ∧ rb < W.heap.size ∧ W.cell? ⟨rb, 0, none⟩ = some (.int .i64 N) ∧ W.cell? ⟨rb, 1, none⟩ = some (.slice ao5 xs5.length cap5) ∧ W.cell? ⟨rb, 2, none⟩ = some (.int .i64 st5) ∧
                W.frozen? ⟨rb, 0, none⟩ = false ∧ W.frozen? ⟨rb, 1, none⟩ = false ∧ W.frozen? ⟨rb, 2, none⟩ = false :=
              ⟨_, rfl, Lib.hid ((H5.out.set3 rb hwr (fun e => HG5.out (.inl e.symm)) (fun k e e2 => HG5.out (.inr (by rw [e, e2]))) HQ5.out _ _ _).below (by go_grown)), by go_simp, by go_simp, by go_simp, by go_simp, by go_simp, by go_simp, by go_simp, by go_simp⟩
            rw [← hW]
            clear hW d5_0 d5_1 d5_2 e5_0 e5_1 e5_2
            have hrow : Row W (.slice ao5 xs5.length cap5) xs5 := by
              obtain ⟨sl, e, _, hr⟩ := HW.out.rv
              cases e
              exact hr
            have HR := Lib.hid hrow
            clear hrow
            go_region_held3 (fun w1 => Below W.heap.size W w1 ∧ W.heap.size ≤ w1.heap.size ∧ w1.cell? ⟨rb, 0, none⟩ = some (.int .i64 N) ∧ w1.cell? ⟨rb, 1, none⟩ = some (.slice ao5 xs5.length cap5) ∧ w1.cell? ⟨rb, 2, none⟩ = some (.int .i64 st5))
              (first | (exact ⟨(Below.refl _ _).drew, Nat.le_refl _, c0, c1, c2⟩) | (go_split_ands; refine ⟨?_, ?_, ?_, ?_, ?_⟩ <;> first | assumption | (have := hb.size; omega) | (rw [hb.cell (by simp; omega)]; assumption) | exact Below.trans (by assumption) (hb.mono (by omega))))
              (first | (go_at_call 25; go_split_ands; refine (Cells_ms (HW.out.ms.below (by assumption))).mono ?_; rintro e w6 ⟨ao6, cap6, rfl, -, r6, hb, -⟩) | (go_at_call 31; go_split_ands; refine (Same64_self _ _ xs5 _ r6 (HR.out.below (by assumption)) (by omega)).mono ?_; rintro e w7 ⟨rfl, hb⟩) | (go_at_call 18; go_split_ands; refine (Top_ms (HW.out.ms.below (by assumption))).mono ?_; rintro e w8 ⟨rfl, -, hb⟩) | (go_at_call 26; go_split_ands; refine (Steps_ms (HW.out.ms.below (by assumption))).mono ?_; rintro e w9 ⟨rfl, rfl⟩))
            go_split_ands
            have B9 : Below W.heap.size W w8 := by assumption
            have q0 : w8.cell? ⟨rb, 0, none⟩ = some (.int .i64 N) := by assumption
            have q1 : w8.cell? ⟨rb, 1, none⟩ = some (.slice ao5 xs5.length cap5) := by assumption
            have q2 : w8.cell? ⟨rb, 2, none⟩ = some (.int .i64 st5) := by assumption
            have g0 := (B9.frozen (p := ⟨rb, 0, none⟩) rW).trans f0
            have g1 := (B9.frozen (p := ⟨rb, 1, none⟩) rW).trans f1
            have g2 := (B9.frozen (p := ⟨rb, 2, none⟩) rW).trans f2
            have z9 := Nat.lt_of_lt_of_le rW B9.size
            clear c0 c1 c2 f0 f1 f2
            go_wp2
            go_roundw
            case rel => exact ⟨i + 1, b, g5, xs5, st5, ao5, cap5, q5, by omega, rfl, by go_num, HW.out.below B9, z9, HG5.out, HQ5.out, by omega, q0, q1, q2, g0, g1, g2⟩
            case measure => simp [intOf]; omega
        · have h3' : (i : Int) % 3 ≤ 0 := by omega
          by_cases hk : x0 % 5 = 4
          · have hk4 : (x0 % 5 == 4) = true := by rw [hk]; rfl
            go_wp2_with fail
            refine (Copy_b (HH.out.below (by go_grown))).mono ?_
            rintro e w4 ⟨c, g4, rfl, h4, hc4, hg4, hb4⟩
            have z4 : wr.heap.size < w4.heap.size := by have := hb4.size; simp at this; omega
            have zr4 : rb < w4.heap.size := by omega
            have d4_0 : w4.cell? ⟨rb, 0, none⟩ = some (.int .i64 N) := (hb4.cell (p := ⟨rb, 0, none⟩) (by first | omega | (simp; omega) | (simp; done))).trans (by go_simp)
            have e4_0 : w4.frozen? ⟨rb, 0, none⟩ = false := (hb4.frozen (p := ⟨rb, 0, none⟩) (by first | omega | (simp; omega) | (simp; done))).trans (by go_simp)
            have d4_1 : w4.cell? ⟨rb, 1, none⟩ = some (.slice ao1 xs.length cap1) := (hb4.cell (p := ⟨rb, 1, none⟩) (by first | omega | (simp; omega) | (simp; done))).trans (by go_simp)
            have e4_1 : w4.frozen? ⟨rb, 1, none⟩ = false := (hb4.frozen (p := ⟨rb, 1, none⟩) (by first | omega | (simp; omega) | (simp; done))).trans (by go_simp)
            have d4_2 : w4.cell? ⟨rb, 2, none⟩ = some (.int .i64 st) := (hb4.cell (p := ⟨rb, 2, none⟩) (by first | omega | (simp; omega) | (simp; done))).trans (by go_simp)
            have e4_2 : w4.frozen? ⟨rb, 2, none⟩ = false := (hb4.frozen (p := ⟨rb, 2, none⟩) (by first | omega | (simp; omega) | (simp; done))).trans (by go_simp)
            have k4_0 : w4.cell? ⟨wr.heap.size, 0, none⟩ = some (.int .u8 x0) := (hb4.cell (p := ⟨wr.heap.size, 0, none⟩) (by first | omega | (simp; omega) | (simp; done))).trans (by go_simp)
            have k4_1 : w4.cell? ⟨wr.heap.size, 1, none⟩ = some (.int .i64 x1) := (hb4.cell (p := ⟨wr.heap.size, 1, none⟩) (by first | omega | (simp; omega) | (simp; done))).trans (by go_simp)
            have k4_2 : w4.cell? ⟨wr.heap.size, 2, none⟩ = some (.int .u8 x2) := (hb4.cell (p := ⟨wr.heap.size, 2, none⟩) (by first | omega | (simp; omega) | (simp; done))).trans (by go_simp)
            have k4_3 : w4.cell? ⟨wr.heap.size, 3, none⟩ = some (.int .i64 x3) := (hb4.cell (p := ⟨wr.heap.size, 3, none⟩) (by first | omega | (simp; omega) | (simp; done))).trans (by go_simp)
            have k4_4 : w4.cell? ⟨wr.heap.size, 4, none⟩ = some (.int .i64 x4) := (hb4.cell (p := ⟨wr.heap.size, 4, none⟩) (by first | omega | (simp; omega) | (simp; done))).trans (by go_simp)
            have HG : Hid (¬ Foot c g4 rb) := Lib.hid (by
              rintro (e | e)
              · simp at hc4; omega
              · have := hg4 rb e.symm; simp at this; omega)
            have H4 := Lib.hid h4
            clear hb4 h4 hc4 hg4 hx0 hx1 hx2 hx3 hx4 d0 d1 d2 e0 e1 e2
            go_wp2_with fail
            refine (step2_any w _ c g4 N st xs _ q H4.out (by omega) x0 x1 x2 x3 x4 b01 b02 b21 b22).mono ?_
            rintro e w5 ⟨v5, q5, g5, xs5, st5, rfl, h5, hst5, hg5, hq5, hk5⟩
            obtain ⟨ao5, cap5, rfl, -, -⟩ := h5.rv.open
            have z5 : rb < w5.heap.size := by have := hk5.size; first | omega | (simp at this; omega)
            have d5_0 : w5.cell? ⟨rb, 0, none⟩ = some (.int .i64 N) := (hk5.cell (p := ⟨rb, 0, none⟩) (by first | omega | (simp; omega) | (simp; done)) HG.out).trans (by go_simp)
            have e5_0 : w5.frozen? ⟨rb, 0, none⟩ = false := (hk5.frozen (p := ⟨rb, 0, none⟩) (by first | omega | (simp; omega) | (simp; done)) HG.out).trans (by go_simp)
            have d5_1 : w5.cell? ⟨rb, 1, none⟩ = some (.slice ao1 xs.length cap1) := (hk5.cell (p := ⟨rb, 1, none⟩) (by first | omega | (simp; omega) | (simp; done)) HG.out).trans (by go_simp)
            have e5_1 : w5.frozen? ⟨rb, 1, none⟩ = false := (hk5.frozen (p := ⟨rb, 1, none⟩) (by first | omega | (simp; omega) | (simp; done)) HG.out).trans (by go_simp)
            have d5_2 : w5.cell? ⟨rb, 2, none⟩ = some (.int .i64 st) := (hk5.cell (p := ⟨rb, 2, none⟩) (by first | omega | (simp; omega) | (simp; done)) HG.out).trans (by go_simp)
            have e5_2 : w5.frozen? ⟨rb, 2, none⟩ = false := (hk5.frozen (p := ⟨rb, 2, none⟩) (by first | omega | (simp; omega) | (simp; done)) HG.out).trans (by go_simp)
            have HG5 : Hid (¬ Foot c g5 rb) := Lib.hid (by
              rintro (e | e)
              · exact HG.out (.inl e)
              · rcases hg5 with rfl | hg5
                · exact HG.out (.inr e)
                · have := hg5 rb e.symm; omega)
            have HQ5 : Hid (∀ k, q5 = some k → k ≠ rb) := Lib.hid (fun k e => by
              rcases hq5 with rfl | hq5
              · exact HF.out.2 k e
              · have := hq5 k e; omega)
            have s5 : 0 ≤ st5 := h5.2.2.2.2
            have hl5 : xs5.length ≤ 1000 := h5.len
            have hl6 : (xs5.length : Int) ≤ 1000 := by omega
            have H5 := Lib.hid h5
            clear hk5 h5 hg5 hq5 d4_0 d4_1 d4_2 e4_0 e4_1 e4_2 k4_0 k4_1 k4_2 k4_3 k4_4
            go_wp2
            obtain ⟨W, hW, HW, zW, rW, c0, c1, c2, f0, f1, f2⟩ : ∃ W, W = (((w5.setCell ⟨rb, 0, none⟩ (.int .i64 N)).setCell ⟨rb, 1, none⟩ (.slice ao5 xs5.length cap5)).setCell ⟨rb, 2, none⟩ (.int .i64 st5)).alloc (.cells #[.int .i64 N, .slice ao5 xs5.length cap5, .int .i64 st5] 71) ∧
                Hid (Both w W c g5 N xs5 st5 (.agg #[.int .i64 N, .slice ao5 xs5.length cap5, .int .i64 st5]) q5 xs5 st5) ∧ w5.heap.size < W.heap.size ∧ rb < W.heap.size ∧ W.cell? ⟨rb, 0, none⟩ = some (.int .i64 N) ∧ W.cell? ⟨rb, 1, none⟩ = some (.slice ao5 xs5.length cap5) ∧ W.cell? ⟨rb, 2, none⟩ = some (.int .i64 st5) ∧
                W.frozen? ⟨rb, 0, none⟩ = false ∧ W.frozen? ⟨rb, 1, none⟩ = false ∧ W.frozen? ⟨rb, 2, none⟩ = false :=
              ⟨_, rfl, Lib.hid ((H5.out.set3 rb hwr (fun e => HG5.out (.inl e.symm)) (fun k e e2 => HG5.out (.inr (by rw [e, e2]))) HQ5.out _ _ _).below (by go_grown)), by go_simp, by go_simp, by go_simp, by go_simp, by go_simp, by go_simp, by go_simp, by go_simp⟩
            rw [← hW]
            clear hW d5_0 d5_1 d5_2 e5_0 e5_1 e5_2
            have hrow : Row W (.slice ao5 xs5.length cap5) xs5 := by
              obtain ⟨sl, e, _, hr⟩ := HW.out.rv
              cases e
              exact hr
            have HR := Lib.hid hrow
            clear hrow
            go_region_held3 (fun w1 => Below W.heap.size W w1 ∧ W.heap.size ≤ w1.heap.size ∧ w1.cell? ⟨rb, 0, none⟩ = some (.int .i64 N) ∧ w1.cell? ⟨rb, 1, none⟩ = some (.slice ao5 xs5.length cap5) ∧ w1.cell? ⟨rb, 2, none⟩ = some (.int .i64 st5))
              (first | (exact ⟨(Below.refl _ _).drew, Nat.le_refl _, c0, c1, c2⟩) | (go_split_ands; refine ⟨?_, ?_, ?_, ?_, ?_⟩ <;> first | assumption | (have := hb.size; omega) | (rw [hb.cell (by simp; omega)]; assumption) | exact Below.trans (by assumption) (hb.mono (by omega))))
              (first | (go_at_call 25; go_split_ands; refine (Cells_ms (HW.out.ms.below (by assumption))).mono ?_; rintro e w6 ⟨ao6, cap6, rfl, -, r6, hb, -⟩) | (go_at_call 31; go_split_ands; refine (Same64_self _ _ xs5 _ r6 (HR.out.below (by assumption)) (by omega)).mono ?_; rintro e w7 ⟨rfl, hb⟩) | (go_at_call 18; go_split_ands; refine (Top_ms (HW.out.ms.below (by assumption))).mono ?_; rintro e w8 ⟨rfl, -, hb⟩) | (go_at_call 26; go_split_ands; refine (Steps_ms (HW.out.ms.below (by assumption))).mono ?_; rintro e w9 ⟨rfl, rfl⟩))
            go_split_ands
            have B9 : Below W.heap.size W w8 := by assumption
            have q0 : w8.cell? ⟨rb, 0, none⟩ = some (.int .i64 N) := by assumption
            have q1 : w8.cell? ⟨rb, 1, none⟩ = some (.slice ao5 xs5.length cap5) := by assumption
            have q2 : w8.cell? ⟨rb, 2, none⟩ = some (.int .i64 st5) := by assumption
            have g0 := (B9.frozen (p := ⟨rb, 0, none⟩) rW).trans f0
            have g1 := (B9.frozen (p := ⟨rb, 1, none⟩) rW).trans f1
            have g2 := (B9.frozen (p := ⟨rb, 2, none⟩) rW).trans f2
            have z9 := Nat.lt_of_lt_of_le rW B9.size
            clear c0 c1 c2 f0 f1 f2
            go_wp2
            go_roundw
            case rel => exact ⟨i + 1, c, g5, xs5, st5, ao5, cap5, q5, by omega, rfl, by go_num, HW.out.below B9, z9, HG5.out, HQ5.out, by omega, q0, q1, q2, g0, g1, g2⟩
            case measure => simp [intOf]; omega
          
          · have hk4 : (x0 % 5 == 4) = false := by rw [beq_eq_false_iff_ne]; exact hk
            clear hk
            go_wp2_with fail
            have HG : Hid (¬ Foot b g rb) := Lib.hid HF.out.1
            refine (step2_any w _ b g N st xs _ q (HH.out.below (by go_grown)) (by omega) x0 x1 x2 x3 x4 b01 b02 b21 b22).mono ?_
            rintro e w5 ⟨v5, q5, g5, xs5, st5, rfl, h5, hst5, hg5, hq5, hk5⟩
            obtain ⟨ao5, cap5, rfl, -, -⟩ := h5.rv.open
            have z5 : rb < w5.heap.size := by have := hk5.size; first | omega | (simp at this; omega)
            have d5_0 : w5.cell? ⟨rb, 0, none⟩ = some (.int .i64 N) := (hk5.cell (p := ⟨rb, 0, none⟩) (by first | omega | (simp; omega) | (simp; done)) HG.out).trans (by go_simp)
            have e5_0 : w5.frozen? ⟨rb, 0, none⟩ = false := (hk5.frozen (p := ⟨rb, 0, none⟩) (by first | omega | (simp; omega) | (simp; done)) HG.out).trans (by go_simp)
            have d5_1 : w5.cell? ⟨rb, 1, none⟩ = some (.slice ao1 xs.length cap1) := (hk5.cell (p := ⟨rb, 1, none⟩) (by first | omega | (simp; omega) | (simp; done)) HG.out).trans (by go_simp)
            have e5_1 : w5.frozen? ⟨rb, 1, none⟩ = false := (hk5.frozen (p := ⟨rb, 1, none⟩) (by first | omega | (simp; omega) | (simp; done)) HG.out).trans (by go_simp)
            have d5_2 : w5.cell? ⟨rb, 2, none⟩ = some (.int .i64 st) := (hk5.cell (p := ⟨rb, 2, none⟩) (by first | omega | (simp; omega) | (simp; done)) HG.out).trans (by go_simp)
            have e5_2 : w5.frozen? ⟨rb, 2, none⟩ = false := (hk5.frozen (p := ⟨rb, 2, none⟩) (by first | omega | (simp; omega) | (simp; done)) HG.out).trans (by go_simp)
            have HG5 : Hid (¬ Foot b g5 rb) := Lib.hid (by
              rintro (e | e)
              · exact HG.out (.inl e)
              · rcases hg5 with rfl | hg5
                · exact HG.out (.inr e)
                · have := hg5 rb e.symm; simp at this; omega)
            have HQ5 : Hid (∀ k, q5 = some k → k ≠ rb) := Lib.hid (fun k e => by
              rcases hq5 with rfl | hq5
              · exact HF.out.2 k e
              · have := hq5 k e; simp at this; omega)
            have s5 : 0 ≤ st5 := h5.2.2.2.2
            have hl5 : xs5.length ≤ 1000 := h5.len
            have hl6 : (xs5.length : Int) ≤ 1000 := by omega
            have H5 := Lib.hid h5
            clear hk5 h5 hg5 hq5 hx0 hx1 hx2 hx3 hx4 d0 d1 d2 e0 e1 e2
            go_wp2
            obtain ⟨W, hW, HW, zW, rW, c0, c1, c2, f0, f1, f2⟩ : ∃ W, W = (((w5.setCell ⟨rb, 0, none⟩ (.int .i64 N)).setCell ⟨rb, 1, none⟩ (.slice ao5 xs5.length cap5)).setCell ⟨rb, 2, none⟩ (.int .i64 st5)).alloc (.cells #[.int .i64 N, .slice ao5 xs5.length cap5, .int .i64 st5] 71) ∧
                Hid (Both w W b g5 N xs5 st5 (.agg #[.int .i64 N, .slice ao5 xs5.length cap5, .int .i64 st5]) q5 xs5 st5) ∧ w5.heap.size < W.heap.size ∧ rb < W.heap.size ∧ W.cell? ⟨rb, 0, none⟩ = some (.int .i64 N) ∧ W.cell? ⟨rb, 1, none⟩ = some (.slice ao5 xs5.length cap5) ∧ W.cell? ⟨rb, 2, none⟩ = some (.int .i64 st5) ∧
                W.frozen? ⟨rb, 0, none⟩ = false ∧ W.frozen? ⟨rb, 1, none⟩ = false ∧ W.frozen? ⟨rb, 2, none⟩ = false :=
              ⟨_, rfl, Lib.hid ((H5.out.set3 rb hwr (fun e => HG5.out (.inl e.symm)) (fun k e e2 => HG5.out (.inr (by rw [e, e2]))) HQ5.out _ _ _).below (by go_grown)), by go_simp, by go_simp, by go_simp, by go_simp, by go_simp, by go_simp, by go_simp, by go_simp⟩
            rw [← hW]
            clear hW d5_0 d5_1 d5_2 e5_0 e5_1 e5_2
            have hrow : Row W (.slice ao5 xs5.length cap5) xs5 := by
              obtain ⟨sl, e, _, hr⟩ := HW.out.rv
              cases e
              exact hr
            have HR := Lib.hid hrow
            clear hrow
            go_region_held3 (fun w1 => Below W.heap.size W w1 ∧ W.heap.size ≤ w1.heap.size ∧ w1.cell? ⟨rb, 0, none⟩ = some (.int .i64 N) ∧ w1.cell? ⟨rb, 1, none⟩ = some (.slice ao5 xs5.length cap5) ∧ w1.cell? ⟨rb, 2, none⟩ = some (.int .i64 st5))
              (first | (exact ⟨(Below.refl _ _).drew, Nat.le_refl _, c0, c1, c2⟩) | (go_split_ands; refine ⟨?_, ?_, ?_, ?_, ?_⟩ <;> first | assumption | (have := hb.size; omega) | (rw [hb.cell (by simp; omega)]; assumption) | exact Below.trans (by assumption) (hb.mono (by omega))))
              (first | (go_at_call 25; go_split_ands; refine (Cells_ms (HW.out.ms.below (by assumption))).mono ?_; rintro e w6 ⟨ao6, cap6, rfl, -, r6, hb, -⟩) | (go_at_call 31; go_split_ands; refine (Same64_self _ _ xs5 _ r6 (HR.out.below (by assumption)) (by omega)).mono ?_; rintro e w7 ⟨rfl, hb⟩) | (go_at_call 18; go_split_ands; refine (Top_ms (HW.out.ms.below (by assumption))).mono ?_; rintro e w8 ⟨rfl, -, hb⟩) | (go_at_call 26; go_split_ands; refine (Steps_ms (HW.out.ms.below (by assumption))).mono ?_; rintro e w9 ⟨rfl, rfl⟩))
            go_split_ands
            have B9 : Below W.heap.size W w8 := by assumption
            have q0 : w8.cell? ⟨rb, 0, none⟩ = some (.int .i64 N) := by assumption
            have q1 : w8.cell? ⟨rb, 1, none⟩ = some (.slice ao5 xs5.length cap5) := by assumption
            have q2 : w8.cell? ⟨rb, 2, none⟩ = some (.int .i64 st5) := by assumption
            have g0 := (B9.frozen (p := ⟨rb, 0, none⟩) rW).trans f0
            have g1 := (B9.frozen (p := ⟨rb, 1, none⟩) rW).trans f1
            have g2 := (B9.frozen (p := ⟨rb, 2, none⟩) rW).trans f2
            have z9 := Nat.lt_of_lt_of_le rW B9.size
            clear c0 c1 c2 f0 f1 f2
            go_wp2
            go_roundw
            case rel => exact ⟨i + 1, b, g5, xs5, st5, ao5, cap5, q5, by omega, rfl, by go_num, HW.out.below B9, z9, HG5.out, HQ5.out, by omega, q0, q1, q2, g0, g1, g2⟩
            case measure => simp [intOf]; omega
      · have hN' : x1 ≤ 20 := by omega
        by_cases hk : x0 % 5 = 4
        · have hk4 : (x0 % 5 == 4) = true := by rw [hk]; rfl
          go_wp2_with fail
          refine (Copy_b (HH.out.below (by go_grown))).mono ?_
          rintro e w4 ⟨c, g4, rfl, h4, hc4, hg4, hb4⟩
          have z4 : wr.heap.size < w4.heap.size := by have := hb4.size; simp at this; omega
          have zr4 : rb < w4.heap.size := by omega
          have d4_0 : w4.cell? ⟨rb, 0, none⟩ = some (.int .i64 N) := (hb4.cell (p := ⟨rb, 0, none⟩) (by first | omega | (simp; omega) | (simp; done))).trans (by go_simp)
          have e4_0 : w4.frozen? ⟨rb, 0, none⟩ = false := (hb4.frozen (p := ⟨rb, 0, none⟩) (by first | omega | (simp; omega) | (simp; done))).trans (by go_simp)
          have d4_1 : w4.cell? ⟨rb, 1, none⟩ = some (.slice ao1 xs.length cap1) := (hb4.cell (p := ⟨rb, 1, none⟩) (by first | omega | (simp; omega) | (simp; done))).trans (by go_simp)
          have e4_1 : w4.frozen? ⟨rb, 1, none⟩ = false := (hb4.frozen (p := ⟨rb, 1, none⟩) (by first | omega | (simp; omega) | (simp; done))).trans (by go_simp)
          have d4_2 : w4.cell? ⟨rb, 2, none⟩ = some (.int .i64 st) := (hb4.cell (p := ⟨rb, 2, none⟩) (by first | omega | (simp; omega) | (simp; done))).trans (by go_simp)
          have e4_2 : w4.frozen? ⟨rb, 2, none⟩ = false := (hb4.frozen (p := ⟨rb, 2, none⟩) (by first | omega | (simp; omega) | (simp; done))).trans (by go_simp)
          have k4_0 : w4.cell? ⟨wr.heap.size, 0, none⟩ = some (.int .u8 x0) := (hb4.cell (p := ⟨wr.heap.size, 0, none⟩) (by first | omega | (simp; omega) | (simp; done))).trans (by go_simp)
          have k4_1 : w4.cell? ⟨wr.heap.size, 1, none⟩ = some (.int .i64 x1) := (hb4.cell (p := ⟨wr.heap.size, 1, none⟩) (by first | omega | (simp; omega) | (simp; done))).trans (by go_simp)
          have k4_2 : w4.cell? ⟨wr.heap.size, 2, none⟩ = some (.int .u8 x2) := (hb4.cell (p := ⟨wr.heap.size, 2, none⟩) (by first | omega | (simp; omega) | (simp; done))).trans (by go_simp)
          have k4_3 : w4.cell? ⟨wr.heap.size, 3, none⟩ = some (.int .i64 x3) := (hb4.cell (p := ⟨wr.heap.size, 3, none⟩) (by first | omega | (simp; omega) | (simp; done))).trans (by go_simp)
          have k4_4 : w4.cell? ⟨wr.heap.size, 4, none⟩ = some (.int .i64 x4) := (hb4.cell (p := ⟨wr.heap.size, 4, none⟩) (by first | omega | (simp; omega) | (simp; done))).trans (by go_simp)
          have HG : Hid (¬ Foot c g4 rb) := Lib.hid (by
            rintro (e | e)
            · simp at hc4; omega
            · have := hg4 rb e.symm; simp at this; omega)
          have H4 := Lib.hid h4
          clear hb4 h4 hc4 hg4 hx0 hx1 hx2 hx3 hx4 d0 d1 d2 e0 e1 e2
          go_wp2_with fail
          refine (step2_any w _ c g4 N st xs _ q H4.out (by omega) x0 x1 x2 x3 x4 b01 b02 b21 b22).mono ?_
          rintro e w5 ⟨v5, q5, g5, xs5, st5, rfl, h5, hst5, hg5, hq5, hk5⟩
          obtain ⟨ao5, cap5, rfl, -, -⟩ := h5.rv.open
          have z5 : rb < w5.heap.size := by have := hk5.size; first | omega | (simp at this; omega)
          have d5_0 : w5.cell? ⟨rb, 0, none⟩ = some (.int .i64 N) := (hk5.cell (p := ⟨rb, 0, none⟩) (by first | omega | (simp; omega) | (simp; done)) HG.out).trans (by go_simp)
          have e5_0 : w5.frozen? ⟨rb, 0, none⟩ = false := (hk5.frozen (p := ⟨rb, 0, none⟩) (by first | omega | (simp; omega) | (simp; done)) HG.out).trans (by go_simp)
          have d5_1 : w5.cell? ⟨rb, 1, none⟩ = some (.slice ao1 xs.length cap1) := (hk5.cell (p := ⟨rb, 1, none⟩) (by first | omega | (simp; omega) | (simp; done)) HG.out).trans (by go_simp)
          have e5_1 : w5.frozen? ⟨rb, 1, none⟩ = false := (hk5.frozen (p := ⟨rb, 1, none⟩) (by first | omega | (simp; omega) | (simp; done)) HG.out).trans (by go_simp)
          have d5_2 : w5.cell? ⟨rb, 2, none⟩ = some (.int .i64 st) := (hk5.cell (p := ⟨rb, 2, none⟩) (by first | omega | (simp; omega) | (simp; done)) HG.out).trans (by go_simp)
          have e5_2 : w5.frozen? ⟨rb, 2, none⟩ = false := (hk5.frozen (p := ⟨rb, 2, none⟩) (by first | omega | (simp; omega) | (simp; done)) HG.out).trans (by go_simp)
          have HG5 : Hid (¬ Foot c g5 rb) := Lib.hid (by
            rintro (e | e)
            · exact HG.out (.inl e)
            · rcases hg5 with rfl | hg5
              · exact HG.out (.inr e)
              · have := hg5 rb e.symm; omega)
          have HQ5 : Hid (∀ k, q5 = some k → k ≠ rb) := Lib.hid (fun k e => by
            rcases hq5 with rfl | hq5
            · exact HF.out.2 k e
            · have := hq5 k e; omega)
          have s5 : 0 ≤ st5 := h5.2.2.2.2
          have hl5 : xs5.length ≤ 1000 := h5.len
          have hl6 : (xs5.length : Int) ≤ 1000 := by omega
          have H5 := Lib.hid h5
          clear hk5 h5 hg5 hq5 d4_0 d4_1 d4_2 e4_0 e4_1 e4_2 k4_0 k4_1 k4_2 k4_3 k4_4
          go_wp2
          obtain ⟨W, hW, HW, zW, rW, c0, c1, c2, f0, f1, f2⟩ : ∃ W, W = (((w5.setCell ⟨rb, 0, none⟩ (.int .i64 N)).setCell ⟨rb, 1, none⟩ (.slice ao5 xs5.length cap5)).setCell ⟨rb, 2, none⟩ (.int .i64 st5)).alloc (.cells #[.int .i64 N, .slice ao5 xs5.length cap5, .int .i64 st5] 71) ∧
              Hid (Both w W c g5 N xs5 st5 (.agg #[.int .i64 N, .slice ao5 xs5.length cap5, .int .i64 st5]) q5 xs5 st5) ∧ w5.heap.size < W.heap.size ∧ rb < W.heap.size ∧ W.cell? ⟨rb, 0, none⟩ = some (.int .i64 N) ∧ W.cell? ⟨rb, 1, none⟩ = some (.slice ao5 xs5.length cap5) ∧ W.cell? ⟨rb, 2, none⟩ = some (.int .i64 st5) ∧
              W.frozen? ⟨rb, 0, none⟩ = false ∧ W.frozen? ⟨rb, 1, none⟩ = false ∧ W.frozen? ⟨rb, 2, none⟩ = false :=
            ⟨_, rfl, Lib.hid ((H5.out.set3 rb hwr (fun e => HG5.out (.inl e.symm)) (fun k e e2 => HG5.out (.inr (by rw [e, e2]))) HQ5.out _ _ _).below (by go_grown)), by go_simp, by go_simp, by go_simp, by go_simp, by go_simp, by go_simp, by go_simp, by go_simp⟩
          rw [← hW]
          clear hW d5_0 d5_1 d5_2 e5_0 e5_1 e5_2
          have hrow : Row W (.slice ao5 xs5.length cap5) xs5 := by
            obtain ⟨sl, e, _, hr⟩ := HW.out.rv
            cases e
            exact hr
          have HR := Lib.hid hrow
          clear hrow
          go_region_held3 (fun w1 => Below W.heap.size W w1 ∧ W.heap.size ≤ w1.heap.size ∧ w1.cell? ⟨rb, 0, none⟩ = some (.int .i64 N) ∧ w1.cell? ⟨rb, 1, none⟩ = some (.slice ao5 xs5.length cap5) ∧ w1.cell? ⟨rb, 2, none⟩ = some (.int .i64 st5))
            (first | (exact ⟨(Below.refl _ _).drew, Nat.le_refl _, c0, c1, c2⟩) | (go_split_ands; refine ⟨?_, ?_, ?_, ?_, ?_⟩ <;> first | assumption | (have := hb.size; omega) | (rw [hb.cell (by simp; omega)]; assumption) | exact Below.trans (by assumption) (hb.mono (by omega))))
            (first | (go_at_call 25; go_split_ands; refine (Cells_ms (HW.out.ms.below (by assumption))).mono ?_; rintro e w6 ⟨ao6, cap6, rfl, -, r6, hb, -⟩) | (go_at_call 31; go_split_ands; refine (Same64_self _ _ xs5 _ r6 (HR.out.below (by assumption)) (by omega)).mono ?_; rintro e w7 ⟨rfl, hb⟩) | (go_at_call 18; go_split_ands; refine (Top_ms (HW.out.ms.below (by assumption))).mono ?_; rintro e w8 ⟨rfl, -, hb⟩) | (go_at_call 26; go_split_ands; refine (Steps_ms (HW.out.ms.below (by assumption))).mono ?_; rintro e w9 ⟨rfl, rfl⟩))
          go_split_ands
          have B9 : Below W.heap.size W w8 := by assumption
          have q0 : w8.cell? ⟨rb, 0, none⟩ = some (.int .i64 N) := by assumption
          have q1 : w8.cell? ⟨rb, 1, none⟩ = some (.slice ao5 xs5.length cap5) := by assumption
          have q2 : w8.cell? ⟨rb, 2, none⟩ = some (.int .i64 st5) := by assumption
          have g0 := (B9.frozen (p := ⟨rb, 0, none⟩) rW).trans f0
          have g1 := (B9.frozen (p := ⟨rb, 1, none⟩) rW).trans f1
          have g2 := (B9.frozen (p := ⟨rb, 2, none⟩) rW).trans f2
          have z9 := Nat.lt_of_lt_of_le rW B9.size
          clear c0 c1 c2 f0 f1 f2
          go_wp2
          go_roundw
          case rel => exact ⟨i + 1, c, g5, xs5, st5, ao5, cap5, q5, by omega, rfl, by go_num, HW.out.below B9, z9, HG5.out, HQ5.out, by omega, q0, q1, q2, g0, g1, g2⟩
          case measure => simp [intOf]; omega
        
        · have hk4 : (x0 % 5 == 4) = false := by rw [beq_eq_false_iff_ne]; exact hk
          clear hk
          go_wp2_with fail
          have HG : Hid (¬ Foot b g rb) := Lib.hid HF.out.1
          refine (step2_any w _ b g N st xs _ q (HH.out.below (by go_grown)) (by omega) x0 x1 x2 x3 x4 b01 b02 b21 b22).mono ?_
          rintro e w5 ⟨v5, q5, g5, xs5, st5, rfl, h5, hst5, hg5, hq5, hk5⟩
          obtain ⟨ao5, cap5, rfl, -, -⟩ := h5.rv.open
          have z5 : rb < w5.heap.size := by have := hk5.size; first | omega | (simp at this; omega)
          have d5_0 : w5.cell? ⟨rb, 0, none⟩ = some (.int .i64 N) := (hk5.cell (p := ⟨rb, 0, none⟩) (by first | omega | (simp; omega) | (simp; done)) HG.out).trans (by go_simp)
          have e5_0 : w5.frozen? ⟨rb, 0, none⟩ = false := (hk5.frozen (p := ⟨rb, 0, none⟩) (by first | omega | (simp; omega) | (simp; done)) HG.out).trans (by go_simp)
          have d5_1 : w5.cell? ⟨rb, 1, none⟩ = some (.slice ao1 xs.length cap1) := (hk5.cell (p := ⟨rb, 1, none⟩) (by first | omega | (simp; omega) | (simp; done)) HG.out).trans (by go_simp)
          have e5_1 : w5.frozen? ⟨rb, 1, none⟩ = false := (hk5.frozen (p := ⟨rb, 1, none⟩) (by first | omega | (simp; omega) | (simp; done)) HG.out).trans (by go_simp)
          have d5_2 : w5.cell? ⟨rb, 2, none⟩ = some (.int .i64 st) := (hk5.cell (p := ⟨rb, 2, none⟩) (by first | omega | (simp; omega) | (simp; done)) HG.out).trans (by go_simp)
          have e5_2 : w5.frozen? ⟨rb, 2, none⟩ = false := (hk5.frozen (p := ⟨rb, 2, none⟩) (by first | omega | (simp; omega) | (simp; done)) HG.out).trans (by go_simp)
          have HG5 : Hid (¬ Foot b g5 rb) := Lib.hid (by
            rintro (e | e)
            · exact HG.out (.inl e)
            · rcases hg5 with rfl | hg5
              · exact HG.out (.inr e)
              · have := hg5 rb e.symm; simp at this; omega)
          have HQ5 : Hid (∀ k, q5 = some k → k ≠ rb) := Lib.hid (fun k e => by
            rcases hq5 with rfl | hq5
            · exact HF.out.2 k e
            · have := hq5 k e; simp at this; omega)
          have s5 : 0 ≤ st5 := h5.2.2.2.2
          have hl5 : xs5.length ≤ 1000 := h5.len
          have hl6 : (xs5.length : Int) ≤ 1000 := by omega
          have H5 := Lib.hid h5
          clear hk5 h5 hg5 hq5 hx0 hx1 hx2 hx3 hx4 d0 d1 d2 e0 e1 e2
          go_wp2
          obtain ⟨W, hW, HW, zW, rW, c0, c1, c2, f0, f1, f2⟩ : ∃ W, W = (((w5.setCell ⟨rb, 0, none⟩ (.int .i64 N)).setCell ⟨rb, 1, none⟩ (.slice ao5 xs5.length cap5)).setCell ⟨rb, 2, none⟩ (.int .i64 st5)).alloc (.cells #[.int .i64 N, .slice ao5 xs5.length cap5, .int .i64 st5] 71) ∧
              Hid (Both w W b g5 N xs5 st5 (.agg #[.int .i64 N, .slice ao5 xs5.length cap5, .int .i64 st5]) q5 xs5 st5) ∧ w5.heap.size < W.heap.size ∧ rb < W.heap.size ∧ W.cell? ⟨rb, 0, none⟩ = some (.int .i64 N) ∧ W.cell? ⟨rb, 1, none⟩ = some (.slice ao5 xs5.length cap5) ∧ W.cell? ⟨rb, 2, none⟩ = some (.int .i64 st5) ∧
              W.frozen? ⟨rb, 0, none⟩ = false ∧ W.frozen? ⟨rb, 1, none⟩ = false ∧ W.frozen? ⟨rb, 2, none⟩ = false :=
            ⟨_, rfl, Lib.hid ((H5.out.set3 rb hwr (fun e => HG5.out (.inl e.symm)) (fun k e e2 => HG5.out (.inr (by rw [e, e2]))) HQ5.out _ _ _).below (by go_grown)), by go_simp, by go_simp, by go_simp, by go_simp, by go_simp, by go_simp, by go_simp, by go_simp⟩
          rw [← hW]
          clear hW d5_0 d5_1 d5_2 e5_0 e5_1 e5_2
          have hrow : Row W (.slice ao5 xs5.length cap5) xs5 := by
            obtain ⟨sl, e, _, hr⟩ := HW.out.rv
            cases e
            exact hr
          have HR := Lib.hid hrow
          clear hrow
          go_region_held3 (fun w1 => Below W.heap.size W w1 ∧ W.heap.size ≤ w1.heap.size ∧ w1.cell? ⟨rb, 0, none⟩ = some (.int .i64 N) ∧ w1.cell? ⟨rb, 1, none⟩ = some (.slice ao5 xs5.length cap5) ∧ w1.cell? ⟨rb, 2, none⟩ = some (.int .i64 st5))
            (first | (exact ⟨(Below.refl _ _).drew, Nat.le_refl _, c0, c1, c2⟩) | (go_split_ands; refine ⟨?_, ?_, ?_, ?_, ?_⟩ <;> first | assumption | (have := hb.size; omega) | (rw [hb.cell (by simp; omega)]; assumption) | exact Below.trans (by assumption) (hb.mono (by omega))))
            (first | (go_at_call 25; go_split_ands; refine (Cells_ms (HW.out.ms.below (by assumption))).mono ?_; rintro e w6 ⟨ao6, cap6, rfl, -, r6, hb, -⟩) | (go_at_call 31; go_split_ands; refine (Same64_self _ _ xs5 _ r6 (HR.out.below (by assumption)) (by omega)).mono ?_; rintro e w7 ⟨rfl, hb⟩) | (go_at_call 18; go_split_ands; refine (Top_ms (HW.out.ms.below (by assumption))).mono ?_; rintro e w8 ⟨rfl, -, hb⟩) | (go_at_call 26; go_split_ands; refine (Steps_ms (HW.out.ms.below (by assumption))).mono ?_; rintro e w9 ⟨rfl, rfl⟩))
          go_split_ands
          have B9 : Below W.heap.size W w8 := by assumption
          have q0 : w8.cell? ⟨rb, 0, none⟩ = some (.int .i64 N) := by assumption
          have q1 : w8.cell? ⟨rb, 1, none⟩ = some (.slice ao5 xs5.length cap5) := by assumption
          have q2 : w8.cell? ⟨rb, 2, none⟩ = some (.int .i64 st5) := by assumption
          have g0 := (B9.frozen (p := ⟨rb, 0, none⟩) rW).trans f0
          have g1 := (B9.frozen (p := ⟨rb, 1, none⟩) rW).trans f1
          have g2 := (B9.frozen (p := ⟨rb, 2, none⟩) rW).trans f2
          have z9 := Nat.lt_of_lt_of_le rW B9.size
          clear c0 c1 c2 f0 f1 f2
          go_wp2
          go_roundw
          case rel => exact ⟨i + 1, b, g5, xs5, st5, ao5, cap5, q5, by omega, rfl, by go_num, HW.out.below B9, z9, HG5.out, HQ5.out, by omega, q0, q1, q2, g0, g1, g2⟩
          case measure => simp [intOf]; omega
    · obtain rfl : i = n := by omega
      have B0 := h.ms.B
      go_wp2
      go_ret
      exact ⟨rfl, B0⟩

theorem cellsDoes_any (size k : Int) (l : Value) (n : Nat) (R : Nat → Nat → Int) (w : World) (k0 : 0 ≤ k) (k1 : k ≤ 255) (hl : InStructs 5 deedKind w l n R) :
    Calls Try.prog 9 #[.int .i64 size, .int .u8 k, l] w fun e w' => e = .returned (.bool true) ∧ Below w.heap.size w w' := by
  have hl0 := hl
  obtain ⟨ao, cap, rfl, hmax, hcells⟩ := hl
  have Hc := Lib.hid hcells
  have HL := Lib.hid hl0
  clear hcells hl0
  by_cases h40 : 40 < n
  · have h40' : (40 : Int) < (n : Int) := by omega
    go_enter Try.func9, Try.ntmps9
    go_wp2_with fail
    refine (known2_any _).mono ?_
    rintro e w2 ⟨rfl, hb⟩
    go_wp2
    go_ret
    exact ⟨by first | rfl | (simp; done), hb⟩
  · have h40' : (n : Int) ≤ 40 := by omega
    go_enter Try.func9, Try.ntmps9
    go_wp2_with fail
    refine (known2_any _).mono ?_
    rintro e w2 ⟨rfl, hb⟩
    go_wp2_with fail
    refine (does_any size _ n R _ (HL.out.below hb) (by omega)).mono ?_
    rintro e w3 ⟨rfl, hb3⟩
    have B3 : Below w.heap.size w w3 := hb.trans (hb3.mono hb.size)
    go_wp2_with fail
    refine (does_any _ _ n R _ (HL.out.below B3) (by omega)).mono ?_
    rintro e w4 ⟨rfl, hb4⟩
    go_wp2
    go_ret
    exact ⟨by first | rfl | (simp; done), B3.trans (hb4.mono B3.size)⟩

theorem Try.resTypes9 : Try.f9.resultTypes = #[4] := by kernel_rfl
theorem cellsDoes_rdint : Try.prog.readableRec 3 = true ∧ 3 < Try.prog.types.size := ⟨by kernel_rfl, of_decide_eq_true (by kernel_rfl)⟩
theorem cellsDoes_rdu8 : Try.prog.readableRec 5 = true ∧ 5 < Try.prog.types.size := ⟨by kernel_rfl, of_decide_eq_true (by kernel_rfl)⟩
theorem cellsDoes_rddeeds : Try.prog.readableRec 52 = true ∧ 52 < Try.prog.types.size := ⟨by kernel_rfl, of_decide_eq_true (by kernel_rfl)⟩
set_option maxRecDepth 100000 in
theorem cellsDoes_lifted (os : Os) (started : os.Started) (H : Type) (enc : TypeId × Value → H) :
    ReturnsInHanded {} Try.checked os 9 .any (Rows.cellsDoesSpec.pre6 enc Try.prog Try.f9 Rows.cellsDoesRow.domain false) (Rows.cellsDoesSpec.post enc Try.prog Try.f9 false true false false) := by
  refine law_lifted (C := Try.checked) (T := 4) Try.own started (by kernel_rfl) Try.func9
    (ChangeSpec.witness6 (enc := enc) (C := Try.checked) false ⟨#[], #[.int .i64 0, .int .u8 0, .slice none 0 0], []⟩ 8 (by kernel_rfl) (by kernel_rfl) (by kernel_rfl) (by kernel_rfl))
    Try.laidOut (fun t ht => ?_) Try.resTypes9 Try.underlying4 rfl (fun ds hd => ?_) ?_
  · rw [Try.params9] at ht
    exact (show ∀ t ∈ [3, 5, 52], Try.prog.readableRec t = true ∧ t < Try.prog.types.size from List.forall_mem_cons.2 ⟨cellsDoes_rdint, List.forall_mem_cons.2 ⟨cellsDoes_rdu8, List.forall_mem_cons.2 ⟨cellsDoes_rddeeds, fun _ h => by cases h⟩⟩⟩) t ht
  · rw [Try.params9] at hd
    match ds, hd with
    | [e0, e1, e2], _ => rfl
  · intro W base args ds p hval0 hA0
    have hval : ∀ (j : Nat) t v, Try.f9.params[j]? = some t → args[j]? = some v → Value.okWide Try.prog W .any base t v := hval0
    have hA : DataW.TrodAll enc Try.prog W 0 (fun _ => true) true Try.f9.params.toList args.toList ds p := hA0
    rw [Try.params9] at hA hval
    obtain ⟨v0, vs0, d0, ds0, p0, q0, hargs, rfl, rfl, h0, r0⟩ := trodAll_cons hA
    obtain ⟨v1, vs1, d1, ds1, p1, q1, rfl, rfl, rfl, h1, r1⟩ := trodAll_cons r0
    obtain ⟨v2, vs2, d2, ds2, p2, q2, rfl, rfl, rfl, h2, r2⟩ := trodAll_cons r1
    obtain ⟨rfl, rfl, rfl⟩ := trodAll_nil r2
    obtain rfl : args = #[v0, v1, v2] := by cases args; simp_all
    obtain ⟨n, rfl, _, _, wn⟩ := open_int Try.underlying3 (hval 0 3 v0 rfl rfl) h0
    have bn := bounds_i64 wn
    obtain ⟨k, rfl, _, _, wk⟩ := open_int Try.underlying5 (hval 1 5 v1 rfl rfl) h1
    have bk := bounds_u8 wk
    obtain ⟨l, ml, sl⟩ := open_deeds (hval 2 52 v2 rfl rfl) h2
    exact cellsDoes_any n k v2 l ml W bk.1 bk.2 sl

/-- CellsDoes: for every input the call returns true. -/
theorem cellsDoes_said : Rows.CellsDoesSaid :=
  OpenClaim.holds_of_wide 9 Try.f9 rfl rfl rfl rfl rfl rfl rfl ⟨rfl, rfl, rfl, rfl, rfl⟩ rfl rfl rfl rfl rfl (by as_aux_lemma => kernel_rfl) Try.func9 (by as_aux_lemma => kernel_rfl)
    (of_decide_eq_true (by as_aux_lemma => kernel_rfl)) (by unfold Func.isWrapper; first | (rw [if_pos (by decide +kernel)]; kernel_rfl) | (rw [if_neg (by decide +kernel)]; exact ⟨rfl, rfl⟩))
    (fun os started H enc _ => cellsDoes_lifted os started H enc)
#print axioms cellsDoes_said

end Go.Proofs.Ytepkpfnghgocgaa
