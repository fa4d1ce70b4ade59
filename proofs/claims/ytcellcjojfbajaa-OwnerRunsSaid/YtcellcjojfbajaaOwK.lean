/- The chapter's example of layer 15. -/
import Derived.Test.YtcellcjojfbajaaOwP
import Derived.Test.YtcellcjojfbajaaRec
import Derived.Test.YtcellcjojfbajaaFrame
import Derived.Test.YtcellcjojfbajaaThr4
import Derived.Deep.QuietTactic
import Derived.BigQuiet
namespace Go.Proofs.Ytcellcjojfbajaa
set_option linter.unusedSimpArgs false
set_option linter.unusedVariables false
open Go.RowKit
open Go.ChangeShapes Go.WideShapes Go.ChangeAt

def kT0 : Th := ⟨0, 1, 0, 1, wordOf 1 7, 0, 0, 0, 0, 0, 0, 0⟩
def kWant : List Int := [2, 5, 6, 15, 7, 8, 9, 10, 11, 12, 13, 20]
theorem known15_plain : (∀ k : Nat, k < 12 → (owIt 8 noE [0, 0, 0] kT0 (k + 1)).2.i1 = kWant.getD k 0 ∧ (owIt 8 noE [0, 0, 0] kT0 k).2.i1 ≠ 14) ∧ (owIt 8 noE [0, 0, 0] kT0 12).2.i2 = 3 ∧ (owIt 8 noE [0, 0, 0] kT0 12).2.i1 = 20 := by
  refine ⟨fun k hk => ?_, by decide +kernel, by decide +kernel⟩
  have h : ∀ j : Fin 12, (owIt 8 noE [0, 0, 0] kT0 (j.1 + 1)).2.i1 = kWant.getD j.1 0 ∧ (owIt 8 noE [0, 0, 0] kT0 j.1).2.i1 ≠ 14 := by decide +kernel
  exact h ⟨k, hk⟩

set_option maxRecDepth 100000 in
set_option maxHeartbeats 8000000 in
theorem known15_any (w : World) : Calls Try.prog 15 #[] w fun e w' => e = .returned (.bool true) ∧ Below w.heap.size w w' := by
  go_enter Try.func15, Try.ntmps15
  go_wp2_with fail
  refine (Open_ms 1 w w (Below.refl _ _) (by omega) (by omega)).mono ?_
  rintro e w1 ⟨g0, rfl, m1, -⟩
  go_wp2_with fail
  refine (oBegin_b w1 0 0 0 0 0 0 0 0 0 0 0 0 1 7 (.slice none 0 0) 0 (fun _ => 0) (Its.zero _ _ _) (by omega) (by omega) (by omega) (by omega) (by omega) (by decide) (by decide)).mono ?_
  rintro e w2 ⟨bt2, rfl, I2, hb2⟩
  obtain ⟨bo2, bc2, rfl, -⟩ := id I2
  rw [show wrap64 (0 + 1) = 1 from by unfold wrap64; omega]
  generalize hb : w.heap.size = b at m1 ⊢
  have m2 := m1.below hb2
  have zw : w.heap.size ≤ b := by omega
  clear m1 hb2 I2 hb
  go_wp2
  generalize hr : w2.heap.size = r
  generalize hW : World.alloc _ _ = W
  have A2 : W.heap[r]? = some (.cells #[.int .i64 0, .int .i64 1, .int .i64 0, .int .i64 1, .int .i64 (wordOf 1 7), .int .i64 0, .int .i64 0, .int .i64 0, .int .i64 0, .int .i64 0, .int .i64 0, .int .i64 0, .slice bo2 0 bc2] 30 (0, 0)) := by rw [← hW]; exact (alloc2_at hr _ _).1
  have Q2 : W.heap[r + 1]? = some (.cells #[.int .i64 2, .int .i64 5, .int .i64 6, .int .i64 15, .int .i64 7, .int .i64 8, .int .i64 9, .int .i64 10, .int .i64 11, .int .i64 12, .int .i64 13, .int .i64 20] 3 (0, 0)) := by rw [← hW]; exact (alloc2_at hr _ _).2
  have BW : Below w2.heap.size w2 W := by rw [← hW]; go_grown
  have fq : ¬ Foot b g0 (r + 1) := m2.past (r + 1) (by omega)
  have zr : w.heap.size ≤ r := by have := m2.B.size; omega
  have H0 := Lib.hid (show LS w W b g0 8 [0, 0, 0] 1 r kT0 (.slice bo2 0 bc2) [(r + 1, .cells (kWant.map (Value.int .i64)).toArray 3 (0, 0))] from ⟨m2.below BW, A2, m2.past r (by omega), zr, fun p hp => by
    rcases List.mem_singleton.1 hp with rfl
    exact ⟨Q2, fq, by omega⟩, by omega, Rg64.zero⟩)
  clear hr hW A2 Q2 BW fq m2
  go_loopw [5] (fun k wr => ∃ (i : Nat) (X : List Int) (T : Th) (st : Int) (g : Option Nat) (bo : Option Addr) (bc : Nat), i ≤ 12 ∧ k = .int .i64 i ∧ LS w wr b g 8 X st r T (.slice bo 0 bc) [(r + 1, .cells (kWant.map (Value.int .i64)).toArray 3 (0, 0))] ∧ st ≤ 100 + i ∧ owIt 8 noE [0, 0, 0] kT0 i = (X, T)) (fun k _ => 12 - (intOf k).toNat)
  case atStart => exact ⟨0, _, kT0, 1, g0, bo2, bc2, by omega, rfl, H0.out, by omega, rfl⟩
  case round =>
    obtain ⟨i, X, T, st, g, bo, bc, hi, rfl, h, s1, hit⟩ := hrel
    have zi : (0 : Int) ≤ (i : Int) := by omega
    have hi' : (i : Int) ≤ 12 := by omega
    have HR := Lib.hid h
    have HT := Lib.hid hit
    have zr1 := h.lt
    obtain ⟨⟨a0, a1, a2, a3, a4, a5, a6, a7, a8, a9, a10, a11, a12⟩, -⟩ := blk13 HR.out.at_
    clear h hit
    by_cases hlt : i < 12
    · have hlt' : (i : Int) < 12 := by omega
      go_wp2_with fail
      refine (oStep_f w _ b _ 8 st X T (.slice bo 0 bc) 0 (fun _ => 0) HR.out.ms (Its.zero _ _ _) (Nat.zero_le _) HR.out.s0 (by omega) HR.out.rg).mono ?_
      rintro e ws3 ⟨bt3, g3, he3, m3, I3, k3, hg3⟩
      obtain ⟨bo3, bc3, rfl, -⟩ := I3
      have H3 := Lib.hid (HR.out.mem m3 k3 hg3 (owC_pos HR.out.s0))
      have rg3 := Lib.hid (owT_rg (N := 8) HR.out.rg HR.out.ms.lenk)
      have c3 := owC_rng 8 X T
      obtain ⟨t3, ht3⟩ : ∃ t, owT 8 X T = t := ⟨_, rfl⟩
      rw [ht3] at he3 rg3
      have z3 := H3.out.lt
      have hit3 := owIt_succ HT.out
      have hpl := known15_plain.1 i hlt
      rw [hit3, HT.out] at hpl
      unfold noE at hit3 hpl
      rw [ht3] at hit3 hpl
      have htdf : decide (T.i1 = 14) = false := decide_eq_false hpl.2
      rw [htdf] at he3
      have Q3 := H3.out.get (List.mem_singleton.2 rfl)
      have qc := int_row Q3 (i := i) (by show i < 12; exact hlt)
      obtain ⟨x, hx⟩ : ∃ x, kWant.getD i 0 = x := ⟨_, rfl⟩
      rw [hx] at qc hpl
      have hxp := hpl.1
      have x4 : r + 1 < ws3.heap.size := (Array.getElem?_eq_some_iff.1 Q3).1
      obtain ⟨⟨c0, c1, c2, c3, c4, c5, c6, c7, c8, c9, c10, c11, c12⟩, -⟩ := blk13 H3.out.at_
      have fc0 := blkF H3.out.at_ 0; have fc1 := blkF H3.out.at_ 1; have fc2 := blkF H3.out.at_ 2; have fc3 := blkF H3.out.at_ 3; have fc4 := blkF H3.out.at_ 4; have fc5 := blkF H3.out.at_ 5; have fc6 := blkF H3.out.at_ 6; have fc7 := blkF H3.out.at_ 7; have fc8 := blkF H3.out.at_ 8; have fc9 := blkF H3.out.at_ 9; have fc10 := blkF H3.out.at_ 10; have fc11 := blkF H3.out.at_ 11; have fc12 := blkF H3.out.at_ 12
      have HI3 := Lib.hid hit3
      obtain ⟨y0, y1, y2, y3, y4, y5, y6, y7, y8, y9, y10, y11⟩ := t3
      have hxp : y1 = x := hxp
      subst hxp
      have hb1 : (y1 != y1) = false := by simp
      clear ht3 htdf hpl Q3 m3 k3 hg3 hx hit3 a0 a1 a2 a3 a4 a5 a6 a7 a8 a9 a10 a11 a12
      simp only [thV] at he3
      subst he3
      go_wp2_with fail
      go_quiet (fail)
      go_wp2_with fail
      generalize hWa4 : World.drewN _ _ = Wa4
      have Ha4 := H3.out.below (w' := Wa4) (by rw [← hWa4]; exact below_drewN (by go_grown) _)
      generalize hW4 : World.setCell _ _ _ = W4
      have U4 : W4.heap[r]? = some (.cells #[.int .i64 y0, .int .i64 y1, .int .i64 y2, .int .i64 y3, .int .i64 y4, .int .i64 y5, .int .i64 y6, .int .i64 y7, .int .i64 y8, .int .i64 y9, .int .i64 y10, .int .i64 y11, .slice bo3 0 bc3] 30 (0, 0)) := by rw [← hW4]; exact set13 Ha4.at_ rfl
      have K4 : Kept (fun k => k = r) Wa4 W4 := by rw [← hW4]; exact kept_set13 _ _ _ _ _ _ _ _ _ _ _ _ _ _ _
      have H4 := Lib.hid (Ha4.put (T' := ⟨y0, y1, y2, y3, y4, y5, y6, y7, y8, y9, y10, y11⟩) K4 U4 rg3.out)
      clear hWa4 Ha4 hW4 U4 K4
      clear c0 c1 c2 c3 c4 c5 c6 c7 c8 c9 c10 c11 c12 fc0 fc1 fc2 fc3 fc4 fc5 fc6 fc7 fc8 fc9 fc10 fc11 fc12
      go_roundw
      case rel => exact ⟨i + 1, _, _, _, _, bo3, bc3, by omega, by go_num, H4.out, by omega, HI3.out⟩
      case measure => simp [intOf]; omega
    · obtain rfl : i = 12 := by omega
      have hpl := known15_plain.2
      rw [HT.out] at hpl
      obtain ⟨x0, x1, x2, x3, x4, x5, x6, x7, x8, x9, x10, x11⟩ := T
      have h2 : x2 = 3 := hpl.1
      have h1 : x1 = 20 := hpl.2
      subst h1 h2
      clear hpl hlt
      go_wp2_with fail
      refine (oAsks_c _ x0 20 3 x3 x4 x5 x6 x7 x8 x9 x10 x11 bo 0 bc (by omega) (by omega)).mono ?_
      rintro e w5 ⟨rfl, hb5⟩
      have B5 := HR.out.ms.B.trans (hb5.mono HR.out.ms.B.size)
      go_wp2
      go_ret
      exact ⟨by first | rfl | (simp; done), B5⟩

end Go.Proofs.Ytcellcjojfbajaa
