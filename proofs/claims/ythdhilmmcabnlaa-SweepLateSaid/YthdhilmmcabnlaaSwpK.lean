/- Package sweep: who sweeps; the example of the chapter. -/
import Derived.Test.YthdhilmmcabnlaaSw
import Derived.Test.YthdhilmmcabnlaaThr4
import Derived.Test.YthdhilmmcabnlaaRecMem
import Derived.Test.YthdhilmmcabnlaaRecCells
import Derived.Deep.RegionHeld3
import Derived.BigQuiet
namespace Go.Proofs.Ythdhilmmcabnlaa
set_option linter.unusedSimpArgs false
set_option linter.unusedVariables false
open Go.RowKit
open Go.ChangeShapes Go.WideShapes Go.ChangeAt

set_option maxHeartbeats 400000 in
theorem Sweeps_a (w : World) (i0 i1 i2 i3 i4 i5 i6 i7 i8 i9 i10 i11 : Int) (bo : Option Addr) (bn bc : Nat) (h : i1 < 40) :
    Calls Try.prog 22 #[.agg #[.int .i64 i0, .int .i64 i1, .int .i64 i2, .int .i64 i3, .int .i64 i4, .int .i64 i5, .int .i64 i6, .int .i64 i7, .int .i64 i8, .int .i64 i9, .int .i64 i10, .int .i64 i11, .slice bo bn bc]] w fun e w' => e = .returned (.bool false) ∧ Below w.heap.size w w' := by
  go_enter Try.func22, Try.ntmps22
  go_wp2
  go_ret
  exact ⟨by first | rfl | (simp; done) | (simp; omega), by go_grown⟩

set_option maxHeartbeats 400000 in
theorem Sweeps_b (w : World) (i0 i1 i2 i3 i4 i5 i6 i7 i8 i9 i10 i11 : Int) (bo : Option Addr) (bn bc : Nat) (h : 40 ≤ i1) (h2 : 48 < i1) :
    Calls Try.prog 22 #[.agg #[.int .i64 i0, .int .i64 i1, .int .i64 i2, .int .i64 i3, .int .i64 i4, .int .i64 i5, .int .i64 i6, .int .i64 i7, .int .i64 i8, .int .i64 i9, .int .i64 i10, .int .i64 i11, .slice bo bn bc]] w fun e w' => e = .returned (.bool false) ∧ Below w.heap.size w w' := by
  go_enter Try.func22, Try.ntmps22
  go_wp2
  go_ret
  exact ⟨by first | rfl | (simp; done) | (simp; omega), by go_grown⟩

set_option maxHeartbeats 400000 in
theorem Sweeps_c (w : World) (i0 i1 i2 i3 i4 i5 i6 i7 i8 i9 i10 i11 : Int) (bo : Option Addr) (bn bc : Nat) (h : 40 ≤ i1) (h2 : i1 ≤ 48) :
    Calls Try.prog 22 #[.agg #[.int .i64 i0, .int .i64 i1, .int .i64 i2, .int .i64 i3, .int .i64 i4, .int .i64 i5, .int .i64 i6, .int .i64 i7, .int .i64 i8, .int .i64 i9, .int .i64 i10, .int .i64 i11, .slice bo bn bc]] w fun e w' => e = .returned (.bool true) ∧ Below w.heap.size w w' := by
  go_enter Try.func22, Try.ntmps22
  go_wp2
  go_ret
  exact ⟨by first | rfl | (simp; done) | (simp; omega), by go_grown⟩

theorem Same64_self (u v : Value) (xs : List Int) (w : World) (hu : Row w u xs) (hv : Row w v xs) (n1 : xs.length ≤ 1000000) :
    Calls Try.prog 21 #[u, v] w fun e w' => e = .returned (.bool true) ∧ Below w.heap.size w w' :=
  (Same64_any u v xs xs w hu hv n1).mono fun e w' ⟨h1, n, h2⟩ => ⟨by rw [h1, decide_eq_true rfl], h2 ▸ below_drewN (Below.refl _ _) n⟩
set_option maxRecDepth 100000 in
set_option maxHeartbeats 4000000 in
theorem known17_any (w : World) : Calls Try.prog 9 #[] w fun e w' => e = .returned (.bool true) ∧ Below w.heap.size w w' := by
  go_enter Try.func9, Try.ntmps9
  go_wp2_with fail
  generalize hW0 : World.alloc _ _ = W0
  have R0 : Row W0 (.slice (some ⟨w.heap.size, 0, none⟩) 3 3) [1, 0, 4] := by rw [← hW0]; exact row_lit (vs := [1, 0, 4]) (heap_alloc_new _ _) rfl (by omega)
  have B0 : Below w.heap.size w W0 := by rw [← hW0]; go_grown
  have z0 : w.heap.size ≤ W0.heap.size := B0.size
  have HB := Lib.hid B0
  clear hW0 B0
  refine (Memory13_f _ [1, 0, 4] _ R0.sl (by simp)).mono ?_
  rintro e w1 ⟨v, b, g, q, rfl, h, -⟩
  obtain ⟨ao1, cap1, rfl, -, -⟩ := h.rv.open
  have H := Lib.hid h
  clear h R0
  go_wp2_with fail
  refine (sStep_f W0 _ b g _ _ [1, 0, 4] ⟨0, 48, 0, 0, 0, 0, 0, 0, 0, 0, 0, 0⟩ (.slice none 0 0) 0 (fun _ => 0) 1 (H.out.ms.below (by go_grown)) (Its.nil _ _) (by omega) (by simp) (by simp) (by decide)).mono ?_
  rintro e w2 ⟨bt, he, m2, I2, -⟩
  obtain ⟨bo, bc, rfl, -⟩ := I2
  simp only [thV, swT, show ¬ ((48 : Int) = 40) by decide, show ¬ ((48 : Int) = 41) by decide, show ¬ ((48 : Int) = 42) by decide, show ¬ ((48 : Int) = 43) by decide, show ¬ ((48 : Int) = 44) by decide, show ¬ ((48 : Int) = 45) by decide, show ¬ ((48 : Int) = 46) by decide, show ¬ ((48 : Int) = 47) by decide, if_false, if_true] at he
  subst he
  have H2 := Lib.hid (m2.eqs (ys := [0, 0, 4]) (st' := 5) (by rfl) (by rfl))
  clear m2
  go_wp2_with fail
  have zb := H2.out.mem.lt
  have hF : ¬ Foot b g w2.heap.size := by
    rintro (e | e)
    · omega
    · have := H2.out; subst e; have := this.mem.row_lt; omega
  refine (Load_f (H2.out.below (by go_grown)) 0 (by omega)).mono ?_
  rintro e w3 ⟨rfl, m3, k3⟩
  rw [show cellAt [0, 0, 4] 0 = 0 from rfl, show errAt [0, 0, 4] 0 = 0 from rfl]
  have T3 : w3.heap[w2.heap.size]? = some (.cells #[.int .i64 0, .int .i64 11, .int .i64 0, .int .i64 0, .int .i64 0, .int .i64 0, .int .i64 0, .int .i64 0, .int .i64 0, .int .i64 0, .int .i64 0, .int .i64 0, .slice bo 0 bc] 39 (0, 0)) := (k3.block w2.heap.size (by simp) hF).trans (heap_alloc_new _ _)
  have z3 : w2.heap.size < w3.heap.size := (Array.getElem?_eq_some_iff.1 T3).1
  obtain ⟨⟨a0, a1, a2, a3, a4, a5, a6, a7, a8, a9, a10, a11, a12⟩, -⟩ := blk13 T3
  have H3 := Lib.hid m3
  clear m3 k3 T3 hF
  go_wp2_with fail
  refine (Sweeps_c _ 0 40 0 0 0 0 0 0 0 0 0 0 none 0 0 (by omega) (by omega)).mono ?_
  rintro e w4 ⟨rfl, hb4⟩
  have e0 := (hb4.cell (p := ⟨w2.heap.size, 0, none⟩) z3).trans a0
  have e1 := (hb4.cell (p := ⟨w2.heap.size, 1, none⟩) z3).trans a1
  have e2 := (hb4.cell (p := ⟨w2.heap.size, 2, none⟩) z3).trans a2
  have e3 := (hb4.cell (p := ⟨w2.heap.size, 3, none⟩) z3).trans a3
  have e4 := (hb4.cell (p := ⟨w2.heap.size, 4, none⟩) z3).trans a4
  have e5 := (hb4.cell (p := ⟨w2.heap.size, 5, none⟩) z3).trans a5
  have e6 := (hb4.cell (p := ⟨w2.heap.size, 6, none⟩) z3).trans a6
  have e7 := (hb4.cell (p := ⟨w2.heap.size, 7, none⟩) z3).trans a7
  have e8 := (hb4.cell (p := ⟨w2.heap.size, 8, none⟩) z3).trans a8
  have e9 := (hb4.cell (p := ⟨w2.heap.size, 9, none⟩) z3).trans a9
  have e10 := (hb4.cell (p := ⟨w2.heap.size, 10, none⟩) z3).trans a10
  have e11 := (hb4.cell (p := ⟨w2.heap.size, 11, none⟩) z3).trans a11
  have e12 := (hb4.cell (p := ⟨w2.heap.size, 12, none⟩) z3).trans a12
  clear a0 a1 a2 a3 a4 a5 a6 a7 a8 a9 a10 a11 a12
  go_wp2_with fail
  refine (Sweeps_a _ 0 11 0 0 0 0 0 0 0 0 0 0 bo 0 bc (by omega)).mono ?_
  rintro e w5 ⟨rfl, hb5⟩
  have B5 := H3.out.B.trans ((hb4.trans (hb5.mono hb4.size)).mono H3.out.B.size)
  go_wp2
  go_ret
  exact ⟨by first | rfl | (simp; done), HB.out.trans (B5.mono z0)⟩

end Go.Proofs.Ythdhilmmcabnlaa
