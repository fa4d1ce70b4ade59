/- Threads that have the same numbers and the same items are the same; a thread whose numbers are small. -/
import Derived.Test.YtcellcjojfbajaaThr3
import Derived.BigQuiet
import Derived.BigRegion
namespace Go.Proofs.Ytcellcjojfbajaa
set_option linter.unusedSimpArgs false
set_option linter.unusedVariables false
open Go.RowKit
open Go.ChangeShapes Go.WideShapes Go.ChangeAt

set_option maxRecDepth 100000 in
set_option maxHeartbeats 4000000 in
theorem Same15_self (w : World) (i0 i1 i2 i3 i4 i5 i6 i7 i8 i9 i10 i11 : Int) (b1 b2 : Value) (n : Nat) (F : Nat → Int) (h1 : Its w b1 n F) (h2 : Its w b2 n F) (hn : n ≤ 1000000) :
    Calls Try.prog 22 #[.agg #[.int .i64 i0, .int .i64 i1, .int .i64 i2, .int .i64 i3, .int .i64 i4, .int .i64 i5, .int .i64 i6, .int .i64 i7, .int .i64 i8, .int .i64 i9, .int .i64 i10, .int .i64 i11, b1], .agg #[.int .i64 i0, .int .i64 i1, .int .i64 i2, .int .i64 i3, .int .i64 i4, .int .i64 i5, .int .i64 i6, .int .i64 i7, .int .i64 i8, .int .i64 i9, .int .i64 i10, .int .i64 i11, b2]] w fun e w' => e = .returned (.bool true) ∧ Below w.heap.size w w' := by
  obtain ⟨ao1, cap1, rfl, hc1⟩ := h1
  obtain ⟨ao2, cap2, rfl, hc2⟩ := h2
  have HC := Lib.hid (And.intro hc1 hc2)
  have hn' : (n : Int) ≤ 1000000 := by omega
  clear hc1 hc2
  go_enter Try.func22, Try.ntmps22
  go_wp2_with fail
  generalize hW : World.alloc _ _ = W
  have A0 : W.heap[w.heap.size]? = some (.cells #[.int .i64 i0, .int .i64 i1, .int .i64 i2, .int .i64 i3, .int .i64 i4, .int .i64 i5, .int .i64 i6, .int .i64 i7, .int .i64 i8, .int .i64 i9, .int .i64 i10, .int .i64 i11, .slice ao1 n cap1] 30 (0, 0)) := by rw [← hW]; exact alloc2_heap0 _ _ _
  have A1 : W.heap[w.heap.size + 1]? = some (.cells #[.int .i64 i0, .int .i64 i1, .int .i64 i2, .int .i64 i3, .int .i64 i4, .int .i64 i5, .int .i64 i6, .int .i64 i7, .int .i64 i8, .int .i64 i9, .int .i64 i10, .int .i64 i11, .slice ao2 n cap2] 30 (0, 0)) := by rw [← hW]; exact alloc2_heap1 _ _ _
  have BW : Below w.heap.size w W := by rw [← hW]; go_grown
  have HA := Lib.hid (And.intro A0 (And.intro A1 BW))
  clear hW A0 A1 BW
  go_loopw [5] (fun j wr => ∃ i : Nat, i ≤ n ∧ j = .int .i64 i ∧ wr.heap[w.heap.size]? = some (.cells #[.int .i64 i0, .int .i64 i1, .int .i64 i2, .int .i64 i3, .int .i64 i4, .int .i64 i5, .int .i64 i6, .int .i64 i7, .int .i64 i8, .int .i64 i9, .int .i64 i10, .int .i64 i11, .slice ao1 n cap1] 30 (0, 0)) ∧ wr.heap[w.heap.size + 1]? = some (.cells #[.int .i64 i0, .int .i64 i1, .int .i64 i2, .int .i64 i3, .int .i64 i4, .int .i64 i5, .int .i64 i6, .int .i64 i7, .int .i64 i8, .int .i64 i9, .int .i64 i10, .int .i64 i11, .slice ao2 n cap2] 30 (0, 0)) ∧ Below w.heap.size w wr) (fun j _ => n - (intOf j).toNat)
  case atStart => exact ⟨0, Nat.zero_le _, rfl, HA.out.1, HA.out.2.1, HA.out.2.2⟩
  case round =>
    obtain ⟨i, hi, rfl, A0, A1, BW⟩ := hrel
    have HR := Lib.hid (And.intro A0 (And.intro A1 BW))
    clear HA
    obtain ⟨⟨a0, a1, a2, a3, a4, a5, a6, a7, a8, a9, a10, a11, a12⟩, -⟩ := blk13 A0
    obtain ⟨⟨b0, b1, b2, b3, b4, b5, b6, b7, b8, b9, b10, b11, b12⟩, -⟩ := blk13 A1
    clear A0 A1 BW
    have i0' : (0 : Int) ≤ (i : Int) := by omega
    by_cases hlt : i < n
    · have hlt' : (i : Int) < (n : Int) := by omega
      obtain ⟨k1, o1, rfl, z1, e1⟩ := HC.out.1 (by omega)
      obtain ⟨k2, o2, rfl, z2, e2⟩ := HC.out.2 (by omega)
      have e10 : wr.cell? ⟨k1, o1 + i * 3, none⟩ = some (.int .i64 (F (3 * i + 0))) := (HR.out.2.2.cell (p := ⟨k1, o1 + i * 3, none⟩) z1).trans (by have := e1 (3 * i + 0) (by omega); rw [show o1 + (3 * i + 0) = o1 + i * 3 by omega] at this; exact this)
      have e11 : wr.cell? ⟨k1, o1 + i * 3 + 1, none⟩ = some (.int .i64 (F (3 * i + 1))) := (HR.out.2.2.cell (p := ⟨k1, o1 + i * 3 + 1, none⟩) z1).trans (by have := e1 (3 * i + 1) (by omega); rw [show o1 + (3 * i + 1) = o1 + i * 3 + 1 by omega] at this; exact this)
      have e12 : wr.cell? ⟨k1, o1 + i * 3 + 2, none⟩ = some (.int .i64 (F (3 * i + 2))) := (HR.out.2.2.cell (p := ⟨k1, o1 + i * 3 + 2, none⟩) z1).trans (by have := e1 (3 * i + 2) (by omega); rw [show o1 + (3 * i + 2) = o1 + i * 3 + 2 by omega] at this; exact this)
      have e20 : wr.cell? ⟨k2, o2 + i * 3, none⟩ = some (.int .i64 (F (3 * i + 0))) := (HR.out.2.2.cell (p := ⟨k2, o2 + i * 3, none⟩) z2).trans (by have := e2 (3 * i + 0) (by omega); rw [show o2 + (3 * i + 0) = o2 + i * 3 by omega] at this; exact this)
      have e21 : wr.cell? ⟨k2, o2 + i * 3 + 1, none⟩ = some (.int .i64 (F (3 * i + 1))) := (HR.out.2.2.cell (p := ⟨k2, o2 + i * 3 + 1, none⟩) z2).trans (by have := e2 (3 * i + 1) (by omega); rw [show o2 + (3 * i + 1) = o2 + i * 3 + 1 by omega] at this; exact this)
      have e22 : wr.cell? ⟨k2, o2 + i * 3 + 2, none⟩ = some (.int .i64 (F (3 * i + 2))) := (HR.out.2.2.cell (p := ⟨k2, o2 + i * 3 + 2, none⟩) z2).trans (by have := e2 (3 * i + 2) (by omega); rw [show o2 + (3 * i + 2) = o2 + i * 3 + 2 by omega] at this; exact this)
      obtain ⟨x0, hx0⟩ : ∃ x, F (3 * i + 0) = x := ⟨_, rfl⟩
      obtain ⟨x1, hx1⟩ : ∃ x, F (3 * i + 1) = x := ⟨_, rfl⟩
      obtain ⟨x2, hx2⟩ : ∃ x, F (3 * i + 2) = x := ⟨_, rfl⟩
      rw [hx0] at e10 e20
      rw [hx1] at e11 e21
      rw [hx2] at e12 e22
      clear e1 e2 hx0 hx1 hx2
      go_wp2_with fail
      go_quiet (fail)
      go_wp2_with fail
      go_roundw
      case rel => exact ⟨i + 1, by omega, by go_num, HR.out.1, HR.out.2.1, Below.trans HR.out.2.2 (below_drewN (Below.refl _ _) nq |>.mono HR.out.2.2.size)⟩
      case measure => simp [intOf]; omega
    · obtain rfl : i = n := by omega
      go_wp2
      go_ret
      exact ⟨rfl, HR.out.2.2⟩

set_option maxRecDepth 100000 in
set_option maxHeartbeats 2000000 in
theorem Tame_any (w : World) (i0 i1 i2 i3 i4 i5 i6 i7 i8 i9 i10 i11 : Int) (bo : Option Addr) (bn bc : Nat) (k : Int) (k0 : 0 ≤ k) (k1 : k ≤ 255) :
    Calls Try.prog 26 #[.agg #[.int .i64 i0, .int .i64 i1, .int .i64 i2, .int .i64 i3, .int .i64 i4, .int .i64 i5, .int .i64 i6, .int .i64 i7, .int .i64 i8, .int .i64 i9, .int .i64 i10, .int .i64 i11, .slice bo bn bc], .int .u8 k] w fun e w' => ∃ y0 y1 y2 y3 y4 y5 y6 y7 y8 y9 y10 y11 : Int, e = .returned (.agg #[.int .i64 y0, .int .i64 y1, .int .i64 y2, .int .i64 y3, .int .i64 y4, .int .i64 y5, .int .i64 y6, .int .i64 y7, .int .i64 y8, .int .i64 y9, .int .i64 y10, .int .i64 y11, .slice bo bn bc]) ∧ -9223372036854775808 ≤ y6 ∧ y6 ≤ 9223372036854775807 ∧ Below w.heap.size w w' := by
  go_enter Try.func26, Try.ntmps26
  go_wp2
  have hw : ∀ z : Int, -9223372036854775808 ≤ wrap64 z ∧ wrap64 z ≤ 9223372036854775807 := fun z => by unfold wrap64; omega
  refine bodyPost_ret (v := .agg #[.int .i64 i0, .int .i64 (k % 50), .int .i64 (3 + 5 * (k % 7)), .int .i64 i3, .int .i64 (bits BinOp.and IntKind.i64 i4 3), .int .i64 (bits BinOp.and IntKind.i64 i5 31), .int .i64 (wrap64 (3 + wrap64 (5 * bits BinOp.and IntKind.i64 i6 7))), .int .i64 (wrap64 (3 + wrap64 (5 * bits BinOp.and IntKind.i64 i7 7))), .int .i64 (bits BinOp.and IntKind.i64 i8 7), .int .i64 (bits BinOp.and IntKind.i64 i9 7), .int .i64 (bits BinOp.and IntKind.i64 i10 15), .int .i64 (bits BinOp.and IntKind.i64 i11 3), .slice bo bn bc]) (by simp [results, Try.results26, go_sem]) rfl ⟨_, _, _, _, _, _, _, _, _, _, _, _, rfl, (hw _).1, (hw _).2, by go_grown⟩

end Go.Proofs.Ytcellcjojfbajaa
