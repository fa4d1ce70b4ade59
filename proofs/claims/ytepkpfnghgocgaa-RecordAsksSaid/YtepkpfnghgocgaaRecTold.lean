/- What is told of a record, and whether it waits. -/
import Derived.Test.YtepkpfnghgocgaaRec
import Derived.Test.YtepkpfnghgocgaaWord
import Derived.Test.YtepkpfnghgocgaaFrame
namespace Go.Proofs.Ytepkpfnghgocgaa
set_option linter.unusedSimpArgs false
set_option linter.unusedVariables false
open Go.RowKit
open Go.ChangeShapes Go.WideShapes Go.ChangeAt

set_option maxRecDepth 100000 in
set_option maxHeartbeats 400000 in
theorem Told_f (y0 y1 y2 y3 y4 : Int) (w : World) :
    Calls Try.prog 34 #[.agg #[.int .i64 y0, .int .i64 y1, .int .i64 y2, .int .i64 y3, .int .i64 y4]] w fun e w' => e = .returned (.tuple #[.agg #[.int .u8 (wk y4), .int .i32 (wv y4)], .bool (wis y4)]) ∧ Below w.heap.size w w' := by
  go_enter Try.func34, Try.ntmps34
  go_wp2_with fail
  refine (wOfRes_any y4 _).mono ?_
  rintro e w1 ⟨rfl, hb1⟩
  have z1 : w.heap.size + 1 < w1.heap.size := by have := hb1.size; first | omega | (simp at this; omega)
  have c1_0_0 : w1.cell? ⟨w.heap.size + 1, 0, none⟩ = some (.int .u8 0) := (hb1.cell (p := ⟨w.heap.size + 1, 0, none⟩) (by first | omega | (simp; omega) | (simp; done))).trans (by go_simp)
  have f1_0_0 : w1.frozen? ⟨w.heap.size + 1, 0, none⟩ = false := (hb1.frozen (p := ⟨w.heap.size + 1, 0, none⟩) (by first | omega | (simp; omega) | (simp; done))).trans (by go_simp)
  have c1_0_1 : w1.cell? ⟨w.heap.size + 1, 1, none⟩ = some (.int .i32 0) := (hb1.cell (p := ⟨w.heap.size + 1, 1, none⟩) (by first | omega | (simp; omega) | (simp; done))).trans (by go_simp)
  have f1_0_1 : w1.frozen? ⟨w.heap.size + 1, 1, none⟩ = false := (hb1.frozen (p := ⟨w.heap.size + 1, 1, none⟩) (by first | omega | (simp; omega) | (simp; done))).trans (by go_simp)
  have B1 : Below w.heap.size w w1 := Below.trans (by go_grown) (hb1.mono (by first | omega | (simp; omega) | (simp; done)))
  clear hb1
  go_wp2
  refine bodyPost_ret (v := .tuple #[.agg #[.int .u8 (wk y4), .int .i32 (wv y4)], .bool (wis y4)]) (by simp [results, Try.results34, go_sem, z1, c1_0_0, c1_0_1]) rfl ⟨rfl, by go_grown⟩
set_option maxHeartbeats 400000 in
theorem Waits_f (y0 y1 y2 y3 y4 : Int) (w : World) :
    Calls Try.prog 35 #[.agg #[.int .i64 y0, .int .i64 y1, .int .i64 y2, .int .i64 y3, .int .i64 y4]] w fun e w' => e = .returned (.bool (decide (0 < y0))) ∧ Below w.heap.size w w' := by
  go_enter Try.func35, Try.ntmps35
  go_wp2_with fail
  refine (wAsks_any y0 _).mono ?_
  rintro e w' ⟨rfl, rfl⟩
  go_wp2
  go_ret
  exact ⟨rfl, by go_grown⟩

end Go.Proofs.Ytepkpfnghgocgaa
