/- Plain steps of a thread that asks, at cells that are written out. -/
import Derived.Test.YtcellcjojfbajaaOwP
namespace Go.Proofs.Ytcellcjojfbajaa
set_option linter.unusedSimpArgs false
set_option linter.unusedVariables false
open Go.RowKit
open Go.ChangeShapes Go.WideShapes Go.ChangeAt

theorem wr64 (n : Int) (h1 : -9223372036854775808 ≤ n) (h2 : n ≤ 9223372036854775807) : wrap64 n = n := by unfold wrap64; omega
set_option maxHeartbeats 2000000 in
theorem told9 (w : Int)  : owIt 8 noE [0, 0, 0] ⟨0, 1, 0, 1, w, 0, 0, 0, 0, 0, 0, 0⟩ 9 = ([0, 3, 0, w, 1, 0, 0, 0], ⟨0, 11, 3, 1, w, 1, 0, 0, 0, 0, 0, 0⟩) := by
  have e0 : owIt 8 noE [0, 0, 0] ⟨0, 1, 0, 1, w, 0, 0, 0, 0, 0, 0, 0⟩ 0 = ([0, 0, 0], ⟨0, 1, 0, 1, w, 0, 0, 0, 0, 0, 0, 0⟩) := rfl
  have e1 : owIt 8 noE [0, 0, 0] ⟨0, 1, 0, 1, w, 0, 0, 0, 0, 0, 0, 0⟩ 1 = ([0, 0, 0, 0, 0, 0, 0, 0], ⟨0, 2, 3, 1, w, 0, 0, 0, 0, 0, 0, 0⟩) := (owIt_succ e0).trans (by simp [owX, owT, owA, cellAt, cellSet, cellSwap, swapIs, allocOk, allocXs, noE, wr64])
  have e2 : owIt 8 noE [0, 0, 0] ⟨0, 1, 0, 1, w, 0, 0, 0, 0, 0, 0, 0⟩ 2 = ([0, 0, 0, w, 0, 0, 0, 0], ⟨0, 5, 3, 1, w, 0, 0, 0, 0, 0, 0, 0⟩) := (owIt_succ e1).trans (by simp [owX, owT, owA, cellAt, cellSet, cellSwap, swapIs, allocOk, allocXs, noE, wr64])
  have e3 : owIt 8 noE [0, 0, 0] ⟨0, 1, 0, 1, w, 0, 0, 0, 0, 0, 0, 0⟩ 3 = ([0, 0, 0, w, 0, 0, 0, 0], ⟨0, 6, 3, 1, w, 0, 0, 0, 0, 0, 0, 0⟩) := (owIt_succ e2).trans (by simp [owX, owT, owA, cellAt, cellSet, cellSwap, swapIs, allocOk, allocXs, noE, wr64])
  have e4 : owIt 8 noE [0, 0, 0] ⟨0, 1, 0, 1, w, 0, 0, 0, 0, 0, 0, 0⟩ 4 = ([0, 0, 0, w, 2, 0, 0, 0], ⟨0, 15, 3, 1, w, 0, 0, 0, 0, 0, 0, 0⟩) := (owIt_succ e3).trans (by simp [owX, owT, owA, cellAt, cellSet, cellSwap, swapIs, allocOk, allocXs, noE, wr64])
  have e5 : owIt 8 noE [0, 0, 0] ⟨0, 1, 0, 1, w, 0, 0, 0, 0, 0, 0, 0⟩ 5 = ([0, 0, 0, w, 2, 0, 0, 0], ⟨0, 7, 3, 1, w, w, 0, 0, 0, 0, 0, 0⟩) := (owIt_succ e4).trans (by simp [owX, owT, owA, cellAt, cellSet, cellSwap, swapIs, allocOk, allocXs, noE, wr64])
  have e6 : owIt 8 noE [0, 0, 0] ⟨0, 1, 0, 1, w, 0, 0, 0, 0, 0, 0, 0⟩ 6 = ([0, 0, 0, w, 2, 0, 0, 0], ⟨0, 8, 3, 1, w, 0, 0, 0, 0, 0, 0, 0⟩) := (owIt_succ e5).trans (by simp [owX, owT, owA, cellAt, cellSet, cellSwap, swapIs, allocOk, allocXs, noE, wr64])
  have e7 : owIt 8 noE [0, 0, 0] ⟨0, 1, 0, 1, w, 0, 0, 0, 0, 0, 0, 0⟩ 7 = ([0, 0, 0, w, 2, 0, 0, 0], ⟨0, 9, 3, 1, w, 0, 0, 0, 0, 0, 0, 0⟩) := (owIt_succ e6).trans (by simp [owX, owT, owA, cellAt, cellSet, cellSwap, swapIs, allocOk, allocXs, noE, wr64])
  have e8 : owIt 8 noE [0, 0, 0] ⟨0, 1, 0, 1, w, 0, 0, 0, 0, 0, 0, 0⟩ 8 = ([0, 3, 0, w, 2, 0, 0, 0], ⟨0, 10, 3, 1, w, 1, 0, 0, 0, 0, 0, 0⟩) := (owIt_succ e7).trans (by simp [owX, owT, owA, cellAt, cellSet, cellSwap, swapIs, allocOk, allocXs, noE, wr64])
  have e9 : owIt 8 noE [0, 0, 0] ⟨0, 1, 0, 1, w, 0, 0, 0, 0, 0, 0, 0⟩ 9 = ([0, 3, 0, w, 1, 0, 0, 0], ⟨0, 11, 3, 1, w, 1, 0, 0, 0, 0, 0, 0⟩) := (owIt_succ e8).trans (by simp [owX, owT, owA, cellAt, cellSet, cellSwap, swapIs, allocOk, allocXs, noE, wr64])
  exact e9
def E9 (k : Nat) (x : List Int) : List Int := cellSet x 0 9
set_option maxHeartbeats 2000000 in
theorem told9_0 (w : Int)  : owIt 8 E9 [0, 3, 0, w, 1, 0, 0, 0] ⟨0, 11, 3, 1, w, 1, 0, 0, 0, 0, 0, 0⟩ 0 = ([0, 3, 0, w, 1, 0, 0, 0], ⟨0, 11, 3, 1, w, 1, 0, 0, 0, 0, 0, 0⟩) := by
  have e0 : owIt 8 E9 [0, 3, 0, w, 1, 0, 0, 0] ⟨0, 11, 3, 1, w, 1, 0, 0, 0, 0, 0, 0⟩ 0 = ([0, 3, 0, w, 1, 0, 0, 0], ⟨0, 11, 3, 1, w, 1, 0, 0, 0, 0, 0, 0⟩) := rfl
  exact e0
set_option maxHeartbeats 2000000 in
theorem told9_2 (w : Int)  : owIt 8 E9 [0, 3, 0, w, 1, 0, 0, 0] ⟨0, 11, 3, 1, w, 1, 0, 0, 0, 0, 0, 0⟩ 2 = ([9, 3, 0, w, 1, 0, 0, 0], ⟨0, 11, 3, 1, w, 9, 0, 0, 0, 0, 0, 0⟩) := by
  have e0 : owIt 8 E9 [0, 3, 0, w, 1, 0, 0, 0] ⟨0, 11, 3, 1, w, 1, 0, 0, 0, 0, 0, 0⟩ 0 = ([0, 3, 0, w, 1, 0, 0, 0], ⟨0, 11, 3, 1, w, 1, 0, 0, 0, 0, 0, 0⟩) := rfl
  have e1 : owIt 8 E9 [0, 3, 0, w, 1, 0, 0, 0] ⟨0, 11, 3, 1, w, 1, 0, 0, 0, 0, 0, 0⟩ 1 = ([9, 3, 0, w, 1, 0, 0, 0], ⟨0, 12, 3, 1, w, w, 0, 0, 0, 0, 0, 0⟩) := (owIt_succ e0).trans (by simp [owX, owT, owA, cellAt, cellSet, cellSwap, swapIs, allocOk, allocXs, noE, wr64, E9])
  have e2 : owIt 8 E9 [0, 3, 0, w, 1, 0, 0, 0] ⟨0, 11, 3, 1, w, 1, 0, 0, 0, 0, 0, 0⟩ 2 = ([9, 3, 0, w, 1, 0, 0, 0], ⟨0, 11, 3, 1, w, 9, 0, 0, 0, 0, 0, 0⟩) := (owIt_succ e1).trans (by simp [owX, owT, owA, cellAt, cellSet, cellSwap, swapIs, allocOk, allocXs, noE, wr64, E9])
  exact e2
set_option maxHeartbeats 2000000 in
theorem told9_4 (w : Int)  : owIt 8 E9 [0, 3, 0, w, 1, 0, 0, 0] ⟨0, 11, 3, 1, w, 1, 0, 0, 0, 0, 0, 0⟩ 4 = ([9, 3, 0, w, 1, 0, 0, 0], ⟨0, 11, 3, 1, w, 9, 0, 0, 0, 0, 0, 0⟩) := by
  have e0 : owIt 8 E9 [0, 3, 0, w, 1, 0, 0, 0] ⟨0, 11, 3, 1, w, 1, 0, 0, 0, 0, 0, 0⟩ 0 = ([0, 3, 0, w, 1, 0, 0, 0], ⟨0, 11, 3, 1, w, 1, 0, 0, 0, 0, 0, 0⟩) := rfl
  have e1 : owIt 8 E9 [0, 3, 0, w, 1, 0, 0, 0] ⟨0, 11, 3, 1, w, 1, 0, 0, 0, 0, 0, 0⟩ 1 = ([9, 3, 0, w, 1, 0, 0, 0], ⟨0, 12, 3, 1, w, w, 0, 0, 0, 0, 0, 0⟩) := (owIt_succ e0).trans (by simp [owX, owT, owA, cellAt, cellSet, cellSwap, swapIs, allocOk, allocXs, noE, wr64, E9])
  have e2 : owIt 8 E9 [0, 3, 0, w, 1, 0, 0, 0] ⟨0, 11, 3, 1, w, 1, 0, 0, 0, 0, 0, 0⟩ 2 = ([9, 3, 0, w, 1, 0, 0, 0], ⟨0, 11, 3, 1, w, 9, 0, 0, 0, 0, 0, 0⟩) := (owIt_succ e1).trans (by simp [owX, owT, owA, cellAt, cellSet, cellSwap, swapIs, allocOk, allocXs, noE, wr64, E9])
  have e3 : owIt 8 E9 [0, 3, 0, w, 1, 0, 0, 0] ⟨0, 11, 3, 1, w, 1, 0, 0, 0, 0, 0, 0⟩ 3 = ([9, 3, 0, w, 1, 0, 0, 0], ⟨0, 12, 3, 1, w, w, 0, 0, 0, 0, 0, 0⟩) := (owIt_succ e2).trans (by simp [owX, owT, owA, cellAt, cellSet, cellSwap, swapIs, allocOk, allocXs, noE, wr64, E9])
  have e4 : owIt 8 E9 [0, 3, 0, w, 1, 0, 0, 0] ⟨0, 11, 3, 1, w, 1, 0, 0, 0, 0, 0, 0⟩ 4 = ([9, 3, 0, w, 1, 0, 0, 0], ⟨0, 11, 3, 1, w, 9, 0, 0, 0, 0, 0, 0⟩) := (owIt_succ e3).trans (by simp [owX, owT, owA, cellAt, cellSet, cellSwap, swapIs, allocOk, allocXs, noE, wr64, E9])
  exact e4
theorem toldE (w : Int) (k : Int) (h0 : 0 ≤ k) (h1 : k ≤ 255) : ∃ a c : Int, owIt 8 E9 [0, 3, 0, w, 1, 0, 0, 0] ⟨0, 11, 3, 1, w, 1, 0, 0, 0, 0, 0, 0⟩ ((k % 3) * 2).toNat = ([a, 3, 0, w, 1, 0, 0, 0], ⟨0, 11, 3, 1, w, c, 0, 0, 0, 0, 0, 0⟩) := by
  have h : k % 3 = 0 ∨ k % 3 = 1 ∨ k % 3 = 2 := by omega
  rcases h with h | h | h <;> rw [h]
  · exact ⟨_, _, told9_0 w⟩
  · exact ⟨_, _, told9_2 w⟩
  · exact ⟨_, _, told9_4 w⟩
theorem told_x (w c r : Int) (hw : 1 ≤ w) : owX 8 [9, 3, 0, 0, 1, 0, 0, r] ⟨0, 11, 3, 1, w, c, 0, 0, 0, 0, 0, 0⟩ = [9, 3, 0, 0, 1, 0, 0, r] ∧ owT 8 [9, 3, 0, 0, 1, 0, 0, r] ⟨0, 11, 3, 1, w, c, 0, 0, 0, 0, 0, 0⟩ = ⟨0, 14, 3, 1, w, 0, 0, 0, 0, 0, 0, 0⟩ := by constructor <;> simp [owX, owT, owA, cellAt, cellSet, cellSwap, swapIs, allocOk, allocXs, noE, wr64, show ¬ (0 : Int) = w by omega]
theorem told_y (w r : Int)  : owX 8 [9, 3, 0, 0, 1, 0, 0, r] ⟨0, 14, 3, 1, w, 0, 0, 0, 0, 0, 0, 0⟩ = [9, 3, 0, 0, 1, 0, 0, r] ∧ owT 8 [9, 3, 0, 0, 1, 0, 0, r] ⟨0, 14, 3, 1, w, 0, 0, 0, 0, 0, 0, 0⟩ = ⟨0, 0, 3, 1, 0, r, 0, 0, 0, 0, 0, 0⟩ := by constructor <;> simp [owX, owT, owA, cellAt, cellSet, cellSwap, swapIs, allocOk, allocXs, noE, wr64]
set_option maxHeartbeats 2000000 in
theorem lockA (d w : Int)  : owIt 13 noE [0, 0, 0] ⟨d, 1, 0, 1, w, 0, 0, 0, 0, 0, 0, 0⟩ 11 = ([0, 3, 0, w, 1, 0, 0, 0], ⟨d, 13, 3, 1, w, 0, 0, 0, 0, 0, 0, 0⟩) := by
  have e0 : owIt 13 noE [0, 0, 0] ⟨d, 1, 0, 1, w, 0, 0, 0, 0, 0, 0, 0⟩ 0 = ([0, 0, 0], ⟨d, 1, 0, 1, w, 0, 0, 0, 0, 0, 0, 0⟩) := rfl
  have e1 : owIt 13 noE [0, 0, 0] ⟨d, 1, 0, 1, w, 0, 0, 0, 0, 0, 0, 0⟩ 1 = ([0, 0, 0, 0, 0, 0, 0, 0], ⟨d, 2, 3, 1, w, 0, 0, 0, 0, 0, 0, 0⟩) := (owIt_succ e0).trans (by simp [owX, owT, owA, cellAt, cellSet, cellSwap, swapIs, allocOk, allocXs, noE, wr64])
  have e2 : owIt 13 noE [0, 0, 0] ⟨d, 1, 0, 1, w, 0, 0, 0, 0, 0, 0, 0⟩ 2 = ([0, 0, 0, w, 0, 0, 0, 0], ⟨d, 5, 3, 1, w, 0, 0, 0, 0, 0, 0, 0⟩) := (owIt_succ e1).trans (by simp [owX, owT, owA, cellAt, cellSet, cellSwap, swapIs, allocOk, allocXs, noE, wr64])
  have e3 : owIt 13 noE [0, 0, 0] ⟨d, 1, 0, 1, w, 0, 0, 0, 0, 0, 0, 0⟩ 3 = ([0, 0, 0, w, 0, 0, 0, 0], ⟨d, 6, 3, 1, w, 0, 0, 0, 0, 0, 0, 0⟩) := (owIt_succ e2).trans (by simp [owX, owT, owA, cellAt, cellSet, cellSwap, swapIs, allocOk, allocXs, noE, wr64])
  have e4 : owIt 13 noE [0, 0, 0] ⟨d, 1, 0, 1, w, 0, 0, 0, 0, 0, 0, 0⟩ 4 = ([0, 0, 0, w, 2, 0, 0, 0], ⟨d, 15, 3, 1, w, 0, 0, 0, 0, 0, 0, 0⟩) := (owIt_succ e3).trans (by simp [owX, owT, owA, cellAt, cellSet, cellSwap, swapIs, allocOk, allocXs, noE, wr64])
  have e5 : owIt 13 noE [0, 0, 0] ⟨d, 1, 0, 1, w, 0, 0, 0, 0, 0, 0, 0⟩ 5 = ([0, 0, 0, w, 2, 0, 0, 0], ⟨d, 7, 3, 1, w, w, 0, 0, 0, 0, 0, 0⟩) := (owIt_succ e4).trans (by simp [owX, owT, owA, cellAt, cellSet, cellSwap, swapIs, allocOk, allocXs, noE, wr64])
  have e6 : owIt 13 noE [0, 0, 0] ⟨d, 1, 0, 1, w, 0, 0, 0, 0, 0, 0, 0⟩ 6 = ([0, 0, 0, w, 2, 0, 0, 0], ⟨d, 8, 3, 1, w, 0, 0, 0, 0, 0, 0, 0⟩) := (owIt_succ e5).trans (by simp [owX, owT, owA, cellAt, cellSet, cellSwap, swapIs, allocOk, allocXs, noE, wr64])
  have e7 : owIt 13 noE [0, 0, 0] ⟨d, 1, 0, 1, w, 0, 0, 0, 0, 0, 0, 0⟩ 7 = ([0, 0, 0, w, 2, 0, 0, 0], ⟨d, 9, 3, 1, w, 0, 0, 0, 0, 0, 0, 0⟩) := (owIt_succ e6).trans (by simp [owX, owT, owA, cellAt, cellSet, cellSwap, swapIs, allocOk, allocXs, noE, wr64])
  have e8 : owIt 13 noE [0, 0, 0] ⟨d, 1, 0, 1, w, 0, 0, 0, 0, 0, 0, 0⟩ 8 = ([0, 3, 0, w, 2, 0, 0, 0], ⟨d, 10, 3, 1, w, 1, 0, 0, 0, 0, 0, 0⟩) := (owIt_succ e7).trans (by simp [owX, owT, owA, cellAt, cellSet, cellSwap, swapIs, allocOk, allocXs, noE, wr64])
  have e9 : owIt 13 noE [0, 0, 0] ⟨d, 1, 0, 1, w, 0, 0, 0, 0, 0, 0, 0⟩ 9 = ([0, 3, 0, w, 1, 0, 0, 0], ⟨d, 11, 3, 1, w, 1, 0, 0, 0, 0, 0, 0⟩) := (owIt_succ e8).trans (by simp [owX, owT, owA, cellAt, cellSet, cellSwap, swapIs, allocOk, allocXs, noE, wr64])
  have e10 : owIt 13 noE [0, 0, 0] ⟨d, 1, 0, 1, w, 0, 0, 0, 0, 0, 0, 0⟩ 10 = ([0, 3, 0, w, 1, 0, 0, 0], ⟨d, 12, 3, 1, w, w, 0, 0, 0, 0, 0, 0⟩) := (owIt_succ e9).trans (by simp [owX, owT, owA, cellAt, cellSet, cellSwap, swapIs, allocOk, allocXs, noE, wr64])
  have e11 : owIt 13 noE [0, 0, 0] ⟨d, 1, 0, 1, w, 0, 0, 0, 0, 0, 0, 0⟩ 11 = ([0, 3, 0, w, 1, 0, 0, 0], ⟨d, 13, 3, 1, w, 0, 0, 0, 0, 0, 0, 0⟩) := (owIt_succ e10).trans (by simp [owX, owT, owA, cellAt, cellSet, cellSwap, swapIs, allocOk, allocXs, noE, wr64])
  exact e11
set_option maxHeartbeats 2000000 in
theorem lockB (d w v : Int)  : owIt 13 noE [0, 3, 0, w, 1, 0, 0, 0] ⟨d, 1, 0, 1, v, 0, 0, 0, 0, 0, 0, 0⟩ 11 = ([0, 8, 0, w, 1, 0, 0, 0, v, 1, 0, 3, 0], ⟨d, 13, 8, 1, v, 0, 0, 0, 0, 0, 0, 0⟩) := by
  have e0 : owIt 13 noE [0, 3, 0, w, 1, 0, 0, 0] ⟨d, 1, 0, 1, v, 0, 0, 0, 0, 0, 0, 0⟩ 0 = ([0, 3, 0, w, 1, 0, 0, 0], ⟨d, 1, 0, 1, v, 0, 0, 0, 0, 0, 0, 0⟩) := rfl
  have e1 : owIt 13 noE [0, 3, 0, w, 1, 0, 0, 0] ⟨d, 1, 0, 1, v, 0, 0, 0, 0, 0, 0, 0⟩ 1 = ([0, 3, 0, w, 1, 0, 0, 0, 0, 0, 0, 0, 0], ⟨d, 2, 8, 1, v, 0, 0, 0, 0, 0, 0, 0⟩) := (owIt_succ e0).trans (by simp [owX, owT, owA, cellAt, cellSet, cellSwap, swapIs, allocOk, allocXs, noE, wr64])
  have e2 : owIt 13 noE [0, 3, 0, w, 1, 0, 0, 0] ⟨d, 1, 0, 1, v, 0, 0, 0, 0, 0, 0, 0⟩ 2 = ([0, 3, 0, w, 1, 0, 0, 0, v, 0, 0, 0, 0], ⟨d, 5, 8, 1, v, 0, 0, 0, 0, 0, 0, 0⟩) := (owIt_succ e1).trans (by simp [owX, owT, owA, cellAt, cellSet, cellSwap, swapIs, allocOk, allocXs, noE, wr64])
  have e3 : owIt 13 noE [0, 3, 0, w, 1, 0, 0, 0] ⟨d, 1, 0, 1, v, 0, 0, 0, 0, 0, 0, 0⟩ 3 = ([0, 3, 0, w, 1, 0, 0, 0, v, 0, 0, 0, 0], ⟨d, 6, 8, 1, v, 0, 0, 0, 0, 0, 0, 0⟩) := (owIt_succ e2).trans (by simp [owX, owT, owA, cellAt, cellSet, cellSwap, swapIs, allocOk, allocXs, noE, wr64])
  have e4 : owIt 13 noE [0, 3, 0, w, 1, 0, 0, 0] ⟨d, 1, 0, 1, v, 0, 0, 0, 0, 0, 0, 0⟩ 4 = ([0, 3, 0, w, 1, 0, 0, 0, v, 2, 0, 0, 0], ⟨d, 15, 8, 1, v, 0, 0, 0, 0, 0, 0, 0⟩) := (owIt_succ e3).trans (by simp [owX, owT, owA, cellAt, cellSet, cellSwap, swapIs, allocOk, allocXs, noE, wr64])
  have e5 : owIt 13 noE [0, 3, 0, w, 1, 0, 0, 0] ⟨d, 1, 0, 1, v, 0, 0, 0, 0, 0, 0, 0⟩ 5 = ([0, 3, 0, w, 1, 0, 0, 0, v, 2, 0, 0, 0], ⟨d, 7, 8, 1, v, v, 0, 0, 0, 0, 0, 0⟩) := (owIt_succ e4).trans (by simp [owX, owT, owA, cellAt, cellSet, cellSwap, swapIs, allocOk, allocXs, noE, wr64])
  have e6 : owIt 13 noE [0, 3, 0, w, 1, 0, 0, 0] ⟨d, 1, 0, 1, v, 0, 0, 0, 0, 0, 0, 0⟩ 6 = ([0, 3, 0, w, 1, 0, 0, 0, v, 2, 0, 0, 0], ⟨d, 8, 8, 1, v, 3, 0, 0, 0, 0, 0, 0⟩) := (owIt_succ e5).trans (by simp [owX, owT, owA, cellAt, cellSet, cellSwap, swapIs, allocOk, allocXs, noE, wr64])
  have e7 : owIt 13 noE [0, 3, 0, w, 1, 0, 0, 0] ⟨d, 1, 0, 1, v, 0, 0, 0, 0, 0, 0, 0⟩ 7 = ([0, 3, 0, w, 1, 0, 0, 0, v, 2, 0, 3, 0], ⟨d, 9, 8, 1, v, 3, 0, 0, 0, 0, 0, 0⟩) := (owIt_succ e6).trans (by simp [owX, owT, owA, cellAt, cellSet, cellSwap, swapIs, allocOk, allocXs, noE, wr64])
  have e8 : owIt 13 noE [0, 3, 0, w, 1, 0, 0, 0] ⟨d, 1, 0, 1, v, 0, 0, 0, 0, 0, 0, 0⟩ 8 = ([0, 8, 0, w, 1, 0, 0, 0, v, 2, 0, 3, 0], ⟨d, 10, 8, 1, v, 1, 0, 0, 0, 0, 0, 0⟩) := (owIt_succ e7).trans (by simp [owX, owT, owA, cellAt, cellSet, cellSwap, swapIs, allocOk, allocXs, noE, wr64])
  have e9 : owIt 13 noE [0, 3, 0, w, 1, 0, 0, 0] ⟨d, 1, 0, 1, v, 0, 0, 0, 0, 0, 0, 0⟩ 9 = ([0, 8, 0, w, 1, 0, 0, 0, v, 1, 0, 3, 0], ⟨d, 11, 8, 1, v, 1, 0, 0, 0, 0, 0, 0⟩) := (owIt_succ e8).trans (by simp [owX, owT, owA, cellAt, cellSet, cellSwap, swapIs, allocOk, allocXs, noE, wr64])
  have e10 : owIt 13 noE [0, 3, 0, w, 1, 0, 0, 0] ⟨d, 1, 0, 1, v, 0, 0, 0, 0, 0, 0, 0⟩ 10 = ([0, 8, 0, w, 1, 0, 0, 0, v, 1, 0, 3, 0], ⟨d, 12, 8, 1, v, v, 0, 0, 0, 0, 0, 0⟩) := (owIt_succ e9).trans (by simp [owX, owT, owA, cellAt, cellSet, cellSwap, swapIs, allocOk, allocXs, noE, wr64])
  have e11 : owIt 13 noE [0, 3, 0, w, 1, 0, 0, 0] ⟨d, 1, 0, 1, v, 0, 0, 0, 0, 0, 0, 0⟩ 11 = ([0, 8, 0, w, 1, 0, 0, 0, v, 1, 0, 3, 0], ⟨d, 13, 8, 1, v, 0, 0, 0, 0, 0, 0, 0⟩) := (owIt_succ e10).trans (by simp [owX, owT, owA, cellAt, cellSet, cellSwap, swapIs, allocOk, allocXs, noE, wr64])
  exact e11
-- ([0, 8, 0, w, 1, 0, 0, 0, v, 1, 0, 3, 0], ⟨d, 13, 8, 1, v, 0, 0, 0, 0, 0, 0, 0⟩)
theorem lockC (d w v : Int)  : owX 13 [0, 8, 0, w, 1, 0, 0, 0, v, 1, 0, 3, 0] ⟨d, 13, 3, 1, w, 0, 0, 0, 0, 0, 0, 0⟩ = [wrap64 (d + 1), 8, 0, w, 1, 0, 0, 0, v, 1, 0, 3, 0] ∧ owT 13 [0, 8, 0, w, 1, 0, 0, 0, v, 1, 0, 3, 0] ⟨d, 13, 3, 1, w, 0, 0, 0, 0, 0, 0, 0⟩ = ⟨d, 20, 3, 1, w, 0, 0, 0, 0, 0, 0, 0⟩ := by constructor <;> simp [owX, owT, owA, cellAt, cellSet, cellSwap, swapIs, allocOk, allocXs, noE, wr64]
theorem lockD (d d2 w v : Int) (h1 : wrap64 (d + 1) ≠ 0) : owX 13 [wrap64 (d + 1), 8, 0, w, 1, 0, 0, 0, v, 1, 0, 3, 0] ⟨d2, 13, 8, 1, v, 0, 0, 0, 0, 0, 0, 0⟩ = [wrap64 (d + 1), 8, 0, w, 1, 0, 0, 0, v, 1, 0, 3, 0] ∧ owT 13 [wrap64 (d + 1), 8, 0, w, 1, 0, 0, 0, v, 1, 0, 3, 0] ⟨d2, 13, 8, 1, v, 0, 0, 0, 0, 0, 0, 0⟩ = ⟨d2, 11, 8, 1, v, 0, 0, 0, 0, 0, 0, 0⟩ := by constructor <;> simp [owX, owT, owA, cellAt, cellSet, cellSwap, swapIs, allocOk, allocXs, noE, wr64, h1]
theorem lockE (d w v : Int)  : owX 13 [0, 8, 0, w, 1, 0, 0, 0, v, 1, 0, 3, 0] ⟨d, 13, 8, 1, v, 0, 0, 0, 0, 0, 0, 0⟩ = [wrap64 (d + 1), 8, 0, w, 1, 0, 0, 0, v, 1, 0, 3, 0] ∧ owT 13 [0, 8, 0, w, 1, 0, 0, 0, v, 1, 0, 3, 0] ⟨d, 13, 8, 1, v, 0, 0, 0, 0, 0, 0, 0⟩ = ⟨d, 20, 8, 1, v, 0, 0, 0, 0, 0, 0, 0⟩ := by constructor <;> simp [owX, owT, owA, cellAt, cellSet, cellSwap, swapIs, allocOk, allocXs, noE, wr64]
theorem lockF (d d2 w v : Int) (h1 : wrap64 (d + 1) ≠ 0) : owX 13 [wrap64 (d + 1), 8, 0, w, 1, 0, 0, 0, v, 1, 0, 3, 0] ⟨d2, 13, 3, 1, w, 0, 0, 0, 0, 0, 0, 0⟩ = [wrap64 (d + 1), 8, 0, w, 1, 0, 0, 0, v, 1, 0, 3, 0] ∧ owT 13 [wrap64 (d + 1), 8, 0, w, 1, 0, 0, 0, v, 1, 0, 3, 0] ⟨d2, 13, 3, 1, w, 0, 0, 0, 0, 0, 0, 0⟩ = ⟨d2, 11, 3, 1, w, 0, 0, 0, 0, 0, 0, 0⟩ := by constructor <;> simp [owX, owT, owA, cellAt, cellSet, cellSwap, swapIs, allocOk, allocXs, noE, wr64, h1]
def EC (q o : Int) (k : Nat) (x : List Int) : List Int := if (k : Int) = q then cellSet x 1 o else x
set_option maxHeartbeats 2000000 in
theorem claims2 (h o w : Int)  : owIt 13 (EC 2 o) [0, h, 0] ⟨0, 1, 0, 1, w, 0, 0, 0, 0, 0, 0, 0⟩ 9 = ([0, 3, 0, w, 1, 0, o, 0], ⟨0, 11, 3, 1, w, 1, 0, 0, 0, 0, 0, 0⟩) := by
  have e0 : owIt 13 (EC 2 o) [0, h, 0] ⟨0, 1, 0, 1, w, 0, 0, 0, 0, 0, 0, 0⟩ 0 = ([0, h, 0], ⟨0, 1, 0, 1, w, 0, 0, 0, 0, 0, 0, 0⟩) := rfl
  have e1 : owIt 13 (EC 2 o) [0, h, 0] ⟨0, 1, 0, 1, w, 0, 0, 0, 0, 0, 0, 0⟩ 1 = ([0, h, 0, 0, 0, 0, 0, 0], ⟨0, 2, 3, 1, w, 0, 0, 0, 0, 0, 0, 0⟩) := (owIt_succ e0).trans (by simp [owX, owT, owA, cellAt, cellSet, cellSwap, swapIs, allocOk, allocXs, noE, wr64, EC])
  have e2 : owIt 13 (EC 2 o) [0, h, 0] ⟨0, 1, 0, 1, w, 0, 0, 0, 0, 0, 0, 0⟩ 2 = ([0, h, 0, w, 0, 0, 0, 0], ⟨0, 5, 3, 1, w, 0, 0, 0, 0, 0, 0, 0⟩) := (owIt_succ e1).trans (by simp [owX, owT, owA, cellAt, cellSet, cellSwap, swapIs, allocOk, allocXs, noE, wr64, EC])
  have e3 : owIt 13 (EC 2 o) [0, h, 0] ⟨0, 1, 0, 1, w, 0, 0, 0, 0, 0, 0, 0⟩ 3 = ([0, o, 0, w, 0, 0, 0, 0], ⟨0, 6, 3, 1, w, 0, 0, 0, 0, 0, 0, 0⟩) := (owIt_succ e2).trans (by simp [owX, owT, owA, cellAt, cellSet, cellSwap, swapIs, allocOk, allocXs, noE, wr64, EC])
  have e4 : owIt 13 (EC 2 o) [0, h, 0] ⟨0, 1, 0, 1, w, 0, 0, 0, 0, 0, 0, 0⟩ 4 = ([0, o, 0, w, 2, 0, 0, 0], ⟨0, 15, 3, 1, w, 0, 0, 0, 0, 0, 0, 0⟩) := (owIt_succ e3).trans (by simp [owX, owT, owA, cellAt, cellSet, cellSwap, swapIs, allocOk, allocXs, noE, wr64, EC])
  have e5 : owIt 13 (EC 2 o) [0, h, 0] ⟨0, 1, 0, 1, w, 0, 0, 0, 0, 0, 0, 0⟩ 5 = ([0, o, 0, w, 2, 0, 0, 0], ⟨0, 7, 3, 1, w, w, 0, 0, 0, 0, 0, 0⟩) := (owIt_succ e4).trans (by simp [owX, owT, owA, cellAt, cellSet, cellSwap, swapIs, allocOk, allocXs, noE, wr64, EC])
  have e6 : owIt 13 (EC 2 o) [0, h, 0] ⟨0, 1, 0, 1, w, 0, 0, 0, 0, 0, 0, 0⟩ 6 = ([0, o, 0, w, 2, 0, 0, 0], ⟨0, 8, 3, 1, w, o, 0, 0, 0, 0, 0, 0⟩) := (owIt_succ e5).trans (by simp [owX, owT, owA, cellAt, cellSet, cellSwap, swapIs, allocOk, allocXs, noE, wr64, EC])
  have e7 : owIt 13 (EC 2 o) [0, h, 0] ⟨0, 1, 0, 1, w, 0, 0, 0, 0, 0, 0, 0⟩ 7 = ([0, o, 0, w, 2, 0, o, 0], ⟨0, 9, 3, 1, w, o, 0, 0, 0, 0, 0, 0⟩) := (owIt_succ e6).trans (by simp [owX, owT, owA, cellAt, cellSet, cellSwap, swapIs, allocOk, allocXs, noE, wr64, EC])
  have e8 : owIt 13 (EC 2 o) [0, h, 0] ⟨0, 1, 0, 1, w, 0, 0, 0, 0, 0, 0, 0⟩ 8 = ([0, 3, 0, w, 2, 0, o, 0], ⟨0, 10, 3, 1, w, 1, 0, 0, 0, 0, 0, 0⟩) := (owIt_succ e7).trans (by simp [owX, owT, owA, cellAt, cellSet, cellSwap, swapIs, allocOk, allocXs, noE, wr64, EC])
  have e9 : owIt 13 (EC 2 o) [0, h, 0] ⟨0, 1, 0, 1, w, 0, 0, 0, 0, 0, 0, 0⟩ 9 = ([0, 3, 0, w, 1, 0, o, 0], ⟨0, 11, 3, 1, w, 1, 0, 0, 0, 0, 0, 0⟩) := (owIt_succ e8).trans (by simp [owX, owT, owA, cellAt, cellSet, cellSwap, swapIs, allocOk, allocXs, noE, wr64, EC])
  exact e9
-- claims2: ([0, 3, 0, w, 1, 0, o, 0], ⟨0, 11, 3, 1, w, 1, 0, 0, 0, 0, 0, 0⟩)
set_option maxHeartbeats 2000000 in
theorem claims3 (h o w : Int)  : owIt 13 (EC 3 o) [0, h, 0] ⟨0, 1, 0, 1, w, 0, 0, 0, 0, 0, 0, 0⟩ 9 = ([0, 3, 0, w, 1, 0, o, 0], ⟨0, 11, 3, 1, w, 1, 0, 0, 0, 0, 0, 0⟩) := by
  have e0 : owIt 13 (EC 3 o) [0, h, 0] ⟨0, 1, 0, 1, w, 0, 0, 0, 0, 0, 0, 0⟩ 0 = ([0, h, 0], ⟨0, 1, 0, 1, w, 0, 0, 0, 0, 0, 0, 0⟩) := rfl
  have e1 : owIt 13 (EC 3 o) [0, h, 0] ⟨0, 1, 0, 1, w, 0, 0, 0, 0, 0, 0, 0⟩ 1 = ([0, h, 0, 0, 0, 0, 0, 0], ⟨0, 2, 3, 1, w, 0, 0, 0, 0, 0, 0, 0⟩) := (owIt_succ e0).trans (by simp [owX, owT, owA, cellAt, cellSet, cellSwap, swapIs, allocOk, allocXs, noE, wr64, EC])
  have e2 : owIt 13 (EC 3 o) [0, h, 0] ⟨0, 1, 0, 1, w, 0, 0, 0, 0, 0, 0, 0⟩ 2 = ([0, h, 0, w, 0, 0, 0, 0], ⟨0, 5, 3, 1, w, 0, 0, 0, 0, 0, 0, 0⟩) := (owIt_succ e1).trans (by simp [owX, owT, owA, cellAt, cellSet, cellSwap, swapIs, allocOk, allocXs, noE, wr64, EC])
  have e3 : owIt 13 (EC 3 o) [0, h, 0] ⟨0, 1, 0, 1, w, 0, 0, 0, 0, 0, 0, 0⟩ 3 = ([0, h, 0, w, 0, 0, 0, 0], ⟨0, 6, 3, 1, w, 0, 0, 0, 0, 0, 0, 0⟩) := (owIt_succ e2).trans (by simp [owX, owT, owA, cellAt, cellSet, cellSwap, swapIs, allocOk, allocXs, noE, wr64, EC])
  have e4 : owIt 13 (EC 3 o) [0, h, 0] ⟨0, 1, 0, 1, w, 0, 0, 0, 0, 0, 0, 0⟩ 4 = ([0, o, 0, w, 2, 0, 0, 0], ⟨0, 15, 3, 1, w, 0, 0, 0, 0, 0, 0, 0⟩) := (owIt_succ e3).trans (by simp [owX, owT, owA, cellAt, cellSet, cellSwap, swapIs, allocOk, allocXs, noE, wr64, EC])
  have e5 : owIt 13 (EC 3 o) [0, h, 0] ⟨0, 1, 0, 1, w, 0, 0, 0, 0, 0, 0, 0⟩ 5 = ([0, o, 0, w, 2, 0, 0, 0], ⟨0, 7, 3, 1, w, w, 0, 0, 0, 0, 0, 0⟩) := (owIt_succ e4).trans (by simp [owX, owT, owA, cellAt, cellSet, cellSwap, swapIs, allocOk, allocXs, noE, wr64, EC])
  have e6 : owIt 13 (EC 3 o) [0, h, 0] ⟨0, 1, 0, 1, w, 0, 0, 0, 0, 0, 0, 0⟩ 6 = ([0, o, 0, w, 2, 0, 0, 0], ⟨0, 8, 3, 1, w, o, 0, 0, 0, 0, 0, 0⟩) := (owIt_succ e5).trans (by simp [owX, owT, owA, cellAt, cellSet, cellSwap, swapIs, allocOk, allocXs, noE, wr64, EC])
  have e7 : owIt 13 (EC 3 o) [0, h, 0] ⟨0, 1, 0, 1, w, 0, 0, 0, 0, 0, 0, 0⟩ 7 = ([0, o, 0, w, 2, 0, o, 0], ⟨0, 9, 3, 1, w, o, 0, 0, 0, 0, 0, 0⟩) := (owIt_succ e6).trans (by simp [owX, owT, owA, cellAt, cellSet, cellSwap, swapIs, allocOk, allocXs, noE, wr64, EC])
  have e8 : owIt 13 (EC 3 o) [0, h, 0] ⟨0, 1, 0, 1, w, 0, 0, 0, 0, 0, 0, 0⟩ 8 = ([0, 3, 0, w, 2, 0, o, 0], ⟨0, 10, 3, 1, w, 1, 0, 0, 0, 0, 0, 0⟩) := (owIt_succ e7).trans (by simp [owX, owT, owA, cellAt, cellSet, cellSwap, swapIs, allocOk, allocXs, noE, wr64, EC])
  have e9 : owIt 13 (EC 3 o) [0, h, 0] ⟨0, 1, 0, 1, w, 0, 0, 0, 0, 0, 0, 0⟩ 9 = ([0, 3, 0, w, 1, 0, o, 0], ⟨0, 11, 3, 1, w, 1, 0, 0, 0, 0, 0, 0⟩) := (owIt_succ e8).trans (by simp [owX, owT, owA, cellAt, cellSet, cellSwap, swapIs, allocOk, allocXs, noE, wr64, EC])
  exact e9
-- claims3: ([0, 3, 0, w, 1, 0, o, 0], ⟨0, 11, 3, 1, w, 1, 0, 0, 0, 0, 0, 0⟩)
set_option maxHeartbeats 2000000 in
theorem claims4 (h o w : Int)  : owIt 13 (EC 4 o) [0, h, 0] ⟨0, 1, 0, 1, w, 0, 0, 0, 0, 0, 0, 0⟩ 9 = ([0, 3, 0, w, 1, 0, o, 0], ⟨0, 11, 3, 1, w, 1, 0, 0, 0, 0, 0, 0⟩) := by
  have e0 : owIt 13 (EC 4 o) [0, h, 0] ⟨0, 1, 0, 1, w, 0, 0, 0, 0, 0, 0, 0⟩ 0 = ([0, h, 0], ⟨0, 1, 0, 1, w, 0, 0, 0, 0, 0, 0, 0⟩) := rfl
  have e1 : owIt 13 (EC 4 o) [0, h, 0] ⟨0, 1, 0, 1, w, 0, 0, 0, 0, 0, 0, 0⟩ 1 = ([0, h, 0, 0, 0, 0, 0, 0], ⟨0, 2, 3, 1, w, 0, 0, 0, 0, 0, 0, 0⟩) := (owIt_succ e0).trans (by simp [owX, owT, owA, cellAt, cellSet, cellSwap, swapIs, allocOk, allocXs, noE, wr64, EC])
  have e2 : owIt 13 (EC 4 o) [0, h, 0] ⟨0, 1, 0, 1, w, 0, 0, 0, 0, 0, 0, 0⟩ 2 = ([0, h, 0, w, 0, 0, 0, 0], ⟨0, 5, 3, 1, w, 0, 0, 0, 0, 0, 0, 0⟩) := (owIt_succ e1).trans (by simp [owX, owT, owA, cellAt, cellSet, cellSwap, swapIs, allocOk, allocXs, noE, wr64, EC])
  have e3 : owIt 13 (EC 4 o) [0, h, 0] ⟨0, 1, 0, 1, w, 0, 0, 0, 0, 0, 0, 0⟩ 3 = ([0, h, 0, w, 0, 0, 0, 0], ⟨0, 6, 3, 1, w, 0, 0, 0, 0, 0, 0, 0⟩) := (owIt_succ e2).trans (by simp [owX, owT, owA, cellAt, cellSet, cellSwap, swapIs, allocOk, allocXs, noE, wr64, EC])
  have e4 : owIt 13 (EC 4 o) [0, h, 0] ⟨0, 1, 0, 1, w, 0, 0, 0, 0, 0, 0, 0⟩ 4 = ([0, h, 0, w, 2, 0, 0, 0], ⟨0, 15, 3, 1, w, 0, 0, 0, 0, 0, 0, 0⟩) := (owIt_succ e3).trans (by simp [owX, owT, owA, cellAt, cellSet, cellSwap, swapIs, allocOk, allocXs, noE, wr64, EC])
  have e5 : owIt 13 (EC 4 o) [0, h, 0] ⟨0, 1, 0, 1, w, 0, 0, 0, 0, 0, 0, 0⟩ 5 = ([0, o, 0, w, 2, 0, 0, 0], ⟨0, 7, 3, 1, w, w, 0, 0, 0, 0, 0, 0⟩) := (owIt_succ e4).trans (by simp [owX, owT, owA, cellAt, cellSet, cellSwap, swapIs, allocOk, allocXs, noE, wr64, EC])
  have e6 : owIt 13 (EC 4 o) [0, h, 0] ⟨0, 1, 0, 1, w, 0, 0, 0, 0, 0, 0, 0⟩ 6 = ([0, o, 0, w, 2, 0, 0, 0], ⟨0, 8, 3, 1, w, o, 0, 0, 0, 0, 0, 0⟩) := (owIt_succ e5).trans (by simp [owX, owT, owA, cellAt, cellSet, cellSwap, swapIs, allocOk, allocXs, noE, wr64, EC])
  have e7 : owIt 13 (EC 4 o) [0, h, 0] ⟨0, 1, 0, 1, w, 0, 0, 0, 0, 0, 0, 0⟩ 7 = ([0, o, 0, w, 2, 0, o, 0], ⟨0, 9, 3, 1, w, o, 0, 0, 0, 0, 0, 0⟩) := (owIt_succ e6).trans (by simp [owX, owT, owA, cellAt, cellSet, cellSwap, swapIs, allocOk, allocXs, noE, wr64, EC])
  have e8 : owIt 13 (EC 4 o) [0, h, 0] ⟨0, 1, 0, 1, w, 0, 0, 0, 0, 0, 0, 0⟩ 8 = ([0, 3, 0, w, 2, 0, o, 0], ⟨0, 10, 3, 1, w, 1, 0, 0, 0, 0, 0, 0⟩) := (owIt_succ e7).trans (by simp [owX, owT, owA, cellAt, cellSet, cellSwap, swapIs, allocOk, allocXs, noE, wr64, EC])
  have e9 : owIt 13 (EC 4 o) [0, h, 0] ⟨0, 1, 0, 1, w, 0, 0, 0, 0, 0, 0, 0⟩ 9 = ([0, 3, 0, w, 1, 0, o, 0], ⟨0, 11, 3, 1, w, 1, 0, 0, 0, 0, 0, 0⟩) := (owIt_succ e8).trans (by simp [owX, owT, owA, cellAt, cellSet, cellSwap, swapIs, allocOk, allocXs, noE, wr64, EC])
  exact e9
-- claims4: ([0, 3, 0, w, 1, 0, o, 0], ⟨0, 11, 3, 1, w, 1, 0, 0, 0, 0, 0, 0⟩)
set_option maxHeartbeats 2000000 in
theorem claims5 (h o w : Int)  : owIt 13 (EC 5 o) [0, h, 0] ⟨0, 1, 0, 1, w, 0, 0, 0, 0, 0, 0, 0⟩ 9 = ([0, 3, 0, w, 1, 0, o, 0], ⟨0, 11, 3, 1, w, 1, 0, 0, 0, 0, 0, 0⟩) := by
  have e0 : owIt 13 (EC 5 o) [0, h, 0] ⟨0, 1, 0, 1, w, 0, 0, 0, 0, 0, 0, 0⟩ 0 = ([0, h, 0], ⟨0, 1, 0, 1, w, 0, 0, 0, 0, 0, 0, 0⟩) := rfl
  have e1 : owIt 13 (EC 5 o) [0, h, 0] ⟨0, 1, 0, 1, w, 0, 0, 0, 0, 0, 0, 0⟩ 1 = ([0, h, 0, 0, 0, 0, 0, 0], ⟨0, 2, 3, 1, w, 0, 0, 0, 0, 0, 0, 0⟩) := (owIt_succ e0).trans (by simp [owX, owT, owA, cellAt, cellSet, cellSwap, swapIs, allocOk, allocXs, noE, wr64, EC])
  have e2 : owIt 13 (EC 5 o) [0, h, 0] ⟨0, 1, 0, 1, w, 0, 0, 0, 0, 0, 0, 0⟩ 2 = ([0, h, 0, w, 0, 0, 0, 0], ⟨0, 5, 3, 1, w, 0, 0, 0, 0, 0, 0, 0⟩) := (owIt_succ e1).trans (by simp [owX, owT, owA, cellAt, cellSet, cellSwap, swapIs, allocOk, allocXs, noE, wr64, EC])
  have e3 : owIt 13 (EC 5 o) [0, h, 0] ⟨0, 1, 0, 1, w, 0, 0, 0, 0, 0, 0, 0⟩ 3 = ([0, h, 0, w, 0, 0, 0, 0], ⟨0, 6, 3, 1, w, 0, 0, 0, 0, 0, 0, 0⟩) := (owIt_succ e2).trans (by simp [owX, owT, owA, cellAt, cellSet, cellSwap, swapIs, allocOk, allocXs, noE, wr64, EC])
  have e4 : owIt 13 (EC 5 o) [0, h, 0] ⟨0, 1, 0, 1, w, 0, 0, 0, 0, 0, 0, 0⟩ 4 = ([0, h, 0, w, 2, 0, 0, 0], ⟨0, 15, 3, 1, w, 0, 0, 0, 0, 0, 0, 0⟩) := (owIt_succ e3).trans (by simp [owX, owT, owA, cellAt, cellSet, cellSwap, swapIs, allocOk, allocXs, noE, wr64, EC])
  have e5 : owIt 13 (EC 5 o) [0, h, 0] ⟨0, 1, 0, 1, w, 0, 0, 0, 0, 0, 0, 0⟩ 5 = ([0, h, 0, w, 2, 0, 0, 0], ⟨0, 7, 3, 1, w, w, 0, 0, 0, 0, 0, 0⟩) := (owIt_succ e4).trans (by simp [owX, owT, owA, cellAt, cellSet, cellSwap, swapIs, allocOk, allocXs, noE, wr64, EC])
  have e6 : owIt 13 (EC 5 o) [0, h, 0] ⟨0, 1, 0, 1, w, 0, 0, 0, 0, 0, 0, 0⟩ 6 = ([0, o, 0, w, 2, 0, 0, 0], ⟨0, 8, 3, 1, w, o, 0, 0, 0, 0, 0, 0⟩) := (owIt_succ e5).trans (by simp [owX, owT, owA, cellAt, cellSet, cellSwap, swapIs, allocOk, allocXs, noE, wr64, EC])
  have e7 : owIt 13 (EC 5 o) [0, h, 0] ⟨0, 1, 0, 1, w, 0, 0, 0, 0, 0, 0, 0⟩ 7 = ([0, o, 0, w, 2, 0, o, 0], ⟨0, 9, 3, 1, w, o, 0, 0, 0, 0, 0, 0⟩) := (owIt_succ e6).trans (by simp [owX, owT, owA, cellAt, cellSet, cellSwap, swapIs, allocOk, allocXs, noE, wr64, EC])
  have e8 : owIt 13 (EC 5 o) [0, h, 0] ⟨0, 1, 0, 1, w, 0, 0, 0, 0, 0, 0, 0⟩ 8 = ([0, 3, 0, w, 2, 0, o, 0], ⟨0, 10, 3, 1, w, 1, 0, 0, 0, 0, 0, 0⟩) := (owIt_succ e7).trans (by simp [owX, owT, owA, cellAt, cellSet, cellSwap, swapIs, allocOk, allocXs, noE, wr64, EC])
  have e9 : owIt 13 (EC 5 o) [0, h, 0] ⟨0, 1, 0, 1, w, 0, 0, 0, 0, 0, 0, 0⟩ 9 = ([0, 3, 0, w, 1, 0, o, 0], ⟨0, 11, 3, 1, w, 1, 0, 0, 0, 0, 0, 0⟩) := (owIt_succ e8).trans (by simp [owX, owT, owA, cellAt, cellSet, cellSwap, swapIs, allocOk, allocXs, noE, wr64, EC])
  exact e9
-- claims5: ([0, 3, 0, w, 1, 0, o, 0], ⟨0, 11, 3, 1, w, 1, 0, 0, 0, 0, 0, 0⟩)
set_option maxHeartbeats 2000000 in
theorem claims6n (h o w : Int) (he : ¬ o = h) : owIt 13 (EC 6 o) [0, h, 0] ⟨0, 1, 0, 1, w, 0, 0, 0, 0, 0, 0, 0⟩ 9 = ([0, o, 0, w, 0, 0, h, 0], ⟨0, 11, 3, 1, w, 0, 0, 0, 0, 0, 0, 0⟩) := by
  have e0 : owIt 13 (EC 6 o) [0, h, 0] ⟨0, 1, 0, 1, w, 0, 0, 0, 0, 0, 0, 0⟩ 0 = ([0, h, 0], ⟨0, 1, 0, 1, w, 0, 0, 0, 0, 0, 0, 0⟩) := rfl
  have e1 : owIt 13 (EC 6 o) [0, h, 0] ⟨0, 1, 0, 1, w, 0, 0, 0, 0, 0, 0, 0⟩ 1 = ([0, h, 0, 0, 0, 0, 0, 0], ⟨0, 2, 3, 1, w, 0, 0, 0, 0, 0, 0, 0⟩) := (owIt_succ e0).trans (by simp [owX, owT, owA, cellAt, cellSet, cellSwap, swapIs, allocOk, allocXs, noE, wr64, EC, he])
  have e2 : owIt 13 (EC 6 o) [0, h, 0] ⟨0, 1, 0, 1, w, 0, 0, 0, 0, 0, 0, 0⟩ 2 = ([0, h, 0, w, 0, 0, 0, 0], ⟨0, 5, 3, 1, w, 0, 0, 0, 0, 0, 0, 0⟩) := (owIt_succ e1).trans (by simp [owX, owT, owA, cellAt, cellSet, cellSwap, swapIs, allocOk, allocXs, noE, wr64, EC, he])
  have e3 : owIt 13 (EC 6 o) [0, h, 0] ⟨0, 1, 0, 1, w, 0, 0, 0, 0, 0, 0, 0⟩ 3 = ([0, h, 0, w, 0, 0, 0, 0], ⟨0, 6, 3, 1, w, 0, 0, 0, 0, 0, 0, 0⟩) := (owIt_succ e2).trans (by simp [owX, owT, owA, cellAt, cellSet, cellSwap, swapIs, allocOk, allocXs, noE, wr64, EC, he])
  have e4 : owIt 13 (EC 6 o) [0, h, 0] ⟨0, 1, 0, 1, w, 0, 0, 0, 0, 0, 0, 0⟩ 4 = ([0, h, 0, w, 2, 0, 0, 0], ⟨0, 15, 3, 1, w, 0, 0, 0, 0, 0, 0, 0⟩) := (owIt_succ e3).trans (by simp [owX, owT, owA, cellAt, cellSet, cellSwap, swapIs, allocOk, allocXs, noE, wr64, EC, he])
  have e5 : owIt 13 (EC 6 o) [0, h, 0] ⟨0, 1, 0, 1, w, 0, 0, 0, 0, 0, 0, 0⟩ 5 = ([0, h, 0, w, 2, 0, 0, 0], ⟨0, 7, 3, 1, w, w, 0, 0, 0, 0, 0, 0⟩) := (owIt_succ e4).trans (by simp [owX, owT, owA, cellAt, cellSet, cellSwap, swapIs, allocOk, allocXs, noE, wr64, EC, he])
  have e6 : owIt 13 (EC 6 o) [0, h, 0] ⟨0, 1, 0, 1, w, 0, 0, 0, 0, 0, 0, 0⟩ 6 = ([0, h, 0, w, 2, 0, 0, 0], ⟨0, 8, 3, 1, w, h, 0, 0, 0, 0, 0, 0⟩) := (owIt_succ e5).trans (by simp [owX, owT, owA, cellAt, cellSet, cellSwap, swapIs, allocOk, allocXs, noE, wr64, EC, he])
  have e7 : owIt 13 (EC 6 o) [0, h, 0] ⟨0, 1, 0, 1, w, 0, 0, 0, 0, 0, 0, 0⟩ 7 = ([0, o, 0, w, 2, 0, h, 0], ⟨0, 9, 3, 1, w, h, 0, 0, 0, 0, 0, 0⟩) := (owIt_succ e6).trans (by simp [owX, owT, owA, cellAt, cellSet, cellSwap, swapIs, allocOk, allocXs, noE, wr64, EC, he])
  have e8 : owIt 13 (EC 6 o) [0, h, 0] ⟨0, 1, 0, 1, w, 0, 0, 0, 0, 0, 0, 0⟩ 8 = ([0, o, 0, w, 2, 0, h, 0], ⟨0, 10, 3, 1, w, 0, 0, 0, 0, 0, 0, 0⟩) := (owIt_succ e7).trans (by simp [owX, owT, owA, cellAt, cellSet, cellSwap, swapIs, allocOk, allocXs, noE, wr64, EC, he])
  have e9 : owIt 13 (EC 6 o) [0, h, 0] ⟨0, 1, 0, 1, w, 0, 0, 0, 0, 0, 0, 0⟩ 9 = ([0, o, 0, w, 0, 0, h, 0], ⟨0, 11, 3, 1, w, 0, 0, 0, 0, 0, 0, 0⟩) := (owIt_succ e8).trans (by simp [owX, owT, owA, cellAt, cellSet, cellSwap, swapIs, allocOk, allocXs, noE, wr64, EC, he])
  exact e9
-- claims6n: ([0, o, 0, w, 0, 0, h, 0], ⟨0, 11, 3, 1, w, 0, 0, 0, 0, 0, 0, 0⟩)
set_option maxHeartbeats 2000000 in
theorem claims7n (h o w : Int) (he : ¬ o = h) : owIt 13 (EC 7 o) [0, h, 0] ⟨0, 1, 0, 1, w, 0, 0, 0, 0, 0, 0, 0⟩ 9 = ([0, o, 0, w, 0, 0, h, 0], ⟨0, 11, 3, 1, w, 0, 0, 0, 0, 0, 0, 0⟩) := by
  have e0 : owIt 13 (EC 7 o) [0, h, 0] ⟨0, 1, 0, 1, w, 0, 0, 0, 0, 0, 0, 0⟩ 0 = ([0, h, 0], ⟨0, 1, 0, 1, w, 0, 0, 0, 0, 0, 0, 0⟩) := rfl
  have e1 : owIt 13 (EC 7 o) [0, h, 0] ⟨0, 1, 0, 1, w, 0, 0, 0, 0, 0, 0, 0⟩ 1 = ([0, h, 0, 0, 0, 0, 0, 0], ⟨0, 2, 3, 1, w, 0, 0, 0, 0, 0, 0, 0⟩) := (owIt_succ e0).trans (by simp [owX, owT, owA, cellAt, cellSet, cellSwap, swapIs, allocOk, allocXs, noE, wr64, EC, he])
  have e2 : owIt 13 (EC 7 o) [0, h, 0] ⟨0, 1, 0, 1, w, 0, 0, 0, 0, 0, 0, 0⟩ 2 = ([0, h, 0, w, 0, 0, 0, 0], ⟨0, 5, 3, 1, w, 0, 0, 0, 0, 0, 0, 0⟩) := (owIt_succ e1).trans (by simp [owX, owT, owA, cellAt, cellSet, cellSwap, swapIs, allocOk, allocXs, noE, wr64, EC, he])
  have e3 : owIt 13 (EC 7 o) [0, h, 0] ⟨0, 1, 0, 1, w, 0, 0, 0, 0, 0, 0, 0⟩ 3 = ([0, h, 0, w, 0, 0, 0, 0], ⟨0, 6, 3, 1, w, 0, 0, 0, 0, 0, 0, 0⟩) := (owIt_succ e2).trans (by simp [owX, owT, owA, cellAt, cellSet, cellSwap, swapIs, allocOk, allocXs, noE, wr64, EC, he])
  have e4 : owIt 13 (EC 7 o) [0, h, 0] ⟨0, 1, 0, 1, w, 0, 0, 0, 0, 0, 0, 0⟩ 4 = ([0, h, 0, w, 2, 0, 0, 0], ⟨0, 15, 3, 1, w, 0, 0, 0, 0, 0, 0, 0⟩) := (owIt_succ e3).trans (by simp [owX, owT, owA, cellAt, cellSet, cellSwap, swapIs, allocOk, allocXs, noE, wr64, EC, he])
  have e5 : owIt 13 (EC 7 o) [0, h, 0] ⟨0, 1, 0, 1, w, 0, 0, 0, 0, 0, 0, 0⟩ 5 = ([0, h, 0, w, 2, 0, 0, 0], ⟨0, 7, 3, 1, w, w, 0, 0, 0, 0, 0, 0⟩) := (owIt_succ e4).trans (by simp [owX, owT, owA, cellAt, cellSet, cellSwap, swapIs, allocOk, allocXs, noE, wr64, EC, he])
  have e6 : owIt 13 (EC 7 o) [0, h, 0] ⟨0, 1, 0, 1, w, 0, 0, 0, 0, 0, 0, 0⟩ 6 = ([0, h, 0, w, 2, 0, 0, 0], ⟨0, 8, 3, 1, w, h, 0, 0, 0, 0, 0, 0⟩) := (owIt_succ e5).trans (by simp [owX, owT, owA, cellAt, cellSet, cellSwap, swapIs, allocOk, allocXs, noE, wr64, EC, he])
  have e7 : owIt 13 (EC 7 o) [0, h, 0] ⟨0, 1, 0, 1, w, 0, 0, 0, 0, 0, 0, 0⟩ 7 = ([0, h, 0, w, 2, 0, h, 0], ⟨0, 9, 3, 1, w, h, 0, 0, 0, 0, 0, 0⟩) := (owIt_succ e6).trans (by simp [owX, owT, owA, cellAt, cellSet, cellSwap, swapIs, allocOk, allocXs, noE, wr64, EC, he])
  have e8 : owIt 13 (EC 7 o) [0, h, 0] ⟨0, 1, 0, 1, w, 0, 0, 0, 0, 0, 0, 0⟩ 8 = ([0, o, 0, w, 2, 0, h, 0], ⟨0, 10, 3, 1, w, 0, 0, 0, 0, 0, 0, 0⟩) := (owIt_succ e7).trans (by simp [owX, owT, owA, cellAt, cellSet, cellSwap, swapIs, allocOk, allocXs, noE, wr64, EC, he])
  have e9 : owIt 13 (EC 7 o) [0, h, 0] ⟨0, 1, 0, 1, w, 0, 0, 0, 0, 0, 0, 0⟩ 9 = ([0, o, 0, w, 0, 0, h, 0], ⟨0, 11, 3, 1, w, 0, 0, 0, 0, 0, 0, 0⟩) := (owIt_succ e8).trans (by simp [owX, owT, owA, cellAt, cellSet, cellSwap, swapIs, allocOk, allocXs, noE, wr64, EC, he])
  exact e9
-- claims7n: ([0, o, 0, w, 0, 0, h, 0], ⟨0, 11, 3, 1, w, 0, 0, 0, 0, 0, 0, 0⟩)
set_option maxHeartbeats 2000000 in
theorem claims8 (h o w : Int)  : owIt 13 (EC 8 o) [0, h, 0] ⟨0, 1, 0, 1, w, 0, 0, 0, 0, 0, 0, 0⟩ 9 = ([0, o, 0, w, 1, 0, h, 0], ⟨0, 11, 3, 1, w, 1, 0, 0, 0, 0, 0, 0⟩) := by
  have e0 : owIt 13 (EC 8 o) [0, h, 0] ⟨0, 1, 0, 1, w, 0, 0, 0, 0, 0, 0, 0⟩ 0 = ([0, h, 0], ⟨0, 1, 0, 1, w, 0, 0, 0, 0, 0, 0, 0⟩) := rfl
  have e1 : owIt 13 (EC 8 o) [0, h, 0] ⟨0, 1, 0, 1, w, 0, 0, 0, 0, 0, 0, 0⟩ 1 = ([0, h, 0, 0, 0, 0, 0, 0], ⟨0, 2, 3, 1, w, 0, 0, 0, 0, 0, 0, 0⟩) := (owIt_succ e0).trans (by simp [owX, owT, owA, cellAt, cellSet, cellSwap, swapIs, allocOk, allocXs, noE, wr64, EC])
  have e2 : owIt 13 (EC 8 o) [0, h, 0] ⟨0, 1, 0, 1, w, 0, 0, 0, 0, 0, 0, 0⟩ 2 = ([0, h, 0, w, 0, 0, 0, 0], ⟨0, 5, 3, 1, w, 0, 0, 0, 0, 0, 0, 0⟩) := (owIt_succ e1).trans (by simp [owX, owT, owA, cellAt, cellSet, cellSwap, swapIs, allocOk, allocXs, noE, wr64, EC])
  have e3 : owIt 13 (EC 8 o) [0, h, 0] ⟨0, 1, 0, 1, w, 0, 0, 0, 0, 0, 0, 0⟩ 3 = ([0, h, 0, w, 0, 0, 0, 0], ⟨0, 6, 3, 1, w, 0, 0, 0, 0, 0, 0, 0⟩) := (owIt_succ e2).trans (by simp [owX, owT, owA, cellAt, cellSet, cellSwap, swapIs, allocOk, allocXs, noE, wr64, EC])
  have e4 : owIt 13 (EC 8 o) [0, h, 0] ⟨0, 1, 0, 1, w, 0, 0, 0, 0, 0, 0, 0⟩ 4 = ([0, h, 0, w, 2, 0, 0, 0], ⟨0, 15, 3, 1, w, 0, 0, 0, 0, 0, 0, 0⟩) := (owIt_succ e3).trans (by simp [owX, owT, owA, cellAt, cellSet, cellSwap, swapIs, allocOk, allocXs, noE, wr64, EC])
  have e5 : owIt 13 (EC 8 o) [0, h, 0] ⟨0, 1, 0, 1, w, 0, 0, 0, 0, 0, 0, 0⟩ 5 = ([0, h, 0, w, 2, 0, 0, 0], ⟨0, 7, 3, 1, w, w, 0, 0, 0, 0, 0, 0⟩) := (owIt_succ e4).trans (by simp [owX, owT, owA, cellAt, cellSet, cellSwap, swapIs, allocOk, allocXs, noE, wr64, EC])
  have e6 : owIt 13 (EC 8 o) [0, h, 0] ⟨0, 1, 0, 1, w, 0, 0, 0, 0, 0, 0, 0⟩ 6 = ([0, h, 0, w, 2, 0, 0, 0], ⟨0, 8, 3, 1, w, h, 0, 0, 0, 0, 0, 0⟩) := (owIt_succ e5).trans (by simp [owX, owT, owA, cellAt, cellSet, cellSwap, swapIs, allocOk, allocXs, noE, wr64, EC])
  have e7 : owIt 13 (EC 8 o) [0, h, 0] ⟨0, 1, 0, 1, w, 0, 0, 0, 0, 0, 0, 0⟩ 7 = ([0, h, 0, w, 2, 0, h, 0], ⟨0, 9, 3, 1, w, h, 0, 0, 0, 0, 0, 0⟩) := (owIt_succ e6).trans (by simp [owX, owT, owA, cellAt, cellSet, cellSwap, swapIs, allocOk, allocXs, noE, wr64, EC])
  have e8 : owIt 13 (EC 8 o) [0, h, 0] ⟨0, 1, 0, 1, w, 0, 0, 0, 0, 0, 0, 0⟩ 8 = ([0, 3, 0, w, 2, 0, h, 0], ⟨0, 10, 3, 1, w, 1, 0, 0, 0, 0, 0, 0⟩) := (owIt_succ e7).trans (by simp [owX, owT, owA, cellAt, cellSet, cellSwap, swapIs, allocOk, allocXs, noE, wr64, EC])
  have e9 : owIt 13 (EC 8 o) [0, h, 0] ⟨0, 1, 0, 1, w, 0, 0, 0, 0, 0, 0, 0⟩ 9 = ([0, o, 0, w, 1, 0, h, 0], ⟨0, 11, 3, 1, w, 1, 0, 0, 0, 0, 0, 0⟩) := (owIt_succ e8).trans (by simp [owX, owT, owA, cellAt, cellSet, cellSwap, swapIs, allocOk, allocXs, noE, wr64, EC])
  exact e9
-- claims8: ([0, o, 0, w, 1, 0, h, 0], ⟨0, 11, 3, 1, w, 1, 0, 0, 0, 0, 0, 0⟩)
set_option maxHeartbeats 2000000 in
theorem claims6y (h w : Int)  : owIt 13 (EC 6 h) [0, h, 0] ⟨0, 1, 0, 1, w, 0, 0, 0, 0, 0, 0, 0⟩ 9 = ([0, 3, 0, w, 1, 0, h, 0], ⟨0, 11, 3, 1, w, 1, 0, 0, 0, 0, 0, 0⟩) := by
  have e0 : owIt 13 (EC 6 h) [0, h, 0] ⟨0, 1, 0, 1, w, 0, 0, 0, 0, 0, 0, 0⟩ 0 = ([0, h, 0], ⟨0, 1, 0, 1, w, 0, 0, 0, 0, 0, 0, 0⟩) := rfl
  have e1 : owIt 13 (EC 6 h) [0, h, 0] ⟨0, 1, 0, 1, w, 0, 0, 0, 0, 0, 0, 0⟩ 1 = ([0, h, 0, 0, 0, 0, 0, 0], ⟨0, 2, 3, 1, w, 0, 0, 0, 0, 0, 0, 0⟩) := (owIt_succ e0).trans (by simp [owX, owT, owA, cellAt, cellSet, cellSwap, swapIs, allocOk, allocXs, noE, wr64, EC])
  have e2 : owIt 13 (EC 6 h) [0, h, 0] ⟨0, 1, 0, 1, w, 0, 0, 0, 0, 0, 0, 0⟩ 2 = ([0, h, 0, w, 0, 0, 0, 0], ⟨0, 5, 3, 1, w, 0, 0, 0, 0, 0, 0, 0⟩) := (owIt_succ e1).trans (by simp [owX, owT, owA, cellAt, cellSet, cellSwap, swapIs, allocOk, allocXs, noE, wr64, EC])
  have e3 : owIt 13 (EC 6 h) [0, h, 0] ⟨0, 1, 0, 1, w, 0, 0, 0, 0, 0, 0, 0⟩ 3 = ([0, h, 0, w, 0, 0, 0, 0], ⟨0, 6, 3, 1, w, 0, 0, 0, 0, 0, 0, 0⟩) := (owIt_succ e2).trans (by simp [owX, owT, owA, cellAt, cellSet, cellSwap, swapIs, allocOk, allocXs, noE, wr64, EC])
  have e4 : owIt 13 (EC 6 h) [0, h, 0] ⟨0, 1, 0, 1, w, 0, 0, 0, 0, 0, 0, 0⟩ 4 = ([0, h, 0, w, 2, 0, 0, 0], ⟨0, 15, 3, 1, w, 0, 0, 0, 0, 0, 0, 0⟩) := (owIt_succ e3).trans (by simp [owX, owT, owA, cellAt, cellSet, cellSwap, swapIs, allocOk, allocXs, noE, wr64, EC])
  have e5 : owIt 13 (EC 6 h) [0, h, 0] ⟨0, 1, 0, 1, w, 0, 0, 0, 0, 0, 0, 0⟩ 5 = ([0, h, 0, w, 2, 0, 0, 0], ⟨0, 7, 3, 1, w, w, 0, 0, 0, 0, 0, 0⟩) := (owIt_succ e4).trans (by simp [owX, owT, owA, cellAt, cellSet, cellSwap, swapIs, allocOk, allocXs, noE, wr64, EC])
  have e6 : owIt 13 (EC 6 h) [0, h, 0] ⟨0, 1, 0, 1, w, 0, 0, 0, 0, 0, 0, 0⟩ 6 = ([0, h, 0, w, 2, 0, 0, 0], ⟨0, 8, 3, 1, w, h, 0, 0, 0, 0, 0, 0⟩) := (owIt_succ e5).trans (by simp [owX, owT, owA, cellAt, cellSet, cellSwap, swapIs, allocOk, allocXs, noE, wr64, EC])
  have e7 : owIt 13 (EC 6 h) [0, h, 0] ⟨0, 1, 0, 1, w, 0, 0, 0, 0, 0, 0, 0⟩ 7 = ([0, h, 0, w, 2, 0, h, 0], ⟨0, 9, 3, 1, w, h, 0, 0, 0, 0, 0, 0⟩) := (owIt_succ e6).trans (by simp [owX, owT, owA, cellAt, cellSet, cellSwap, swapIs, allocOk, allocXs, noE, wr64, EC])
  have e8 : owIt 13 (EC 6 h) [0, h, 0] ⟨0, 1, 0, 1, w, 0, 0, 0, 0, 0, 0, 0⟩ 8 = ([0, 3, 0, w, 2, 0, h, 0], ⟨0, 10, 3, 1, w, 1, 0, 0, 0, 0, 0, 0⟩) := (owIt_succ e7).trans (by simp [owX, owT, owA, cellAt, cellSet, cellSwap, swapIs, allocOk, allocXs, noE, wr64, EC])
  have e9 : owIt 13 (EC 6 h) [0, h, 0] ⟨0, 1, 0, 1, w, 0, 0, 0, 0, 0, 0, 0⟩ 9 = ([0, 3, 0, w, 1, 0, h, 0], ⟨0, 11, 3, 1, w, 1, 0, 0, 0, 0, 0, 0⟩) := (owIt_succ e8).trans (by simp [owX, owT, owA, cellAt, cellSet, cellSwap, swapIs, allocOk, allocXs, noE, wr64, EC])
  exact e9
-- ([0, 3, 0, w, 1, 0, h, 0], ⟨0, 11, 3, 1, w, 1, 0, 0, 0, 0, 0, 0⟩)
set_option maxHeartbeats 2000000 in
theorem claims7y (h w : Int)  : owIt 13 (EC 7 h) [0, h, 0] ⟨0, 1, 0, 1, w, 0, 0, 0, 0, 0, 0, 0⟩ 9 = ([0, 3, 0, w, 1, 0, h, 0], ⟨0, 11, 3, 1, w, 1, 0, 0, 0, 0, 0, 0⟩) := by
  have e0 : owIt 13 (EC 7 h) [0, h, 0] ⟨0, 1, 0, 1, w, 0, 0, 0, 0, 0, 0, 0⟩ 0 = ([0, h, 0], ⟨0, 1, 0, 1, w, 0, 0, 0, 0, 0, 0, 0⟩) := rfl
  have e1 : owIt 13 (EC 7 h) [0, h, 0] ⟨0, 1, 0, 1, w, 0, 0, 0, 0, 0, 0, 0⟩ 1 = ([0, h, 0, 0, 0, 0, 0, 0], ⟨0, 2, 3, 1, w, 0, 0, 0, 0, 0, 0, 0⟩) := (owIt_succ e0).trans (by simp [owX, owT, owA, cellAt, cellSet, cellSwap, swapIs, allocOk, allocXs, noE, wr64, EC])
  have e2 : owIt 13 (EC 7 h) [0, h, 0] ⟨0, 1, 0, 1, w, 0, 0, 0, 0, 0, 0, 0⟩ 2 = ([0, h, 0, w, 0, 0, 0, 0], ⟨0, 5, 3, 1, w, 0, 0, 0, 0, 0, 0, 0⟩) := (owIt_succ e1).trans (by simp [owX, owT, owA, cellAt, cellSet, cellSwap, swapIs, allocOk, allocXs, noE, wr64, EC])
  have e3 : owIt 13 (EC 7 h) [0, h, 0] ⟨0, 1, 0, 1, w, 0, 0, 0, 0, 0, 0, 0⟩ 3 = ([0, h, 0, w, 0, 0, 0, 0], ⟨0, 6, 3, 1, w, 0, 0, 0, 0, 0, 0, 0⟩) := (owIt_succ e2).trans (by simp [owX, owT, owA, cellAt, cellSet, cellSwap, swapIs, allocOk, allocXs, noE, wr64, EC])
  have e4 : owIt 13 (EC 7 h) [0, h, 0] ⟨0, 1, 0, 1, w, 0, 0, 0, 0, 0, 0, 0⟩ 4 = ([0, h, 0, w, 2, 0, 0, 0], ⟨0, 15, 3, 1, w, 0, 0, 0, 0, 0, 0, 0⟩) := (owIt_succ e3).trans (by simp [owX, owT, owA, cellAt, cellSet, cellSwap, swapIs, allocOk, allocXs, noE, wr64, EC])
  have e5 : owIt 13 (EC 7 h) [0, h, 0] ⟨0, 1, 0, 1, w, 0, 0, 0, 0, 0, 0, 0⟩ 5 = ([0, h, 0, w, 2, 0, 0, 0], ⟨0, 7, 3, 1, w, w, 0, 0, 0, 0, 0, 0⟩) := (owIt_succ e4).trans (by simp [owX, owT, owA, cellAt, cellSet, cellSwap, swapIs, allocOk, allocXs, noE, wr64, EC])
  have e6 : owIt 13 (EC 7 h) [0, h, 0] ⟨0, 1, 0, 1, w, 0, 0, 0, 0, 0, 0, 0⟩ 6 = ([0, h, 0, w, 2, 0, 0, 0], ⟨0, 8, 3, 1, w, h, 0, 0, 0, 0, 0, 0⟩) := (owIt_succ e5).trans (by simp [owX, owT, owA, cellAt, cellSet, cellSwap, swapIs, allocOk, allocXs, noE, wr64, EC])
  have e7 : owIt 13 (EC 7 h) [0, h, 0] ⟨0, 1, 0, 1, w, 0, 0, 0, 0, 0, 0, 0⟩ 7 = ([0, h, 0, w, 2, 0, h, 0], ⟨0, 9, 3, 1, w, h, 0, 0, 0, 0, 0, 0⟩) := (owIt_succ e6).trans (by simp [owX, owT, owA, cellAt, cellSet, cellSwap, swapIs, allocOk, allocXs, noE, wr64, EC])
  have e8 : owIt 13 (EC 7 h) [0, h, 0] ⟨0, 1, 0, 1, w, 0, 0, 0, 0, 0, 0, 0⟩ 8 = ([0, 3, 0, w, 2, 0, h, 0], ⟨0, 10, 3, 1, w, 1, 0, 0, 0, 0, 0, 0⟩) := (owIt_succ e7).trans (by simp [owX, owT, owA, cellAt, cellSet, cellSwap, swapIs, allocOk, allocXs, noE, wr64, EC])
  have e9 : owIt 13 (EC 7 h) [0, h, 0] ⟨0, 1, 0, 1, w, 0, 0, 0, 0, 0, 0, 0⟩ 9 = ([0, 3, 0, w, 1, 0, h, 0], ⟨0, 11, 3, 1, w, 1, 0, 0, 0, 0, 0, 0⟩) := (owIt_succ e8).trans (by simp [owX, owT, owA, cellAt, cellSet, cellSwap, swapIs, allocOk, allocXs, noE, wr64, EC])
  exact e9
-- ([0, 3, 0, w, 1, 0, h, 0], ⟨0, 11, 3, 1, w, 1, 0, 0, 0, 0, 0, 0⟩)
set_option maxHeartbeats 2000000 in
theorem late3 (w : Int)  : owIt 13 noE [0, 0, 0] ⟨0, 1, 0, 1, w, 0, 0, 0, 0, 0, 0, 0⟩ 3 = ([0, 0, 0, w, 0, 0, 0, 0], ⟨0, 6, 3, 1, w, 0, 0, 0, 0, 0, 0, 0⟩) := by
  have e0 : owIt 13 noE [0, 0, 0] ⟨0, 1, 0, 1, w, 0, 0, 0, 0, 0, 0, 0⟩ 0 = ([0, 0, 0], ⟨0, 1, 0, 1, w, 0, 0, 0, 0, 0, 0, 0⟩) := rfl
  have e1 : owIt 13 noE [0, 0, 0] ⟨0, 1, 0, 1, w, 0, 0, 0, 0, 0, 0, 0⟩ 1 = ([0, 0, 0, 0, 0, 0, 0, 0], ⟨0, 2, 3, 1, w, 0, 0, 0, 0, 0, 0, 0⟩) := (owIt_succ e0).trans (by simp [owX, owT, owA, cellAt, cellSet, cellSwap, swapIs, allocOk, allocXs, noE, wr64])
  have e2 : owIt 13 noE [0, 0, 0] ⟨0, 1, 0, 1, w, 0, 0, 0, 0, 0, 0, 0⟩ 2 = ([0, 0, 0, w, 0, 0, 0, 0], ⟨0, 5, 3, 1, w, 0, 0, 0, 0, 0, 0, 0⟩) := (owIt_succ e1).trans (by simp [owX, owT, owA, cellAt, cellSet, cellSwap, swapIs, allocOk, allocXs, noE, wr64])
  have e3 : owIt 13 noE [0, 0, 0] ⟨0, 1, 0, 1, w, 0, 0, 0, 0, 0, 0, 0⟩ 3 = ([0, 0, 0, w, 0, 0, 0, 0], ⟨0, 6, 3, 1, w, 0, 0, 0, 0, 0, 0, 0⟩) := (owIt_succ e2).trans (by simp [owX, owT, owA, cellAt, cellSet, cellSwap, swapIs, allocOk, allocXs, noE, wr64])
  exact e3
set_option maxHeartbeats 2000000 in
theorem lateN (o w : Int)  : owIt 13 noE [0, o, 0, w, 0, 0, 0, 0] ⟨0, 6, 3, 1, w, 0, 0, 0, 0, 0, 0, 0⟩ 7 = ([0, 3, 0, w, 1, 0, o, 0], ⟨0, 12, 3, 1, w, w, 0, 0, 0, 0, 0, 0⟩) := by
  have e0 : owIt 13 noE [0, o, 0, w, 0, 0, 0, 0] ⟨0, 6, 3, 1, w, 0, 0, 0, 0, 0, 0, 0⟩ 0 = ([0, o, 0, w, 0, 0, 0, 0], ⟨0, 6, 3, 1, w, 0, 0, 0, 0, 0, 0, 0⟩) := rfl
  have e1 : owIt 13 noE [0, o, 0, w, 0, 0, 0, 0] ⟨0, 6, 3, 1, w, 0, 0, 0, 0, 0, 0, 0⟩ 1 = ([0, o, 0, w, 2, 0, 0, 0], ⟨0, 15, 3, 1, w, 0, 0, 0, 0, 0, 0, 0⟩) := (owIt_succ e0).trans (by simp [owX, owT, owA, cellAt, cellSet, cellSwap, swapIs, allocOk, allocXs, noE, wr64])
  have e2 : owIt 13 noE [0, o, 0, w, 0, 0, 0, 0] ⟨0, 6, 3, 1, w, 0, 0, 0, 0, 0, 0, 0⟩ 2 = ([0, o, 0, w, 2, 0, 0, 0], ⟨0, 7, 3, 1, w, w, 0, 0, 0, 0, 0, 0⟩) := (owIt_succ e1).trans (by simp [owX, owT, owA, cellAt, cellSet, cellSwap, swapIs, allocOk, allocXs, noE, wr64])
  have e3 : owIt 13 noE [0, o, 0, w, 0, 0, 0, 0] ⟨0, 6, 3, 1, w, 0, 0, 0, 0, 0, 0, 0⟩ 3 = ([0, o, 0, w, 2, 0, 0, 0], ⟨0, 8, 3, 1, w, o, 0, 0, 0, 0, 0, 0⟩) := (owIt_succ e2).trans (by simp [owX, owT, owA, cellAt, cellSet, cellSwap, swapIs, allocOk, allocXs, noE, wr64])
  have e4 : owIt 13 noE [0, o, 0, w, 0, 0, 0, 0] ⟨0, 6, 3, 1, w, 0, 0, 0, 0, 0, 0, 0⟩ 4 = ([0, o, 0, w, 2, 0, o, 0], ⟨0, 9, 3, 1, w, o, 0, 0, 0, 0, 0, 0⟩) := (owIt_succ e3).trans (by simp [owX, owT, owA, cellAt, cellSet, cellSwap, swapIs, allocOk, allocXs, noE, wr64])
  have e5 : owIt 13 noE [0, o, 0, w, 0, 0, 0, 0] ⟨0, 6, 3, 1, w, 0, 0, 0, 0, 0, 0, 0⟩ 5 = ([0, 3, 0, w, 2, 0, o, 0], ⟨0, 10, 3, 1, w, 1, 0, 0, 0, 0, 0, 0⟩) := (owIt_succ e4).trans (by simp [owX, owT, owA, cellAt, cellSet, cellSwap, swapIs, allocOk, allocXs, noE, wr64])
  have e6 : owIt 13 noE [0, o, 0, w, 0, 0, 0, 0] ⟨0, 6, 3, 1, w, 0, 0, 0, 0, 0, 0, 0⟩ 6 = ([0, 3, 0, w, 1, 0, o, 0], ⟨0, 11, 3, 1, w, 1, 0, 0, 0, 0, 0, 0⟩) := (owIt_succ e5).trans (by simp [owX, owT, owA, cellAt, cellSet, cellSwap, swapIs, allocOk, allocXs, noE, wr64])
  have e7 : owIt 13 noE [0, o, 0, w, 0, 0, 0, 0] ⟨0, 6, 3, 1, w, 0, 0, 0, 0, 0, 0, 0⟩ 7 = ([0, 3, 0, w, 1, 0, o, 0], ⟨0, 12, 3, 1, w, w, 0, 0, 0, 0, 0, 0⟩) := (owIt_succ e6).trans (by simp [owX, owT, owA, cellAt, cellSet, cellSwap, swapIs, allocOk, allocXs, noE, wr64])
  exact e7
-- ([0, 3, 0, w, 1, 0, o, 0], ⟨0, 12, 3, 1, w, w, 0, 0, 0, 0, 0, 0⟩)
set_option maxHeartbeats 2000000 in
theorem lateS (o w r : Int) (hw : 1 ≤ w) : owIt 13 noE [0, o, 0, -1, 0, 0, 0, r] ⟨0, 6, 3, 1, w, 0, 0, 0, 0, 0, 0, 0⟩ 4 = ([0, o, 0, -1, 0, 0, 0, r], ⟨0, 14, 3, 1, w, -1, 0, 0, 0, 0, 0, 0⟩) := by
  have e0 : owIt 13 noE [0, o, 0, -1, 0, 0, 0, r] ⟨0, 6, 3, 1, w, 0, 0, 0, 0, 0, 0, 0⟩ 0 = ([0, o, 0, -1, 0, 0, 0, r], ⟨0, 6, 3, 1, w, 0, 0, 0, 0, 0, 0, 0⟩) := rfl
  have e1 : owIt 13 noE [0, o, 0, -1, 0, 0, 0, r] ⟨0, 6, 3, 1, w, 0, 0, 0, 0, 0, 0, 0⟩ 1 = ([0, o, 0, -1, 2, 0, 0, r], ⟨0, 15, 3, 1, w, 0, 0, 0, 0, 0, 0, 0⟩) := (owIt_succ e0).trans (by simp [owX, owT, owA, cellAt, cellSet, cellSwap, swapIs, allocOk, allocXs, noE, wr64, show ¬ (-1 : Int) = w by omega])
  have e2 : owIt 13 noE [0, o, 0, -1, 0, 0, 0, r] ⟨0, 6, 3, 1, w, 0, 0, 0, 0, 0, 0, 0⟩ 2 = ([0, o, 0, -1, 2, 0, 0, r], ⟨0, 16, 3, 1, w, -1, 0, 0, 0, 0, 0, 0⟩) := (owIt_succ e1).trans (by simp [owX, owT, owA, cellAt, cellSet, cellSwap, swapIs, allocOk, allocXs, noE, wr64, show ¬ (-1 : Int) = w by omega])
  have e3 : owIt 13 noE [0, o, 0, -1, 0, 0, 0, r] ⟨0, 6, 3, 1, w, 0, 0, 0, 0, 0, 0, 0⟩ 3 = ([0, o, 0, -1, 0, 0, 0, r], ⟨0, 11, 3, 1, w, -1, 0, 0, 0, 0, 0, 0⟩) := (owIt_succ e2).trans (by simp [owX, owT, owA, cellAt, cellSet, cellSwap, swapIs, allocOk, allocXs, noE, wr64, show ¬ (-1 : Int) = w by omega])
  have e4 : owIt 13 noE [0, o, 0, -1, 0, 0, 0, r] ⟨0, 6, 3, 1, w, 0, 0, 0, 0, 0, 0, 0⟩ 4 = ([0, o, 0, -1, 0, 0, 0, r], ⟨0, 14, 3, 1, w, -1, 0, 0, 0, 0, 0, 0⟩) := (owIt_succ e3).trans (by simp [owX, owT, owA, cellAt, cellSet, cellSwap, swapIs, allocOk, allocXs, noE, wr64, show ¬ (-1 : Int) = w by omega])
  exact e4
-- ([0, o, 0, -1, 0, 0, 0, r], ⟨0, 14, 3, 1, w, -1, 0, 0, 0, 0, 0, 0⟩)
theorem lateZ (o w r : Int) (hw : 1 ≤ w) : owX 13 [0, o, 0, -1, 0, 0, 0, r] ⟨0, 14, 3, 1, w, -1, 0, 0, 0, 0, 0, 0⟩ = [0, o, 0, -1, 0, 0, 0, r] ∧ owT 13 [0, o, 0, -1, 0, 0, 0, r] ⟨0, 14, 3, 1, w, -1, 0, 0, 0, 0, 0, 0⟩ = ⟨0, 0, 3, 1, 0, r, 0, 0, 0, 0, 0, 0⟩ := by constructor <;> simp [owX, owT, owA, cellAt, cellSet, cellSwap, swapIs, allocOk, allocXs, noE, wr64]
-- ([0, o, 0, -1, 0, 0, 0, r], ⟨0, 0, 3, 1, 0, r, 0, 0, 0, 0, 0, 0⟩)

end Go.Proofs.Ytcellcjojfbajaa
