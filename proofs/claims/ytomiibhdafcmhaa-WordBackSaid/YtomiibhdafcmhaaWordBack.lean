/- WordBack: there and back: each operation has one word, and each word from 1 to 2^40 is one of an operation: the law returns true for every input. -/
import Derived.Test.YtomiibhdafcmhaaWord
import Derived.Test.YtomiibhdafcmhaaWordKnown
import Derived.Test.YtomiibhdafcmhaaFrame
import Derived.Deep.RegionHeld3
namespace Go.Proofs.Ytomiibhdafcmhaa
open Go.RowKit
open Go.ChangeShapes Go.WideShapes Go.ChangeAt

theorem and_rng (x : Int) (m : Nat) (hm : m < 9223372036854775808) : 0 ≤ bits .and .i64 x (m : Int) ∧ bits .and .i64 x (m : Int) ≤ (m : Int) := by
  have h : (BitVec.ofInt 64 x &&& BitVec.ofInt 64 (m : Int)).toNat ≤ m := by
    rw [BitVec.toNat_and, BitVec.ofInt_natCast, BitVec.toNat_ofNat]
    exact Nat.le_trans Nat.and_le_right (Nat.mod_le _ _)
  show 0 ≤ IntKind.i64.wrap ((BitVec.ofInt 64 x &&& BitVec.ofInt 64 (m : Int)).toNat : Int) ∧ IntKind.i64.wrap ((BitVec.ofInt 64 x &&& BitVec.ofInt 64 (m : Int)).toNat : Int) ≤ (m : Int)
  rw [IntWalk.i64_in _ (by omega)]
  omega

theorem wOfOp_word (k v : Int) (w : World) (h1 : 0 ≤ k) (h2 : k ≤ 255) (h3 : -2147483648 ≤ v) (h4 : v ≤ 2147483647) :
    Calls Try.prog 12 #[.int .i64 (wordOf k v)] w fun e w' => e = .returned (.tuple #[.agg #[.int .u8 k, .int .i32 v], .bool true]) ∧ Below w.heap.size w w' := by
  have h := wOfOp_any (wordOf k v) w
  have r := word_rng h1 h2 h3 h4
  rw [wk_word h1 h2 h3 h4, wv_word h1 h2 h3 h4, wis_yes r.1 r.2] at h
  exact h
theorem wOfRes_word (k v : Int) (w : World) (h1 : 0 ≤ k) (h2 : k ≤ 255) (h3 : -2147483648 ≤ v) (h4 : v ≤ 2147483647) :
    Calls Try.prog 13 #[.int .i64 (wordOf k v)] w fun e w' => e = .returned (.tuple #[.agg #[.int .u8 k, .int .i32 v], .bool true]) ∧ Below w.heap.size w w' := by
  have h := wOfRes_any (wordOf k v) w
  have r := word_rng h1 h2 h3 h4
  rw [wk_word h1 h2 h3 h4, wv_word h1 h2 h3 h4, wis_yes r.1 r.2] at h
  exact h
theorem wOfOp_is (n : Int) (b : Bool) (w : World) (h : wis n = b) :
    Calls Try.prog 12 #[.int .i64 n] w fun e w' => e = .returned (.tuple #[.agg #[.int .u8 (wk n), .int .i32 (wv n)], .bool b]) ∧ Below w.heap.size w w' := by
  subst h; exact wOfOp_any n w
theorem wOp_back (n : Int) (w : World) (h1 : 1 ≤ n) (h2 : n ≤ 1099511627776) :
    Calls Try.prog 9 #[.agg #[.int .u8 (wk n), .int .i32 (wv n)]] w fun e w' => e = .returned (.int .i64 n) ∧ Below w.heap.size w w' := by
  have h := wOp_any (wk n) (wv n) w (wk_rng n).1 (wk_rng n).2 (wv_rng n).1 (wv_rng n).2
  rw [word_of h1 h2] at h
  exact h

set_option maxHeartbeats 2000000 in
theorem wordBack_low (k v c x n m : Int) (w : World) (h1 : 0 ≤ k) (h2 : k ≤ 255) (h3 : -2147483648 ≤ v) (h4 : v ≤ 2147483647) (i1 : 0 ≤ c) (i2 : c ≤ 255) (i3 : -2147483648 ≤ x) (i4 : x ≤ 2147483647) (hm : bits .and .i64 n 1099511627775 = m) (m1 : 0 ≤ m) (m2 : m ≤ 1099511627775) (h : n < 1) :
    Calls Try.prog 7 #[.agg #[.int .u8 k, .int .i32 v], .agg #[.int .u8 c, .int .i32 x], .int .i64 n] w fun e w' => e = .returned (.bool true) ∧ Below w.heap.size w w' := by
  go_enter Try.func7, Try.ntmps7
  go_wp2_with fail
  refine (wOp_any k v _ h1 h2 h3 h4).mono ?_
  rintro e w1 ⟨rfl, hb1⟩
  have z1 : w.heap.size + 1 < w1.heap.size := by have := hb1.size; first | omega | (simp at this; omega)
  have B1 : Below w.heap.size w w1 := Below.trans (by go_grown) (hb1.mono (by first | omega | (simp; omega) | (simp; done)))
  have z1_0 : w.heap.size < w1.heap.size := by omega
  have c1_0_0 : w1.cell? ⟨w.heap.size, 0, none⟩ = some (.int .u8 k) := (hb1.cell (p := ⟨w.heap.size, 0, none⟩) (by first | omega | (simp; omega) | (simp; done))).trans (by go_simp)
  have c1_0_1 : w1.cell? ⟨w.heap.size, 1, none⟩ = some (.int .i32 v) := (hb1.cell (p := ⟨w.heap.size, 1, none⟩) (by first | omega | (simp; omega) | (simp; done))).trans (by go_simp)
  have c1_1_0 : w1.cell? ⟨w.heap.size + 1, 0, none⟩ = some (.int .u8 c) := (hb1.cell (p := ⟨w.heap.size + 1, 0, none⟩) (by first | omega | (simp; omega) | (simp; done))).trans (by go_simp)
  have c1_1_1 : w1.cell? ⟨w.heap.size + 1, 1, none⟩ = some (.int .i32 x) := (hb1.cell (p := ⟨w.heap.size + 1, 1, none⟩) (by first | omega | (simp; omega) | (simp; done))).trans (by go_simp)
  clear hb1
  go_wp2_with fail
  refine (wOfOp_word k v _ h1 h2 h3 h4).mono ?_
  rintro e w2 ⟨rfl, hb2⟩
  have z2 : w.heap.size + 1 < w2.heap.size := by have := hb2.size; first | omega | (simp at this; omega)
  have B2 : Below w.heap.size w w2 := Below.trans (by go_grown) (hb2.mono (by first | omega | (simp; omega) | (simp; done)))
  have z2_0 : w.heap.size < w2.heap.size := by omega
  have c2_0_0 : w2.cell? ⟨w.heap.size, 0, none⟩ = some (.int .u8 k) := (hb2.cell (p := ⟨w.heap.size, 0, none⟩) (by first | omega | (simp; omega) | (simp; done))).trans (by go_simp)
  have c2_0_1 : w2.cell? ⟨w.heap.size, 1, none⟩ = some (.int .i32 v) := (hb2.cell (p := ⟨w.heap.size, 1, none⟩) (by first | omega | (simp; omega) | (simp; done))).trans (by go_simp)
  have c2_1_0 : w2.cell? ⟨w.heap.size + 1, 0, none⟩ = some (.int .u8 c) := (hb2.cell (p := ⟨w.heap.size + 1, 0, none⟩) (by first | omega | (simp; omega) | (simp; done))).trans (by go_simp)
  have c2_1_1 : w2.cell? ⟨w.heap.size + 1, 1, none⟩ = some (.int .i32 x) := (hb2.cell (p := ⟨w.heap.size + 1, 1, none⟩) (by first | omega | (simp; omega) | (simp; done))).trans (by go_simp)
  clear hb2 B1 c1_0_0 c1_0_1 c1_1_0 c1_1_1
  go_wp2_with fail
  refine (wRes_any c x _ i1 i2 i3 i4).mono ?_
  rintro e w3 ⟨rfl, hb3⟩
  have z3 : w2.heap.size < w3.heap.size := by have := hb3.size; first | omega | (simp at this; omega)
  have B3 : Below w.heap.size w w3 := Below.trans (by go_grown) (hb3.mono (by first | omega | (simp; omega) | (simp; done)))
  have z3_0 : w.heap.size < w3.heap.size := by omega
  have z3_1 : w.heap.size + 1 < w3.heap.size := by omega
  have c3_0_0 : w3.cell? ⟨w.heap.size, 0, none⟩ = some (.int .u8 k) := (hb3.cell (p := ⟨w.heap.size, 0, none⟩) (by first | omega | (simp; omega) | (simp; done))).trans (by go_simp)
  have c3_0_1 : w3.cell? ⟨w.heap.size, 1, none⟩ = some (.int .i32 v) := (hb3.cell (p := ⟨w.heap.size, 1, none⟩) (by first | omega | (simp; omega) | (simp; done))).trans (by go_simp)
  have c3_1_0 : w3.cell? ⟨w.heap.size + 1, 0, none⟩ = some (.int .u8 c) := (hb3.cell (p := ⟨w.heap.size + 1, 0, none⟩) (by first | omega | (simp; omega) | (simp; done))).trans (by go_simp)
  have c3_1_1 : w3.cell? ⟨w.heap.size + 1, 1, none⟩ = some (.int .i32 x) := (hb3.cell (p := ⟨w.heap.size + 1, 1, none⟩) (by first | omega | (simp; omega) | (simp; done))).trans (by go_simp)
  have c3_2_0 : w3.cell? ⟨w2.heap.size, 0, none⟩ = some (.int .u8 k) := (hb3.cell (p := ⟨w2.heap.size, 0, none⟩) (by first | omega | (simp; omega) | (simp; done))).trans (by go_simp)
  have c3_2_1 : w3.cell? ⟨w2.heap.size, 1, none⟩ = some (.int .i32 v) := (hb3.cell (p := ⟨w2.heap.size, 1, none⟩) (by first | omega | (simp; omega) | (simp; done))).trans (by go_simp)
  clear hb3 B2 c2_0_0 c2_0_1 c2_1_0 c2_1_1
  go_wp2_with fail
  refine (wOfRes_word c x _ i1 i2 i3 i4).mono ?_
  rintro e w4 ⟨rfl, hb4⟩
  have z4 : w2.heap.size < w4.heap.size := by have := hb4.size; first | omega | (simp at this; omega)
  have B4 : Below w.heap.size w w4 := Below.trans (by go_grown) (hb4.mono (by first | omega | (simp; omega) | (simp; done)))
  have z4_0 : w.heap.size < w4.heap.size := by omega
  have z4_1 : w.heap.size + 1 < w4.heap.size := by omega
  have c4_0_0 : w4.cell? ⟨w.heap.size, 0, none⟩ = some (.int .u8 k) := (hb4.cell (p := ⟨w.heap.size, 0, none⟩) (by first | omega | (simp; omega) | (simp; done))).trans (by go_simp)
  have c4_0_1 : w4.cell? ⟨w.heap.size, 1, none⟩ = some (.int .i32 v) := (hb4.cell (p := ⟨w.heap.size, 1, none⟩) (by first | omega | (simp; omega) | (simp; done))).trans (by go_simp)
  have c4_1_0 : w4.cell? ⟨w.heap.size + 1, 0, none⟩ = some (.int .u8 c) := (hb4.cell (p := ⟨w.heap.size + 1, 0, none⟩) (by first | omega | (simp; omega) | (simp; done))).trans (by go_simp)
  have c4_1_1 : w4.cell? ⟨w.heap.size + 1, 1, none⟩ = some (.int .i32 x) := (hb4.cell (p := ⟨w.heap.size + 1, 1, none⟩) (by first | omega | (simp; omega) | (simp; done))).trans (by go_simp)
  have c4_2_0 : w4.cell? ⟨w2.heap.size, 0, none⟩ = some (.int .u8 k) := (hb4.cell (p := ⟨w2.heap.size, 0, none⟩) (by first | omega | (simp; omega) | (simp; done))).trans (by go_simp)
  have c4_2_1 : w4.cell? ⟨w2.heap.size, 1, none⟩ = some (.int .i32 v) := (hb4.cell (p := ⟨w2.heap.size, 1, none⟩) (by first | omega | (simp; omega) | (simp; done))).trans (by go_simp)
  clear hb4 B3 c3_0_0 c3_0_1 c3_1_0 c3_1_1 c3_2_0 c3_2_1
  go_wp2_with fail
  refine (wOfOp_is _ true _ (wis_yes (by omega) (by omega))).mono ?_
  rintro e w5 ⟨rfl, hb5⟩
  have z5 : w4.heap.size < w5.heap.size := by have := hb5.size; first | omega | (simp at this; omega)
  have B5 : Below w.heap.size w w5 := Below.trans (by go_grown) (hb5.mono (by first | omega | (simp; omega) | (simp; done)))
  have z5_0 : w.heap.size < w5.heap.size := by omega
  have z5_1 : w.heap.size + 1 < w5.heap.size := by omega
  have z5_2 : w2.heap.size < w5.heap.size := by omega
  have c5_0_0 : w5.cell? ⟨w.heap.size, 0, none⟩ = some (.int .u8 k) := (hb5.cell (p := ⟨w.heap.size, 0, none⟩) (by first | omega | (simp; omega) | (simp; done))).trans (by go_simp)
  have c5_0_1 : w5.cell? ⟨w.heap.size, 1, none⟩ = some (.int .i32 v) := (hb5.cell (p := ⟨w.heap.size, 1, none⟩) (by first | omega | (simp; omega) | (simp; done))).trans (by go_simp)
  have c5_1_0 : w5.cell? ⟨w.heap.size + 1, 0, none⟩ = some (.int .u8 c) := (hb5.cell (p := ⟨w.heap.size + 1, 0, none⟩) (by first | omega | (simp; omega) | (simp; done))).trans (by go_simp)
  have c5_1_1 : w5.cell? ⟨w.heap.size + 1, 1, none⟩ = some (.int .i32 x) := (hb5.cell (p := ⟨w.heap.size + 1, 1, none⟩) (by first | omega | (simp; omega) | (simp; done))).trans (by go_simp)
  have c5_2_0 : w5.cell? ⟨w2.heap.size, 0, none⟩ = some (.int .u8 k) := (hb5.cell (p := ⟨w2.heap.size, 0, none⟩) (by first | omega | (simp; omega) | (simp; done))).trans (by go_simp)
  have c5_2_1 : w5.cell? ⟨w2.heap.size, 1, none⟩ = some (.int .i32 v) := (hb5.cell (p := ⟨w2.heap.size, 1, none⟩) (by first | omega | (simp; omega) | (simp; done))).trans (by go_simp)
  have c5_3_0 : w5.cell? ⟨w4.heap.size, 0, none⟩ = some (.int .u8 c) := (hb5.cell (p := ⟨w4.heap.size, 0, none⟩) (by first | omega | (simp; omega) | (simp; done))).trans (by go_simp)
  have c5_3_1 : w5.cell? ⟨w4.heap.size, 1, none⟩ = some (.int .i32 x) := (hb5.cell (p := ⟨w4.heap.size, 1, none⟩) (by first | omega | (simp; omega) | (simp; done))).trans (by go_simp)
  clear hb5 B4 c4_0_0 c4_0_1 c4_1_0 c4_1_1 c4_2_0 c4_2_1
  go_wp2_with fail
  refine (wOfOp_is _ false _ (wis_no (.inl h))).mono ?_
  rintro e w6 ⟨rfl, hb6⟩
  have z6 : w5.heap.size < w6.heap.size := by have := hb6.size; first | omega | (simp at this; omega)
  have B6 : Below w.heap.size w w6 := Below.trans (by go_grown) (hb6.mono (by first | omega | (simp; omega) | (simp; done)))
  have z6_0 : w.heap.size < w6.heap.size := by omega
  have z6_1 : w.heap.size + 1 < w6.heap.size := by omega
  have z6_2 : w2.heap.size < w6.heap.size := by omega
  have z6_3 : w4.heap.size < w6.heap.size := by omega
  have c6_0_0 : w6.cell? ⟨w.heap.size, 0, none⟩ = some (.int .u8 k) := (hb6.cell (p := ⟨w.heap.size, 0, none⟩) (by first | omega | (simp; omega) | (simp; done))).trans (by go_simp)
  have c6_0_1 : w6.cell? ⟨w.heap.size, 1, none⟩ = some (.int .i32 v) := (hb6.cell (p := ⟨w.heap.size, 1, none⟩) (by first | omega | (simp; omega) | (simp; done))).trans (by go_simp)
  have c6_1_0 : w6.cell? ⟨w.heap.size + 1, 0, none⟩ = some (.int .u8 c) := (hb6.cell (p := ⟨w.heap.size + 1, 0, none⟩) (by first | omega | (simp; omega) | (simp; done))).trans (by go_simp)
  have c6_1_1 : w6.cell? ⟨w.heap.size + 1, 1, none⟩ = some (.int .i32 x) := (hb6.cell (p := ⟨w.heap.size + 1, 1, none⟩) (by first | omega | (simp; omega) | (simp; done))).trans (by go_simp)
  have c6_2_0 : w6.cell? ⟨w2.heap.size, 0, none⟩ = some (.int .u8 k) := (hb6.cell (p := ⟨w2.heap.size, 0, none⟩) (by first | omega | (simp; omega) | (simp; done))).trans (by go_simp)
  have c6_2_1 : w6.cell? ⟨w2.heap.size, 1, none⟩ = some (.int .i32 v) := (hb6.cell (p := ⟨w2.heap.size, 1, none⟩) (by first | omega | (simp; omega) | (simp; done))).trans (by go_simp)
  have c6_3_0 : w6.cell? ⟨w4.heap.size, 0, none⟩ = some (.int .u8 c) := (hb6.cell (p := ⟨w4.heap.size, 0, none⟩) (by first | omega | (simp; omega) | (simp; done))).trans (by go_simp)
  have c6_3_1 : w6.cell? ⟨w4.heap.size, 1, none⟩ = some (.int .i32 x) := (hb6.cell (p := ⟨w4.heap.size, 1, none⟩) (by first | omega | (simp; omega) | (simp; done))).trans (by go_simp)
  have c6_4_0 : w6.cell? ⟨w5.heap.size, 0, none⟩ = some (.int .u8 (wk (m + 1))) := (hb6.cell (p := ⟨w5.heap.size, 0, none⟩) (by first | omega | (simp; omega) | (simp; done))).trans (by go_simp)
  have c6_4_1 : w6.cell? ⟨w5.heap.size, 1, none⟩ = some (.int .i32 (wv (m + 1))) := (hb6.cell (p := ⟨w5.heap.size, 1, none⟩) (by first | omega | (simp; omega) | (simp; done))).trans (by go_simp)
  clear hb6 B5 c5_0_0 c5_0_1 c5_1_0 c5_1_1 c5_2_0 c5_2_1 c5_3_0 c5_3_1
  go_wp2_with fail
  refine (known1_any _).mono ?_
  rintro e w7 ⟨rfl, hb7⟩
  have z7 : w5.heap.size < w7.heap.size := by have := hb7.size; first | omega | (simp at this; omega)
  have B7 : Below w.heap.size w w7 := Below.trans (by go_grown) (hb7.mono (by first | omega | (simp; omega) | (simp; done)))
  have z7_0 : w.heap.size < w7.heap.size := by omega
  have z7_1 : w.heap.size + 1 < w7.heap.size := by omega
  have z7_2 : w2.heap.size < w7.heap.size := by omega
  have z7_3 : w4.heap.size < w7.heap.size := by omega
  have c7_0_0 : w7.cell? ⟨w.heap.size, 0, none⟩ = some (.int .u8 k) := (hb7.cell (p := ⟨w.heap.size, 0, none⟩) (by first | omega | (simp; omega) | (simp; done))).trans (by go_simp)
  have c7_0_1 : w7.cell? ⟨w.heap.size, 1, none⟩ = some (.int .i32 v) := (hb7.cell (p := ⟨w.heap.size, 1, none⟩) (by first | omega | (simp; omega) | (simp; done))).trans (by go_simp)
  have c7_1_0 : w7.cell? ⟨w.heap.size + 1, 0, none⟩ = some (.int .u8 c) := (hb7.cell (p := ⟨w.heap.size + 1, 0, none⟩) (by first | omega | (simp; omega) | (simp; done))).trans (by go_simp)
  have c7_1_1 : w7.cell? ⟨w.heap.size + 1, 1, none⟩ = some (.int .i32 x) := (hb7.cell (p := ⟨w.heap.size + 1, 1, none⟩) (by first | omega | (simp; omega) | (simp; done))).trans (by go_simp)
  have c7_2_0 : w7.cell? ⟨w2.heap.size, 0, none⟩ = some (.int .u8 k) := (hb7.cell (p := ⟨w2.heap.size, 0, none⟩) (by first | omega | (simp; omega) | (simp; done))).trans (by go_simp)
  have c7_2_1 : w7.cell? ⟨w2.heap.size, 1, none⟩ = some (.int .i32 v) := (hb7.cell (p := ⟨w2.heap.size, 1, none⟩) (by first | omega | (simp; omega) | (simp; done))).trans (by go_simp)
  have c7_3_0 : w7.cell? ⟨w4.heap.size, 0, none⟩ = some (.int .u8 c) := (hb7.cell (p := ⟨w4.heap.size, 0, none⟩) (by first | omega | (simp; omega) | (simp; done))).trans (by go_simp)
  have c7_3_1 : w7.cell? ⟨w4.heap.size, 1, none⟩ = some (.int .i32 x) := (hb7.cell (p := ⟨w4.heap.size, 1, none⟩) (by first | omega | (simp; omega) | (simp; done))).trans (by go_simp)
  have c7_4_0 : w7.cell? ⟨w5.heap.size, 0, none⟩ = some (.int .u8 (wk (m + 1))) := (hb7.cell (p := ⟨w5.heap.size, 0, none⟩) (by first | omega | (simp; omega) | (simp; done))).trans (by go_simp)
  have c7_4_1 : w7.cell? ⟨w5.heap.size, 1, none⟩ = some (.int .i32 (wv (m + 1))) := (hb7.cell (p := ⟨w5.heap.size, 1, none⟩) (by first | omega | (simp; omega) | (simp; done))).trans (by go_simp)
  clear hb7 B6 c6_0_0 c6_0_1 c6_1_0 c6_1_1 c6_2_0 c6_2_1 c6_3_0 c6_3_1 c6_4_0 c6_4_1
  go_wp2_with fail
  refine (wOp_back (m + 1) _ (by omega) (by omega)).mono ?_
  rintro e w8 ⟨rfl, hb8⟩
  have z8 : w5.heap.size < w8.heap.size := by have := hb8.size; first | omega | (simp at this; omega)
  have B8 : Below w.heap.size w w8 := Below.trans (by go_grown) (hb8.mono (by first | omega | (simp; omega) | (simp; done)))
  have z8_0 : w.heap.size < w8.heap.size := by omega
  have z8_1 : w.heap.size + 1 < w8.heap.size := by omega
  have z8_2 : w2.heap.size < w8.heap.size := by omega
  have z8_3 : w4.heap.size < w8.heap.size := by omega
  have c8_0_0 : w8.cell? ⟨w.heap.size, 0, none⟩ = some (.int .u8 k) := (hb8.cell (p := ⟨w.heap.size, 0, none⟩) (by first | omega | (simp; omega) | (simp; done))).trans (by go_simp)
  have c8_0_1 : w8.cell? ⟨w.heap.size, 1, none⟩ = some (.int .i32 v) := (hb8.cell (p := ⟨w.heap.size, 1, none⟩) (by first | omega | (simp; omega) | (simp; done))).trans (by go_simp)
  have c8_1_0 : w8.cell? ⟨w.heap.size + 1, 0, none⟩ = some (.int .u8 c) := (hb8.cell (p := ⟨w.heap.size + 1, 0, none⟩) (by first | omega | (simp; omega) | (simp; done))).trans (by go_simp)
  have c8_1_1 : w8.cell? ⟨w.heap.size + 1, 1, none⟩ = some (.int .i32 x) := (hb8.cell (p := ⟨w.heap.size + 1, 1, none⟩) (by first | omega | (simp; omega) | (simp; done))).trans (by go_simp)
  have c8_2_0 : w8.cell? ⟨w2.heap.size, 0, none⟩ = some (.int .u8 k) := (hb8.cell (p := ⟨w2.heap.size, 0, none⟩) (by first | omega | (simp; omega) | (simp; done))).trans (by go_simp)
  have c8_2_1 : w8.cell? ⟨w2.heap.size, 1, none⟩ = some (.int .i32 v) := (hb8.cell (p := ⟨w2.heap.size, 1, none⟩) (by first | omega | (simp; omega) | (simp; done))).trans (by go_simp)
  have c8_3_0 : w8.cell? ⟨w4.heap.size, 0, none⟩ = some (.int .u8 c) := (hb8.cell (p := ⟨w4.heap.size, 0, none⟩) (by first | omega | (simp; omega) | (simp; done))).trans (by go_simp)
  have c8_3_1 : w8.cell? ⟨w4.heap.size, 1, none⟩ = some (.int .i32 x) := (hb8.cell (p := ⟨w4.heap.size, 1, none⟩) (by first | omega | (simp; omega) | (simp; done))).trans (by go_simp)
  have c8_4_0 : w8.cell? ⟨w5.heap.size, 0, none⟩ = some (.int .u8 (wk (m + 1))) := (hb8.cell (p := ⟨w5.heap.size, 0, none⟩) (by first | omega | (simp; omega) | (simp; done))).trans (by go_simp)
  have c8_4_1 : w8.cell? ⟨w5.heap.size, 1, none⟩ = some (.int .i32 (wv (m + 1))) := (hb8.cell (p := ⟨w5.heap.size, 1, none⟩) (by first | omega | (simp; omega) | (simp; done))).trans (by go_simp)
  clear hb8 B7 c7_0_0 c7_0_1 c7_1_0 c7_1_1 c7_2_0 c7_2_1 c7_3_0 c7_3_1 c7_4_0 c7_4_1
  go_wp2
  go_ret
  exact ⟨by first | rfl | (simp; done) | (simp; omega), by assumption⟩

set_option maxHeartbeats 2000000 in
theorem wordBack_in (k v c x n m : Int) (w : World) (h1 : 0 ≤ k) (h2 : k ≤ 255) (h3 : -2147483648 ≤ v) (h4 : v ≤ 2147483647) (i1 : 0 ≤ c) (i2 : c ≤ 255) (i3 : -2147483648 ≤ x) (i4 : x ≤ 2147483647) (hm : bits .and .i64 n 1099511627775 = m) (m1 : 0 ≤ m) (m2 : m ≤ 1099511627775) (h : 1 ≤ n) (h0 : n ≤ 1099511627776) :
    Calls Try.prog 7 #[.agg #[.int .u8 k, .int .i32 v], .agg #[.int .u8 c, .int .i32 x], .int .i64 n] w fun e w' => e = .returned (.bool true) ∧ Below w.heap.size w w' := by
  go_enter Try.func7, Try.ntmps7
  go_wp2_with fail
  refine (wOp_any k v _ h1 h2 h3 h4).mono ?_
  rintro e w1 ⟨rfl, hb1⟩
  have z1 : w.heap.size + 1 < w1.heap.size := by have := hb1.size; first | omega | (simp at this; omega)
  have B1 : Below w.heap.size w w1 := Below.trans (by go_grown) (hb1.mono (by first | omega | (simp; omega) | (simp; done)))
  have z1_0 : w.heap.size < w1.heap.size := by omega
  have c1_0_0 : w1.cell? ⟨w.heap.size, 0, none⟩ = some (.int .u8 k) := (hb1.cell (p := ⟨w.heap.size, 0, none⟩) (by first | omega | (simp; omega) | (simp; done))).trans (by go_simp)
  have c1_0_1 : w1.cell? ⟨w.heap.size, 1, none⟩ = some (.int .i32 v) := (hb1.cell (p := ⟨w.heap.size, 1, none⟩) (by first | omega | (simp; omega) | (simp; done))).trans (by go_simp)
  have c1_1_0 : w1.cell? ⟨w.heap.size + 1, 0, none⟩ = some (.int .u8 c) := (hb1.cell (p := ⟨w.heap.size + 1, 0, none⟩) (by first | omega | (simp; omega) | (simp; done))).trans (by go_simp)
  have c1_1_1 : w1.cell? ⟨w.heap.size + 1, 1, none⟩ = some (.int .i32 x) := (hb1.cell (p := ⟨w.heap.size + 1, 1, none⟩) (by first | omega | (simp; omega) | (simp; done))).trans (by go_simp)
  clear hb1
  go_wp2_with fail
  refine (wOfOp_word k v _ h1 h2 h3 h4).mono ?_
  rintro e w2 ⟨rfl, hb2⟩
  have z2 : w.heap.size + 1 < w2.heap.size := by have := hb2.size; first | omega | (simp at this; omega)
  have B2 : Below w.heap.size w w2 := Below.trans (by go_grown) (hb2.mono (by first | omega | (simp; omega) | (simp; done)))
  have z2_0 : w.heap.size < w2.heap.size := by omega
  have c2_0_0 : w2.cell? ⟨w.heap.size, 0, none⟩ = some (.int .u8 k) := (hb2.cell (p := ⟨w.heap.size, 0, none⟩) (by first | omega | (simp; omega) | (simp; done))).trans (by go_simp)
  have c2_0_1 : w2.cell? ⟨w.heap.size, 1, none⟩ = some (.int .i32 v) := (hb2.cell (p := ⟨w.heap.size, 1, none⟩) (by first | omega | (simp; omega) | (simp; done))).trans (by go_simp)
  have c2_1_0 : w2.cell? ⟨w.heap.size + 1, 0, none⟩ = some (.int .u8 c) := (hb2.cell (p := ⟨w.heap.size + 1, 0, none⟩) (by first | omega | (simp; omega) | (simp; done))).trans (by go_simp)
  have c2_1_1 : w2.cell? ⟨w.heap.size + 1, 1, none⟩ = some (.int .i32 x) := (hb2.cell (p := ⟨w.heap.size + 1, 1, none⟩) (by first | omega | (simp; omega) | (simp; done))).trans (by go_simp)
  clear hb2 B1 c1_0_0 c1_0_1 c1_1_0 c1_1_1
  go_wp2_with fail
  refine (wRes_any c x _ i1 i2 i3 i4).mono ?_
  rintro e w3 ⟨rfl, hb3⟩
  have z3 : w2.heap.size < w3.heap.size := by have := hb3.size; first | omega | (simp at this; omega)
  have B3 : Below w.heap.size w w3 := Below.trans (by go_grown) (hb3.mono (by first | omega | (simp; omega) | (simp; done)))
  have z3_0 : w.heap.size < w3.heap.size := by omega
  have z3_1 : w.heap.size + 1 < w3.heap.size := by omega
  have c3_0_0 : w3.cell? ⟨w.heap.size, 0, none⟩ = some (.int .u8 k) := (hb3.cell (p := ⟨w.heap.size, 0, none⟩) (by first | omega | (simp; omega) | (simp; done))).trans (by go_simp)
  have c3_0_1 : w3.cell? ⟨w.heap.size, 1, none⟩ = some (.int .i32 v) := (hb3.cell (p := ⟨w.heap.size, 1, none⟩) (by first | omega | (simp; omega) | (simp; done))).trans (by go_simp)
  have c3_1_0 : w3.cell? ⟨w.heap.size + 1, 0, none⟩ = some (.int .u8 c) := (hb3.cell (p := ⟨w.heap.size + 1, 0, none⟩) (by first | omega | (simp; omega) | (simp; done))).trans (by go_simp)
  have c3_1_1 : w3.cell? ⟨w.heap.size + 1, 1, none⟩ = some (.int .i32 x) := (hb3.cell (p := ⟨w.heap.size + 1, 1, none⟩) (by first | omega | (simp; omega) | (simp; done))).trans (by go_simp)
  have c3_2_0 : w3.cell? ⟨w2.heap.size, 0, none⟩ = some (.int .u8 k) := (hb3.cell (p := ⟨w2.heap.size, 0, none⟩) (by first | omega | (simp; omega) | (simp; done))).trans (by go_simp)
  have c3_2_1 : w3.cell? ⟨w2.heap.size, 1, none⟩ = some (.int .i32 v) := (hb3.cell (p := ⟨w2.heap.size, 1, none⟩) (by first | omega | (simp; omega) | (simp; done))).trans (by go_simp)
  clear hb3 B2 c2_0_0 c2_0_1 c2_1_0 c2_1_1
  go_wp2_with fail
  refine (wOfRes_word c x _ i1 i2 i3 i4).mono ?_
  rintro e w4 ⟨rfl, hb4⟩
  have z4 : w2.heap.size < w4.heap.size := by have := hb4.size; first | omega | (simp at this; omega)
  have B4 : Below w.heap.size w w4 := Below.trans (by go_grown) (hb4.mono (by first | omega | (simp; omega) | (simp; done)))
  have z4_0 : w.heap.size < w4.heap.size := by omega
  have z4_1 : w.heap.size + 1 < w4.heap.size := by omega
  have c4_0_0 : w4.cell? ⟨w.heap.size, 0, none⟩ = some (.int .u8 k) := (hb4.cell (p := ⟨w.heap.size, 0, none⟩) (by first | omega | (simp; omega) | (simp; done))).trans (by go_simp)
  have c4_0_1 : w4.cell? ⟨w.heap.size, 1, none⟩ = some (.int .i32 v) := (hb4.cell (p := ⟨w.heap.size, 1, none⟩) (by first | omega | (simp; omega) | (simp; done))).trans (by go_simp)
  have c4_1_0 : w4.cell? ⟨w.heap.size + 1, 0, none⟩ = some (.int .u8 c) := (hb4.cell (p := ⟨w.heap.size + 1, 0, none⟩) (by first | omega | (simp; omega) | (simp; done))).trans (by go_simp)
  have c4_1_1 : w4.cell? ⟨w.heap.size + 1, 1, none⟩ = some (.int .i32 x) := (hb4.cell (p := ⟨w.heap.size + 1, 1, none⟩) (by first | omega | (simp; omega) | (simp; done))).trans (by go_simp)
  have c4_2_0 : w4.cell? ⟨w2.heap.size, 0, none⟩ = some (.int .u8 k) := (hb4.cell (p := ⟨w2.heap.size, 0, none⟩) (by first | omega | (simp; omega) | (simp; done))).trans (by go_simp)
  have c4_2_1 : w4.cell? ⟨w2.heap.size, 1, none⟩ = some (.int .i32 v) := (hb4.cell (p := ⟨w2.heap.size, 1, none⟩) (by first | omega | (simp; omega) | (simp; done))).trans (by go_simp)
  clear hb4 B3 c3_0_0 c3_0_1 c3_1_0 c3_1_1 c3_2_0 c3_2_1
  go_wp2_with fail
  refine (wOfOp_is _ true _ (wis_yes (by omega) (by omega))).mono ?_
  rintro e w5 ⟨rfl, hb5⟩
  have z5 : w4.heap.size < w5.heap.size := by have := hb5.size; first | omega | (simp at this; omega)
  have B5 : Below w.heap.size w w5 := Below.trans (by go_grown) (hb5.mono (by first | omega | (simp; omega) | (simp; done)))
  have z5_0 : w.heap.size < w5.heap.size := by omega
  have z5_1 : w.heap.size + 1 < w5.heap.size := by omega
  have z5_2 : w2.heap.size < w5.heap.size := by omega
  have c5_0_0 : w5.cell? ⟨w.heap.size, 0, none⟩ = some (.int .u8 k) := (hb5.cell (p := ⟨w.heap.size, 0, none⟩) (by first | omega | (simp; omega) | (simp; done))).trans (by go_simp)
  have c5_0_1 : w5.cell? ⟨w.heap.size, 1, none⟩ = some (.int .i32 v) := (hb5.cell (p := ⟨w.heap.size, 1, none⟩) (by first | omega | (simp; omega) | (simp; done))).trans (by go_simp)
  have c5_1_0 : w5.cell? ⟨w.heap.size + 1, 0, none⟩ = some (.int .u8 c) := (hb5.cell (p := ⟨w.heap.size + 1, 0, none⟩) (by first | omega | (simp; omega) | (simp; done))).trans (by go_simp)
  have c5_1_1 : w5.cell? ⟨w.heap.size + 1, 1, none⟩ = some (.int .i32 x) := (hb5.cell (p := ⟨w.heap.size + 1, 1, none⟩) (by first | omega | (simp; omega) | (simp; done))).trans (by go_simp)
  have c5_2_0 : w5.cell? ⟨w2.heap.size, 0, none⟩ = some (.int .u8 k) := (hb5.cell (p := ⟨w2.heap.size, 0, none⟩) (by first | omega | (simp; omega) | (simp; done))).trans (by go_simp)
  have c5_2_1 : w5.cell? ⟨w2.heap.size, 1, none⟩ = some (.int .i32 v) := (hb5.cell (p := ⟨w2.heap.size, 1, none⟩) (by first | omega | (simp; omega) | (simp; done))).trans (by go_simp)
  have c5_3_0 : w5.cell? ⟨w4.heap.size, 0, none⟩ = some (.int .u8 c) := (hb5.cell (p := ⟨w4.heap.size, 0, none⟩) (by first | omega | (simp; omega) | (simp; done))).trans (by go_simp)
  have c5_3_1 : w5.cell? ⟨w4.heap.size, 1, none⟩ = some (.int .i32 x) := (hb5.cell (p := ⟨w4.heap.size, 1, none⟩) (by first | omega | (simp; omega) | (simp; done))).trans (by go_simp)
  clear hb5 B4 c4_0_0 c4_0_1 c4_1_0 c4_1_1 c4_2_0 c4_2_1
  go_wp2_with fail
  refine (wOfOp_is _ true _ (wis_yes h h0)).mono ?_
  rintro e w6 ⟨rfl, hb6⟩
  have z6 : w5.heap.size < w6.heap.size := by have := hb6.size; first | omega | (simp at this; omega)
  have B6 : Below w.heap.size w w6 := Below.trans (by go_grown) (hb6.mono (by first | omega | (simp; omega) | (simp; done)))
  have z6_0 : w.heap.size < w6.heap.size := by omega
  have z6_1 : w.heap.size + 1 < w6.heap.size := by omega
  have z6_2 : w2.heap.size < w6.heap.size := by omega
  have z6_3 : w4.heap.size < w6.heap.size := by omega
  have c6_0_0 : w6.cell? ⟨w.heap.size, 0, none⟩ = some (.int .u8 k) := (hb6.cell (p := ⟨w.heap.size, 0, none⟩) (by first | omega | (simp; omega) | (simp; done))).trans (by go_simp)
  have c6_0_1 : w6.cell? ⟨w.heap.size, 1, none⟩ = some (.int .i32 v) := (hb6.cell (p := ⟨w.heap.size, 1, none⟩) (by first | omega | (simp; omega) | (simp; done))).trans (by go_simp)
  have c6_1_0 : w6.cell? ⟨w.heap.size + 1, 0, none⟩ = some (.int .u8 c) := (hb6.cell (p := ⟨w.heap.size + 1, 0, none⟩) (by first | omega | (simp; omega) | (simp; done))).trans (by go_simp)
  have c6_1_1 : w6.cell? ⟨w.heap.size + 1, 1, none⟩ = some (.int .i32 x) := (hb6.cell (p := ⟨w.heap.size + 1, 1, none⟩) (by first | omega | (simp; omega) | (simp; done))).trans (by go_simp)
  have c6_2_0 : w6.cell? ⟨w2.heap.size, 0, none⟩ = some (.int .u8 k) := (hb6.cell (p := ⟨w2.heap.size, 0, none⟩) (by first | omega | (simp; omega) | (simp; done))).trans (by go_simp)
  have c6_2_1 : w6.cell? ⟨w2.heap.size, 1, none⟩ = some (.int .i32 v) := (hb6.cell (p := ⟨w2.heap.size, 1, none⟩) (by first | omega | (simp; omega) | (simp; done))).trans (by go_simp)
  have c6_3_0 : w6.cell? ⟨w4.heap.size, 0, none⟩ = some (.int .u8 c) := (hb6.cell (p := ⟨w4.heap.size, 0, none⟩) (by first | omega | (simp; omega) | (simp; done))).trans (by go_simp)
  have c6_3_1 : w6.cell? ⟨w4.heap.size, 1, none⟩ = some (.int .i32 x) := (hb6.cell (p := ⟨w4.heap.size, 1, none⟩) (by first | omega | (simp; omega) | (simp; done))).trans (by go_simp)
  have c6_4_0 : w6.cell? ⟨w5.heap.size, 0, none⟩ = some (.int .u8 (wk (m + 1))) := (hb6.cell (p := ⟨w5.heap.size, 0, none⟩) (by first | omega | (simp; omega) | (simp; done))).trans (by go_simp)
  have c6_4_1 : w6.cell? ⟨w5.heap.size, 1, none⟩ = some (.int .i32 (wv (m + 1))) := (hb6.cell (p := ⟨w5.heap.size, 1, none⟩) (by first | omega | (simp; omega) | (simp; done))).trans (by go_simp)
  clear hb6 B5 c5_0_0 c5_0_1 c5_1_0 c5_1_1 c5_2_0 c5_2_1 c5_3_0 c5_3_1
  go_wp2_with fail
  refine (known1_any _).mono ?_
  rintro e w7 ⟨rfl, hb7⟩
  have z7 : w5.heap.size < w7.heap.size := by have := hb7.size; first | omega | (simp at this; omega)
  have B7 : Below w.heap.size w w7 := Below.trans (by go_grown) (hb7.mono (by first | omega | (simp; omega) | (simp; done)))
  have z7_0 : w.heap.size < w7.heap.size := by omega
  have z7_1 : w.heap.size + 1 < w7.heap.size := by omega
  have z7_2 : w2.heap.size < w7.heap.size := by omega
  have z7_3 : w4.heap.size < w7.heap.size := by omega
  have c7_0_0 : w7.cell? ⟨w.heap.size, 0, none⟩ = some (.int .u8 k) := (hb7.cell (p := ⟨w.heap.size, 0, none⟩) (by first | omega | (simp; omega) | (simp; done))).trans (by go_simp)
  have c7_0_1 : w7.cell? ⟨w.heap.size, 1, none⟩ = some (.int .i32 v) := (hb7.cell (p := ⟨w.heap.size, 1, none⟩) (by first | omega | (simp; omega) | (simp; done))).trans (by go_simp)
  have c7_1_0 : w7.cell? ⟨w.heap.size + 1, 0, none⟩ = some (.int .u8 c) := (hb7.cell (p := ⟨w.heap.size + 1, 0, none⟩) (by first | omega | (simp; omega) | (simp; done))).trans (by go_simp)
  have c7_1_1 : w7.cell? ⟨w.heap.size + 1, 1, none⟩ = some (.int .i32 x) := (hb7.cell (p := ⟨w.heap.size + 1, 1, none⟩) (by first | omega | (simp; omega) | (simp; done))).trans (by go_simp)
  have c7_2_0 : w7.cell? ⟨w2.heap.size, 0, none⟩ = some (.int .u8 k) := (hb7.cell (p := ⟨w2.heap.size, 0, none⟩) (by first | omega | (simp; omega) | (simp; done))).trans (by go_simp)
  have c7_2_1 : w7.cell? ⟨w2.heap.size, 1, none⟩ = some (.int .i32 v) := (hb7.cell (p := ⟨w2.heap.size, 1, none⟩) (by first | omega | (simp; omega) | (simp; done))).trans (by go_simp)
  have c7_3_0 : w7.cell? ⟨w4.heap.size, 0, none⟩ = some (.int .u8 c) := (hb7.cell (p := ⟨w4.heap.size, 0, none⟩) (by first | omega | (simp; omega) | (simp; done))).trans (by go_simp)
  have c7_3_1 : w7.cell? ⟨w4.heap.size, 1, none⟩ = some (.int .i32 x) := (hb7.cell (p := ⟨w4.heap.size, 1, none⟩) (by first | omega | (simp; omega) | (simp; done))).trans (by go_simp)
  have c7_4_0 : w7.cell? ⟨w5.heap.size, 0, none⟩ = some (.int .u8 (wk (m + 1))) := (hb7.cell (p := ⟨w5.heap.size, 0, none⟩) (by first | omega | (simp; omega) | (simp; done))).trans (by go_simp)
  have c7_4_1 : w7.cell? ⟨w5.heap.size, 1, none⟩ = some (.int .i32 (wv (m + 1))) := (hb7.cell (p := ⟨w5.heap.size, 1, none⟩) (by first | omega | (simp; omega) | (simp; done))).trans (by go_simp)
  clear hb7 B6 c6_0_0 c6_0_1 c6_1_0 c6_1_1 c6_2_0 c6_2_1 c6_3_0 c6_3_1 c6_4_0 c6_4_1
  go_wp2_with fail
  refine (wOp_back (m + 1) _ (by omega) (by omega)).mono ?_
  rintro e w8 ⟨rfl, hb8⟩
  have z8 : w5.heap.size < w8.heap.size := by have := hb8.size; first | omega | (simp at this; omega)
  have B8 : Below w.heap.size w w8 := Below.trans (by go_grown) (hb8.mono (by first | omega | (simp; omega) | (simp; done)))
  have z8_0 : w.heap.size < w8.heap.size := by omega
  have z8_1 : w.heap.size + 1 < w8.heap.size := by omega
  have z8_2 : w2.heap.size < w8.heap.size := by omega
  have z8_3 : w4.heap.size < w8.heap.size := by omega
  have c8_0_0 : w8.cell? ⟨w.heap.size, 0, none⟩ = some (.int .u8 k) := (hb8.cell (p := ⟨w.heap.size, 0, none⟩) (by first | omega | (simp; omega) | (simp; done))).trans (by go_simp)
  have c8_0_1 : w8.cell? ⟨w.heap.size, 1, none⟩ = some (.int .i32 v) := (hb8.cell (p := ⟨w.heap.size, 1, none⟩) (by first | omega | (simp; omega) | (simp; done))).trans (by go_simp)
  have c8_1_0 : w8.cell? ⟨w.heap.size + 1, 0, none⟩ = some (.int .u8 c) := (hb8.cell (p := ⟨w.heap.size + 1, 0, none⟩) (by first | omega | (simp; omega) | (simp; done))).trans (by go_simp)
  have c8_1_1 : w8.cell? ⟨w.heap.size + 1, 1, none⟩ = some (.int .i32 x) := (hb8.cell (p := ⟨w.heap.size + 1, 1, none⟩) (by first | omega | (simp; omega) | (simp; done))).trans (by go_simp)
  have c8_2_0 : w8.cell? ⟨w2.heap.size, 0, none⟩ = some (.int .u8 k) := (hb8.cell (p := ⟨w2.heap.size, 0, none⟩) (by first | omega | (simp; omega) | (simp; done))).trans (by go_simp)
  have c8_2_1 : w8.cell? ⟨w2.heap.size, 1, none⟩ = some (.int .i32 v) := (hb8.cell (p := ⟨w2.heap.size, 1, none⟩) (by first | omega | (simp; omega) | (simp; done))).trans (by go_simp)
  have c8_3_0 : w8.cell? ⟨w4.heap.size, 0, none⟩ = some (.int .u8 c) := (hb8.cell (p := ⟨w4.heap.size, 0, none⟩) (by first | omega | (simp; omega) | (simp; done))).trans (by go_simp)
  have c8_3_1 : w8.cell? ⟨w4.heap.size, 1, none⟩ = some (.int .i32 x) := (hb8.cell (p := ⟨w4.heap.size, 1, none⟩) (by first | omega | (simp; omega) | (simp; done))).trans (by go_simp)
  have c8_4_0 : w8.cell? ⟨w5.heap.size, 0, none⟩ = some (.int .u8 (wk (m + 1))) := (hb8.cell (p := ⟨w5.heap.size, 0, none⟩) (by first | omega | (simp; omega) | (simp; done))).trans (by go_simp)
  have c8_4_1 : w8.cell? ⟨w5.heap.size, 1, none⟩ = some (.int .i32 (wv (m + 1))) := (hb8.cell (p := ⟨w5.heap.size, 1, none⟩) (by first | omega | (simp; omega) | (simp; done))).trans (by go_simp)
  clear hb8 B7 c7_0_0 c7_0_1 c7_1_0 c7_1_1 c7_2_0 c7_2_1 c7_3_0 c7_3_1 c7_4_0 c7_4_1
  go_wp2
  go_ret
  exact ⟨by first | rfl | (simp; done) | (simp; omega), by assumption⟩

set_option maxHeartbeats 2000000 in
theorem wordBack_high (k v c x n m : Int) (w : World) (h1 : 0 ≤ k) (h2 : k ≤ 255) (h3 : -2147483648 ≤ v) (h4 : v ≤ 2147483647) (i1 : 0 ≤ c) (i2 : c ≤ 255) (i3 : -2147483648 ≤ x) (i4 : x ≤ 2147483647) (hm : bits .and .i64 n 1099511627775 = m) (m1 : 0 ≤ m) (m2 : m ≤ 1099511627775) (h : 1099511627776 < n) :
    Calls Try.prog 7 #[.agg #[.int .u8 k, .int .i32 v], .agg #[.int .u8 c, .int .i32 x], .int .i64 n] w fun e w' => e = .returned (.bool true) ∧ Below w.heap.size w w' := by
  go_enter Try.func7, Try.ntmps7
  go_wp2_with fail
  refine (wOp_any k v _ h1 h2 h3 h4).mono ?_
  rintro e w1 ⟨rfl, hb1⟩
  have z1 : w.heap.size + 1 < w1.heap.size := by have := hb1.size; first | omega | (simp at this; omega)
  have B1 : Below w.heap.size w w1 := Below.trans (by go_grown) (hb1.mono (by first | omega | (simp; omega) | (simp; done)))
  have z1_0 : w.heap.size < w1.heap.size := by omega
  have c1_0_0 : w1.cell? ⟨w.heap.size, 0, none⟩ = some (.int .u8 k) := (hb1.cell (p := ⟨w.heap.size, 0, none⟩) (by first | omega | (simp; omega) | (simp; done))).trans (by go_simp)
  have c1_0_1 : w1.cell? ⟨w.heap.size, 1, none⟩ = some (.int .i32 v) := (hb1.cell (p := ⟨w.heap.size, 1, none⟩) (by first | omega | (simp; omega) | (simp; done))).trans (by go_simp)
  have c1_1_0 : w1.cell? ⟨w.heap.size + 1, 0, none⟩ = some (.int .u8 c) := (hb1.cell (p := ⟨w.heap.size + 1, 0, none⟩) (by first | omega | (simp; omega) | (simp; done))).trans (by go_simp)
  have c1_1_1 : w1.cell? ⟨w.heap.size + 1, 1, none⟩ = some (.int .i32 x) := (hb1.cell (p := ⟨w.heap.size + 1, 1, none⟩) (by first | omega | (simp; omega) | (simp; done))).trans (by go_simp)
  clear hb1
  go_wp2_with fail
  refine (wOfOp_word k v _ h1 h2 h3 h4).mono ?_
  rintro e w2 ⟨rfl, hb2⟩
  have z2 : w.heap.size + 1 < w2.heap.size := by have := hb2.size; first | omega | (simp at this; omega)
  have B2 : Below w.heap.size w w2 := Below.trans (by go_grown) (hb2.mono (by first | omega | (simp; omega) | (simp; done)))
  have z2_0 : w.heap.size < w2.heap.size := by omega
  have c2_0_0 : w2.cell? ⟨w.heap.size, 0, none⟩ = some (.int .u8 k) := (hb2.cell (p := ⟨w.heap.size, 0, none⟩) (by first | omega | (simp; omega) | (simp; done))).trans (by go_simp)
  have c2_0_1 : w2.cell? ⟨w.heap.size, 1, none⟩ = some (.int .i32 v) := (hb2.cell (p := ⟨w.heap.size, 1, none⟩) (by first | omega | (simp; omega) | (simp; done))).trans (by go_simp)
  have c2_1_0 : w2.cell? ⟨w.heap.size + 1, 0, none⟩ = some (.int .u8 c) := (hb2.cell (p := ⟨w.heap.size + 1, 0, none⟩) (by first | omega | (simp; omega) | (simp; done))).trans (by go_simp)
  have c2_1_1 : w2.cell? ⟨w.heap.size + 1, 1, none⟩ = some (.int .i32 x) := (hb2.cell (p := ⟨w.heap.size + 1, 1, none⟩) (by first | omega | (simp; omega) | (simp; done))).trans (by go_simp)
  clear hb2 B1 c1_0_0 c1_0_1 c1_1_0 c1_1_1
  go_wp2_with fail
  refine (wRes_any c x _ i1 i2 i3 i4).mono ?_
  rintro e w3 ⟨rfl, hb3⟩
  have z3 : w2.heap.size < w3.heap.size := by have := hb3.size; first | omega | (simp at this; omega)
  have B3 : Below w.heap.size w w3 := Below.trans (by go_grown) (hb3.mono (by first | omega | (simp; omega) | (simp; done)))
  have z3_0 : w.heap.size < w3.heap.size := by omega
  have z3_1 : w.heap.size + 1 < w3.heap.size := by omega
  have c3_0_0 : w3.cell? ⟨w.heap.size, 0, none⟩ = some (.int .u8 k) := (hb3.cell (p := ⟨w.heap.size, 0, none⟩) (by first | omega | (simp; omega) | (simp; done))).trans (by go_simp)
  have c3_0_1 : w3.cell? ⟨w.heap.size, 1, none⟩ = some (.int .i32 v) := (hb3.cell (p := ⟨w.heap.size, 1, none⟩) (by first | omega | (simp; omega) | (simp; done))).trans (by go_simp)
  have c3_1_0 : w3.cell? ⟨w.heap.size + 1, 0, none⟩ = some (.int .u8 c) := (hb3.cell (p := ⟨w.heap.size + 1, 0, none⟩) (by first | omega | (simp; omega) | (simp; done))).trans (by go_simp)
  have c3_1_1 : w3.cell? ⟨w.heap.size + 1, 1, none⟩ = some (.int .i32 x) := (hb3.cell (p := ⟨w.heap.size + 1, 1, none⟩) (by first | omega | (simp; omega) | (simp; done))).trans (by go_simp)
  have c3_2_0 : w3.cell? ⟨w2.heap.size, 0, none⟩ = some (.int .u8 k) := (hb3.cell (p := ⟨w2.heap.size, 0, none⟩) (by first | omega | (simp; omega) | (simp; done))).trans (by go_simp)
  have c3_2_1 : w3.cell? ⟨w2.heap.size, 1, none⟩ = some (.int .i32 v) := (hb3.cell (p := ⟨w2.heap.size, 1, none⟩) (by first | omega | (simp; omega) | (simp; done))).trans (by go_simp)
  clear hb3 B2 c2_0_0 c2_0_1 c2_1_0 c2_1_1
  go_wp2_with fail
  refine (wOfRes_word c x _ i1 i2 i3 i4).mono ?_
  rintro e w4 ⟨rfl, hb4⟩
  have z4 : w2.heap.size < w4.heap.size := by have := hb4.size; first | omega | (simp at this; omega)
  have B4 : Below w.heap.size w w4 := Below.trans (by go_grown) (hb4.mono (by first | omega | (simp; omega) | (simp; done)))
  have z4_0 : w.heap.size < w4.heap.size := by omega
  have z4_1 : w.heap.size + 1 < w4.heap.size := by omega
  have c4_0_0 : w4.cell? ⟨w.heap.size, 0, none⟩ = some (.int .u8 k) := (hb4.cell (p := ⟨w.heap.size, 0, none⟩) (by first | omega | (simp; omega) | (simp; done))).trans (by go_simp)
  have c4_0_1 : w4.cell? ⟨w.heap.size, 1, none⟩ = some (.int .i32 v) := (hb4.cell (p := ⟨w.heap.size, 1, none⟩) (by first | omega | (simp; omega) | (simp; done))).trans (by go_simp)
  have c4_1_0 : w4.cell? ⟨w.heap.size + 1, 0, none⟩ = some (.int .u8 c) := (hb4.cell (p := ⟨w.heap.size + 1, 0, none⟩) (by first | omega | (simp; omega) | (simp; done))).trans (by go_simp)
  have c4_1_1 : w4.cell? ⟨w.heap.size + 1, 1, none⟩ = some (.int .i32 x) := (hb4.cell (p := ⟨w.heap.size + 1, 1, none⟩) (by first | omega | (simp; omega) | (simp; done))).trans (by go_simp)
  have c4_2_0 : w4.cell? ⟨w2.heap.size, 0, none⟩ = some (.int .u8 k) := (hb4.cell (p := ⟨w2.heap.size, 0, none⟩) (by first | omega | (simp; omega) | (simp; done))).trans (by go_simp)
  have c4_2_1 : w4.cell? ⟨w2.heap.size, 1, none⟩ = some (.int .i32 v) := (hb4.cell (p := ⟨w2.heap.size, 1, none⟩) (by first | omega | (simp; omega) | (simp; done))).trans (by go_simp)
  clear hb4 B3 c3_0_0 c3_0_1 c3_1_0 c3_1_1 c3_2_0 c3_2_1
  go_wp2_with fail
  refine (wOfOp_is _ true _ (wis_yes (by omega) (by omega))).mono ?_
  rintro e w5 ⟨rfl, hb5⟩
  have z5 : w4.heap.size < w5.heap.size := by have := hb5.size; first | omega | (simp at this; omega)
  have B5 : Below w.heap.size w w5 := Below.trans (by go_grown) (hb5.mono (by first | omega | (simp; omega) | (simp; done)))
  have z5_0 : w.heap.size < w5.heap.size := by omega
  have z5_1 : w.heap.size + 1 < w5.heap.size := by omega
  have z5_2 : w2.heap.size < w5.heap.size := by omega
  have c5_0_0 : w5.cell? ⟨w.heap.size, 0, none⟩ = some (.int .u8 k) := (hb5.cell (p := ⟨w.heap.size, 0, none⟩) (by first | omega | (simp; omega) | (simp; done))).trans (by go_simp)
  have c5_0_1 : w5.cell? ⟨w.heap.size, 1, none⟩ = some (.int .i32 v) := (hb5.cell (p := ⟨w.heap.size, 1, none⟩) (by first | omega | (simp; omega) | (simp; done))).trans (by go_simp)
  have c5_1_0 : w5.cell? ⟨w.heap.size + 1, 0, none⟩ = some (.int .u8 c) := (hb5.cell (p := ⟨w.heap.size + 1, 0, none⟩) (by first | omega | (simp; omega) | (simp; done))).trans (by go_simp)
  have c5_1_1 : w5.cell? ⟨w.heap.size + 1, 1, none⟩ = some (.int .i32 x) := (hb5.cell (p := ⟨w.heap.size + 1, 1, none⟩) (by first | omega | (simp; omega) | (simp; done))).trans (by go_simp)
  have c5_2_0 : w5.cell? ⟨w2.heap.size, 0, none⟩ = some (.int .u8 k) := (hb5.cell (p := ⟨w2.heap.size, 0, none⟩) (by first | omega | (simp; omega) | (simp; done))).trans (by go_simp)
  have c5_2_1 : w5.cell? ⟨w2.heap.size, 1, none⟩ = some (.int .i32 v) := (hb5.cell (p := ⟨w2.heap.size, 1, none⟩) (by first | omega | (simp; omega) | (simp; done))).trans (by go_simp)
  have c5_3_0 : w5.cell? ⟨w4.heap.size, 0, none⟩ = some (.int .u8 c) := (hb5.cell (p := ⟨w4.heap.size, 0, none⟩) (by first | omega | (simp; omega) | (simp; done))).trans (by go_simp)
  have c5_3_1 : w5.cell? ⟨w4.heap.size, 1, none⟩ = some (.int .i32 x) := (hb5.cell (p := ⟨w4.heap.size, 1, none⟩) (by first | omega | (simp; omega) | (simp; done))).trans (by go_simp)
  clear hb5 B4 c4_0_0 c4_0_1 c4_1_0 c4_1_1 c4_2_0 c4_2_1
  go_wp2_with fail
  refine (wOfOp_is _ false _ (wis_no (.inr h))).mono ?_
  rintro e w6 ⟨rfl, hb6⟩
  have z6 : w5.heap.size < w6.heap.size := by have := hb6.size; first | omega | (simp at this; omega)
  have B6 : Below w.heap.size w w6 := Below.trans (by go_grown) (hb6.mono (by first | omega | (simp; omega) | (simp; done)))
  have z6_0 : w.heap.size < w6.heap.size := by omega
  have z6_1 : w.heap.size + 1 < w6.heap.size := by omega
  have z6_2 : w2.heap.size < w6.heap.size := by omega
  have z6_3 : w4.heap.size < w6.heap.size := by omega
  have c6_0_0 : w6.cell? ⟨w.heap.size, 0, none⟩ = some (.int .u8 k) := (hb6.cell (p := ⟨w.heap.size, 0, none⟩) (by first | omega | (simp; omega) | (simp; done))).trans (by go_simp)
  have c6_0_1 : w6.cell? ⟨w.heap.size, 1, none⟩ = some (.int .i32 v) := (hb6.cell (p := ⟨w.heap.size, 1, none⟩) (by first | omega | (simp; omega) | (simp; done))).trans (by go_simp)
  have c6_1_0 : w6.cell? ⟨w.heap.size + 1, 0, none⟩ = some (.int .u8 c) := (hb6.cell (p := ⟨w.heap.size + 1, 0, none⟩) (by first | omega | (simp; omega) | (simp; done))).trans (by go_simp)
  have c6_1_1 : w6.cell? ⟨w.heap.size + 1, 1, none⟩ = some (.int .i32 x) := (hb6.cell (p := ⟨w.heap.size + 1, 1, none⟩) (by first | omega | (simp; omega) | (simp; done))).trans (by go_simp)
  have c6_2_0 : w6.cell? ⟨w2.heap.size, 0, none⟩ = some (.int .u8 k) := (hb6.cell (p := ⟨w2.heap.size, 0, none⟩) (by first | omega | (simp; omega) | (simp; done))).trans (by go_simp)
  have c6_2_1 : w6.cell? ⟨w2.heap.size, 1, none⟩ = some (.int .i32 v) := (hb6.cell (p := ⟨w2.heap.size, 1, none⟩) (by first | omega | (simp; omega) | (simp; done))).trans (by go_simp)
  have c6_3_0 : w6.cell? ⟨w4.heap.size, 0, none⟩ = some (.int .u8 c) := (hb6.cell (p := ⟨w4.heap.size, 0, none⟩) (by first | omega | (simp; omega) | (simp; done))).trans (by go_simp)
  have c6_3_1 : w6.cell? ⟨w4.heap.size, 1, none⟩ = some (.int .i32 x) := (hb6.cell (p := ⟨w4.heap.size, 1, none⟩) (by first | omega | (simp; omega) | (simp; done))).trans (by go_simp)
  have c6_4_0 : w6.cell? ⟨w5.heap.size, 0, none⟩ = some (.int .u8 (wk (m + 1))) := (hb6.cell (p := ⟨w5.heap.size, 0, none⟩) (by first | omega | (simp; omega) | (simp; done))).trans (by go_simp)
  have c6_4_1 : w6.cell? ⟨w5.heap.size, 1, none⟩ = some (.int .i32 (wv (m + 1))) := (hb6.cell (p := ⟨w5.heap.size, 1, none⟩) (by first | omega | (simp; omega) | (simp; done))).trans (by go_simp)
  clear hb6 B5 c5_0_0 c5_0_1 c5_1_0 c5_1_1 c5_2_0 c5_2_1 c5_3_0 c5_3_1
  go_wp2_with fail
  refine (known1_any _).mono ?_
  rintro e w7 ⟨rfl, hb7⟩
  have z7 : w5.heap.size < w7.heap.size := by have := hb7.size; first | omega | (simp at this; omega)
  have B7 : Below w.heap.size w w7 := Below.trans (by go_grown) (hb7.mono (by first | omega | (simp; omega) | (simp; done)))
  have z7_0 : w.heap.size < w7.heap.size := by omega
  have z7_1 : w.heap.size + 1 < w7.heap.size := by omega
  have z7_2 : w2.heap.size < w7.heap.size := by omega
  have z7_3 : w4.heap.size < w7.heap.size := by omega
  have c7_0_0 : w7.cell? ⟨w.heap.size, 0, none⟩ = some (.int .u8 k) := (hb7.cell (p := ⟨w.heap.size, 0, none⟩) (by first | omega | (simp; omega) | (simp; done))).trans (by go_simp)
  have c7_0_1 : w7.cell? ⟨w.heap.size, 1, none⟩ = some (.int .i32 v) := (hb7.cell (p := ⟨w.heap.size, 1, none⟩) (by first | omega | (simp; omega) | (simp; done))).trans (by go_simp)
  have c7_1_0 : w7.cell? ⟨w.heap.size + 1, 0, none⟩ = some (.int .u8 c) := (hb7.cell (p := ⟨w.heap.size + 1, 0, none⟩) (by first | omega | (simp; omega) | (simp; done))).trans (by go_simp)
  have c7_1_1 : w7.cell? ⟨w.heap.size + 1, 1, none⟩ = some (.int .i32 x) := (hb7.cell (p := ⟨w.heap.size + 1, 1, none⟩) (by first | omega | (simp; omega) | (simp; done))).trans (by go_simp)
  have c7_2_0 : w7.cell? ⟨w2.heap.size, 0, none⟩ = some (.int .u8 k) := (hb7.cell (p := ⟨w2.heap.size, 0, none⟩) (by first | omega | (simp; omega) | (simp; done))).trans (by go_simp)
  have c7_2_1 : w7.cell? ⟨w2.heap.size, 1, none⟩ = some (.int .i32 v) := (hb7.cell (p := ⟨w2.heap.size, 1, none⟩) (by first | omega | (simp; omega) | (simp; done))).trans (by go_simp)
  have c7_3_0 : w7.cell? ⟨w4.heap.size, 0, none⟩ = some (.int .u8 c) := (hb7.cell (p := ⟨w4.heap.size, 0, none⟩) (by first | omega | (simp; omega) | (simp; done))).trans (by go_simp)
  have c7_3_1 : w7.cell? ⟨w4.heap.size, 1, none⟩ = some (.int .i32 x) := (hb7.cell (p := ⟨w4.heap.size, 1, none⟩) (by first | omega | (simp; omega) | (simp; done))).trans (by go_simp)
  have c7_4_0 : w7.cell? ⟨w5.heap.size, 0, none⟩ = some (.int .u8 (wk (m + 1))) := (hb7.cell (p := ⟨w5.heap.size, 0, none⟩) (by first | omega | (simp; omega) | (simp; done))).trans (by go_simp)
  have c7_4_1 : w7.cell? ⟨w5.heap.size, 1, none⟩ = some (.int .i32 (wv (m + 1))) := (hb7.cell (p := ⟨w5.heap.size, 1, none⟩) (by first | omega | (simp; omega) | (simp; done))).trans (by go_simp)
  clear hb7 B6 c6_0_0 c6_0_1 c6_1_0 c6_1_1 c6_2_0 c6_2_1 c6_3_0 c6_3_1 c6_4_0 c6_4_1
  go_wp2_with fail
  refine (wOp_back (m + 1) _ (by omega) (by omega)).mono ?_
  rintro e w8 ⟨rfl, hb8⟩
  have z8 : w5.heap.size < w8.heap.size := by have := hb8.size; first | omega | (simp at this; omega)
  have B8 : Below w.heap.size w w8 := Below.trans (by go_grown) (hb8.mono (by first | omega | (simp; omega) | (simp; done)))
  have z8_0 : w.heap.size < w8.heap.size := by omega
  have z8_1 : w.heap.size + 1 < w8.heap.size := by omega
  have z8_2 : w2.heap.size < w8.heap.size := by omega
  have z8_3 : w4.heap.size < w8.heap.size := by omega
  have c8_0_0 : w8.cell? ⟨w.heap.size, 0, none⟩ = some (.int .u8 k) := (hb8.cell (p := ⟨w.heap.size, 0, none⟩) (by first | omega | (simp; omega) | (simp; done))).trans (by go_simp)
  have c8_0_1 : w8.cell? ⟨w.heap.size, 1, none⟩ = some (.int .i32 v) := (hb8.cell (p := ⟨w.heap.size, 1, none⟩) (by first | omega | (simp; omega) | (simp; done))).trans (by go_simp)
  have c8_1_0 : w8.cell? ⟨w.heap.size + 1, 0, none⟩ = some (.int .u8 c) := (hb8.cell (p := ⟨w.heap.size + 1, 0, none⟩) (by first | omega | (simp; omega) | (simp; done))).trans (by go_simp)
  have c8_1_1 : w8.cell? ⟨w.heap.size + 1, 1, none⟩ = some (.int .i32 x) := (hb8.cell (p := ⟨w.heap.size + 1, 1, none⟩) (by first | omega | (simp; omega) | (simp; done))).trans (by go_simp)
  have c8_2_0 : w8.cell? ⟨w2.heap.size, 0, none⟩ = some (.int .u8 k) := (hb8.cell (p := ⟨w2.heap.size, 0, none⟩) (by first | omega | (simp; omega) | (simp; done))).trans (by go_simp)
  have c8_2_1 : w8.cell? ⟨w2.heap.size, 1, none⟩ = some (.int .i32 v) := (hb8.cell (p := ⟨w2.heap.size, 1, none⟩) (by first | omega | (simp; omega) | (simp; done))).trans (by go_simp)
  have c8_3_0 : w8.cell? ⟨w4.heap.size, 0, none⟩ = some (.int .u8 c) := (hb8.cell (p := ⟨w4.heap.size, 0, none⟩) (by first | omega | (simp; omega) | (simp; done))).trans (by go_simp)
  have c8_3_1 : w8.cell? ⟨w4.heap.size, 1, none⟩ = some (.int .i32 x) := (hb8.cell (p := ⟨w4.heap.size, 1, none⟩) (by first | omega | (simp; omega) | (simp; done))).trans (by go_simp)
  have c8_4_0 : w8.cell? ⟨w5.heap.size, 0, none⟩ = some (.int .u8 (wk (m + 1))) := (hb8.cell (p := ⟨w5.heap.size, 0, none⟩) (by first | omega | (simp; omega) | (simp; done))).trans (by go_simp)
  have c8_4_1 : w8.cell? ⟨w5.heap.size, 1, none⟩ = some (.int .i32 (wv (m + 1))) := (hb8.cell (p := ⟨w5.heap.size, 1, none⟩) (by first | omega | (simp; omega) | (simp; done))).trans (by go_simp)
  clear hb8 B7 c7_0_0 c7_0_1 c7_1_0 c7_1_1 c7_2_0 c7_2_1 c7_3_0 c7_3_1 c7_4_0 c7_4_1
  go_wp2
  go_ret
  exact ⟨by first | rfl | (simp; done) | (simp; omega), by assumption⟩

theorem wordBack_any (k v c x n : Int) (w : World) (h1 : 0 ≤ k) (h2 : k ≤ 255) (h3 : -2147483648 ≤ v) (h4 : v ≤ 2147483647) (i1 : 0 ≤ c) (i2 : c ≤ 255) (i3 : -2147483648 ≤ x) (i4 : x ≤ 2147483647) :
    Calls Try.prog 7 #[.agg #[.int .u8 k, .int .i32 v], .agg #[.int .u8 c, .int .i32 x], .int .i64 n] w fun e w' => e = .returned (.bool true) ∧ Below w.heap.size w w' := by
  have hm := and_rng n 1099511627775 (by omega)
  by_cases g1 : n < 1
  · exact wordBack_low k v c x n _ w h1 h2 h3 h4 i1 i2 i3 i4 rfl hm.1 hm.2 g1
  · by_cases g2 : n ≤ 1099511627776
    · exact wordBack_in k v c x n _ w h1 h2 h3 h4 i1 i2 i3 i4 rfl hm.1 hm.2 (by omega) g2
    · exact wordBack_high k v c x n _ w h1 h2 h3 h4 i1 i2 i3 i4 rfl hm.1 hm.2 (by omega)

theorem Try.resTypes7 : Try.f7.resultTypes = #[4] := by kernel_rfl
theorem wordBack_rdop : Try.prog.readableRec 23 = true ∧ 23 < Try.prog.types.size := ⟨by kernel_rfl, of_decide_eq_true (by kernel_rfl)⟩
theorem wordBack_rdres : Try.prog.readableRec 29 = true ∧ 29 < Try.prog.types.size := ⟨by kernel_rfl, of_decide_eq_true (by kernel_rfl)⟩
theorem wordBack_rdi64 : Try.prog.readableRec 2 = true ∧ 2 < Try.prog.types.size := ⟨by kernel_rfl, of_decide_eq_true (by kernel_rfl)⟩
set_option maxRecDepth 100000 in
theorem wordBack_lifted (os : Os) (started : os.Started) (H : Type) (enc : TypeId × Value → H) :
    ReturnsInHanded {} Try.checked os 7 .any (Rows.wordBackSpec.pre6 enc Try.prog Try.f7 Rows.wordBackRow.domain false) (Rows.wordBackSpec.post enc Try.prog Try.f7 false true false false) := by
  refine law_lifted (C := Try.checked) (T := 4) Try.own started (by kernel_rfl) Try.func7
    (ChangeSpec.witness6 (enc := enc) (C := Try.checked) false ⟨#[], #[.agg #[.int .u8 0, .int .i32 0], .agg #[.int .u8 0, .int .i32 0], .int .i64 0], []⟩ 8 (by kernel_rfl) (by kernel_rfl) (by kernel_rfl) (by kernel_rfl))
    Try.laidOut (fun t ht => ?_) Try.resTypes7 Try.underlying4 rfl (fun ds hd => ?_) ?_
  · rw [Try.params7] at ht
    exact (show ∀ t ∈ [23, 29, 2], Try.prog.readableRec t = true ∧ t < Try.prog.types.size from List.forall_mem_cons.2 ⟨wordBack_rdop, List.forall_mem_cons.2 ⟨wordBack_rdres, List.forall_mem_cons.2 ⟨wordBack_rdi64, fun _ h => by cases h⟩⟩⟩) t ht
  · rw [Try.params7] at hd
    match ds, hd with
    | [e0, e1, e2], _ => rfl
  · intro W base args ds p hval0 hA0
    have hval : ∀ (j : Nat) t v, Try.f7.params[j]? = some t → args[j]? = some v → Value.okWide Try.prog W .any base t v := hval0
    have hA : DataW.TrodAll enc Try.prog W 0 (fun _ => true) true Try.f7.params.toList args.toList ds p := hA0
    rw [Try.params7] at hA hval
    obtain ⟨v0, vs0, d0, ds0, p0, q0, hargs, rfl, rfl, h0, r0⟩ := trodAll_cons hA
    obtain ⟨v1, vs1, d1, ds1, p1, q1, rfl, rfl, rfl, h1, r1⟩ := trodAll_cons r0
    obtain ⟨v2, vs2, d2, ds2, p2, q2, rfl, rfl, rfl, h2, r2⟩ := trodAll_cons r1
    obtain ⟨rfl, rfl, rfl⟩ := trodAll_nil r2
    obtain rfl : args = #[v0, v1, v2] := by cases args; simp_all
    obtain ⟨ok, ov, rfl, o1, o2, o3, o4⟩ := open_op (hval 0 23 v0 rfl rfl) h0
    obtain ⟨sk, sv, rfl, s1, s2, s3, s4⟩ := open_res (hval 1 29 v1 rfl rfl) h1
    obtain ⟨n, rfl, _, _, wn⟩ := open_int Try.underlying2 (hval 2 2 v2 rfl rfl) h2
    have bn := bounds_i64 wn
    exact wordBack_any ok ov sk sv n W o1 o2 o3 o4 s1 s2 s3 s4

/-- WordBack: for every input the call returns true. -/
theorem wordBack_said : Rows.WordBackSaid :=
  OpenClaim.holds_of_wide 7 Try.f7 rfl rfl rfl rfl rfl rfl rfl ⟨rfl, rfl, rfl, rfl, rfl⟩ rfl rfl rfl rfl rfl (by as_aux_lemma => kernel_rfl) Try.func7 (by as_aux_lemma => kernel_rfl)
    (of_decide_eq_true (by as_aux_lemma => kernel_rfl)) (by unfold Func.isWrapper; first | (rw [if_pos (by decide +kernel)]; kernel_rfl) | (rw [if_neg (by decide +kernel)]; exact ⟨rfl, rfl⟩))
    (fun os started H enc _ => wordBack_lifted os started H enc)
#print axioms wordBack_said

end Go.Proofs.Ytomiibhdafcmhaa
