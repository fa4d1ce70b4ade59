/- CellsLast: a cell is what was written last; no other one is touched; a swap writes just if the cell is what is asked: the law returns true for every input. -/
import Derived.Test.YtepkpfnghgocgaaCellsPlain
import Derived.Test.YtepkpfnghgocgaaFrame
namespace Go.Proofs.Ytepkpfnghgocgaa
set_option linter.unusedSimpArgs false
set_option linter.unusedVariables false
open Go.RowKit
open Go.ChangeShapes Go.WideShapes Go.ChangeAt

set_option maxRecDepth 100000 in
set_option maxHeartbeats 2000000 in
theorem cellsLast_a (n a b v u o K X Y : Int) (w : World) (n1 : 0 ≤ n) (n2 : n ≤ 255) (a1 : 0 ≤ a) (a2 : a ≤ 255) (b1 : 0 ≤ b) (b2 : b ≤ 255) (hK : 1 + n % 30 = K) (hX : a % K = X) (hY : b % K = Y) (k1 : 1 ≤ K) (k2 : K ≤ 30) (x1 : 0 ≤ X) (x2 : X < K) (y1 : 0 ≤ Y) (y2 : Y < K) (hXY : X = Y) (ho : v = o) :
    Calls Try.prog 4 #[.int .u8 n, .int .u8 a, .int .u8 b, .int .i64 v, .int .i64 u, .int .i64 o] w fun e w' => e = .returned (.bool true) ∧ Below w.heap.size w w' := by
  subst hXY
  subst ho
  go_enter Try.func4, Try.ntmps4
  go_wp2_with fail
  refine (New_ms K w _ (Below.refl _ _)).mono ?_
  rintro e w1 ⟨rfl, m1, _⟩
  go_wp2_with fail
  refine (Alloc_new m1 k1 (by omega)).mono ?_
  rintro e w2 ⟨g, xs, rfl, m2, hl, h0, _, _⟩
  have Hl := Lib.hid hl
  have H0 := Lib.hid h0
  have hlen : K = (xs.length : Int) := by omega
  have Hlen := Lib.hid hlen
  clear m1 hl h0 hlen
  go_wp2_with fail
  refine (Store_ms m2 X v x1 (by have := Hlen.out; omega) (by omega)).mono ?_
  rintro e w3 ⟨rfl, m3, _⟩
  have g1 : (xs.set X.toNat v).getD X.toNat 0 = v := by exact getD_set_self _ _ _ (by have := Hlen.out; omega)
  have G1 := Lib.hid g1
  clear m2 g1
  go_wp2_with fail
  refine (Swap_ms_hit m3 X v u x1 (by have := Hlen.out; simp; omega) (G1.out) (by omega)).mono ?_
  rintro e w4 ⟨rfl, m4, _⟩
  clear m3
  have g2 : ((xs.set X.toNat v).set X.toNat u).getD X.toNat 0 = u := getD_set_self _ _ _ (by have := Hlen.out; simp; omega)
  have g3 : ((xs.set X.toNat v).set X.toNat u).getD X.toNat 0 = u := getD_set_self _ _ _ (by have := Hlen.out; simp; omega)
  have G2 := Lib.hid (And.intro g2 g3)
  clear g2 g3
  go_wp2_with fail
  have c4 := Load_ms m4 X x1 (by have := Hlen.out; simp; omega) (by omega)
  rw [G2.out.1] at c4
  refine c4.mono ?_
  clear c4
  rintro e w5 ⟨rfl, m5, _⟩
  clear m4
  go_wp2_with fail
  have c5 := Load_ms m5 X x1 (by have := Hlen.out; simp; omega) (by omega)
  rw [G2.out.2] at c5
  refine c5.mono ?_
  clear c5
  rintro e w6 ⟨rfl, m6, _⟩
  clear m5
  go_wp2_with fail
  refine (known2_any _).mono ?_
  rintro e w7 ⟨rfl, hb7⟩
  have m7 := m6.below hb7
  clear m6 hb7
  go_wp2_with fail
  refine (Cells_ms m7).mono ?_
  rintro e w8 ⟨ao, cap, rfl, m8, _, _, _⟩
  have hlast : ((((xs.set X.toNat v).set X.toNat u).length : Nat) : Int) = K := by rw [Hlen.out]; simp
  clear m7
  go_wp2
  go_ret
  exact ⟨by first | rfl | (simp; done) | (simp; omega), m8.B⟩

set_option maxRecDepth 100000 in
set_option maxHeartbeats 2000000 in
theorem cellsLast_b (n a b v u o K X Y : Int) (w : World) (n1 : 0 ≤ n) (n2 : n ≤ 255) (a1 : 0 ≤ a) (a2 : a ≤ 255) (b1 : 0 ≤ b) (b2 : b ≤ 255) (hK : 1 + n % 30 = K) (hX : a % K = X) (hY : b % K = Y) (k1 : 1 ≤ K) (k2 : K ≤ 30) (x1 : 0 ≤ X) (x2 : X < K) (y1 : 0 ≤ Y) (y2 : Y < K) (hXY : X = Y) (ho : ¬ v = o) :
    Calls Try.prog 4 #[.int .u8 n, .int .u8 a, .int .u8 b, .int .i64 v, .int .i64 u, .int .i64 o] w fun e w' => e = .returned (.bool true) ∧ Below w.heap.size w w' := by
  subst hXY
  have ho2 : (v == o) = false := by rw [beq_eq_false_iff_ne]; exact ho
  have Ho := Lib.hid ho
  clear ho
  go_enter Try.func4, Try.ntmps4
  go_wp2_with fail
  refine (New_ms K w _ (Below.refl _ _)).mono ?_
  rintro e w1 ⟨rfl, m1, _⟩
  go_wp2_with fail
  refine (Alloc_new m1 k1 (by omega)).mono ?_
  rintro e w2 ⟨g, xs, rfl, m2, hl, h0, _, _⟩
  have Hl := Lib.hid hl
  have H0 := Lib.hid h0
  have hlen : K = (xs.length : Int) := by omega
  have Hlen := Lib.hid hlen
  clear m1 hl h0 hlen
  go_wp2_with fail
  refine (Store_ms m2 X v x1 (by have := Hlen.out; omega) (by omega)).mono ?_
  rintro e w3 ⟨rfl, m3, _⟩
  have g1 : (xs.set X.toNat v).getD X.toNat 0 = v := by exact getD_set_self _ _ _ (by have := Hlen.out; omega)
  have G1 := Lib.hid g1
  clear m2 g1
  go_wp2_with fail
  refine (Swap_ms_miss m3 X o u x1 (by have := Hlen.out; simp; omega) (by rw [G1.out]; exact Ho.out) (by omega)).mono ?_
  rintro e w4 ⟨rfl, m4, _⟩
  clear m3
  have g2 : (xs.set X.toNat v).getD X.toNat 0 = v := G1.out
  have g3 : (xs.set X.toNat v).getD X.toNat 0 = v := G1.out
  have G2 := Lib.hid (And.intro g2 g3)
  clear g2 g3
  go_wp2_with fail
  have c4 := Load_ms m4 X x1 (by have := Hlen.out; simp; omega) (by omega)
  rw [G2.out.1] at c4
  refine c4.mono ?_
  clear c4
  rintro e w5 ⟨rfl, m5, _⟩
  clear m4
  go_wp2_with fail
  have c5 := Load_ms m5 X x1 (by have := Hlen.out; simp; omega) (by omega)
  rw [G2.out.2] at c5
  refine c5.mono ?_
  clear c5
  rintro e w6 ⟨rfl, m6, _⟩
  clear m5
  go_wp2_with fail
  refine (known2_any _).mono ?_
  rintro e w7 ⟨rfl, hb7⟩
  have m7 := m6.below hb7
  clear m6 hb7
  go_wp2_with fail
  refine (Cells_ms m7).mono ?_
  rintro e w8 ⟨ao, cap, rfl, m8, _, _, _⟩
  have hlast : (((xs.set X.toNat v).length : Nat) : Int) = K := by rw [Hlen.out]; simp
  clear m7
  go_wp2
  go_ret
  exact ⟨by first | rfl | (simp; done) | (simp; omega), m8.B⟩

set_option maxRecDepth 100000 in
set_option maxHeartbeats 2000000 in
theorem cellsLast_c (n a b v u o K X Y : Int) (w : World) (n1 : 0 ≤ n) (n2 : n ≤ 255) (a1 : 0 ≤ a) (a2 : a ≤ 255) (b1 : 0 ≤ b) (b2 : b ≤ 255) (hK : 1 + n % 30 = K) (hX : a % K = X) (hY : b % K = Y) (k1 : 1 ≤ K) (k2 : K ≤ 30) (x1 : 0 ≤ X) (x2 : X < K) (y1 : 0 ≤ Y) (y2 : Y < K) (hXY : ¬ X = Y) (ho : 0 = o) :
    Calls Try.prog 4 #[.int .u8 n, .int .u8 a, .int .u8 b, .int .i64 v, .int .i64 u, .int .i64 o] w fun e w' => e = .returned (.bool true) ∧ Below w.heap.size w w' := by
  subst ho
  have hXY2 : (X == Y) = false := by rw [beq_eq_false_iff_ne]; exact hXY
  have Hxy := Lib.hid hXY
  clear hXY
  go_enter Try.func4, Try.ntmps4
  go_wp2_with fail
  refine (New_ms K w _ (Below.refl _ _)).mono ?_
  rintro e w1 ⟨rfl, m1, _⟩
  go_wp2_with fail
  refine (Alloc_new m1 k1 (by omega)).mono ?_
  rintro e w2 ⟨g, xs, rfl, m2, hl, h0, _, _⟩
  have Hl := Lib.hid hl
  have H0 := Lib.hid h0
  have hlen : K = (xs.length : Int) := by omega
  have Hlen := Lib.hid hlen
  clear m1 hl h0 hlen
  go_wp2_with fail
  refine (Store_ms m2 X v x1 (by have := Hlen.out; omega) (by omega)).mono ?_
  rintro e w3 ⟨rfl, m3, _⟩
  have g1 : (xs.set X.toNat v).getD Y.toNat 0 = 0 := by rw [getD_set_ne _ _ _ _ (by have := Hxy.out; omega)]; exact H0.out _
  have G1 := Lib.hid g1
  clear m2 g1
  go_wp2_with fail
  refine (Swap_ms_hit m3 Y 0 u y1 (by have := Hlen.out; simp; omega) (G1.out) (by omega)).mono ?_
  rintro e w4 ⟨rfl, m4, _⟩
  clear m3
  have g2 : ((xs.set X.toNat v).set Y.toNat u).getD Y.toNat 0 = u := getD_set_self _ _ _ (by have := Hlen.out; simp; omega)
  have g3 : ((xs.set X.toNat v).set Y.toNat u).getD X.toNat 0 = v := (getD_set_ne _ _ _ _ (by have := Hxy.out; omega)).trans (getD_set_self _ _ _ (by have := Hlen.out; omega))
  have G2 := Lib.hid (And.intro g2 g3)
  clear g2 g3
  go_wp2_with fail
  have c4 := Load_ms m4 Y y1 (by have := Hlen.out; simp; omega) (by omega)
  rw [G2.out.1] at c4
  refine c4.mono ?_
  clear c4
  rintro e w5 ⟨rfl, m5, _⟩
  clear m4
  go_wp2_with fail
  have c5 := Load_ms m5 X x1 (by have := Hlen.out; simp; omega) (by omega)
  rw [G2.out.2] at c5
  refine c5.mono ?_
  clear c5
  rintro e w6 ⟨rfl, m6, _⟩
  clear m5
  go_wp2_with fail
  refine (known2_any _).mono ?_
  rintro e w7 ⟨rfl, hb7⟩
  have m7 := m6.below hb7
  clear m6 hb7
  go_wp2_with fail
  refine (Cells_ms m7).mono ?_
  rintro e w8 ⟨ao, cap, rfl, m8, _, _, _⟩
  have hlast : ((((xs.set X.toNat v).set Y.toNat u).length : Nat) : Int) = K := by rw [Hlen.out]; simp
  clear m7
  go_wp2
  go_ret
  exact ⟨by first | rfl | (simp; done) | (simp; omega), m8.B⟩

set_option maxRecDepth 100000 in
set_option maxHeartbeats 2000000 in
theorem cellsLast_d (n a b v u o K X Y : Int) (w : World) (n1 : 0 ≤ n) (n2 : n ≤ 255) (a1 : 0 ≤ a) (a2 : a ≤ 255) (b1 : 0 ≤ b) (b2 : b ≤ 255) (hK : 1 + n % 30 = K) (hX : a % K = X) (hY : b % K = Y) (k1 : 1 ≤ K) (k2 : K ≤ 30) (x1 : 0 ≤ X) (x2 : X < K) (y1 : 0 ≤ Y) (y2 : Y < K) (hXY : ¬ X = Y) (ho : ¬ 0 = o) :
    Calls Try.prog 4 #[.int .u8 n, .int .u8 a, .int .u8 b, .int .i64 v, .int .i64 u, .int .i64 o] w fun e w' => e = .returned (.bool true) ∧ Below w.heap.size w w' := by
  have ho2 : (0 == o) = false := by rw [beq_eq_false_iff_ne]; exact ho
  have Ho := Lib.hid ho
  clear ho
  have hXY2 : (X == Y) = false := by rw [beq_eq_false_iff_ne]; exact hXY
  have Hxy := Lib.hid hXY
  clear hXY
  go_enter Try.func4, Try.ntmps4
  go_wp2_with fail
  refine (New_ms K w _ (Below.refl _ _)).mono ?_
  rintro e w1 ⟨rfl, m1, _⟩
  go_wp2_with fail
  refine (Alloc_new m1 k1 (by omega)).mono ?_
  rintro e w2 ⟨g, xs, rfl, m2, hl, h0, _, _⟩
  have Hl := Lib.hid hl
  have H0 := Lib.hid h0
  have hlen : K = (xs.length : Int) := by omega
  have Hlen := Lib.hid hlen
  clear m1 hl h0 hlen
  go_wp2_with fail
  refine (Store_ms m2 X v x1 (by have := Hlen.out; omega) (by omega)).mono ?_
  rintro e w3 ⟨rfl, m3, _⟩
  have g1 : (xs.set X.toNat v).getD Y.toNat 0 = 0 := by rw [getD_set_ne _ _ _ _ (by have := Hxy.out; omega)]; exact H0.out _
  have G1 := Lib.hid g1
  clear m2 g1
  go_wp2_with fail
  refine (Swap_ms_miss m3 Y o u y1 (by have := Hlen.out; simp; omega) (by rw [G1.out]; exact Ho.out) (by omega)).mono ?_
  rintro e w4 ⟨rfl, m4, _⟩
  clear m3
  have g2 : (xs.set X.toNat v).getD Y.toNat 0 = 0 := G1.out
  have g3 : (xs.set X.toNat v).getD X.toNat 0 = v := getD_set_self _ _ _ (by have := Hlen.out; omega)
  have G2 := Lib.hid (And.intro g2 g3)
  clear g2 g3
  go_wp2_with fail
  have c4 := Load_ms m4 Y y1 (by have := Hlen.out; simp; omega) (by omega)
  rw [G2.out.1] at c4
  refine c4.mono ?_
  clear c4
  rintro e w5 ⟨rfl, m5, _⟩
  clear m4
  go_wp2_with fail
  have c5 := Load_ms m5 X x1 (by have := Hlen.out; simp; omega) (by omega)
  rw [G2.out.2] at c5
  refine c5.mono ?_
  clear c5
  rintro e w6 ⟨rfl, m6, _⟩
  clear m5
  go_wp2_with fail
  refine (known2_any _).mono ?_
  rintro e w7 ⟨rfl, hb7⟩
  have m7 := m6.below hb7
  clear m6 hb7
  go_wp2_with fail
  refine (Cells_ms m7).mono ?_
  rintro e w8 ⟨ao, cap, rfl, m8, _, _, _⟩
  have hlast : (((xs.set X.toNat v).length : Nat) : Int) = K := by rw [Hlen.out]; simp
  clear m7
  go_wp2
  go_ret
  exact ⟨by first | rfl | (simp; done) | (simp; omega), m8.B⟩

theorem cellsLast_any (n a b v u o : Int) (w : World) (n1 : 0 ≤ n) (n2 : n ≤ 255) (a1 : 0 ≤ a) (a2 : a ≤ 255) (b1 : 0 ≤ b) (b2 : b ≤ 255) :
    Calls Try.prog 4 #[.int .u8 n, .int .u8 a, .int .u8 b, .int .i64 v, .int .i64 u, .int .i64 o] w fun e w' => e = .returned (.bool true) ∧ Below w.heap.size w w' := by
  have k1 : 1 ≤ 1 + n % 30 := by omega
  have k2 : 1 + n % 30 ≤ 30 := by omega
  have x1 := Int.emod_nonneg a (show (1 + n % 30) ≠ 0 by omega)
  have x2 := Int.emod_lt_of_pos a (show 0 < 1 + n % 30 by omega)
  have y1 := Int.emod_nonneg b (show (1 + n % 30) ≠ 0 by omega)
  have y2 := Int.emod_lt_of_pos b (show 0 < 1 + n % 30 by omega)
  by_cases hXY : a % (1 + n % 30) = b % (1 + n % 30)
  · by_cases ho : v = o
    · exact cellsLast_a n a b v u o _ _ _ w n1 n2 a1 a2 b1 b2 rfl rfl rfl k1 k2 x1 x2 y1 y2 hXY ho
    · exact cellsLast_b n a b v u o _ _ _ w n1 n2 a1 a2 b1 b2 rfl rfl rfl k1 k2 x1 x2 y1 y2 hXY ho
  · by_cases ho : 0 = o
    · exact cellsLast_c n a b v u o _ _ _ w n1 n2 a1 a2 b1 b2 rfl rfl rfl k1 k2 x1 x2 y1 y2 hXY ho
    · exact cellsLast_d n a b v u o _ _ _ w n1 n2 a1 a2 b1 b2 rfl rfl rfl k1 k2 x1 x2 y1 y2 hXY ho

theorem Try.resTypes4 : Try.f4.resultTypes = #[4] := by kernel_rfl
theorem cellsLast_rdu8 : Try.prog.readableRec 5 = true ∧ 5 < Try.prog.types.size := ⟨by kernel_rfl, of_decide_eq_true (by kernel_rfl)⟩
theorem cellsLast_rdi64 : Try.prog.readableRec 2 = true ∧ 2 < Try.prog.types.size := ⟨by kernel_rfl, of_decide_eq_true (by kernel_rfl)⟩
set_option maxRecDepth 100000 in
theorem cellsLast_lifted (os : Os) (started : os.Started) (H : Type) (enc : TypeId × Value → H) :
    ReturnsInHanded {} Try.checked os 4 .any (Rows.cellsLastSpec.pre6 enc Try.prog Try.f4 Rows.cellsLastRow.domain false) (Rows.cellsLastSpec.post enc Try.prog Try.f4 false true false false) := by
  refine law_lifted (C := Try.checked) (T := 4) Try.own started (by kernel_rfl) Try.func4
    (ChangeSpec.witness6 (enc := enc) (C := Try.checked) false ⟨#[], #[.int .u8 0, .int .u8 0, .int .u8 0, .int .i64 0, .int .i64 0, .int .i64 0], []⟩ 8 (by kernel_rfl) (by kernel_rfl) (by kernel_rfl) (by kernel_rfl))
    Try.laidOut (fun t ht => ?_) Try.resTypes4 Try.underlying4 rfl (fun ds hd => ?_) ?_
  · rw [Try.params4] at ht
    exact (show ∀ t ∈ [5, 5, 5, 2, 2, 2], Try.prog.readableRec t = true ∧ t < Try.prog.types.size from List.forall_mem_cons.2 ⟨cellsLast_rdu8, List.forall_mem_cons.2 ⟨cellsLast_rdu8, List.forall_mem_cons.2 ⟨cellsLast_rdu8, List.forall_mem_cons.2 ⟨cellsLast_rdi64, List.forall_mem_cons.2 ⟨cellsLast_rdi64, List.forall_mem_cons.2 ⟨cellsLast_rdi64, fun _ h => by cases h⟩⟩⟩⟩⟩⟩) t ht
  · rw [Try.params4] at hd
    match ds, hd with
    | [e0, e1, e2, e3, e4, e5], _ => rfl
  · intro W base args ds p hval0 hA0
    have hval : ∀ (j : Nat) t v, Try.f4.params[j]? = some t → args[j]? = some v → Value.okWide Try.prog W .any base t v := hval0
    have hA : DataW.TrodAll enc Try.prog W 0 (fun _ => true) true Try.f4.params.toList args.toList ds p := hA0
    rw [Try.params4] at hA hval
    obtain ⟨v0, vs0, d0, ds0, p0, q0, hargs, rfl, rfl, h0, r0⟩ := trodAll_cons hA
    obtain ⟨v1, vs1, d1, ds1, p1, q1, rfl, rfl, rfl, h1, r1⟩ := trodAll_cons r0
    obtain ⟨v2, vs2, d2, ds2, p2, q2, rfl, rfl, rfl, h2, r2⟩ := trodAll_cons r1
    obtain ⟨v3, vs3, d3, ds3, p3, q3, rfl, rfl, rfl, h3, r3⟩ := trodAll_cons r2
    obtain ⟨v4, vs4, d4, ds4, p4, q4, rfl, rfl, rfl, h4, r4⟩ := trodAll_cons r3
    obtain ⟨v5, vs5, d5, ds5, p5, q5, rfl, rfl, rfl, h5, r5⟩ := trodAll_cons r4
    obtain ⟨rfl, rfl, rfl⟩ := trodAll_nil r5
    obtain rfl : args = #[v0, v1, v2, v3, v4, v5] := by cases args; simp_all
    obtain ⟨n, rfl, _, _, wn⟩ := open_int Try.underlying5 (hval 0 5 v0 rfl rfl) h0
    have bn := bounds_u8 wn
    obtain ⟨a, rfl, _, _, wa⟩ := open_int Try.underlying5 (hval 1 5 v1 rfl rfl) h1
    have ba := bounds_u8 wa
    obtain ⟨b, rfl, _, _, wb⟩ := open_int Try.underlying5 (hval 2 5 v2 rfl rfl) h2
    have bb := bounds_u8 wb
    obtain ⟨v, rfl, _, _, wv⟩ := open_int Try.underlying2 (hval 3 2 v3 rfl rfl) h3
    have bv := bounds_i64 wv
    obtain ⟨u, rfl, _, _, wu⟩ := open_int Try.underlying2 (hval 4 2 v4 rfl rfl) h4
    have bu := bounds_i64 wu
    obtain ⟨o, rfl, _, _, wo⟩ := open_int Try.underlying2 (hval 5 2 v5 rfl rfl) h5
    have bo := bounds_i64 wo
    exact cellsLast_any n a b v u o W bn.1 bn.2 ba.1 ba.2 bb.1 bb.2

/-- CellsLast: for every input the call returns true. -/
theorem cellsLast_said : Rows.CellsLastSaid :=
  OpenClaim.holds_of_wide 4 Try.f4 rfl rfl rfl rfl rfl rfl rfl ⟨rfl, rfl, rfl, rfl, rfl⟩ rfl rfl rfl rfl rfl (by as_aux_lemma => kernel_rfl) Try.func4 (by as_aux_lemma => kernel_rfl)
    (of_decide_eq_true (by as_aux_lemma => kernel_rfl)) (by unfold Func.isWrapper; first | (rw [if_pos (by decide +kernel)]; kernel_rfl) | (rw [if_neg (by decide +kernel)]; exact ⟨rfl, rfl⟩))
    (fun os started H enc _ => cellsLast_lifted os started H enc)
#print axioms cellsLast_said

end Go.Proofs.Ytepkpfnghgocgaa
