/- Memory: cells with any numbers, and what they are by the document. -/
import Derived.Test.YtnpkhkfhlpopbaaRecFun
import Derived.Test.YtnpkhkfhlpopbaaStructs
import Derived.RegionTactic
import Derived.ChangeAlike
import Derived.BigRegion
namespace Go.Proofs.Ytnpkhkfhlpopbaa
set_option linter.unusedSimpArgs false
set_option linter.unusedVariables false
open Go.RowKit
open Go.ChangeShapes Go.WideShapes Go.ChangeAt

/-- A slice value that reads as the numbers xs, wherever they lie. -/
def Sl (w : World) (v : Value) (xs : List Int) : Prop :=
  ∃ ao cap, v = .slice ao xs.length cap ∧ (0 < xs.length → ∃ b off, ao = some ⟨b, off, none⟩ ∧ b < w.heap.size ∧ ∀ j, j < xs.length → w.cell? ⟨b, off + j, none⟩ = some (.int .i64 (xs.getD j 0)))
theorem Sl.below {w w' : World} {v : Value} {xs : List Int} (h : Sl w v xs) (hb : Below w.heap.size w w') : Sl w' v xs := by
  obtain ⟨ao, cap, h1, h4⟩ := h
  refine ⟨ao, cap, h1, fun hp => ?_⟩
  obtain ⟨b, off, e1, e2, e3⟩ := h4 hp
  exact ⟨b, off, e1, Nat.lt_of_lt_of_le e2 hb.size, fun j hj => (hb.cell (p := ⟨b, off + j, none⟩) e2).trans (e3 j hj)⟩
theorem InSlice.sl {w : World} {v : Value} {xs : List Int} (h : InSlice .i64 w v xs) : Sl w v xs := by
  obtain ⟨ao, cap, h1, _, _, h4⟩ := h
  exact ⟨ao, cap, h1, h4⟩
theorem Row.sl {w : World} {v : Value} {xs : List Int} (h : Row w v xs) : Sl w v xs := by
  obtain ⟨ao, cap, rfl⟩ := h.shape
  refine ⟨ao, cap, rfl, fun hp => ?_⟩
  obtain ⟨g, cap', cur, hs, hg, _, _, hc, _⟩ := h.pos hp
  cases hs
  exact ⟨g, 0, rfl, (Array.getElem?_eq_some_iff.1 hg).1, fun j hj => by rw [Nat.zero_add]; exact hc j hj⟩
theorem Both.older {W0 W1 w : World} {b : Nat} {g : Option Nat} {N st su : Int} {xs ys : List Int} {v : Value} {q : Option Nat} (hB : Below W0.heap.size W0 W1) (h : Both W1 w b g N xs st v q ys su) : Both W0 w b g N xs st v q ys su := by
  obtain ⟨⟨x1, x2, x3, x4, x5⟩, h2⟩ := h
  exact ⟨⟨x1, Nat.le_trans hB.size x2, fun k e => Nat.le_trans hB.size (x3 k e), hB.trans (x4.mono hB.size), x5⟩, h2⟩
theorem alloc_cell {w : World} {o : Obj} {b j : Nat} {v : Value} (h : w.cell? ⟨b, j, none⟩ = some v) : (w.alloc o).cell? ⟨b, j, none⟩ = some v := (World.cell?_of_block (Below.heap_alloc w o b (World.block_lt_of_cell? w _ h))).trans h
theorem alloc_frozen {w : World} {b j : Nat} (h : b < w.heap.size) (o : Obj) : (w.alloc o).frozen? ⟨b, j, none⟩ = w.frozen? ⟨b, j, none⟩ := World.frozen?_of_block (Below.heap_alloc _ _ _ h)
theorem new_cell0 (w : World) (a b c : Value) (t : TypeId) : (w.alloc (.cells #[a, b, c] t)).cell? ⟨w.heap.size, 0, none⟩ = some a := by go_simp
theorem new_cell1 (w : World) (a b c : Value) (t : TypeId) : (w.alloc (.cells #[a, b, c] t)).cell? ⟨w.heap.size, 1, none⟩ = some b := by go_simp
theorem new_cell2 (w : World) (a b c : Value) (t : TypeId) : (w.alloc (.cells #[a, b, c] t)).cell? ⟨w.heap.size, 2, none⟩ = some c := by go_simp
theorem new_frozen (w : World) (cs : Array Value) (t : TypeId) (j : Nat) : (w.alloc (.cells cs t)).frozen? ⟨w.heap.size, j, none⟩ = false := by unfold World.frozen?; rw [heap_alloc_new]; simp
/-- The numbers as far as they are written. -/
def part (xs : List Int) (i : Nat) : List Int := xs.take i ++ List.replicate (xs.length - i) 0
theorem part_len (xs : List Int) {i : Nat} (h : i ≤ xs.length) : (part xs i).length = xs.length := by unfold part; rw [List.length_append, List.length_take, List.length_replicate]; omega
theorem part_zero (xs : List Int) : part xs 0 = List.replicate xs.length 0 := by unfold part; simp
theorem part_all (xs : List Int) : part xs xs.length = xs := by unfold part; simp
theorem part_set (xs : List Int) {i : Nat} (h : i < xs.length) : cellSet (part xs i) i (xs.getD i 0) = part xs (i + 1) := by
  have hl := part_len xs (Nat.le_of_lt h)
  rw [cellSet_yes (by omega) (by omega), Int.toNat_natCast]
  unfold part
  rw [List.set_append_right _ _ (by rw [List.length_take]; omega), List.length_take, Nat.min_eq_left (by omega), Nat.sub_self]
  obtain ⟨m, hm⟩ : ∃ m, xs.length - i = m + 1 := ⟨xs.length - i - 1, by omega⟩
  rw [hm, List.replicate_succ, List.set_cons_zero, List.take_succ_eq_append_getElem h, List.append_assoc, show xs.length - (i + 1) = m by omega]
  simp [h]
set_option maxRecDepth 100000 in
set_option maxHeartbeats 4000000 in
theorem Memory13_f (l : Value) (xs : List Int) (w : World) (hl : Sl w l xs) (hn : xs.length ≤ 1000) :
    Calls Try.prog 13 #[l] w fun e w' => ∃ v b g q, e = .returned (.tuple #[.pointer (some ⟨b, 0, none⟩), v]) ∧ Both w w' b g xs.length xs (1 + xs.length) v q xs (1 + xs.length) ∧ (∀ k, q = some k → w.heap.size ≤ k) := by
  obtain ⟨ao, cap, rfl, hcells⟩ := hl
  have Hc := Lib.hid hcells
  have hn' : (xs.length : Int) ≤ 1000 := by omega
  clear hcells
  go_enter Try.func13, Try.ntmps13
  go_wp2_with fail
  obtain ⟨W, hW, hBW, zW, o0, o1, o2, u0, u1, u2⟩ : ∃ W, W = w.alloc (.cells #[.int .i64 0, .slice none 0 0, .int .i64 0] 35) ∧ Below w.heap.size w W ∧ w.heap.size < W.heap.size ∧ W.cell? ⟨w.heap.size, 0, none⟩ = some (.int .i64 0) ∧ W.cell? ⟨w.heap.size, 1, none⟩ = some (.slice none 0 0) ∧ W.cell? ⟨w.heap.size, 2, none⟩ = some (.int .i64 0) ∧
      W.frozen? ⟨w.heap.size, 0, none⟩ = false ∧ W.frozen? ⟨w.heap.size, 1, none⟩ = false ∧ W.frozen? ⟨w.heap.size, 2, none⟩ = false := ⟨_, rfl, by go_grown, by go_simp, by go_simp, by go_simp, by go_simp, by go_simp, by go_simp, by go_simp⟩
  rw [← hW]
  obtain ⟨rs, hrs⟩ : ∃ r, w.heap.size = r := ⟨_, rfl⟩
  have hrw : w.heap.size ≤ rs := by omega
  rw [hrs] at zW o0 o1 o2 u0 u1 u2 ⊢
  have HO := Lib.hid (And.intro o0 (And.intro o1 (And.intro o2 (And.intro u0 (And.intro u1 u2)))))
  have HBW := Lib.hid hBW
  clear hW o0 o1 o2 u0 u1 u2 hrs hBW
  refine (New_ms xs.length W _ (Below.refl _ _)).mono ?_
  rintro e w1 ⟨rfl, m1, hb1⟩
  have hN : capOf xs.length = xs.length := by unfold capOf; omega
  rw [hN] at m1
  have bl := m1.mem.lt
  obtain ⟨bb, hbb⟩ : ∃ bb, W.heap.size = bb := ⟨_, rfl⟩
  rw [hbb] at m1 bl ⊢
  have hrb : rs < bb := by omega
  have hbb2 : W.heap.size ≤ bb := by omega
  clear hbb hN
  have B1 : Below W.heap.size W w1 := hb1
  clear hb1
  go_wp2_with fail
  refine (rNew_any xs.length _).mono ?_
  rintro e w2 ⟨rfl, hb2⟩
  rw [show capOf xs.length = xs.length from by unfold capOf; omega]
  have B2 : Below W.heap.size W w2 := B1.trans (hb2.mono B1.size)
  have h2 : Both W w2 bb none xs.length [] 0 (.agg #[.int .i64 xs.length, .slice none 0 0, .int .i64 0]) none [] 0 :=
    ⟨m1.below hb2, ⟨.slice none 0 0, rfl, rfl, Row.nil _⟩, (fun k e => by cases e), by simp, by omega⟩
  have bl2 : bb < w2.heap.size := Nat.lt_of_lt_of_le bl hb2.size
  clear m1 hb2 bl B1
  go_wp2_with fail
  refine (rAlloc_b (h2.below (by go_grown)) xs.length (by omega)).mono ?_
  rintro e w3 ⟨v3, q3, rfl, h3, hq3, hb3⟩
  have e1 : allocOk ([] : List Int) xs.length xs.length = true := alloc_yes (by omega) (by simp)
  have e2 : allocXs ([] : List Int) xs.length xs.length = part xs 0 := by rw [allocXs, if_pos e1, part_zero]; simp
  rw [show allocAt ([] : List Int) xs.length xs.length = 0 by rw [allocAt, if_pos e1]; rfl, show allocErr ([] : List Int) xs.length xs.length = 0 by rw [allocErr, if_pos e1]]
  rw [e2, show allocCnt ([] : List Int) xs.length xs.length = 1 by rw [allocCnt, if_pos e1], show (0 : Int) + 1 = 1 from rfl] at h3
  obtain ⟨ao3, cap3, rfl, -, -⟩ := h3.rv.open
  obtain ⟨rb, hrbx⟩ : ∃ r, w2.heap.size = r := ⟨_, rfl⟩
  have z3 : rb < w3.heap.size := by have := hb3.size; simp at this; omega
  have hq3' : ∀ k, q3 = some k → rb < k := fun k e => by
    rcases hq3 with rfl | hq3
    · cases e
    · have := hq3 k e; simp at this; omega
  have a3_0 : w3.cell? ⟨w2.heap.size, 0, none⟩ = some (.int .i64 xs.length) := (hb3.cell (p := ⟨w2.heap.size, 0, none⟩) (by first | omega | (simp; omega) | (simp; done))).trans (by go_simp)
  have b3_0 : w3.frozen? ⟨w2.heap.size, 0, none⟩ = false := (hb3.frozen (p := ⟨w2.heap.size, 0, none⟩) (by first | omega | (simp; omega) | (simp; done))).trans (by go_simp)
  have a3_1 : w3.cell? ⟨w2.heap.size, 1, none⟩ = some (.slice none 0 0) := (hb3.cell (p := ⟨w2.heap.size, 1, none⟩) (by first | omega | (simp; omega) | (simp; done))).trans (by go_simp)
  have b3_1 : w3.frozen? ⟨w2.heap.size, 1, none⟩ = false := (hb3.frozen (p := ⟨w2.heap.size, 1, none⟩) (by first | omega | (simp; omega) | (simp; done))).trans (by go_simp)
  have a3_2 : w3.cell? ⟨w2.heap.size, 2, none⟩ = some (.int .i64 0) := (hb3.cell (p := ⟨w2.heap.size, 2, none⟩) (by first | omega | (simp; omega) | (simp; done))).trans (by go_simp)
  have b3_2 : w3.frozen? ⟨w2.heap.size, 2, none⟩ = false := (hb3.frozen (p := ⟨w2.heap.size, 2, none⟩) (by first | omega | (simp; omega) | (simp; done))).trans (by go_simp)
  rw [hrbx] at a3_0 b3_0 a3_1 b3_1 a3_2 b3_2 ⊢
  have Hq := Lib.hid (And.intro hq3' (And.intro e1 e2))
  have hbr : bb < rb := by omega
  have H3 := Lib.hid h3
  clear e1 e2 hq3 hq3' hb3 h3 h2 hrbx
  go_wp2_with fail
  obtain ⟨w4, hw4, H4, z4, d0, d1, d2, f0, f1, f2⟩ : ∃ w4, w4 = (((w3.setCell ⟨rb, 0, none⟩ (.int .i64 xs.length)).setCell ⟨rb, 1, none⟩ (.slice ao3 (part xs 0).length cap3)).setCell ⟨rb, 2, none⟩ (.int .i64 1)).alloc (.cells #[.int .i64 xs.length, .slice ao3 (part xs 0).length cap3, .int .i64 1] 35) ∧
      Hid (Both W w4 bb none xs.length [] 0 (.agg #[.int .i64 xs.length, .slice ao3 (part xs 0).length cap3, .int .i64 1]) q3 (part xs 0) 1) ∧ rb < w4.heap.size ∧ w4.cell? ⟨rb, 0, none⟩ = some (.int .i64 xs.length) ∧ w4.cell? ⟨rb, 1, none⟩ = some (.slice ao3 (part xs 0).length cap3) ∧ w4.cell? ⟨rb, 2, none⟩ = some (.int .i64 1) ∧
      w4.frozen? ⟨rb, 0, none⟩ = false ∧ w4.frozen? ⟨rb, 1, none⟩ = false ∧ w4.frozen? ⟨rb, 2, none⟩ = false :=
    ⟨_, rfl, Lib.hid ((H3.out.set3 rb (by omega) (by omega) (fun k e => by cases e) (fun k e => by have := Hq.out.1 k e; omega) _ _ _).below (by go_grown)), by go_simp; try omega, by go_simp, by go_simp, by go_simp, by go_simp, by go_simp, by go_simp⟩
  rw [← hw4]
  clear hw4 a3_0 b3_0 a3_1 b3_1 a3_2 b3_2 z3
  refine (Alloc_b H4.out xs.length (by omega)).mono ?_
  rintro e w5 ⟨g, rfl, h5, hg5, hk5⟩
  rw [show allocAt ([] : List Int) xs.length xs.length = 0 by rw [allocAt, if_pos Hq.out.2.1]; rfl, show allocErr ([] : List Int) xs.length xs.length = 0 by rw [allocErr, if_pos Hq.out.2.1]]
  rw [Hq.out.2.2, show allocCnt ([] : List Int) xs.length xs.length = 1 by rw [allocCnt, if_pos Hq.out.2.1], show (0 : Int) + 1 = 1 from rfl] at h5
  have hFb : ¬ Foot bb none rb := by
    rintro (e | e)
    · omega
    · cases e
  have hF : ¬ Foot bb g rb := by
    rintro (e | e)
    · omega
    · rcases hg5 with rfl | ⟨k, rfl, hk⟩
      · cases e
      · cases e; omega
  have z5 : rb < w5.heap.size := Nat.lt_of_lt_of_le z4 hk5.size
  have hbox : w5.cell? ⟨rb, 0, none⟩ = some (.int .i64 xs.length) ∧ w5.cell? ⟨rb, 1, none⟩ = some (.slice ao3 (part xs 0).length cap3) ∧ w5.cell? ⟨rb, 2, none⟩ = some (.int .i64 1) ∧ w5.frozen? ⟨rb, 0, none⟩ = false ∧ w5.frozen? ⟨rb, 1, none⟩ = false ∧ w5.frozen? ⟨rb, 2, none⟩ = false :=
    ⟨(hk5.cell (p := ⟨rb, 0, none⟩) z4 hFb).trans d0, (hk5.cell (p := ⟨rb, 1, none⟩) z4 hFb).trans d1, (hk5.cell (p := ⟨rb, 2, none⟩) z4 hFb).trans d2, (hk5.frozen (p := ⟨rb, 0, none⟩) z4 hFb).trans f0, (hk5.frozen (p := ⟨rb, 1, none⟩) z4 hFb).trans f1, (hk5.frozen (p := ⟨rb, 2, none⟩) z4 hFb).trans f2⟩
  have hQ1 : ∀ k, q3 = some k → rs < k := fun k e => by have := Hq.out.1 k e; omega
  have hQ2 : ∀ k, q3 = some k → k ≠ rb := fun k e => by have := Hq.out.1 k e; omega
  have HQ := Lib.hid (And.intro hQ1 hQ2)
  clear hQ1 hQ2
  have HX := Lib.hid (And.intro h5 hbox)
  have HF := Lib.hid hF
  clear h5 hg5 hk5 hFb hF hbox d0 d1 d2 f0 f1 f2 z4 Hq H3 H4
  go_wp2
  go_loopw [9] (fun j wr => ∃ (i : Nat) (ao : Option Addr) (cap : Nat) (q : Option Nat) (s : Int), i ≤ xs.length ∧ j = .int .i64 i ∧ s = 1 + (i : Int) ∧ Both W wr bb g xs.length (part xs i) s (.agg #[.int .i64 xs.length, .slice ao (part xs i).length cap, .int .i64 s]) q (part xs i) s ∧
      rb < wr.heap.size ∧ (∀ k, q = some k → rs < k) ∧ (∀ k, q = some k → k ≠ rb) ∧
      (wr.cell? ⟨rb, 0, none⟩ = some (.int .i64 xs.length) ∧ wr.cell? ⟨rb, 1, none⟩ = some (.slice ao (part xs i).length cap) ∧ wr.cell? ⟨rb, 2, none⟩ = some (.int .i64 s) ∧ wr.frozen? ⟨rb, 0, none⟩ = false ∧ wr.frozen? ⟨rb, 1, none⟩ = false ∧ wr.frozen? ⟨rb, 2, none⟩ = false)) (fun j _ => xs.length - (intOf j).toNat)
  case atStart => exact ⟨0, ao3, cap3, q3, 1, Nat.zero_le _, rfl, rfl, HX.out.1, z5, HQ.out.1, HQ.out.2, HX.out.2⟩
  case round =>
    obtain ⟨i, ao1, cap1, q, s, hi, rfl, hs, h, hz, hqw, hqr, d0, d1, d2, f0, f1, f2⟩ := hrel
    have HR := Lib.hid (And.intro hqw hqr)
    have H := Lib.hid h
    have Hs := Lib.hid hs
    have hs1 : 1 ≤ s := by omega
    have hs2 : s ≤ 1001 := by omega
    clear hqw hqr h HX HQ z5 hs
    by_cases hlt : i < xs.length
    · obtain ⟨bk, off, rfl, hbk, hcs⟩ := Hc.out (by omega)
      have hx : wr.cell? ⟨bk, off + i, none⟩ = some (.int .i64 (xs.getD i 0)) := (H.out.ms.B.cell (p := ⟨bk, off + i, none⟩) (show bk < W.heap.size by omega)).trans ((HBW.out.cell (p := ⟨bk, off + i, none⟩) hbk).trans (hcs i hlt))
      obtain ⟨x, hxx⟩ : ∃ x, xs.getD i 0 = x := ⟨_, rfl⟩
      rw [hxx] at hx
      have hset := part_set xs hlt
      rw [hxx] at hset
      have hcnt : cntAt (part xs i) i = 1 := cntAt_yes (by omega) (by rw [part_len xs hi]; omega)
      have HP := Lib.hid (And.intro hset hcnt)
      have i1 : (0 : Int) ≤ (i : Int) := by omega
      have i2 : (i : Int) < (xs.length : Int) := by omega
      have zbk : bk < wr.heap.size := by have := H.out.ms.B.size; omega
      clear hxx hset hcnt hcs
      go_wp2_with fail
      refine (Store_b H.out i x (by omega)).mono ?_
      rintro e w6 ⟨rfl, h6, hk6⟩
      have hxb : ¬ Foot bb g bk := fun hf => by
        rcases hf with e | e
        · omega
        · have := H.out.ms.2.2.1 bk e.symm; omega
      have z6 : rb < w6.heap.size := Nat.lt_of_lt_of_le hz hk6.size
      have x6 := (hk6.cell (p := ⟨bk, off + i, none⟩) zbk hxb).trans hx
      have e0 := (hk6.cell (p := ⟨rb, 0, none⟩) hz HF.out).trans d0
      have e1 := (hk6.cell (p := ⟨rb, 1, none⟩) hz HF.out).trans d1
      have e2 := (hk6.cell (p := ⟨rb, 2, none⟩) hz HF.out).trans d2
      have g0 := (hk6.frozen (p := ⟨rb, 0, none⟩) hz HF.out).trans f0
      have g1 := (hk6.frozen (p := ⟨rb, 1, none⟩) hz HF.out).trans f1
      have g2 := (hk6.frozen (p := ⟨rb, 2, none⟩) hz HF.out).trans f2
      have H6 := Lib.hid h6
      clear h6 hk6 d0 d1 d2 f0 f1 f2 hx zbk hxb
      go_wp2
      have z6b : bk < w6.heap.size := by have := H6.out.ms.B.size; omega
      have H7 : Hid (Both W w6.drew bb g xs.length (cellSet (part xs i) i x) (s + cntAt (part xs i) i) (.agg #[.int .i64 xs.length, .slice ao1 (part xs i).length cap1, .int .i64 s]) q (part xs i) s) := Lib.hid (H6.out.below (Below.refl _ _).drew)
      have HA : Hid (Both W (w6.alloc (.cells #[.int .i64 0, .slice none 0 0, .int .i64 0] 35)).drew bb g xs.length (cellSet (part xs i) i x) (s + cntAt (part xs i) i) (.agg #[.int .i64 xs.length, .slice ao1 (part xs i).length cap1, .int .i64 s]) q (part xs i) s) := Lib.hid (H6.out.below ((Below.refl _ _).alloc (Nat.le_refl _) _).drew)
      go_region_held3 (fun w2 => w2.cell? ⟨rb, 0, none⟩ = some (.int .i64 xs.length) ∧ w2.cell? ⟨rb, 1, none⟩ = some (.slice ao1 (part xs i).length cap1) ∧ w2.cell? ⟨rb, 2, none⟩ = some (.int .i64 s) ∧ w2.cell? ⟨bk, off + i, none⟩ = some (.int .i64 x))
        (first | (with_reducible exact ⟨r0, r1, r2, r3⟩) | ((with_reducible refine ⟨cell_far ?_ ?_, cell_far ?_ ?_, cell_far ?_ ?_, cell_far ?_ ?_⟩) <;> (repeat' (with_reducible refine cell_far ?_ ?_)) <;> first | (with_reducible assumption) | (simp; omega)) | exact ⟨e0, e1, e2, x6⟩ | go_keep)
        (first
          | (go_at_call 31; (with_reducible show Calls _ _ _ (World.drew (World.alloc _ _)) _); refine (rStore_b HA.out i x (by omega)).mono ?_; rintro e w7 ⟨v7, q7, rfl, h7, hq7, hb⟩; obtain ⟨ao7, cap7, rfl, -, -⟩ := h7.rv.open; have r0 := (hb.cell (p := ⟨rb, 0, none⟩) (show rb < ((w6.alloc (.cells #[.int .i64 0, .slice none 0 0, .int .i64 0] 35)).drew).heap.size from Nat.lt_of_lt_of_le z6 (by simp))).trans (alloc_cell e0); have k0 := (hb.frozen (p := ⟨rb, 0, none⟩) (show rb < ((w6.alloc (.cells #[.int .i64 0, .slice none 0 0, .int .i64 0] 35)).drew).heap.size from Nat.lt_of_lt_of_le z6 (by simp))).trans ((alloc_frozen z6 _).trans g0); have r1 := (hb.cell (p := ⟨rb, 1, none⟩) (show rb < ((w6.alloc (.cells #[.int .i64 0, .slice none 0 0, .int .i64 0] 35)).drew).heap.size from Nat.lt_of_lt_of_le z6 (by simp))).trans (alloc_cell e1); have k1 := (hb.frozen (p := ⟨rb, 1, none⟩) (show rb < ((w6.alloc (.cells #[.int .i64 0, .slice none 0 0, .int .i64 0] 35)).drew).heap.size from Nat.lt_of_lt_of_le z6 (by simp))).trans ((alloc_frozen z6 _).trans g1); have r2 := (hb.cell (p := ⟨rb, 2, none⟩) (show rb < ((w6.alloc (.cells #[.int .i64 0, .slice none 0 0, .int .i64 0] 35)).drew).heap.size from Nat.lt_of_lt_of_le z6 (by simp))).trans (alloc_cell e2); have k2 := (hb.frozen (p := ⟨rb, 2, none⟩) (show rb < ((w6.alloc (.cells #[.int .i64 0, .slice none 0 0, .int .i64 0] 35)).drew).heap.size from Nat.lt_of_lt_of_le z6 (by simp))).trans ((alloc_frozen z6 _).trans g2); have r3 := (hb.cell (p := ⟨bk, off + i, none⟩) (show bk < ((w6.alloc (.cells #[.int .i64 0, .slice none 0 0, .int .i64 0] 35)).drew).heap.size from Nat.lt_of_lt_of_le z6b (by simp))).trans (alloc_cell x6); have z7 : rb < w7.heap.size := Nat.lt_of_lt_of_le (show rb < ((w6.alloc (.cells #[.int .i64 0, .slice none 0 0, .int .i64 0] 35)).drew).heap.size from Nat.lt_of_lt_of_le z6 (by simp)) hb.size; have z8 : w6.heap.size < w7.heap.size := Nat.lt_of_lt_of_le (show w6.heap.size < ((w6.alloc (.cells #[.int .i64 0, .slice none 0 0, .int .i64 0] 35)).drew).heap.size by simp) hb.size; have t0 := (hb.cell (p := ⟨w6.heap.size, 0, none⟩) (show w6.heap.size < ((w6.alloc (.cells #[.int .i64 0, .slice none 0 0, .int .i64 0] 35)).drew).heap.size by simp)).trans (new_cell0 w6 _ _ _ _); have y0 := (hb.frozen (p := ⟨w6.heap.size, 0, none⟩) (show w6.heap.size < ((w6.alloc (.cells #[.int .i64 0, .slice none 0 0, .int .i64 0] 35)).drew).heap.size by simp)).trans (new_frozen w6 _ _ _); have t1 := (hb.cell (p := ⟨w6.heap.size, 1, none⟩) (show w6.heap.size < ((w6.alloc (.cells #[.int .i64 0, .slice none 0 0, .int .i64 0] 35)).drew).heap.size by simp)).trans (new_cell1 w6 _ _ _ _); have y1 := (hb.frozen (p := ⟨w6.heap.size, 1, none⟩) (show w6.heap.size < ((w6.alloc (.cells #[.int .i64 0, .slice none 0 0, .int .i64 0] 35)).drew).heap.size by simp)).trans (new_frozen w6 _ _ _); have t2 := (hb.cell (p := ⟨w6.heap.size, 2, none⟩) (show w6.heap.size < ((w6.alloc (.cells #[.int .i64 0, .slice none 0 0, .int .i64 0] 35)).drew).heap.size by simp)).trans (new_cell2 w6 _ _ _ _); have y2 := (hb.frozen (p := ⟨w6.heap.size, 2, none⟩) (show w6.heap.size < ((w6.alloc (.cells #[.int .i64 0, .slice none 0 0, .int .i64 0] 35)).drew).heap.size by simp)).trans (new_frozen w6 _ _ _))
          | (go_at_call 31; refine (rStore_b H7.out i x (by omega)).mono ?_; rintro e w7 ⟨v7, q7, rfl, h7, hq7, hb⟩; obtain ⟨ao7, cap7, rfl, -, -⟩ := h7.rv.open; have r0 := (hb.cell (p := ⟨rb, 0, none⟩) (show rb < (w6.drew).heap.size from z6)).trans (e0); have k0 := (hb.frozen (p := ⟨rb, 0, none⟩) (show rb < (w6.drew).heap.size from z6)).trans (g0); have r1 := (hb.cell (p := ⟨rb, 1, none⟩) (show rb < (w6.drew).heap.size from z6)).trans (e1); have k1 := (hb.frozen (p := ⟨rb, 1, none⟩) (show rb < (w6.drew).heap.size from z6)).trans (g1); have r2 := (hb.cell (p := ⟨rb, 2, none⟩) (show rb < (w6.drew).heap.size from z6)).trans (e2); have k2 := (hb.frozen (p := ⟨rb, 2, none⟩) (show rb < (w6.drew).heap.size from z6)).trans (g2); have r3 := (hb.cell (p := ⟨bk, off + i, none⟩) (show bk < (w6.drew).heap.size from z6b)).trans (x6); have z7 : rb < w7.heap.size := Nat.lt_of_lt_of_le (show rb < (w6.drew).heap.size from z6) hb.size))
      · rw [HP.out.1, HP.out.2] at h7
        rw [HP.out.1, HP.out.2]
        have hqw : ∀ k, q7 = some k → rs < k := fun k e => by
          rcases hq7 with rfl | hq7
          · exact HR.out.1 k e
          · have := hq7 k e; simp at this; omega
        have hqr : ∀ k, q7 = some k → k ≠ rb := fun k e => by
          rcases hq7 with rfl | hq7
          · exact HR.out.2 k e
          · have := hq7 k e; simp at this; omega
        have HX1 := Lib.hid (And.intro h7 (And.intro hqw (And.intro hqr hqr)))
        clear h7 hqw hqr hq7 hb H7 HA H6 e0 e1 e2 g0 g1 g2 x6 
        go_wp2
        go_roundw
        case rel => exact ⟨i + 1, ao7, cap7, q7, s + 1, by omega, by go_num, by (have := Hs.out; omega), (HX1.out.1.set3 rb (by omega) (fun e => HF.out (.inl e.symm)) (fun k e e2 => HF.out (.inr (by rw [e, e2]))) HX1.out.2.2.1 _ _ _).below (by go_grown), by go_simp; try omega, HX1.out.2.1, HX1.out.2.2.1, by go_simp, by go_simp, by go_simp, by go_simp, by go_simp, by go_simp⟩
        case measure => simp [intOf]; omega
      · rw [HP.out.1, HP.out.2] at h7
        rw [HP.out.1, HP.out.2]
        have hqw : ∀ k, q7 = some k → rs < k := fun k e => by
          rcases hq7 with rfl | hq7
          · exact HR.out.1 k e
          · have := hq7 k e; simp at this; omega
        have hqr : ∀ k, q7 = some k → k ≠ rb := fun k e => by
          rcases hq7 with rfl | hq7
          · exact HR.out.2 k e
          · have := hq7 k e; simp at this; omega
        have hqn : ∀ k, q7 = some k → k ≠ w6.heap.size := fun k e => by
          rcases hq7 with rfl | hq7
          · have := H6.out.q_lt k e; omega
          · have := hq7 k e; simp at this; omega
        have hgn : ∀ k, g = some k → k ≠ w6.heap.size := fun k e => by subst e; have := H6.out.ms.mem.row_lt; omega
        have hbn : bb ≠ w6.heap.size := by have := H6.out.ms.mem.lt; omega
        have HX1 := Lib.hid (And.intro h7 (And.intro hqw (And.intro hqr (And.intro hqn (And.intro hgn hbn)))))
        clear h7 hqw hqr hq7 hb H7 HA H6 e0 e1 e2 g0 g1 g2 x6 hqn hgn hbn
        go_wp2
        go_roundw
        case rel => exact ⟨i + 1, ao7, cap7, q7, s + 1, by omega, by go_num, by (have := Hs.out; omega), (HX1.out.1.set3 w6.heap.size (by omega) HX1.out.2.2.2.2.2 HX1.out.2.2.2.2.1 HX1.out.2.2.2.1 _ _ _).set3 rb (by omega) (fun e => HF.out (.inl e.symm)) (fun k e e2 => HF.out (.inr (by rw [e, e2]))) HX1.out.2.2.1 _ _ _, by go_simp; try omega, HX1.out.2.1, HX1.out.2.2.1, by go_simp, by go_simp, by go_simp, by go_simp, by go_simp, by go_simp⟩
        case measure => simp [intOf]; omega
    · obtain rfl : i = xs.length := by omega
      have hout := HO.out
      have hr0 := hout
      have zs : rs < wr.heap.size := by have := H.out.ms.B.size; omega
      have q0 := (H.out.ms.B.cell (p := ⟨rs, 0, none⟩) zW).trans HO.out.1
      have q1 := (H.out.ms.B.cell (p := ⟨rs, 1, none⟩) zW).trans HO.out.2.1
      have q2 := (H.out.ms.B.cell (p := ⟨rs, 2, none⟩) zW).trans HO.out.2.2.1
      have p0 := (H.out.ms.B.frozen (p := ⟨rs, 0, none⟩) zW).trans HO.out.2.2.2.1
      have p1 := (H.out.ms.B.frozen (p := ⟨rs, 1, none⟩) zW).trans HO.out.2.2.2.2.1
      have p2 := (H.out.ms.B.frozen (p := ⟨rs, 2, none⟩) zW).trans HO.out.2.2.2.2.2
      rw [part_all] at d1
      clear hout hr0
      have hbx := (Both.older HBW.out H.out).set3 rs hrw (by omega) (fun k e => by have := H.out.ms.2.2.1 k e; omega) (fun k e => Nat.ne_of_gt (HR.out.1 k e)) (.int .i64 xs.length) (.slice ao1 xs.length cap1) (.int .i64 s)
      have hss := Hs.out
      have HZ := Lib.hid (And.intro hbx hss)
      clear hbx hss
      go_wp2
      go_region
      all_goals
        go_wp2
        refine bodyPost_ret (v := .tuple #[.pointer (some ⟨bb, 0, none⟩), .agg #[.int .i64 xs.length, .slice ao1 xs.length cap1, .int .i64 s]]) (by simp [results, Try.results13, go_sem, q0, q1, q2]) rfl ⟨_, bb, g, q, rfl, ?_, fun k e => by have := HR.out.1 k e; omega⟩
        have h9 := HZ.out.1.below (Below.refl _ _).drew
        rw [part_all] at h9
        exact HZ.out.2 ▸ h9

end Go.Proofs.Ytnpkhkfhlpopbaa
