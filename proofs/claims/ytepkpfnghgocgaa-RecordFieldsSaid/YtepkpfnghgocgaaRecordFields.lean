/- RecordFields: each of a record's five cells is one of its fields, and no other cell is: the law returns true for every input. -/
import Derived.Test.YtepkpfnghgocgaaRec
import Derived.Test.YtepkpfnghgocgaaSlices
import Derived.Test.YtepkpfnghgocgaaFrame
import Derived.Laws.CopyOwn
import Derived.Deep.RegionHeld3
import Derived.Deep.QuietTactic
import Derived.BigQuiet
namespace Go.Proofs.Ytepkpfnghgocgaa
set_option linter.unusedSimpArgs false
set_option linter.unusedVariables false
open Go.RowKit
open Go.ChangeShapes Go.WideShapes Go.ChangeAt

theorem row_of_heap {w : World} {r : Nat} {vs : List Int} (h : w.heap[r]? = some (.cells (vs.map (Value.int .i64)).toArray 2 (0, 0))) (hl : vs.length = 5) : Row w (.slice (some ⟨r, 0, none⟩) 5 5) vs := by
  refine ⟨by simp, .inr ⟨r, 5, _, by rw [hl], Nat.zero_le _, h, by omega, by unfold maxLen; omega, by simp [hl], List.take_of_length_le (by simp [hl])⟩⟩
theorem Row.kept2 {S : Nat → Prop} {w w1 w2 : World} {v : Value} {xs : List Int} (h : Row w v xs) (h1 : Kept S w w1) (h2 : Kept S w1 w2) (hs : ∀ g, v.ownBlock = some g → ¬ S g) : Row w2 v xs := (h.kept h1 hs).kept h2 hs
theorem Kept.cell2 {S : Nat → Prop} {w w1 w2 : World} {r q : Nat} (h1 : Kept S w w1) (h2 : Kept S w1 w2) (hr : r < w.heap.size) (hs : ¬ S r) : w2.cell? ⟨r, q, none⟩ = w.cell? ⟨r, q, none⟩ :=
  (h2.cell (p := ⟨r, q, none⟩) (Nat.lt_of_lt_of_le hr h1.size) hs).trans (h1.cell (p := ⟨r, q, none⟩) hr hs)
/-- Five numbers: those that came in, as many as there are, and zeros. -/
def five (ls : List Int) : List Int := ls.take 5 ++ List.replicate (5 - (ls.take 5).length) 0
theorem five_len (ls : List Int) : (five ls).length = 5 := by
  have : (ls.take 5).length ≤ 5 := List.length_take_le _ _
  unfold five; rw [List.length_append, List.length_replicate]; omega
theorem five_splice (ls : List Int) : splice [Value.int .i64 0, .int .i64 0, .int .i64 0, .int .i64 0, .int .i64 0] 0 ((ls.take 5).map (Value.int .i64)) = (five ls).map (Value.int .i64) := by
  unfold five splice
  match ls with
  | [] => rfl
  | [_] => rfl
  | [_, _] => rfl
  | [_, _, _] => rfl
  | [_, _, _, _] => rfl
  | _ :: _ :: _ :: _ :: _ :: _ => simp
theorem five_get {vs : List Int} (h : vs.length = 5) : vs = [vs.getD 0 0, vs.getD 1 0, vs.getD 2 0, vs.getD 3 0, vs.getD 4 0] := by
  match vs, h with
  | [_, _, _, _, _], _ => rfl
set_option maxRecDepth 100000 in
set_option maxHeartbeats 8000000 in
theorem recordFields_core (n a oth K J : Int) (l : Value) (ls : List Int) (w : World) (n1 : 0 ≤ n) (n2 : n ≤ 255) (a1 : 0 ≤ a) (a2 : a ≤ 255) (hK : 1 + n % 30 = K) (k1 : 1 ≤ K) (k2 : K ≤ 30) (hJ : a % K = J) (j1 : 0 ≤ J) (j2 : J < K) (hl : InSlice .i64 w l ls) :
    Calls Try.prog 8 #[.int .u8 n, .int .u8 a, l, .int .i64 oth] w fun e w' => e = .returned (.bool true) ∧ Below w.heap.size w w' := by
  obtain ⟨ao, cap, rfl, hwf, hmax, hcells⟩ := hl
  have Hc := Lib.hid (And.intro hwf hcells)
  clear hwf hcells
  go_enter Try.func8, Try.ntmps8
  go_wp2_with fail
  refine (Open_ms K w w (Below.refl _ _) k1 (by omega)).mono ?_
  rintro e w1 ⟨g0, rfl, m1, -⟩
  have bl := m1.mem.lt
  obtain ⟨bb, hbb⟩ : ∃ bb, w.heap.size = bb := ⟨_, rfl⟩
  have Hbb := Lib.hid hbb
  rw [hbb] at m1 bl ⊢
  clear hbb
  go_wp2_with fail
  refine (Alloc_ms m1 (5 * K) (by omega) (by simp; omega) (by omega)).mono ?_
  rintro e w2 ⟨g, rfl, m2, -, -⟩
  have hl2 : (([0, 0, 0] : List Int) ++ List.replicate (5 * K).toNat 0).length = (3 + 5 * K).toNat := by simp; omega
  obtain ⟨zs, hzs⟩ : ∃ l, ([0, 0, 0] : List Int) ++ List.replicate (5 * K).toNat 0 = l := ⟨_, rfl⟩
  rw [hzs] at m2 hl2
  have Hl2 := Lib.hid hl2
  clear hzs hl2 m1 bl
  obtain ⟨CS, hCS⟩ : ∃ CS, CS = (ls.take 5).map (Value.int .i64) := ⟨_, rfl⟩
  have hcs : ((ls.take 5).map (Value.int .i64)).length = Nat.min ls.length 5 := by rw [List.length_map, List.length_take]; exact Nat.min_comm _ _
  have hpos : 0 < ((ls.take 5).map (Value.int .i64)).length → (some (⟨w2.heap.size, 0, none⟩ : Addr)) = some ⟨w2.heap.size, 0, none⟩ ∧ ∃ ad, ao = some ad ∧ ∀ j v, ((ls.take 5).map (Value.int .i64))[j]? = some v → (w2.alloc (.cells #[.int .i64 0, .int .i64 0, .int .i64 0, .int .i64 0, .int .i64 0] 2)).cell? (ad.add j) = some v := by
    intro hp
    have hp' : 0 < ls.length := by simp at hp; rcases ls with - | ⟨x, xs⟩; simp at hp; simp
    obtain ⟨bk, off, rfl, hbk, hcc⟩ := Hc.out.2 hp'
    refine ⟨rfl, _, rfl, fun j v hj => ?_⟩
    have hj5 : j < 5 ∧ j < ls.length := by
      have := (List.getElem?_eq_some_iff.1 hj).1
      rw [hcs] at this
      have h := Nat.lt_min.1 this
      omega
    have hv : v = .int .i64 (ls.getD j 0) := by
      rw [List.getElem?_map, List.getElem?_take_of_lt hj5.1, List.getElem?_eq_getElem hj5.2] at hj
      simp at hj
      rw [← hj]; simp [hj5.2]
    subst hv
    have hadd : (⟨bk, off, none⟩ : Addr).add j = ⟨bk, off + j, none⟩ := by unfold Addr.add; split <;> simp_all
    rw [hadd]
    exact (Below.cell (B := w.heap.size) (w := w) ((m2.B).alloc (m2.B.size) _) (p := ⟨bk, off + j, none⟩) hbk).trans (hcc j hj5.2)
  rw [← hCS] at hcs hpos
  have Hp := Lib.hid (And.intro hcs (And.intro hpos hCS))
  clear hcs hpos hCS
  have hmk : ∀ w : World, (Instr.makeSlice 38 (.int .i64 5) (.int .i64 5)).run Try.prog w = .ok (.slice (some ⟨w.heap.size, 0, none⟩) 5 5) (w.alloc (.cells #[.int .i64 0, .int .i64 0, .int .i64 0, .int .i64 0, .int .i64 0] 2)) := fun _ => by kernel_rfl
  go_wp2_with ((with_reducible show wpList _ _ _ (⟨some 35, _, _, _, _, _⟩ :: _) _ _); go_must (refine wpList_copy_splice (o := ⟨some 35, _, _, _, _, _⟩) rfl (.tmp 33) (.tmp 34) 38 38 rfl 2 Try.underlying38 (by kernel_rfl) _ _ 5 5 ls.length cap rfl rfl w2.heap.size 0 [.int .i64 0, .int .i64 0, .int .i64 0, .int .i64 0, .int .i64 0] 2 (heap_alloc_new w2 _) CS Hp.out.1 (fun hp => ⟨rfl, (Hp.out.2.1 hp).2⟩) ?c1 ?c2 w2.heap.size w2 ((Below.refl _ _).alloc (Nat.le_refl _) _) (Nat.le_refl _) ?_))
  case c1 => show 0 + CS.length ≤ 5; rw [Nat.zero_add, Hp.out.1]; exact Nat.min_le_right _ _
  case c2 => rw [Hp.out.2.2]; intro v hv; obtain ⟨x, _, rfl⟩ := List.mem_map.1 hv; rfl
  intro w3 hg3 hb3
  have hg4 := hg3.out
  rw [Hp.out.2.2, five_splice] at hg4
  have R3 := row_of_heap hg4 (five_len ls)
  have m3 := m2.below hb3
  have hrr1 : w.heap.size ≤ w2.heap.size ∧ bb < w2.heap.size ∧ (∀ k, g = some k → k < w2.heap.size) := ⟨m2.B.size, m2.mem.lt, fun k e => by subst e; exact m2.mem.row_lt⟩
  obtain ⟨rr, hrr⟩ : ∃ rr, w2.heap.size = rr := ⟨_, rfl⟩
  rw [hrr] at R3 hrr1 ⊢
  obtain ⟨vs, hvs⟩ : ∃ vs, five ls = vs := ⟨_, rfl⟩
  have hvl := five_len ls
  rw [hvs] at R3 hvl
  have Hvl := Lib.hid (And.intro hvl hrr1)
  clear hg3 hg4 hb3 hrr hvs hvl Hp m2 hJ hmk hrr1
  go_wp2
  go_loopw [13] (fun j wr => ∃ (i : Nat) (xs : List Int) (st : Int), i ≤ 5 ∧ j = .int .i64 i ∧ MS w wr bb g (3 + 5 * K) xs st ∧ xs.length = (3 + 5 * K).toNat ∧ (∀ q, q < i → xs.getD (3 + 5 * J.toNat + q) 0 = vs.getD q 0) ∧ st ≤ i + 2 ∧ Row wr (.slice (some ⟨rr, 0, none⟩) 5 5) vs) (fun j _ => 5 - (intOf j).toNat)
  case atStart => exact ⟨0, zs, 1 + 1, by omega, rfl, m3, Hl2.out, fun q h => absurd h (by omega), by omega, R3⟩
  case round =>
    obtain ⟨i, xs, st, hi, rfl, m, hlen, hq, hst, R⟩ := hrel
    have s0 : 0 ≤ st := m.2.2.2.2.2.2.2
    have Hlen := Lib.hid (And.intro hlen hq)
    have i0 : (0 : Int) ≤ (i : Int) := by omega
    clear hlen hq m3 R3
    have hcell : ∀ q, q < 5 → wr.cell? ⟨rr, q, none⟩ = some (.int .i64 (vs.getD q 0)) := by
      obtain ⟨g', cap', cur', hs', _, _, _, hc', _⟩ := R.pos (by rw [Hvl.out.1]; omega)
      have e := (Value.slice.inj hs').1
      simp only [Option.some.injEq, Addr.mk.injEq] at e
      intro q hq; rw [e.1]; exact hc' q (by rw [Hvl.out.1]; exact hq)
    by_cases hlt : i < 5
    · have hc1 := hcell i hlt
      obtain ⟨y, hy⟩ : ∃ y, vs.getD i 0 = y := ⟨_, rfl⟩
      rw [hy] at hc1
      have Hy := Lib.hid hy
      clear hy hcell
      have i2 : (i : Int) < 5 := by omega
      go_wp2
      have md : MS w wr.drew bb g (3 + 5 * K) xs st := m.below (Below.refl _ _).drew
      have cS := Store_ms md (3 + 5 * J + i) y (by omega) (by have := Hlen.out.1; omega) (by omega)
      have cB := fun w => Base_in J w (by omega) (by omega)
      have hs : IntKind.i64.wrap (3 + 5 * J + (i : Int)) = 3 + 5 * J + (i : Int) := IntWalk.i64_in _ (by omega)
      have HS := Lib.hid hs
      clear hs
      have hrl : rr < wr.drew.heap.size := R.lt rfl
      have hF : ¬ Foot bb g rr := by
        rintro (e | e)
        · have := Hvl.out.2.2.1; omega
        · have := Hvl.out.2.2.2 _ e.symm; omega
      have HF := Lib.hid hF
      clear hF
      go_region_held3 (fun w1 => w1.cell? ⟨rr, i, none⟩ = some (.int .i64 y)) (first | go_keep | exact (Kept.cell (S := Foot bb g) (by assumption) (p := ⟨rr, i, none⟩) hrl HF.out).trans (by assumption))
        (first | (go_at_call 19; refine (cB _).mono ?_; rintro e w' ⟨rfl, rfl⟩) | (go_at_call 21; rw [HS.out]; refine cS.mono ?_; rintro e w4 ⟨rfl, m4, hk⟩))
      clear cS cB md HS m
      have hb4 : i < xs.length := by have := Hlen.out.1; omega
      have R4 : Row w4 (.slice (some ⟨rr, 0, none⟩) 5 5) vs := (R.below ((Below.refl _ _).drew)).kept hk (fun g' hg' => by cases hg'; exact HF.out)
      clear R hk hc1 hrl
      go_wp2
      go_roundw
      case rel => exact ⟨i + 1, _, _, by omega, by go_num, m4, by rw [List.length_set]; exact Hlen.out.1, fun q hq => by
        rw [show (3 + 5 * J + (i : Int)).toNat = 3 + 5 * J.toNat + i by omega]
        by_cases e : q = i
        · subst e; rw [getD_set_self _ _ _ (by have := Hlen.out.1; omega)]; exact Hy.out.symm
        · rw [getD_set_ne _ _ _ _ (by omega)]; exact Hlen.out.2 q (by omega), by omega, R4⟩
      case measure => simp [intOf]; omega
    · obtain rfl : i = 5 := by omega
      have rl0 : rr < wr.heap.size := R.lt rfl
      have hF : ¬ Foot bb g rr := by
        rintro (e | e)
        · have := Hvl.out.2.2.1; omega
        · have := Hvl.out.2.2.2 _ e.symm; omega
      have HF := Lib.hid hF
      clear hF
      have hc0 := hcell 0 (by omega)
      have hc1 := hcell 1 (by omega)
      have hc2 := hcell 2 (by omega)
      have hc3 := hcell 3 (by omega)
      have hc4 := hcell 4 (by omega)
      obtain ⟨y0, hy0⟩ : ∃ y, vs.getD 0 0 = y := ⟨_, rfl⟩
      obtain ⟨y1, hy1⟩ : ∃ y, vs.getD 1 0 = y := ⟨_, rfl⟩
      obtain ⟨y2, hy2⟩ : ∃ y, vs.getD 2 0 = y := ⟨_, rfl⟩
      obtain ⟨y3, hy3⟩ : ∃ y, vs.getD 3 0 = y := ⟨_, rfl⟩
      obtain ⟨y4, hy4⟩ : ∃ y, vs.getD 4 0 = y := ⟨_, rfl⟩
      rw [hy0] at hc0
      rw [hy1] at hc1
      rw [hy2] at hc2
      rw [hy3] at hc3
      rw [hy4] at hc4
      have Hx : Hid (∀ ys : List Int, ys.length = xs.length → (∀ q, q < 5 → ys.getD (3 + 5 * J.toNat + q) 0 = xs.getD (3 + 5 * J.toNat + q) 0) → (ys.getD (3 + 5 * J).toNat 0 = y0 ∧ ys.getD ((3 + 5 * J).toNat + 1) 0 = y1 ∧ ys.getD ((3 + 5 * J).toNat + 2) 0 = y2 ∧ ys.getD ((3 + 5 * J).toNat + 3) 0 = y3 ∧ ys.getD ((3 + 5 * J).toNat + 4) 0 = y4)) := Lib.hid (fun ys _ h => by
        rw [show (3 + 5 * J).toNat = 3 + 5 * J.toNat by omega]
        exact ⟨(h 0 (by omega)).trans ((Hlen.out.2 0 (by omega)).trans hy0), (h 1 (by omega)).trans ((Hlen.out.2 1 (by omega)).trans hy1), (h 2 (by omega)).trans ((Hlen.out.2 2 (by omega)).trans hy2), (h 3 (by omega)).trans ((Hlen.out.2 3 (by omega)).trans hy3), (h 4 (by omega)).trans ((Hlen.out.2 4 (by omega)).trans hy4)⟩)
      clear hy0 hy1 hy2 hy3 hy4 hcell
      have hJ2 : 0 ≤ (J + 1) % K ∧ (J + 1) % K < K := ⟨Int.emod_nonneg _ (by omega), Int.emod_lt_of_pos _ (by omega)⟩
      by_cases hK1 : 1 < K
      · have hJ3 : (J + 1) % K ≠ J := by
          intro h
          by_cases e : J + 1 = K
          · rw [e, Int.emod_self] at h; omega
          · rw [Int.emod_eq_of_lt (by omega) (by omega)] at h; omega
        obtain ⟨J1, hJ1⟩ : ∃ J1, (J + 1) % K = J1 := ⟨_, rfl⟩
        go_wp2_with fail
        rw [hJ1] at hJ2 hJ3 ⊢
        have HJ := Lib.hid hJ3
        clear hJ1 hJ3
        obtain ⟨hJ2, hJ3⟩ := hJ2
        refine (Base_in J1 _ (by omega) (by omega)).mono ?_
        rintro e w' ⟨rfl, rfl⟩
        go_wp2_with fail
        refine (Store_ms m (3 + 5 * J1) oth (by omega) (by have := Hlen.out.1; omega) (by omega)).mono ?_
        rintro e w4 ⟨rfl, m4, hk4⟩
        obtain ⟨ys, hys⟩ : ∃ ys, xs.set (3 + 5 * J1).toNat oth = ys := ⟨_, rfl⟩
        rw [hys] at m4
        have hyl : ys.length = xs.length := by rw [← hys, List.length_set]
        have hyg : ∀ q, q < 5 → ys.getD (3 + 5 * J.toNat + q) 0 = xs.getD (3 + 5 * J.toNat + q) 0 := fun q hq => by rw [← hys]; exact getD_set_ne _ _ _ _ (by have := HJ.out; omega)
        have Hys := Lib.hid (And.intro hyl hyg)
        clear hys hyl hyg m
        go_wp2_with fail
        refine (Store_ms m4 0 oth (by omega) (by have := Hlen.out.1; have := Hys.out.1; omega) (by omega)).mono ?_
        rintro e w5 ⟨rfl, m5, hk5⟩
        rw [show (0 : Int).toNat = 0 from rfl] at m5
        obtain ⟨us, hus⟩ : ∃ us, ys.set 0 oth = us := ⟨_, rfl⟩
        rw [hus] at m5
        have hul : us.length = xs.length := (congrArg List.length hus).symm.trans ((List.length_set ..).trans Hys.out.1)
        have hug := Hx.out us hul (fun q hq => by rw [← hus]; exact (getD_set_ne _ _ _ _ (by omega)).trans (Hys.out.2 q hq))
        have HU := Lib.hid hug
        have HUl := Lib.hid (hul.trans Hlen.out.1)
        clear hus hul hug m4
        go_wp2_with fail
        refine (Base_in J _ (by omega) (by omega)).mono ?_
        rintro e w' ⟨rfl, rfl⟩
        go_wp2_with fail
        refine (See_core m5 (3 + 5 * J) J y0 y1 y2 y3 y4 HU (by omega) (by omega) (by omega) (by omega) (by rw [HUl.out]; unfold manyOf; omega)).mono ?_
        rintro e w6 ⟨rfl, m6, hb6⟩
        clear m5
        have R5 : Row w5 (.slice (some ⟨rr, 0, none⟩) 5 5) vs := R.kept2 hk4 hk5 (fun g' hg' => by cases hg'; exact HF.out)
        have R6 := R5.below hb6
        have rl6 : rr < w6.heap.size := R6.lt rfl
        obtain ⟨e0, e1, e2, e3, e4⟩ : w6.cell? ⟨rr, 0, none⟩ = some (.int .i64 y0) ∧ w6.cell? ⟨rr, 1, none⟩ = some (.int .i64 y1) ∧ w6.cell? ⟨rr, 2, none⟩ = some (.int .i64 y2) ∧ w6.cell? ⟨rr, 3, none⟩ = some (.int .i64 y3) ∧ w6.cell? ⟨rr, 4, none⟩ = some (.int .i64 y4) :=
          ⟨(hb6.cell (p := ⟨rr, 0, none⟩) (R5.lt rfl)).trans ((Kept.cell2 hk4 hk5 rl0 HF.out).trans hc0), (hb6.cell (p := ⟨rr, 1, none⟩) (R5.lt rfl)).trans ((Kept.cell2 hk4 hk5 rl0 HF.out).trans hc1), (hb6.cell (p := ⟨rr, 2, none⟩) (R5.lt rfl)).trans ((Kept.cell2 hk4 hk5 rl0 HF.out).trans hc2), (hb6.cell (p := ⟨rr, 3, none⟩) (R5.lt rfl)).trans ((Kept.cell2 hk4 hk5 rl0 HF.out).trans hc3), (hb6.cell (p := ⟨rr, 4, none⟩) (R5.lt rfl)).trans ((Kept.cell2 hk4 hk5 rl0 HF.out).trans hc4)⟩
        clear hc0 hc1 hc2 hc3 hc4 hk4 hk5 hb6 R R5 R6 Hx
        go_wp2
        obtain ⟨W, hW, mW, zW, rW, b0, b1, b2, b3, b4, f0, f1, f2, f3, f4⟩ : ∃ W, W = w6.alloc (.cells #[.int .i64 y0, .int .i64 y1, .int .i64 y2, .int .i64 y3, .int .i64 y4] 47) ∧ Below w6.heap.size w6 W ∧ w6.heap.size < W.heap.size ∧ rr < W.heap.size ∧ W.cell? ⟨w6.heap.size, 0, none⟩ = some (.int .i64 y0) ∧ W.cell? ⟨w6.heap.size, 1, none⟩ = some (.int .i64 y1) ∧ W.cell? ⟨w6.heap.size, 2, none⟩ = some (.int .i64 y2) ∧ W.cell? ⟨w6.heap.size, 3, none⟩ = some (.int .i64 y3) ∧ W.cell? ⟨w6.heap.size, 4, none⟩ = some (.int .i64 y4) ∧
            W.cell? ⟨rr, 0, none⟩ = some (.int .i64 y0) ∧ W.cell? ⟨rr, 1, none⟩ = some (.int .i64 y1) ∧ W.cell? ⟨rr, 2, none⟩ = some (.int .i64 y2) ∧ W.cell? ⟨rr, 3, none⟩ = some (.int .i64 y3) ∧ W.cell? ⟨rr, 4, none⟩ = some (.int .i64 y4) :=
          ⟨_, rfl, by go_grown, by go_simp, by go_simp, by go_simp, by go_simp, by go_simp, by go_simp, by go_simp, by go_simp, by go_simp, by go_simp, by go_simp, by go_simp⟩
        rw [← hW]
        clear hW e0 e1 e2 e3 e4
        have cM : ∀ w1, Below w6.heap.size w6 w1 → Calls Try.prog 17 #[.pointer (some ⟨bb, 0, none⟩)] w1 fun e w' => e = .returned (.int .i64 K) ∧ Below w1.heap.size w1 w' := fun w1 h => (Many_ms (m6.below h)).mono fun e w' ⟨h1, _, h2⟩ => ⟨by rw [h1, HUl.out, show manyOf (3 + 5 * K).toNat = K from by unfold manyOf; omega], h2⟩
        have CM := Lib.hid cM
        clear cM
        have hB := m6.B
        have Hm := Lib.hid (And.intro hB mW)
        clear hB mW m6
        go_region_held3 (fun w1 => Below w6.heap.size w6 w1 ∧ w6.heap.size < w1.heap.size ∧ w1.cell? ⟨w6.heap.size, 0, none⟩ = some (.int .i64 y0) ∧ w1.cell? ⟨w6.heap.size, 1, none⟩ = some (.int .i64 y1) ∧ w1.cell? ⟨w6.heap.size, 2, none⟩ = some (.int .i64 y2) ∧ w1.cell? ⟨w6.heap.size, 3, none⟩ = some (.int .i64 y3) ∧ w1.cell? ⟨w6.heap.size, 4, none⟩ = some (.int .i64 y4) ∧ w1.cell? ⟨rr, 0, none⟩ = some (.int .i64 y0) ∧ w1.cell? ⟨rr, 1, none⟩ = some (.int .i64 y1) ∧ w1.cell? ⟨rr, 2, none⟩ = some (.int .i64 y2) ∧ w1.cell? ⟨rr, 3, none⟩ = some (.int .i64 y3) ∧ w1.cell? ⟨rr, 4, none⟩ = some (.int .i64 y4))
          (first | (exact ⟨Hm.out.2.drew, zW, b0, b1, b2, b3, b4, f0, f1, f2, f3, f4⟩) | (go_split_ands; refine ⟨?_, ?_, ?_, ?_, ?_, ?_, ?_, ?_, ?_, ?_, ?_, ?_⟩ <;> first | (have := hb.size; omega) | (rw [hb.cell (by simp; omega)]; assumption) | exact Below.trans (by assumption) (hb.mono (by omega))))
          (first | (go_at_call 16; refine (known13_any _).mono ?_; rintro e w' ⟨rfl, hb⟩) | (go_at_call 17; go_split_ands; refine (CM.out _ (by assumption)).mono ?_; rintro e w' ⟨rfl, hb⟩))
        have B9 := Hm.out.1
        all_goals
          go_wp2
          go_ret
          go_split_ands
          exact ⟨by first | rfl | (simp; done), B9.trans (Below.mono (B := w6.heap.size) (by assumption) B9.size)⟩
      · have hk4 : Kept (Foot bb g) wr wr := Kept.refl _ _
        go_wp2_with fail
        refine (Store_ms m 0 oth (by omega) (by have := Hlen.out.1; have := (rfl : xs.length = xs.length); omega) (by omega)).mono ?_
        rintro e w5 ⟨rfl, m5, hk5⟩
        rw [show (0 : Int).toNat = 0 from rfl] at m5
        obtain ⟨us, hus⟩ : ∃ us, xs.set 0 oth = us := ⟨_, rfl⟩
        rw [hus] at m5
        have hul : us.length = xs.length := (congrArg List.length hus).symm.trans ((List.length_set ..).trans (rfl : xs.length = xs.length))
        have hug := Hx.out us hul (fun q hq => by rw [← hus]; exact (getD_set_ne _ _ _ _ (by omega)).trans rfl)
        have HU := Lib.hid hug
        have HUl := Lib.hid (hul.trans Hlen.out.1)
        clear hus hul hug m
        go_wp2_with fail
        refine (Base_in J _ (by omega) (by omega)).mono ?_
        rintro e w' ⟨rfl, rfl⟩
        go_wp2_with fail
        refine (See_core m5 (3 + 5 * J) J y0 y1 y2 y3 y4 HU (by omega) (by omega) (by omega) (by omega) (by rw [HUl.out]; unfold manyOf; omega)).mono ?_
        rintro e w6 ⟨rfl, m6, hb6⟩
        clear m5
        have R5 : Row w5 (.slice (some ⟨rr, 0, none⟩) 5 5) vs := R.kept2 hk4 hk5 (fun g' hg' => by cases hg'; exact HF.out)
        have R6 := R5.below hb6
        have rl6 : rr < w6.heap.size := R6.lt rfl
        obtain ⟨e0, e1, e2, e3, e4⟩ : w6.cell? ⟨rr, 0, none⟩ = some (.int .i64 y0) ∧ w6.cell? ⟨rr, 1, none⟩ = some (.int .i64 y1) ∧ w6.cell? ⟨rr, 2, none⟩ = some (.int .i64 y2) ∧ w6.cell? ⟨rr, 3, none⟩ = some (.int .i64 y3) ∧ w6.cell? ⟨rr, 4, none⟩ = some (.int .i64 y4) :=
          ⟨(hb6.cell (p := ⟨rr, 0, none⟩) (R5.lt rfl)).trans ((Kept.cell2 hk4 hk5 rl0 HF.out).trans hc0), (hb6.cell (p := ⟨rr, 1, none⟩) (R5.lt rfl)).trans ((Kept.cell2 hk4 hk5 rl0 HF.out).trans hc1), (hb6.cell (p := ⟨rr, 2, none⟩) (R5.lt rfl)).trans ((Kept.cell2 hk4 hk5 rl0 HF.out).trans hc2), (hb6.cell (p := ⟨rr, 3, none⟩) (R5.lt rfl)).trans ((Kept.cell2 hk4 hk5 rl0 HF.out).trans hc3), (hb6.cell (p := ⟨rr, 4, none⟩) (R5.lt rfl)).trans ((Kept.cell2 hk4 hk5 rl0 HF.out).trans hc4)⟩
        clear hc0 hc1 hc2 hc3 hc4 hk4 hk5 hb6 R R5 R6 Hx
        go_wp2
        obtain ⟨W, hW, mW, zW, rW, b0, b1, b2, b3, b4, f0, f1, f2, f3, f4⟩ : ∃ W, W = w6.alloc (.cells #[.int .i64 y0, .int .i64 y1, .int .i64 y2, .int .i64 y3, .int .i64 y4] 47) ∧ Below w6.heap.size w6 W ∧ w6.heap.size < W.heap.size ∧ rr < W.heap.size ∧ W.cell? ⟨w6.heap.size, 0, none⟩ = some (.int .i64 y0) ∧ W.cell? ⟨w6.heap.size, 1, none⟩ = some (.int .i64 y1) ∧ W.cell? ⟨w6.heap.size, 2, none⟩ = some (.int .i64 y2) ∧ W.cell? ⟨w6.heap.size, 3, none⟩ = some (.int .i64 y3) ∧ W.cell? ⟨w6.heap.size, 4, none⟩ = some (.int .i64 y4) ∧
            W.cell? ⟨rr, 0, none⟩ = some (.int .i64 y0) ∧ W.cell? ⟨rr, 1, none⟩ = some (.int .i64 y1) ∧ W.cell? ⟨rr, 2, none⟩ = some (.int .i64 y2) ∧ W.cell? ⟨rr, 3, none⟩ = some (.int .i64 y3) ∧ W.cell? ⟨rr, 4, none⟩ = some (.int .i64 y4) :=
          ⟨_, rfl, by go_grown, by go_simp, by go_simp, by go_simp, by go_simp, by go_simp, by go_simp, by go_simp, by go_simp, by go_simp, by go_simp, by go_simp, by go_simp⟩
        rw [← hW]
        clear hW e0 e1 e2 e3 e4
        have cM : ∀ w1, Below w6.heap.size w6 w1 → Calls Try.prog 17 #[.pointer (some ⟨bb, 0, none⟩)] w1 fun e w' => e = .returned (.int .i64 K) ∧ Below w1.heap.size w1 w' := fun w1 h => (Many_ms (m6.below h)).mono fun e w' ⟨h1, _, h2⟩ => ⟨by rw [h1, HUl.out, show manyOf (3 + 5 * K).toNat = K from by unfold manyOf; omega], h2⟩
        have CM := Lib.hid cM
        clear cM
        have hB := m6.B
        have Hm := Lib.hid (And.intro hB mW)
        clear hB mW m6
        go_region_held3 (fun w1 => Below w6.heap.size w6 w1 ∧ w6.heap.size < w1.heap.size ∧ w1.cell? ⟨w6.heap.size, 0, none⟩ = some (.int .i64 y0) ∧ w1.cell? ⟨w6.heap.size, 1, none⟩ = some (.int .i64 y1) ∧ w1.cell? ⟨w6.heap.size, 2, none⟩ = some (.int .i64 y2) ∧ w1.cell? ⟨w6.heap.size, 3, none⟩ = some (.int .i64 y3) ∧ w1.cell? ⟨w6.heap.size, 4, none⟩ = some (.int .i64 y4) ∧ w1.cell? ⟨rr, 0, none⟩ = some (.int .i64 y0) ∧ w1.cell? ⟨rr, 1, none⟩ = some (.int .i64 y1) ∧ w1.cell? ⟨rr, 2, none⟩ = some (.int .i64 y2) ∧ w1.cell? ⟨rr, 3, none⟩ = some (.int .i64 y3) ∧ w1.cell? ⟨rr, 4, none⟩ = some (.int .i64 y4))
          (first | (exact ⟨Hm.out.2.drew, zW, b0, b1, b2, b3, b4, f0, f1, f2, f3, f4⟩) | (go_split_ands; refine ⟨?_, ?_, ?_, ?_, ?_, ?_, ?_, ?_, ?_, ?_, ?_, ?_⟩ <;> first | (have := hb.size; omega) | (rw [hb.cell (by simp; omega)]; assumption) | exact Below.trans (by assumption) (hb.mono (by omega))))
          (first | (go_at_call 16; refine (known13_any _).mono ?_; rintro e w' ⟨rfl, hb⟩) | (go_at_call 17; go_split_ands; refine (CM.out _ (by assumption)).mono ?_; rintro e w' ⟨rfl, hb⟩))
        have B9 := Hm.out.1
        all_goals
          go_wp2
          go_ret
          go_split_ands
          exact ⟨by first | rfl | (simp; done), B9.trans (Below.mono (B := w6.heap.size) (by assumption) B9.size)⟩

theorem recordFields_any (n a oth : Int) (l : Value) (ls : List Int) (w : World) (n1 : 0 ≤ n) (n2 : n ≤ 255) (a1 : 0 ≤ a) (a2 : a ≤ 255) (hl : InSlice .i64 w l ls) :
    Calls Try.prog 8 #[.int .u8 n, .int .u8 a, l, .int .i64 oth] w fun e w' => e = .returned (.bool true) ∧ Below w.heap.size w w' :=
  recordFields_core n a oth _ _ l ls w n1 n2 a1 a2 rfl (by omega) (by omega) rfl (Int.emod_nonneg _ (by omega)) (Int.emod_lt_of_pos _ (by omega)) hl

theorem Try.resTypes8 : Try.f8.resultTypes = #[4] := by kernel_rfl
theorem recordFields_rdu8 : Try.prog.readableRec 5 = true ∧ 5 < Try.prog.types.size := ⟨by kernel_rfl, of_decide_eq_true (by kernel_rfl)⟩
theorem recordFields_rds64 : Try.prog.readableRec 38 = true ∧ 38 < Try.prog.types.size := ⟨by kernel_rfl, of_decide_eq_true (by kernel_rfl)⟩
theorem recordFields_rdi64 : Try.prog.readableRec 2 = true ∧ 2 < Try.prog.types.size := ⟨by kernel_rfl, of_decide_eq_true (by kernel_rfl)⟩
set_option maxRecDepth 100000 in
theorem recordFields_lifted (os : Os) (started : os.Started) (H : Type) (enc : TypeId × Value → H) :
    ReturnsInHanded {} Try.checked os 8 .any (Rows.recordFieldsSpec.pre6 enc Try.prog Try.f8 Rows.recordFieldsRow.domain false) (Rows.recordFieldsSpec.post enc Try.prog Try.f8 false true false false) := by
  refine law_lifted (C := Try.checked) (T := 4) Try.own started (by kernel_rfl) Try.func8
    (ChangeSpec.witness6 (enc := enc) (C := Try.checked) false ⟨#[], #[.int .u8 0, .int .u8 0, .slice none 0 0, .int .i64 0], []⟩ 8 (by kernel_rfl) (by kernel_rfl) (by kernel_rfl) (by kernel_rfl))
    Try.laidOut (fun t ht => ?_) Try.resTypes8 Try.underlying4 rfl (fun ds hd => ?_) ?_
  · rw [Try.params8] at ht
    exact (show ∀ t ∈ [5, 5, 38, 2], Try.prog.readableRec t = true ∧ t < Try.prog.types.size from List.forall_mem_cons.2 ⟨recordFields_rdu8, List.forall_mem_cons.2 ⟨recordFields_rdu8, List.forall_mem_cons.2 ⟨recordFields_rds64, List.forall_mem_cons.2 ⟨recordFields_rdi64, fun _ h => by cases h⟩⟩⟩⟩) t ht
  · rw [Try.params8] at hd
    match ds, hd with
    | [e0, e1, e2, e3], _ => rfl
  · intro W base args ds p hval0 hA0
    have hval : ∀ (j : Nat) t v, Try.f8.params[j]? = some t → args[j]? = some v → Value.okWide Try.prog W .any base t v := hval0
    have hA : DataW.TrodAll enc Try.prog W 0 (fun _ => true) true Try.f8.params.toList args.toList ds p := hA0
    rw [Try.params8] at hA hval
    obtain ⟨v0, vs0, d0, ds0, p0, q0, hargs, rfl, rfl, h0, r0⟩ := trodAll_cons hA
    obtain ⟨v1, vs1, d1, ds1, p1, q1, rfl, rfl, rfl, h1, r1⟩ := trodAll_cons r0
    obtain ⟨v2, vs2, d2, ds2, p2, q2, rfl, rfl, rfl, h2, r2⟩ := trodAll_cons r1
    obtain ⟨v3, vs3, d3, ds3, p3, q3, rfl, rfl, rfl, h3, r3⟩ := trodAll_cons r2
    obtain ⟨rfl, rfl, rfl⟩ := trodAll_nil r3
    obtain rfl : args = #[v0, v1, v2, v3] := by cases args; simp_all
    obtain ⟨n, rfl, _, _, wn⟩ := open_int Try.underlying5 (hval 0 5 v0 rfl rfl) h0
    have bn := bounds_u8 wn
    obtain ⟨a, rfl, _, _, wa⟩ := open_int Try.underlying5 (hval 1 5 v1 rfl rfl) h1
    have ba := bounds_u8 wa
    obtain ⟨l, sl⟩ := open_inslice (k := .i64) Try.underlying38 Try.underlying2 (by kernel_rfl) (hval 2 38 v2 rfl rfl) h2
    obtain ⟨z, rfl, _, _, wz⟩ := open_int Try.underlying2 (hval 3 2 v3 rfl rfl) h3
    have bz := bounds_i64 wz
    exact recordFields_any n a z v2 l W bn.1 bn.2 ba.1 ba.2 sl

/-- RecordFields: for every input the call returns true. -/
theorem recordFields_said : Rows.RecordFieldsSaid :=
  OpenClaim.holds_of_wide 8 Try.f8 rfl rfl rfl rfl rfl rfl rfl ⟨rfl, rfl, rfl, rfl, rfl⟩ rfl rfl rfl rfl rfl (by as_aux_lemma => kernel_rfl) Try.func8 (by as_aux_lemma => kernel_rfl)
    (of_decide_eq_true (by as_aux_lemma => kernel_rfl)) (by unfold Func.isWrapper; first | (rw [if_pos (by decide +kernel)]; kernel_rfl) | (rw [if_neg (by decide +kernel)]; exact ⟨rfl, rfl⟩))
    (fun os started H enc _ => recordFields_lifted os started H enc)
#print axioms recordFields_said

end Go.Proofs.Ytepkpfnghgocgaa
