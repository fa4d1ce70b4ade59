/- From the head on: what the reference of layer 14 tells. -/
import Derived.Test.YtnpkhkfhlpopbaaPlain14
import Derived.Test.YtnpkhkfhlpopbaaThr3
namespace Go.Proofs.Ytnpkhkfhlpopbaa
set_option linter.unusedSimpArgs false
set_option linter.unusedVariables false
open Go.RowKit
open Go.ChangeShapes Go.WideShapes Go.ChangeAt

/-- Numbers from 0 to 1000 that are not among these. -/
def unseen (acc : List Int) : Nat := ((List.range 1001).filter fun q : Nat => decide ((q : Int) ∉ acc)).length
theorem filter_lt {α : Type} (p p' : α → Bool) (himp : ∀ a, p' a = true → p a = true) : ∀ (l : List α) (e : α), e ∈ l → p e = true → p' e = false → (l.filter p').length < (l.filter p).length
  | [], e, h, _, _ => by cases h
  | x :: l, e, h, h1, h2 => by
    have hle : (l.filter p').length ≤ (l.filter p).length := by
      clear h
      induction l with
      | nil => simp
      | cons y l ih =>
        simp only [List.filter_cons]
        by_cases hy : p' y = true
        · rw [if_pos hy, if_pos (himp y hy)]; simp; exact ih
        · rw [if_neg hy]; split
          · simp; omega
          · exact ih
    simp only [List.filter_cons]
    rcases List.mem_cons.1 h with rfl | h'
    · rw [if_pos h1, if_neg (by rw [h2]; decide)]; simp; omega
    · have ih := filter_lt p p' himp l e h' h1 h2
      by_cases hx : p' x = true
      · rw [if_pos hx, if_pos (himp x hx)]; simp; omega
      · rw [if_neg hx]; split
        · simp; omega
        · exact ih
theorem unseen_lt {acc : List Int} {a : Int} (h0 : 0 ≤ a) (h1 : a ≤ 1000) (hn : a ∉ acc) : unseen (acc ++ [a]) < unseen acc := by
  unfold unseen
  obtain ⟨q, rfl⟩ := Int.eq_ofNat_of_zero_le h0
  refine filter_lt _ _ (fun b hb => ?_) _ q (List.mem_range.2 (by omega)) (by simpa using hn) (by simp)
  simp only [decide_eq_true_eq, List.mem_append, not_or] at hb ⊢
  exact hb.1
theorem unseen_nil : unseen [] = 1001 := by
  unfold unseen
  rw [List.filter_eq_self.2 (fun a _ => by simp)]
  simp
/-- From 'at' on, behind these; false: it goes wrong. -/
def reachF (xs : List Int) : Nat → List Int → Int → List Int × Bool
  | 0, acc, _ => (acc, true)
  | f + 1, acc, a =>
    if a = 0 then (acc, true)
    else if a < 0 ∨ 1000 < a then ([], false)
    else if nthIs xs.length a = false then ([], false)
    else if a ∈ acc then ([], false)
    else reachF xs f (acc ++ [a]) (recAt xs a 3)
def reachL (xs : List Int) : List Int × Bool := reachF xs 1002 [] (cellAt xs 1)
theorem IRow.slx {w : World} {v : Value} {xs : List Int} (h : IRow w v xs) : Sl w v xs := by
  obtain ⟨ao, cap, rfl⟩ := h.shape
  refine ⟨ao, cap, rfl, fun hp => ?_⟩
  obtain ⟨g, cap', cur, hs, hg, _, _, hc, _⟩ := h.pos hp
  cases hs
  exact ⟨g, 0, rfl, (Array.getElem?_eq_some_iff.1 hg).1, fun j hj => by rw [Nat.zero_add]; exact hc j hj⟩
def lenOf : Value → Nat
  | .slice _ n _ => n
  | _ => 0
theorem Try.infoInt2 : (Try.prog.info? 3).map (fun i => (i.zero, i.size, i.bytes)) = some (some (.int .i64 0), 1, 8) := by kernel_rfl
set_option maxRecDepth 100000 in
set_option maxHeartbeats 8000000 in
theorem rReach_f (w : World) (v : Value) (q : Option Nat) (N st : Int) (xs : List Int) (LS : List Int) (OK : Bool) (h : RVal w v q N xs st) (hl : xs.length ≤ 1000) (hR : reachL xs = (LS, OK)) :
    Calls Try.prog 44 #[v] w fun e w' => ∃ u, e = .returned (.tuple #[u, .bool OK]) ∧ IRow w' u LS ∧ Below w.heap.size w w' := by
  obtain ⟨i0, hi, hz0, hz1, hz2⟩ := info_parts Try.infoInt2
  obtain ⟨ao0, cap0, rfl, -, -⟩ := h.open
  have H := Lib.hid (And.intro h hR)
  clear h hR
  go_enter Try.func44, Try.ntmps44
  go_wp2_with fail
  refine (rAt_f (H.out.1.below (by go_grown)) 1).mono ?_
  rintro e w1 ⟨rfl, hb1⟩
  have A1 : w1.heap[w.heap.size]? = some (.cells #[.int .i64 N, .slice ao0 xs.length cap0, .int .i64 st] 35 (0, 0)) := (hb1.block w.heap.size (by simp)).trans (heap_alloc_new _ _)
  have B1 : Below w.heap.size w w1 := Below.trans (by go_grown) (hb1.mono (by simp))
  obtain ⟨a0, ha0⟩ : ∃ a, cellAt xs 1 = a := ⟨_, rfl⟩
  have hF : reachF xs 1002 [] a0 = (LS, OK) := by rw [← ha0]; exact H.out.2
  rw [ha0]
  have H1 := Lib.hid (And.intro A1 (And.intro B1 hF))
  clear hb1 A1 B1 ha0 hF
  go_wp2
  go_loopw [4, 5] (fun l k wr => ∃ (f : Nat) (acc : List Int) (a : Int) (ao : Option Addr) (cap : Nat), l = .slice ao acc.length cap ∧ k = .int .i64 a ∧ IRow wr (.slice ao acc.length cap) acc ∧ wr.heap[w.heap.size]? = some (.cells #[.int .i64 N, .slice ao0 xs.length cap0, .int .i64 st] 35 (0, 0)) ∧ Below w.heap.size w wr ∧ (∀ b, (Value.slice ao acc.length cap).ownBlock = some b → w.heap.size < b) ∧ unseen acc < f ∧ acc.length ≤ 1001 ∧ acc.length + unseen acc ≤ 1001 ∧ reachF xs f acc a = (LS, OK)) (fun l _ _ => 1002 - lenOf l)
  case atStart => exact ⟨1002, [], a0, none, 0, rfl, rfl, IRow.nil _, H1.out.1, H1.out.2.1, fun b e => (by cases e), by rw [unseen_nil]; omega, by simp, by rw [unseen_nil]; simp, H1.out.2.2⟩
  case round =>
    obtain ⟨f, acc, a, ao, cap, rfl, rfl, hRow, hA, hB, hO, hU, hlen, hlen2, hF⟩ := hrel
    have z0 : w.heap.size < wr.heap.size := (Array.getElem?_eq_some_iff.1 hA).1
    obtain ⟨c0, c1, c2, -⟩ := blk3 hA
    have HR := Lib.hid (And.intro hRow (And.intro hA (And.intro hB (And.intro hO (And.intro hU (And.intro hlen2 hF))))))
    have hlen' : (acc.length : Int) ≤ 1001 := by omega
    clear hRow hA hB hO hU hF H1 hlen2
    obtain ⟨f', rfl⟩ : ∃ f', f = f' + 1 := ⟨f - 1, by have := HR.out.2.2.2.2.1; omega⟩
    have hFF := HR.out.2.2.2.2.2.2
    simp only [reachF] at hFF
    by_cases ha : a = 0
    · rw [if_pos ha] at hFF
      have ha' : (a != 0) = false := by simp [ha]
      have HF := Lib.hid hFF
      clear hFF ha
      go_wp2
      go_ret2
      have e := HF.out
      simp only [Prod.mk.injEq] at e
      obtain ⟨rfl, rfl⟩ := e
      exact ⟨_, rfl, HR.out.1, HR.out.2.2.1⟩
    · have ha' : (a != 0) = true := by simp [ha]
      rw [if_neg ha] at hFF
      by_cases h1 : a < 0 ∨ 1000 < a
      · rw [if_pos h1] at hFF
        have HF := Lib.hid hFF
        clear hFF ha
        rcases h1 with h1 | h1
        all_goals
          go_wp2
          go_ret2
          have e := HF.out
          simp only [Prod.mk.injEq] at e
          obtain ⟨rfl, rfl⟩ := e
          exact ⟨_, rfl, IRow.nil _, HR.out.2.2.1⟩
      · rw [if_neg h1] at hFF
        have h2 : 0 ≤ a := by omega
        have h3 : a ≤ 1000 := by omega
        clear h1 ha
        have hv : RVal wr (.agg #[.int .i64 N, .slice ao0 xs.length cap0, .int .i64 st]) q N xs st := H.out.1.below HR.out.2.2.1
        have HF := Lib.hid hFF
        clear hFF
        go_wp2_with fail
        refine (rSee_f hv hl a).mono ?_
        rintro e w2 ⟨rfl, hb2⟩
        simp only [recV]
        obtain ⟨y0, hy0⟩ : ∃ y, recAt xs a 0 = y := ⟨_, rfl⟩
        rw [hy0]
        obtain ⟨y1, hy1⟩ : ∃ y, recAt xs a 1 = y := ⟨_, rfl⟩
        rw [hy1]
        obtain ⟨y2, hy2⟩ : ∃ y, recAt xs a 2 = y := ⟨_, rfl⟩
        rw [hy2]
        obtain ⟨y3, hy3⟩ : ∃ y, recAt xs a 3 = y := ⟨_, rfl⟩
        rw [hy3]
        obtain ⟨y4, hy4⟩ : ∃ y, recAt xs a 4 = y := ⟨_, rfl⟩
        rw [hy4]
        have HY := Lib.hid hy3
        clear hy0 hy1 hy2 hy3 hy4
        have A2 := (hb2.block w.heap.size z0).trans HR.out.2.1
        have HV := Lib.hid hv
        have H2 := Lib.hid (And.intro hb2 A2)
        clear hv hb2 A2 c0 c1 c2
        cases hn : nthIs xs.length a
        · have HN := Lib.hid hn
          have hFF := HF.out
          rw [if_pos hn] at hFF
          have HG := Lib.hid hFF
          clear hn hFF
          go_wp2
          go_ret2
          have e := HG.out
          simp only [Prod.mk.injEq] at e
          obtain ⟨rfl, rfl⟩ := e
          exact ⟨_, rfl, IRow.nil _, Below.trans HR.out.2.2.1 (Below.mono (by first | exact H2.out.1 | exact H2.out.1.alloc H2.out.1.size _) HR.out.2.2.1.size)⟩
        · have hFF := HF.out
          rw [if_neg (by rw [hn]; decide)] at hFF
          have HG := Lib.hid (And.intro hn hFF)
          clear hn hFF
          have hr2 := HR.out.1.below H2.out.1
          have HQ := Lib.hid hr2
          clear hr2
          have AR : Below w2.heap.size w2 (w2.alloc (.cells #[.int .i64 y0, .int .i64 y1, .int .i64 y2, .int .i64 y3, .int .i64 y4] 73)) := by go_grown
          go_wp2_with fail
          refine (Place_any _ acc a _ ((IRow.slx HQ.out).below (by go_grown)) (by omega)).mono ?_
          rintro e w' ⟨rfl, rfl⟩
          by_cases hm : a ∈ acc
          · have hp : 0 ≤ placeOf acc a := (placeOf_mem acc a).2 hm
            have hFF := HG.out.2
            rw [if_pos hm] at hFF
            have HE := Lib.hid hFF
            clear hFF hm
            go_wp2
            go_ret2
            have e := HE.out
            simp only [Prod.mk.injEq] at e
            obtain ⟨rfl, rfl⟩ := e
            exact ⟨_, rfl, IRow.nil _, HR.out.2.2.1.trans ((H2.out.1.trans (AR.mono H2.out.1.size)).mono HR.out.2.2.1.size)⟩
          · have hp : placeOf acc a < 0 := by
              have := (placeOf_mem acc a)
              exact Int.not_le.1 (fun h => hm (this.1 h))
            have hFF := HG.out.2
            rw [if_neg hm, HY.out] at hFF
            have HE := Lib.hid (And.intro hFF hm)
            clear hFF hm
            have U : ∀ u : World, Below w2.heap.size w2 u → u.ownsRow 0 3 1 (.slice ao acc.length cap) acc.length (acc.map (Value.int .i64)) := fun u hu => HQ.out.below hu
            have HU := Lib.hid U
            clear U
            go_wp2_with (at_builtin; refine wpList_append_rows _ rfl _ _ 24 rfl 0 0 3 i0 (.int .i64 0) 1 8 Try.underlying24 hi hz0 hz1 hz2 rfl (by decide) _ _ _ rfl (HU.out _ (by go_grown)) _ 1 _ rfl (irow_lit (vs := [a]) (alloc2_heap1 _ _ _) rfl (by omega)) (fun v hv => (by obtain ⟨q, _, rfl⟩ := List.mem_map.1 hv; rfl)) ?c3 ?c4 ?c5 ?_)
            try case c3 => unfold maxLen; omega
            try case c4 => omega
            try case c5 => exact Nat.zero_le _
            intro v5 w5 own5 gr5 _ loc5
            have R5 : IRow w5 v5 (acc ++ [a]) := IRow.of own5 (by simp) (by simp)
            obtain ⟨ao5, cap5, rfl⟩ := R5.shape
            have hl5 : (acc ++ [a]).length = acc.length + 1 := by simp
            rw [hl5] at R5
            try rw [hl5] at loc5
            try rw [hl5]
            have K5 : Kept (fun k => (Value.slice ao acc.length cap).ownBlock = some k) w2 w5 := (((Kept.refl _ w2).alloc _).alloc _).grown gr5 (fun k e _ => e)
            have K5b := gr5.block w2.heap.size (by simp; omega) (fun e => by have := HQ.out.lt e.symm; omega)
            have T6 : w5.heap[w2.heap.size]? = some (.cells #[.int .i64 y0, .int .i64 y1, .int .i64 y2, .int .i64 y3, .int .i64 y4] 73 (0, 0)) := K5b.trans (alloc2_heap0 _ _ _)
            have z2 : w.heap.size < w2.heap.size := (Array.getElem?_eq_some_iff.1 H2.out.2).1
            have A5 := (K5.block w.heap.size z2 (fun e => by have := HR.out.2.2.2.1 _ e; omega)).trans H2.out.2
            have z6 : w2.heap.size < w5.heap.size := (Array.getElem?_eq_some_iff.1 T6).1
            have t3 : w5.cell? ⟨w2.heap.size, 3, none⟩ = some (.int .i64 y3) := by simp [World.cell?, T6]
            have O5 : ∀ b, (Value.slice ao5 (acc.length + 1) cap5).ownBlock = some b → w.heap.size < b := fun b e => by
              rcases loc5 with h | h
              · exact HR.out.2.2.2.1 b (h ▸ e)
              · rw [e] at h; simp at h; omega
            have B5 : Below w.heap.size w w5 := HR.out.2.2.1.trans ((H2.out.1.mono HR.out.2.2.1.size).trans (K5.below (by omega) (fun k hk e => by have := HR.out.2.2.2.1 k e; omega)))
            have HZ := Lib.hid (And.intro R5 (And.intro A5 (And.intro B5 O5)))
            clear own5 gr5 loc5 R5 K5 K5b T6 A5 O5 B5 hl5 hp
            go_wp2
            go_roundw
            case rel =>
              have hu := unseen_lt h2 h3 HE.out.2
              have hh := HR.out.2.2.2.2.1
              have hk := HR.out.2.2.2.2.2.1
              exact ⟨f', acc ++ [a], y3, ao5, cap5, by rw [List.length_append]; rfl, rfl, by rw [List.length_append]; exact HZ.out.1, HZ.out.2.1, HZ.out.2.2.1, by rw [List.length_append]; exact HZ.out.2.2.2, by omega, by rw [List.length_append]; simp; omega, by rw [List.length_append]; simp; omega, HE.out.1⟩
            case measure => have hu := unseen_lt h2 h3 HE.out.2; have hk := HR.out.2.2.2.2.2.1; simp [lenOf]; omega

end Go.Proofs.Ytnpkhkfhlpopbaa
