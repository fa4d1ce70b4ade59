/- Of package list: a cell of a view; all records; and the library's Index and Contains. -/
import Derived.Test.YtnpkhkfhlpopbaaLookA
import Derived.Test.YtnpkhkfhlpopbaaPlain14
import Derived.Test.YtnpkhkfhlpopbaaRef14A
namespace Go.Proofs.Ytnpkhkfhlpopbaa
set_option linter.unusedSimpArgs false
set_option linter.unusedVariables false
open Go.RowKit
open Go.ChangeShapes Go.WideShapes Go.ChangeAt

theorem Index_any (v : Value) (xs : List Int) (n : Int) (w : World) (h : Sl w v xs) (hn : xs.length ≤ 1000000) :
    Calls Try.prog 56 #[v, .int .i64 n] w fun e w' => e = .returned (.int .i64 (placeOf xs n)) ∧ w = w' := by
  obtain ⟨ao, cap, rfl, hc⟩ := h
  have HC := Lib.hid hc
  have hn' : (xs.length : Int) ≤ 1000000 := by omega
  clear hc
  go_enter Try.func56, Try.ntmps56
  go_wp2
  go_loopw [8] (fun i wr => ∃ k : Nat, k ≤ xs.length ∧ i = .int .i64 k ∧ wr = w ∧ ∀ q, q < k → xs.getD q 0 ≠ n) (fun i _ => xs.length - (intOf i).toNat)
  case atStart => exact ⟨0, Nat.zero_le _, rfl, rfl, fun q hq => by omega⟩
  case round =>
    obtain ⟨k, hk, rfl, rfl, hne⟩ := hrel
    have HN := Lib.hid hne
    have zk : (0 : Int) ≤ (k : Int) := by omega
    clear hne
    by_cases hlt : k < xs.length
    · have hlt' : (k : Int) < (xs.length : Int) := by omega
      obtain ⟨b, off, rfl, hb, hcc⟩ := HC.out (by omega)
      have hx := hcc k hlt
      obtain ⟨x, hxx⟩ : ∃ x, xs.getD k 0 = x := ⟨_, rfl⟩
      rw [hxx] at hx
      have HX := Lib.hid hxx
      clear hcc hxx
      by_cases he : x = n
      · have he' : (n == x) = true := beq_iff_eq.2 he.symm
        have HE := Lib.hid he
        clear he
        go_wp2
        go_ret
        exact ⟨by rw [placeOf_at HN.out hlt (HX.out.trans HE.out)]; rfl, rfl⟩
      · have he' : (n == x) = false := beq_eq_false_iff_ne.2 (fun e => he e.symm)
        have HE := Lib.hid he
        clear he
        go_wp2
        go_roundw
        case rel => exact ⟨k + 1, by omega, by go_num, by first | rfl | trivial, fun q hq => by
          by_cases hqk : q = k
          · subst hqk; exact fun e => HE.out (HX.out.symm.trans e)
          · exact HN.out q (by omega)⟩
        case measure => simp [intOf]; omega
    · obtain rfl : k = xs.length := by omega
      have HP := Lib.hid (placeOf_no HN.out)
      go_wp2
      go_ret
      exact ⟨by rw [HP.out]; rfl, rfl⟩
theorem Contains_any (v : Value) (xs : List Int) (n : Int) (w : World) (h : Sl w v xs) (hn : xs.length ≤ 1000000) :
    Calls Try.prog 36 #[v, .int .i64 n] w fun e w' => e = .returned (.bool (decide (n ∈ xs))) ∧ w = w' := by
  have H := Lib.hid h
  have hm := placeOf_mem xs n
  obtain ⟨ao, cap, rfl, -⟩ := h
  obtain ⟨p, hp⟩ : ∃ p, placeOf xs n = p := ⟨_, rfl⟩
  rw [hp] at hm
  have HP := Lib.hid hp
  have HM := Lib.hid hm
  clear hp hm
  go_enter Try.func36, Try.ntmps36
  go_wp2_with fail
  refine (Index_any _ xs n _ H.out hn).mono ?_
  rintro e w' ⟨rfl, rfl⟩
  rw [HP.out]
  go_wp2
  go_ret
  exact ⟨ret_bool (by rw [Bool.eq_iff_iff]; simpa using HM.out), rfl⟩
set_option maxRecDepth 100000 in
theorem at_f (v : Value) (X : List Int) (m : Value) (a : Int) (w : World) (h : Sl w v X) (hl : X.length ≤ 1000) (h0 : 0 ≤ a) (h1 : a ≤ 1000) :
    Calls Try.prog 43 #[.agg #[v, m], .int .i64 a] w fun e w' => e = .returned (.int .i64 (cellAt X a)) ∧ Below w.heap.size w w' := by
  obtain ⟨ao, cap, rfl, hc⟩ := h
  have hl' : (X.length : Int) ≤ 1000 := by omega
  by_cases ha : a < (X.length : Int)
  · obtain ⟨b, off, rfl, hb, hcc⟩ := hc (by omega)
    have hx := hcc a.toNat (by omega)
    rw [show cellAt X a = X.getD a.toNat 0 from if_pos ⟨h0, ha⟩]
    obtain ⟨x, hxx⟩ : ∃ x, X.getD a.toNat 0 = x := ⟨_, rfl⟩
    rw [hxx] at hx ⊢
    have hb' : b < w.heap.size + 1 := by omega
    have hne : ¬ b = w.heap.size := by omega
    clear hcc hxx hc
    go_enter Try.func43, Try.ntmps43
    go_wp2
    go_ret
    exact ⟨rfl, by go_grown⟩
  · rw [show cellAt X a = 0 from if_neg (by omega)]
    have ha' : (X.length : Int) ≤ a := by omega
    clear hc
    go_enter Try.func43, Try.ntmps43
    go_wp2
    go_ret
    exact ⟨rfl, by go_grown⟩
theorem Try.infoIntL : (Try.prog.info? 3).map (fun i => (i.zero, i.size, i.bytes)) = some (some (.int .i64 0), 1, 8) := by kernel_rfl

set_option maxRecDepth 100000 in
set_option maxHeartbeats 4000000 in
theorem Records_f (W0 w : World) (b : Nat) (g : Option Nat) (N st : Int) (xs : List Int) (h : MS W0 w b g N xs st) :
    Calls Try.prog 19 #[.pointer (some ⟨b, 0, none⟩)] w fun e w' => ∃ ao cap, e = .returned (.slice ao (recsL xs.length).length cap) ∧ IRow w' (.slice ao (recsL xs.length).length cap) (recsL xs.length) ∧ (∀ k, (Value.slice ao (recsL xs.length).length cap).ownBlock = some k → w.heap.size ≤ k) ∧ Below w.heap.size w w' := by
  obtain ⟨i0, hi, hz0, hz1, hz2⟩ := info_parts Try.infoIntL
  have hl := h.len
  have H := Lib.hid h
  obtain ⟨M, hM⟩ : ∃ M : Nat, manyOf xs.length = (M : Int) := ⟨(manyOf xs.length).toNat, by have := manyOf_rng hl; omega⟩
  have hM2 : M ≤ 199 := by have := manyOf_rng hl; omega
  have HM := Lib.hid (And.intro hM (show recsL xs.length = recsK M from by unfold recsL recsK; rw [hM, Int.toNat_natCast]))
  clear h hM
  go_enter Try.func19, Try.ntmps19
  go_wp2_with fail
  refine (Many_ms H.out).mono ?_
  rintro e w1 ⟨rfl, -, hb1⟩
  rw [HM.out.1]
  have HB1 := Lib.hid hb1
  have zw : w.heap.size ≤ w1.heap.size := hb1.size
  clear hb1
  go_wp2_with fail
  go_loopw [3, 7] (fun l k wr => ∃ (i : Nat) (ao : Option Addr) (cap : Nat), i ≤ M ∧ l = .slice ao i cap ∧ k = .int .i64 i ∧ IRow wr (.slice ao i cap) (recsK i) ∧ Below w1.heap.size w1 wr ∧ (∀ b, (Value.slice ao i cap).ownBlock = some b → w1.heap.size ≤ b)) (fun _ k _ => M - (intOf k).toNat)
  case atStart => exact ⟨0, none, 0, Nat.zero_le _, rfl, rfl, IRow.nil _, Below.refl _ _, fun b e => (by cases e)⟩
  case round =>
    obtain ⟨i, ao, cap, hiM, rfl, rfl, hRow, hB, hO⟩ := hrel
    have HR := Lib.hid (And.intro hRow (And.intro hB hO))
    have hi199 : (i : Int) ≤ 199 := by omega
    have hi0 : (0 : Int) ≤ (i : Int) := by omega
    clear hRow hB hO
    by_cases hlt : i < M
    · have hlt' : (i : Int) < (M : Int) := by omega
      have U : ∀ u : World, Below wr.heap.size wr u → u.ownsRow 0 3 1 (.slice ao i cap) i ((recsK i).map (Value.int .i64)) := fun u hu => by
        have := HR.out.1.below hu
        unfold IRow at this
        rwa [recsK_len] at this
      have HU := Lib.hid U
      clear U
      go_wp2_with fail
      refine (Base_in _ _ (by omega) (by omega)).mono ?_
      rintro e w' ⟨rfl, rfl⟩
      go_wp2_with (at_builtin; refine wpList_append_rows _ rfl _ _ 24 rfl 0 0 3 i0 (.int .i64 0) 1 8 Try.underlying24 hi hz0 hz1 hz2 rfl (by decide) _ _ _ rfl (HU.out _ (by go_grown)) _ 1 _ rfl (irow_lit (vs := [3 + 5 * (i : Int)]) (heap_alloc_new _ _) rfl (by omega)) (fun v hv => (by obtain ⟨q, _, rfl⟩ := List.mem_map.1 hv; rfl)) ?c3 ?c4 ?c5 ?_)
      try case c3 => unfold maxLen; omega
      try case c4 => omega
      try case c5 => exact Nat.zero_le _
      intro v5 w5 own5 gr5 _ loc5
      have R5 : IRow w5 v5 (recsK (i + 1)) := IRow.of own5 (by rw [recsK_len]) (by rw [recsK_succ]; simp)
      have hl5 : (recsK (i + 1)).length = i + 1 := recsK_len _
      obtain ⟨ao5, cap5, rfl⟩ := R5.shape
      rw [hl5] at R5
      try rw [hl5] at loc5
      try rw [hl5]
      have K5 : Kept (fun k => (Value.slice ao i cap).ownBlock = some k) wr w5 := (((Kept.refl _ wr).alloc _)).grown gr5 (fun k e _ => e)
      have O5 : ∀ b, (Value.slice ao5 (i + 1) cap5).ownBlock = some b → w1.heap.size ≤ b := fun b e => by
        rcases loc5 with h | h
        · exact HR.out.2.2 b (h ▸ e)
        · rw [e] at h; have := HR.out.2.1.size; simp at h; omega
      have B5 : Below w1.heap.size w1 w5 := HR.out.2.1.trans (K5.below HR.out.2.1.size (fun k hk e => by have := HR.out.2.2 k e; omega))
      have HZ := Lib.hid (And.intro R5 (And.intro B5 O5))
      clear own5 gr5 loc5 R5 K5 O5 B5 hl5
      go_wp2
      go_roundw
      case rel => exact ⟨i + 1, ao5, cap5, by omega, rfl, by go_num, HZ.out.1, HZ.out.2.1, HZ.out.2.2⟩
      case measure => simp [intOf]; omega
    · obtain rfl : i = M := by omega
      go_wp2
      go_ret
      rw [HM.out.2, recsK_len]
      exact ⟨ao, cap, rfl, HR.out.1, fun k e => by have := HR.out.2.2 k e; omega, HB1.out.trans (HR.out.2.1.mono HB1.out.size)⟩

end Go.Proofs.Ytnpkhkfhlpopbaa
