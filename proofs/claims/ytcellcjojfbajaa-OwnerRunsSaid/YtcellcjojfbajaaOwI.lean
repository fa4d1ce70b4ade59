/- Who asks already, and begins: his batch is new; a step of who does not ask; cells that are the same. -/
import Derived.Test.YtcellcjojfbajaaOw
import Derived.Test.YtcellcjojfbajaaOwBg
import Derived.Test.YtcellcjojfbajaaRecMem
import Derived.Deep.QuietTactic
import Derived.BigQuiet
namespace Go.Proofs.Ytcellcjojfbajaa
set_option linter.unusedSimpArgs false
set_option linter.unusedVariables false
open Go.RowKit
open Go.ChangeShapes Go.WideShapes Go.ChangeAt

set_option maxRecDepth 100000 in
set_option maxHeartbeats 8000000 in
theorem oBegin_ao (w : World) (i0 i1 i2 i3 i4 i5 i6 i7 i8 i9 i10 i11 k v : Int) (bt : Value) (n : Nat) (F : Nat → Int) (hI : Its w bt n F) (hn : n ≤ 1000000) (k1 : 0 ≤ k) (k2 : k ≤ 255) (v1 : -2147483648 ≤ v) (v2 : v ≤ 2147483647) (h1 : (i1 != 0) = true) :
    Calls Try.prog 11 #[.agg #[.int .i64 i0, .int .i64 i1, .int .i64 i2, .int .i64 i3, .int .i64 i4, .int .i64 i5, .int .i64 i6, .int .i64 i7, .int .i64 i8, .int .i64 i9, .int .i64 i10, .int .i64 i11, bt], .agg #[.int .u8 k, .int .i32 v]] w fun e w' => ∃ bt', e = .returned (.tuple #[.agg #[.int .i64 i0, .int .i64 i1, .int .i64 i2, .int .i64 i3, .int .i64 i4, .int .i64 i5, .int .i64 i6, .int .i64 i7, .int .i64 i8, .int .i64 i9, .int .i64 i10, .int .i64 i11, bt'], .bool false]) ∧ Its w' bt' n F ∧ Below w.heap.size w w' ∧ (∀ k, bt'.ownBlock = some k → w.heap.size ≤ k) := by
  have HI := Lib.hid hI
  obtain ⟨ao, cap, hbt, -⟩ := id hI
  subst hbt
  clear hI
  go_enter Try.func11, Try.ntmps11
  go_wp2_with fail
  refine (cloneItem_own (.slice ao n cap) n F _ (HI.out.below (by go_grown)) hn).mono ?_
  rintro e w1 ⟨bt', rfl, hI1, hb1, ho1⟩
  obtain ⟨ao', cap', hbt', -⟩ := id hI1
  subst hbt'
  have z1 : w.heap.size + 2 < w1.heap.size := by have := hb1.size; first | omega | (simp at this; omega)
  have B5 : w1.heap[w.heap.size]? = some (.cells #[.int .i64 i0, .int .i64 i1, .int .i64 i2, .int .i64 i3, .int .i64 i4, .int .i64 i5, .int .i64 i6, .int .i64 i7, .int .i64 i8, .int .i64 i9, .int .i64 i10, .int .i64 i11, .slice ao n cap] 30 (0, 0)) := (hb1.block w.heap.size (by first | omega | (simp; omega) | (simp; done))).trans (alloc3_heap _ _ _ _).1
  have B6 : w1.heap[w.heap.size + 1]? = some (.cells #[.int .u8 k, .int .i32 v] 23 (0, 0)) := (hb1.block (w.heap.size + 1) (by first | omega | (simp; omega) | (simp; done))).trans (alloc3_heap _ _ _ _).2.1
  have B7 : w1.heap[w.heap.size + 2]? = some (.cells #[.int .i64 0, .int .i64 0, .int .i64 0, .int .i64 0, .int .i64 0, .int .i64 0, .int .i64 0, .int .i64 0, .int .i64 0, .int .i64 0, .int .i64 0, .int .i64 0, .slice none 0 0] 30 (0, 0)) := (hb1.block (w.heap.size + 2) (by first | omega | (simp; omega) | (simp; done))).trans (alloc3_heap _ _ _ _).2.2
  have BW : Below w.heap.size w w1 := Below.trans (by go_grown) (hb1.mono (by first | omega | (simp; omega) | (simp; done)))
  obtain ⟨⟨c0, c1, c2, c3, c4, c5, c6, c7, c8, c9, c10, c11, c12⟩, z0⟩ := blk13 B5
  have f12 := blkF B5 12
  have ho2 : ∀ k, (Value.slice ao' n cap').ownBlock = some k → w.heap.size + 3 ≤ k ∧ k < w1.heap.size := fun k hk => ⟨by have := (ho1 k hk).1; simp at this; omega, (ho1 k hk).2⟩
  have H1 := Lib.hid (And.intro hI1 (And.intro BW (And.intro ho2 (And.intro B5 (And.intro B6 B7)))))
  obtain ⟨⟨d0, d1, d2, d3, d4, d5, d6, d7, d8, d9, d10, d11, d12⟩, -⟩ := blk13 B7
  have fc0 := blkF B7 0; have fc1 := blkF B7 1; have fc2 := blkF B7 2; have fc3 := blkF B7 3; have fc4 := blkF B7 4; have fc5 := blkF B7 5; have fc6 := blkF B7 6; have fc7 := blkF B7 7; have fc8 := blkF B7 8; have fc9 := blkF B7 9; have fc10 := blkF B7 10; have fc11 := blkF B7 11; have fc12 := blkF B7 12
  clear hb1 hI1 BW ho1 ho2 B5 B6 B7
  go_wp2
  generalize hw7 : World.setCell _ _ _ = w7
  have K2 := (Kept.refl (fun k => k = w.heap.size) w1).setCell (p := ⟨w.heap.size, 12, none⟩) (fun _ => rfl) (.slice ao' n cap')
  have E : w7.heap[w.heap.size + 2]? = some (.cells #[.int .i64 i0, .int .i64 i1, .int .i64 i2, .int .i64 i3, .int .i64 i4, .int .i64 i5, .int .i64 i6, .int .i64 i7, .int .i64 i8, .int .i64 i9, .int .i64 i10, .int .i64 i11, .slice ao' n cap'] 30 (0, 0)) ∧ Kept (fun k => k = w.heap.size ∨ k = w.heap.size + 2) w1 w7 := by
    rw [← hw7]
    exact ⟨set13 ((K2.block (w.heap.size + 2) z1 (by omega)).trans H1.out.2.2.2.2.2) rfl, (K2.mono (fun _ _ e => .inl e)).trans ((kept_set13 _ _ _ _ _ _ _ _ _ _ _ _ _ _ _).mono (fun _ _ e => .inr e))⟩
  obtain ⟨E1, KE⟩ := E
  obtain ⟨⟨r0, r1, r2, r3, r4, r5, r6, r7, r8, r9, r10, r11, r12⟩, -⟩ := blk13 E1
  have hW := H1.out.2.1.size
  refine bodyPost_ret (v := .tuple #[.agg #[.int .i64 i0, .int .i64 i1, .int .i64 i2, .int .i64 i3, .int .i64 i4, .int .i64 i5, .int .i64 i6, .int .i64 i7, .int .i64 i8, .int .i64 i9, .int .i64 i10, .int .i64 i11, .slice ao' n cap'], .bool false]) (by simp [results, Try.results11, go_sem, r0, r1, r2, r3, r4, r5, r6, r7, r8, r9, r10, r11, r12]) rfl ⟨_, rfl, ?_, ?_, fun k hk => by have := H1.out.2.2.1 k hk; omega⟩
  · exact H1.out.1.keptB KE (fun k hk e => by have := H1.out.2.2.1 k hk; omega)
  · exact H1.out.2.1.trans (KE.below hW (fun k hk e => by omega))

theorem oStep_no (W0 w : World) (b : Nat) (g : Option Nat) (N st : Int) (xs : List Int) (i0 i1 i2 i3 i4 i5 i6 i7 i8 i9 i10 i11 : Int) (bt : Value) (n : Nat) (F : Nat → Int) (h : MS W0 w b g N xs st) (hI : Its w bt n F) (hn : n ≤ 1000000) (h1 : i1 < 1 ∨ 16 < i1) :
    Calls Try.prog 12 #[.pointer (some ⟨b, 0, none⟩), .agg #[.int .i64 i0, .int .i64 i1, .int .i64 i2, .int .i64 i3, .int .i64 i4, .int .i64 i5, .int .i64 i6, .int .i64 i7, .int .i64 i8, .int .i64 i9, .int .i64 i10, .int .i64 i11, bt]] w fun e w' => ∃ bt', e = .returned (.tuple #[.agg #[.int .i64 i0, .int .i64 i1, .int .i64 i2, .int .i64 i3, .int .i64 i4, .int .i64 i5, .int .i64 i6, .int .i64 i7, .int .i64 i8, .int .i64 i9, .int .i64 i10, .int .i64 i11, bt'], .agg #[.int .u8 0, .int .i32 0], .bool false]) ∧ MS W0 w' b g N xs st ∧ Its w' bt' n F ∧ Kept (Foot b g) w w' := by
  by_cases hlt : i1 < 1
  · exact oStep_noa W0 w b g N st xs i0 i1 i2 i3 i4 i5 i6 i7 i8 i9 i10 i11 bt n F h hI hn hlt
  · exact oStep_noc W0 w b g N st xs i0 i1 i2 i3 i4 i5 i6 i7 i8 i9 i10 i11 bt n F h hI hn (by omega) (by omega)
set_option maxRecDepth 100000 in
set_option maxHeartbeats 1000000 in
theorem Same64_sl (u v : Value) (xs ys : List Int) (w : World) (hu : Sl w u xs) (hv : Sl w v ys) (n1 : xs.length ≤ 1000000) :
    Calls Try.prog 23 #[u, v] w fun e w' => e = .returned (.bool (decide (xs = ys))) ∧ ∃ n, w' = w.drewN n := by
  by_cases hlen : xs.length = ys.length
  · by_cases hz : xs.length = 0
    · obtain rfl : xs = [] := List.eq_nil_of_length_eq_zero hz
      obtain rfl : ys = [] := List.eq_nil_of_length_eq_zero hlen.symm
      obtain ⟨ao, cap, rfl, -⟩ := hu
      obtain ⟨bo, cap', rfl, -⟩ := hv
      simp only [List.length_nil]
      clear hlen hz
      go_enter Try.func23, Try.ntmps23
      go_wp2
      refine wp_loop_rounds 1 ?_
      rw [rounds_succ]
      go_wp2
      go_ret
      exact ⟨rfl, 0, rfl⟩
    · obtain ⟨ao, cap, rfl, hcc⟩ := hu
      obtain ⟨g, og, rfl, hg, hc⟩ := hcc (Nat.pos_of_ne_zero hz)
      obtain ⟨bo, cap', rfl, hcc'⟩ := hv
      obtain ⟨g', og', rfl, hg', hc'⟩ := hcc' (hlen ▸ Nat.pos_of_ne_zero hz)
      rw [← hlen]
      have Hc := Lib.hid (And.intro hc hc')
      have Hl := Lib.hid hlen
      have hpos : 0 < xs.length := Nat.pos_of_ne_zero hz
      clear hc hc' hcc hcc' hg hg' hlen hz
      go_enter Try.func23, Try.ntmps23
      go_wp2
      go_loopw [5] (fun i wr => ∃ k n : Nat, k ≤ xs.length ∧ i = .int .i64 k ∧ xs.take k = ys.take k ∧ wr = w.drewN n) (fun i _ => xs.length - (intOf i).toNat)
      case atStart => exact ⟨0, 0, Nat.zero_le _, rfl, by simp, rfl⟩
      case round =>
        obtain ⟨k, n, hk, rfl, heq, rfl⟩ := hrel
        have Hq := Lib.hid heq
        clear heq
        by_cases hlt : k < xs.length
        · have h1 : w.cell? ⟨g, og + k, none⟩ = some (.int .i64 (xs.getD k 0)) := Hc.out.1 k hlt
          have h2 : w.cell? ⟨g', og' + k, none⟩ = some (.int .i64 (ys.getD k 0)) := Hc.out.2 k (by have := Hl.out; omega)
          obtain ⟨x, hx⟩ : ∃ x, xs.getD k 0 = x := ⟨_, rfl⟩
          obtain ⟨y, hy⟩ : ∃ y, ys.getD k 0 = y := ⟨_, rfl⟩
          rw [hx] at h1
          rw [hy] at h2
          have Hxy := Lib.hid (And.intro hx hy)
          clear hx hy
          have i1 : (0 : Int) ≤ (k : Int) := by omega
          have i2 : (k : Int) < (xs.length : Int) := by omega
          by_cases he : x = y
          · subst he
            go_wp2
            go_quiet (fail)
            go_wp2
            go_roundw
            case rel => exact ⟨k + 1, _, by omega, by go_num, take_step Hq.out hlt (by have := Hl.out; omega) (Hxy.out.1.trans Hxy.out.2.symm), rfl⟩
            case measure => simp [intOf]; omega
          · have he' : (x != y) = true := by rw [bne_iff_ne]; exact he
            go_wp2
            go_quiet (fail)
            go_wp2
            go_ret
            exact ⟨ret_bool (by symm; rw [decide_eq_false_iff_not]; rintro rfl; exact he (Hxy.out.1.symm.trans Hxy.out.2)), _, World.drewN_drewN ..⟩
        · obtain rfl : k = xs.length := by omega
          go_wp2
          go_ret
          exact ⟨ret_bool (by symm; rw [decide_eq_true_iff]; have h5 := Hq.out; rw [List.take_of_length_le (Nat.le_refl _), List.take_of_length_le (by have := Hl.out; omega)] at h5; exact h5), n, rfl⟩
  · obtain ⟨ao, cap, rfl, -⟩ := hu
    obtain ⟨bo, cap', rfl, -⟩ := hv
    have h5 : ((xs.length : Int) != (ys.length : Int)) = true := by rw [bne_iff_ne]; omega
    have Hl := Lib.hid hlen
    clear hlen
    go_enter Try.func23, Try.ntmps23
    go_wp2
    go_ret
    exact ⟨ret_bool (by symm; rw [decide_eq_false_iff_not]; rintro rfl; exact Hl.out rfl), 0, rfl⟩

theorem Same64_slf (u v : Value) (xs : List Int) (w : World) (hu : Sl w u xs) (hv : Sl w v xs) (n1 : xs.length ≤ 1000000) : Calls Try.prog 23 #[u, v] w fun e w' => e = .returned (.bool true) ∧ Below w.heap.size w w' :=
  (Same64_sl u v xs xs w hu hv n1).mono fun e w' ⟨h1, n, h2⟩ => ⟨by rw [h1, decide_eq_true rfl], h2 ▸ below_drewN (Below.refl _ _) n⟩

end Go.Proofs.Ytcellcjojfbajaa
