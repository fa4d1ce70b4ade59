/- One round of the loop that lays the order of records. -/
import Derived.Test.YtnpkhkfhlpopbaaChainP
import Derived.Test.YtnpkhkfhlpopbaaSlices
import Derived.Deep.OwnRows
namespace Go.Proofs.Ytnpkhkfhlpopbaa
set_option linter.unusedSimpArgs false
set_option linter.unusedVariables false
open Go.RowKit
open Go.ChangeShapes Go.WideShapes Go.ChangeAt Go.Deep

theorem Try.infoInt : (Try.prog.info? 3).map (fun i => (i.zero, i.size, i.bytes)) = some (some (.int .i64 0), 1, 8) := by kernel_rfl

set_option maxRecDepth 100000 in
set_option maxHeartbeats 8000000 in
theorem Chain_f (c : Value) (cs : List Int) (many : Int) (w : World) (n M : Nat) (hc : InSlice .u8 w c cs) (hm0 : 0 ≤ many) (hm1 : many ≤ 100) (hN : nOf cs = n) (hM : many = M) :
    Calls Try.prog 9 #[c, .int .i64 many] w fun e w' => ∃ v1 v2, e = .returned (.tuple #[v1, v2]) ∧ Row w' v1 (layN cs ((ord cs n).take (min M n)) ((List.replicate (3 + 5 * n) 0).set 2 50) (min M n)) ∧ IRow w' v2 ((ord cs n).take (min M n)) ∧ Below w.heap.size w w' ∧ (∀ k, v1.ownBlock = some k → w.heap.size ≤ k) := by
  obtain ⟨i0, hi, hz0, hz1, hz2⟩ := info_parts Try.infoInt
  have h0 := hc
  obtain ⟨bo, cap0, rfl, hwf, hmax, hcells⟩ := hc
  have hn9 := nOf_rng cs
  rw [hN] at hn9
  have HC := Lib.hid (And.intro h0 (And.intro hwf (And.intro hcells hN)))
  subst hM
  obtain ⟨hn1, hn2⟩ := hn9
  have hn1' : (1 : Int) ≤ (n : Int) := by omega
  have hn2' : (n : Int) ≤ 9 := by omega
  clear h0 hwf hcells hN
  by_cases hp : 0 < cs.length
  · obtain ⟨cb, off, rfl, hcb, hx⟩ := HC.out.2.2.1 hp
    have hx0 : w.cell? ⟨cb, off, none⟩ = some (.int .u8 (cs.getD 0 0)) := hx 0 hp
    have hr0 := bounds_u8 (wf_getD HC.out.2.1 0 hp)
    have hnn : 1 + (cs.getD 0 0) % 9 = (n : Int) := by have := HC.out.2.2.2; unfold nOf at this; rw [if_pos hp] at this; omega
    obtain ⟨c0, hc0⟩ : ∃ x, cs.getD 0 0 = x := ⟨_, rfl⟩
    rw [hc0] at hx0 hr0 hnn
    obtain ⟨hr1, hr2⟩ := hr0
    have hp' : (0 : Int) < (cs.length : Int) := by omega
    clear hc0 hx
    go_enter Try.func9, Try.ntmps9
    go_wp2
    go_loopw [7, 8] (fun o k wr => ∃ (i : Nat) (ao : Option Addr) (cap : Nat), i ≤ n ∧ k = .int .i64 i ∧ o = .slice ao i cap ∧ IRow wr (.slice ao i cap) (ord cs i) ∧ Below w.heap.size w wr ∧ (∀ b, (Value.slice ao i cap).ownBlock = some b → w.heap.size ≤ b) ∧ (i = 0 → ao = none ∧ cap = 0)) (fun _ k _ => n - (intOf k).toNat)
    case atStart => exact ⟨0, none, 0, by omega, rfl, rfl, IRow.nil _, Below.refl _ _, fun b e => (by cases e), fun _ => ⟨rfl, rfl⟩⟩
    case round =>
      obtain ⟨i, ao, cap, hi1, rfl, rfl, hR, hB, hO, h00⟩ := hrel
      have HR := Lib.hid (And.intro hR (And.intro hB (And.intro hO h00)))
      have zi : (0 : Int) ≤ (i : Int) := by omega
      have hi9 : (i : Int) ≤ 9 := by omega
      clear hR hB hO h00
      by_cases hlt : i < n
      · have hlt' : (i : Int) < (n : Int) := by omega
        by_cases hk : i < cs.length
        · by_cases hz : i = 0
          · have hk' : (i : Int) < (cs.length : Int) := by omega
            obtain ⟨cb', off', e1, -, hx⟩ := HC.out.2.2.1 (by omega)
            cases e1
            have hxi : wr.cell? ⟨cb, off + i, none⟩ = some (.int .u8 (cs.getD i 0)) := (HR.out.2.1.cell (p := ⟨cb, off + i, none⟩) hcb).trans (hx i hk)
            have hri := bounds_u8 (wf_getD HC.out.2.1 i hk)
            have hA : (cs.getD i 0) % ((i : Int) + 1) = (cAt cs i : Int) := by
              unfold cAt
              rw [if_pos hk]
              obtain ⟨z, hz⟩ := Int.eq_ofNat_of_zero_le hri.1
              rw [hz]; simp
            have hle := cAt_le cs i
            obtain ⟨A, hAA⟩ : ∃ A, cAt cs i = A := ⟨_, rfl⟩
            rw [hAA] at hA hle
            obtain ⟨x, hxx⟩ : ∃ x, cs.getD i 0 = x := ⟨_, rfl⟩
            rw [hxx] at hxi hri hA
            obtain ⟨hri1, hri2⟩ := hri
            have HA := Lib.hid hAA
            clear hxx hx hAA
            obtain rfl : i = 0 := hz
            obtain rfl : A = 0 := by omega
            have hx1 : wr.cell? ⟨cb, off, none⟩ = some (.int .u8 x) := hxi
            clear hA hxi
            obtain ⟨e8, e9⟩ := HR.out.2.2.2 rfl
            subst e8 e9
            go_wp2_with (at_builtin; refine wpList_append_rows _ rfl _ _ 24 rfl 0 0 3 i0 (.int .i64 0) 1 8 Try.underlying24 hi hz0 hz1 hz2 rfl (by decide) _ _ _ rfl (World.ownsRow_nil _ 0 3 1) _ 1 _ rfl (irow_lit (vs := [3]) (heap_alloc_new _ _) rfl (by omega)) (fun v hv => (by obtain ⟨q, _, rfl⟩ := List.mem_map.1 hv; rfl)) ?d3x1 ?d4x1 ?d5x1 ?_)
            try case d3x1 => unfold maxLen; omega
            try case d4x1 => omega
            try case d5x1 => exact Nat.zero_le _
            intro v2 w3 own2 gr2 _ loc2
            have R2 : IRow w3 v2 [3] := IRow.of own2 (by simp) (by simp)
            obtain ⟨ao2, cap2, rfl⟩ := R2.shape
            try simp only [List.length_cons, List.length_nil, Nat.zero_add] at R2 loc2 gr2 ⊢
            have B2 : Below wr.heap.size wr w3 := ((Below.refl _ wr).alloc (Nat.le_refl _) _).grown gr2 (by simp) (fun k hk => by cases hk)
            have O2 : ∀ b, (Value.slice ao2 1 cap2).ownBlock = some b → wr.heap.size ≤ b := fun b e => by
              rcases loc2 with h | h
              · rw [h] at e; cases e
              · rw [e] at h; simp at h; omega
            have H2 := Lib.hid (And.intro R2 (And.intro B2 (And.intro O2 (rfl : ([3] : List Int).length = 0 + 1))))
            clear own2 gr2 loc2 R2 B2 O2
            go_wp2_with (at_builtin; refine wpList_append_rows _ rfl _ _ 24 rfl 0 0 3 i0 (.int .i64 0) 1 8 Try.underlying24 hi hz0 hz1 hz2 rfl (by decide) _ _ _ rfl H2.out.1 _ 0 _ rfl (World.ownsRow_nil _ 0 3 1) (fun v hv => by cases hv) ?e3x1 ?e4x1 ?e5x1 ?_)
            case e3x1 => have := H2.out.2.2.2; unfold maxLen; omega
            try case e4x1 => have := H2.out.2.2.2; omega
            try case e5x1 => exact Nat.zero_le _
            intro v3 w4 own3 gr3 _ loc3
            have R3 : IRow w4 v3 (ord cs (0 + 1)) := by
              have e : ord cs (0 + 1) = [3] ++ [] := by simp [ord]
              rw [e]
              exact IRow.of own3 (by first | (simp; done) | (rw [List.length_append, H2.out.2.2.2, List.length_nil]; omega)) (by simp)
            obtain ⟨ao3, cap3, rfl⟩ := R3.shape
            rw [ord_len] at R3
            try rw [ord_len] at loc3
            try rw [ord_len]
            have B3 : Below wr.heap.size wr w4 := H2.out.2.1.grown gr3 H2.out.2.1.size (fun k hk => H2.out.2.2.1 k hk)
            have O3 : ∀ b, (Value.slice ao3 (0 + 1) cap3).ownBlock = some b → w.heap.size ≤ b := fun b e => by
              have hw := HR.out.2.1.size
              rcases loc3 with h | h
              · have := H2.out.2.2.1 b (h ▸ e); omega
              · rw [e] at h; have := H2.out.2.1.size; simp at h; omega
            have H3 := Lib.hid (And.intro R3 (And.intro (HR.out.2.1.trans (B3.mono HR.out.2.1.size)) O3))
            clear own3 gr3 loc3 R3 B3 O3
            go_wp2
            go_roundw
            case rel => exact ⟨0 + 1, ao3, cap3, by omega, by first | rfl | go_num, rfl, H3.out.1, H3.out.2.1, H3.out.2.2, fun e => by omega⟩
            case measure => first | (simp [intOf]; done) | (simp [intOf]; omega)
          · by_cases hfull : cAt cs i = i ∧ cap = i
            · have hk' : (i : Int) < (cs.length : Int) := by omega
              obtain ⟨cb', off', e1, -, hx⟩ := HC.out.2.2.1 (by omega)
              cases e1
              have hxi : wr.cell? ⟨cb, off + i, none⟩ = some (.int .u8 (cs.getD i 0)) := (HR.out.2.1.cell (p := ⟨cb, off + i, none⟩) hcb).trans (hx i hk)
              have hri := bounds_u8 (wf_getD HC.out.2.1 i hk)
              have hA : (cs.getD i 0) % ((i : Int) + 1) = (cAt cs i : Int) := by
                unfold cAt
                rw [if_pos hk]
                obtain ⟨z, hz⟩ := Int.eq_ofNat_of_zero_le hri.1
                rw [hz]; simp
              have hle := cAt_le cs i
              obtain ⟨A, hAA⟩ : ∃ A, cAt cs i = A := ⟨_, rfl⟩
              rw [hAA] at hA hle
              obtain ⟨x, hxx⟩ : ∃ x, cs.getD i 0 = x := ⟨_, rfl⟩
              rw [hxx] at hxi hri hA
              obtain ⟨hri1, hri2⟩ := hri
              have HA := Lib.hid hAA
              clear hxx hx hAA
              obtain ⟨g, cap', cur, e2, hg⟩ := HR.out.1.pos (by rw [ord_len]; omega)
              rw [ord_len] at e2
              cases e2
              have hlA : (i : Int) ≤ (i : Int) := by omega
              have hcap : i ≤ cap := by have := hg.2.2.1; rw [ord_len] at this; exact this
              obtain rfl : i = A := (HA.out.symm.trans hfull.1).symm
              obtain rfl : i = cap := hfull.2.symm
              have hlc : (i : Int) ≤ (i : Int) := by omega
              skip
              skip
              skip
              have hic : (i : Int) ≤ (i : Int) := by omega
              have U1 : ∀ u : World, Below wr.heap.size wr u → u.ownsRow 0 3 1 (.slice (some ⟨g, 0, none⟩) i i) i (((ord cs i).take i).map (Value.int .i64)) := fun u hu => by
                have := ((HR.out.1.below hu).take (A := i) (by rw [ord_len]; omega))
                unfold IRow at this
                rwa [List.length_take, ord_len, Nat.min_eq_left (by omega)] at this
              have HU := Lib.hid U1
              clear U1 hg
              go_wp2_with (at_builtin; refine wpList_append_rows _ rfl _ _ 24 rfl 0 0 3 i0 (.int .i64 0) 1 8 Try.underlying24 hi hz0 hz1 hz2 rfl (by decide) _ _ _ rfl (World.ownsRow_nil _ 0 3 1) _ i _ rfl (HU.out _ (by go_grown)) (fun v hv => (by obtain ⟨q, _, rfl⟩ := List.mem_map.1 hv; rfl)) ?c3x2 ?c4x2 ?c5x2 ?_)
              try case c3x2 => unfold maxLen; omega
              try case c4x2 => omega
              try case c5x2 => exact Nat.zero_le _
              intro v1 w2 own1 gr1 _ loc1
              have R1 : IRow w2 v1 ((ord cs i).take i) := IRow.of own1 (by rw [List.length_take, ord_len]; omega) (by simp)
              obtain ⟨ao1, cap1, rfl⟩ := R1.shape
              have hl1 : ((ord cs i).take i).length = i := by rw [List.length_take, ord_len]; omega
              rw [hl1] at R1
              try rw [hl1] at loc1
              try rw [hl1] at gr1
              try rw [hl1]
              have B1 : Below wr.heap.size wr w2 := (Below.refl _ _).grown gr1 (Nat.le_refl _) (fun k hk => by cases hk)
              have O1 : ∀ b, (Value.slice ao1 i cap1).ownBlock = some b → wr.heap.size ≤ b := fun b e => by
                rcases loc1 with h | h
                · rw [h] at e; cases e
                · rw [h] at e; cases e; exact Nat.le_refl _
              have H1 := Lib.hid (And.intro R1 (And.intro B1 (And.intro O1 hl1)))
              clear own1 gr1 loc1 R1 B1 O1 hl1
              go_wp2_with (at_builtin; refine wpList_append_rows _ rfl _ _ 24 rfl 0 0 3 i0 (.int .i64 0) 1 8 Try.underlying24 hi hz0 hz1 hz2 rfl (by decide) _ _ _ rfl (H1.out.1.alloc _) _ 1 _ rfl (irow_lit (vs := [3 + 5 * (i : Int)]) (heap_alloc_new _ _) rfl (by omega)) (fun v hv => (by obtain ⟨q, _, rfl⟩ := List.mem_map.1 hv; rfl)) ?d3x2 ?d4x2 ?d5x2 ?_)
              try case d3x2 => have := H1.out.2.2.2; unfold maxLen; omega
              try case d4x2 => have := H1.out.2.2.2; omega
              try case d5x2 => exact Nat.zero_le _
              intro v2 w3 own2 gr2 _ loc2
              have R2 : IRow w3 v2 (((ord cs i).take i) ++ [3 + 5 * (i : Int)]) := IRow.of own2 (by simp) (by simp)
              obtain ⟨ao2, cap2, rfl⟩ := R2.shape
              have hl2 : (((ord cs i).take i) ++ [3 + 5 * (i : Int)]).length = i + 1 := by have := H1.out.2.2.2; rw [List.length_append, this]; rfl
              rw [hl2] at R2
              try rw [hl2] at loc2
              try rw [hl2]
              have B2 : Below wr.heap.size wr w3 := (H1.out.2.1.alloc H1.out.2.1.size _).grown gr2 (by have := H1.out.2.1.size; simp; omega) (fun k hk => H1.out.2.2.1 k hk)
              have O2 : ∀ b, (Value.slice ao2 (i + 1) cap2).ownBlock = some b → wr.heap.size ≤ b := fun b e => by
                rcases loc2 with h | h
                · exact H1.out.2.2.1 b (h ▸ e)
                · rw [e] at h; have := H1.out.2.1.size; simp at h; omega
              have H2 := Lib.hid (And.intro R2 (And.intro B2 (And.intro O2 hl2)))
              clear own2 gr2 loc2 R2 B2 O2 hl2
              go_wp2_with (at_builtin; refine wpList_append_own_at _ rfl _ _ 24 rfl 0 3 i0 (.int .i64 0) 1 8 Try.underlying24 hi hz0 hz1 hz2 rfl (by decide) _ _ _ rfl H2.out.1 ⟨g, 0, none⟩ 0 0 (((ord cs i).drop i).map (Value.int .i64)) rfl (by rw [List.length_map, List.length_drop, ord_len]; omega) (fun j u hj => (by rw [List.drop_of_length_le (by rw [ord_len]; omega)] at hj; cases hj)) (fun v hv => (by obtain ⟨q, _, rfl⟩ := List.mem_map.1 hv; rfl)) ?e3x2 ?e4x2 ?e5x2 ?_)
              case e3x2 => have := H2.out.2.2.2; unfold maxLen; omega
              try case e4x2 => have := H2.out.2.2.2; omega
              try case e5x2 => exact Nat.zero_le _
              intro v3 w4 own3 gr3 _ loc3
              have R3 : IRow w4 v3 (ord cs (i + 1)) := by
                have e : ord cs (i + 1) = ((ord cs i).take i) ++ [3 + 5 * (i : Int)] ++ (ord cs i).drop i := by simp only [ord, HA.out]
                rw [e]
                exact IRow.of own3 (by first | (simp [ord_len]; done) | (rw [List.length_append, H2.out.2.2.2, List.length_drop, ord_len]; omega)) (by simp)
              obtain ⟨ao3, cap3, rfl⟩ := R3.shape
              rw [ord_len] at R3
              try rw [ord_len] at loc3
              try rw [ord_len]
              have B3 : Below wr.heap.size wr w4 := H2.out.2.1.grown gr3 H2.out.2.1.size (fun k hk => H2.out.2.2.1 k hk)
              have O3 : ∀ b, (Value.slice ao3 (i + 1) cap3).ownBlock = some b → w.heap.size ≤ b := fun b e => by
                have hw := HR.out.2.1.size
                rcases loc3 with h | h
                · have := H2.out.2.2.1 b (h ▸ e); omega
                · rw [e] at h; have := H2.out.2.1.size; simp at h; omega
              have H3 := Lib.hid (And.intro R3 (And.intro (HR.out.2.1.trans (B3.mono HR.out.2.1.size)) O3))
              clear own3 gr3 loc3 R3 B3 O3
              go_wp2
              go_roundw
              case rel => exact ⟨i + 1, ao3, cap3, by omega, by first | rfl | go_num, rfl, H3.out.1, H3.out.2.1, H3.out.2.2, fun e => by omega⟩
              case measure => first | (simp [intOf]; done) | (simp [intOf]; omega)
            · have hk' : (i : Int) < (cs.length : Int) := by omega
              obtain ⟨cb', off', e1, -, hx⟩ := HC.out.2.2.1 (by omega)
              cases e1
              have hxi : wr.cell? ⟨cb, off + i, none⟩ = some (.int .u8 (cs.getD i 0)) := (HR.out.2.1.cell (p := ⟨cb, off + i, none⟩) hcb).trans (hx i hk)
              have hri := bounds_u8 (wf_getD HC.out.2.1 i hk)
              have hA : (cs.getD i 0) % ((i : Int) + 1) = (cAt cs i : Int) := by
                unfold cAt
                rw [if_pos hk]
                obtain ⟨z, hz⟩ := Int.eq_ofNat_of_zero_le hri.1
                rw [hz]; simp
              have hle := cAt_le cs i
              obtain ⟨A, hAA⟩ : ∃ A, cAt cs i = A := ⟨_, rfl⟩
              rw [hAA] at hA hle
              obtain ⟨x, hxx⟩ : ∃ x, cs.getD i 0 = x := ⟨_, rfl⟩
              rw [hxx] at hxi hri hA
              obtain ⟨hri1, hri2⟩ := hri
              have HA := Lib.hid hAA
              clear hxx hx hAA
              obtain ⟨g, cap', cur, e2, hg⟩ := HR.out.1.pos (by rw [ord_len]; omega)
              rw [ord_len] at e2
              cases e2
              have hlA : (A : Int) ≤ (i : Int) := by omega
              have hcap : i ≤ cap := by have := hg.2.2.1; rw [ord_len] at this; exact this


              have hlc : (A : Int) ≤ (cap : Int) := by omega
              have hnf : ¬ (A = i ∧ cap = i) := fun h => hfull ⟨HA.out.trans h.1, h.2⟩
              have hac : (A : Int) < (cap : Int) := by omega
              have hne : ¬ (cap = A) := by omega
              have hic : (i : Int) ≤ (cap : Int) := by omega
              have U1 : ∀ u : World, Below wr.heap.size wr u → u.ownsRow 0 3 1 (.slice (some ⟨g, 0, none⟩) A cap) A (((ord cs i).take A).map (Value.int .i64)) := fun u hu => by
                have := ((HR.out.1.below hu).take (A := A) (by rw [ord_len]; omega))
                unfold IRow at this
                rwa [List.length_take, ord_len, Nat.min_eq_left (by omega)] at this
              have HU := Lib.hid U1
              clear U1 hg
              go_wp2_with (at_builtin; refine wpList_append_rows _ rfl _ _ 24 rfl 0 0 3 i0 (.int .i64 0) 1 8 Try.underlying24 hi hz0 hz1 hz2 rfl (by decide) _ _ _ rfl (World.ownsRow_nil _ 0 3 1) _ A _ rfl (HU.out _ (by go_grown)) (fun v hv => (by obtain ⟨q, _, rfl⟩ := List.mem_map.1 hv; rfl)) ?c3x3 ?c4x3 ?c5x3 ?_)
              try case c3x3 => unfold maxLen; omega
              try case c4x3 => omega
              try case c5x3 => exact Nat.zero_le _
              intro v1 w2 own1 gr1 _ loc1
              have R1 : IRow w2 v1 ((ord cs i).take A) := IRow.of own1 (by rw [List.length_take, ord_len]; omega) (by simp)
              obtain ⟨ao1, cap1, rfl⟩ := R1.shape
              have hl1 : ((ord cs i).take A).length = A := by rw [List.length_take, ord_len]; omega
              rw [hl1] at R1
              try rw [hl1] at loc1
              try rw [hl1] at gr1
              try rw [hl1]
              have B1 : Below wr.heap.size wr w2 := (Below.refl _ _).grown gr1 (Nat.le_refl _) (fun k hk => by cases hk)
              have O1 : ∀ b, (Value.slice ao1 A cap1).ownBlock = some b → wr.heap.size ≤ b := fun b e => by
                rcases loc1 with h | h
                · rw [h] at e; cases e
                · rw [h] at e; cases e; exact Nat.le_refl _
              have H1 := Lib.hid (And.intro R1 (And.intro B1 (And.intro O1 hl1)))
              clear own1 gr1 loc1 R1 B1 O1 hl1
              go_wp2_with (at_builtin; refine wpList_append_rows _ rfl _ _ 24 rfl 0 0 3 i0 (.int .i64 0) 1 8 Try.underlying24 hi hz0 hz1 hz2 rfl (by decide) _ _ _ rfl (H1.out.1.alloc _) _ 1 _ rfl (irow_lit (vs := [3 + 5 * (i : Int)]) (heap_alloc_new _ _) rfl (by omega)) (fun v hv => (by obtain ⟨q, _, rfl⟩ := List.mem_map.1 hv; rfl)) ?d3x3 ?d4x3 ?d5x3 ?_)
              try case d3x3 => have := H1.out.2.2.2; unfold maxLen; omega
              try case d4x3 => have := H1.out.2.2.2; omega
              try case d5x3 => exact Nat.zero_le _
              intro v2 w3 own2 gr2 _ loc2
              have R2 : IRow w3 v2 (((ord cs i).take A) ++ [3 + 5 * (i : Int)]) := IRow.of own2 (by simp) (by simp)
              obtain ⟨ao2, cap2, rfl⟩ := R2.shape
              have hl2 : (((ord cs i).take A) ++ [3 + 5 * (i : Int)]).length = A + 1 := by have := H1.out.2.2.2; rw [List.length_append, this]; rfl
              rw [hl2] at R2
              try rw [hl2] at loc2
              try rw [hl2]
              have B2 : Below wr.heap.size wr w3 := (H1.out.2.1.alloc H1.out.2.1.size _).grown gr2 (by have := H1.out.2.1.size; simp; omega) (fun k hk => H1.out.2.2.1 k hk)
              have O2 : ∀ b, (Value.slice ao2 (A + 1) cap2).ownBlock = some b → wr.heap.size ≤ b := fun b e => by
                rcases loc2 with h | h
                · exact H1.out.2.2.1 b (h ▸ e)
                · rw [e] at h; have := H1.out.2.1.size; simp at h; omega
              have H2 := Lib.hid (And.intro R2 (And.intro B2 (And.intro O2 hl2)))
              clear own2 gr2 loc2 R2 B2 O2 hl2
              go_wp2_with (at_builtin; refine wpList_append_own_at _ rfl _ _ 24 rfl 0 3 i0 (.int .i64 0) 1 8 Try.underlying24 hi hz0 hz1 hz2 rfl (by decide) _ _ _ rfl H2.out.1 ⟨g, A, none⟩ (i - A) (cap - A) (((ord cs i).drop A).map (Value.int .i64)) rfl (by rw [List.length_map, List.length_drop, ord_len]; omega) (fun j u hj => (HR.out.1.below H2.out.2.1).cellsFrom A j u hj) (fun v hv => (by obtain ⟨q, _, rfl⟩ := List.mem_map.1 hv; rfl)) ?e3x3 ?e4x3 ?e5x3 ?_)
              case e3x3 => have := H2.out.2.2.2; unfold maxLen; omega
              try case e4x3 => have := H2.out.2.2.2; omega
              try case e5x3 => exact Nat.zero_le _
              intro v3 w4 own3 gr3 _ loc3
              have R3 : IRow w4 v3 (ord cs (i + 1)) := by
                have e : ord cs (i + 1) = ((ord cs i).take A) ++ [3 + 5 * (i : Int)] ++ (ord cs i).drop A := by simp only [ord, HA.out]
                rw [e]
                exact IRow.of own3 (by first | (simp [ord_len]; done) | (rw [List.length_append, H2.out.2.2.2, List.length_drop, ord_len]; omega)) (by simp)
              obtain ⟨ao3, cap3, rfl⟩ := R3.shape
              rw [ord_len] at R3
              try rw [ord_len] at loc3
              try rw [ord_len]
              have B3 : Below wr.heap.size wr w4 := H2.out.2.1.grown gr3 H2.out.2.1.size (fun k hk => H2.out.2.2.1 k hk)
              have O3 : ∀ b, (Value.slice ao3 (i + 1) cap3).ownBlock = some b → w.heap.size ≤ b := fun b e => by
                have hw := HR.out.2.1.size
                rcases loc3 with h | h
                · have := H2.out.2.2.1 b (h ▸ e); omega
                · rw [e] at h; have := H2.out.2.1.size; simp at h; omega
              have H3 := Lib.hid (And.intro R3 (And.intro (HR.out.2.1.trans (B3.mono HR.out.2.1.size)) O3))
              clear own3 gr3 loc3 R3 B3 O3
              go_wp2
              go_roundw
              case rel => exact ⟨i + 1, ao3, cap3, by omega, by first | rfl | go_num, rfl, H3.out.1, H3.out.2.1, H3.out.2.2, fun e => by omega⟩
              case measure => first | (simp [intOf]; done) | (simp [intOf]; omega)
        · by_cases hz : i = 0
          · omega
          · have hk' : (cs.length : Int) ≤ (i : Int) := by omega
            have HA := Lib.hid (show cAt cs i = 0 from by unfold cAt; rw [if_neg hk])
            obtain ⟨g, cap', cur, e2, hg⟩ := HR.out.1.pos (by rw [ord_len]; omega)
            rw [ord_len] at e2
            cases e2
            have hlA : (0 : Int) ≤ (i : Int) := by omega
            have hcap : i ≤ cap := by have := hg.2.2.1; rw [ord_len] at this; exact this


            have hlc : (0 : Int) ≤ (cap : Int) := by omega
            skip
            skip
            skip
            have hic : (i : Int) ≤ (cap : Int) := by omega
            have U1 : ∀ u : World, Below wr.heap.size wr u → u.ownsRow 0 3 1 (.slice (some ⟨g, 0, none⟩) 0 cap) 0 (((ord cs i).take 0).map (Value.int .i64)) := fun u hu => by
              have := ((HR.out.1.below hu).take (A := 0) (by rw [ord_len]; omega))
              unfold IRow at this
              rwa [List.length_take, ord_len, Nat.min_eq_left (by omega)] at this
            have HU := Lib.hid U1
            clear U1 hg
            go_wp2_with (at_builtin; refine wpList_append_rows _ rfl _ _ 24 rfl 0 0 3 i0 (.int .i64 0) 1 8 Try.underlying24 hi hz0 hz1 hz2 rfl (by decide) _ _ _ rfl (World.ownsRow_nil _ 0 3 1) _ 0 _ rfl (HU.out _ (by go_grown)) (fun v hv => (by obtain ⟨q, _, rfl⟩ := List.mem_map.1 hv; rfl)) ?c3x4 ?c4x4 ?c5x4 ?_)
            try case c3x4 => unfold maxLen; omega
            try case c4x4 => omega
            try case c5x4 => exact Nat.zero_le _
            intro v1 w2 own1 gr1 _ loc1
            have R1 : IRow w2 v1 ((ord cs i).take 0) := IRow.of own1 (by rw [List.length_take, ord_len]; omega) (by simp)
            obtain ⟨ao1, cap1, rfl⟩ := R1.shape
            have hl1 : ((ord cs i).take 0).length = 0 := by rw [List.length_take, ord_len]; omega
            rw [hl1] at R1
            try rw [hl1] at loc1
            try rw [hl1] at gr1
            try rw [hl1]
            have B1 : Below wr.heap.size wr w2 := (Below.refl _ _).grown gr1 (Nat.le_refl _) (fun k hk => by cases hk)
            have O1 : ∀ b, (Value.slice ao1 0 cap1).ownBlock = some b → wr.heap.size ≤ b := fun b e => by
              rcases loc1 with h | h
              · rw [h] at e; cases e
              · rw [h] at e; cases e; exact Nat.le_refl _
            have H1 := Lib.hid (And.intro R1 (And.intro B1 (And.intro O1 hl1)))
            clear own1 gr1 loc1 R1 B1 O1 hl1
            go_wp2_with (at_builtin; refine wpList_append_rows _ rfl _ _ 24 rfl 0 0 3 i0 (.int .i64 0) 1 8 Try.underlying24 hi hz0 hz1 hz2 rfl (by decide) _ _ _ rfl (H1.out.1.alloc _) _ 1 _ rfl (irow_lit (vs := [3 + 5 * (i : Int)]) (heap_alloc_new _ _) rfl (by omega)) (fun v hv => (by obtain ⟨q, _, rfl⟩ := List.mem_map.1 hv; rfl)) ?d3x4 ?d4x4 ?d5x4 ?_)
            try case d3x4 => have := H1.out.2.2.2; unfold maxLen; omega
            try case d4x4 => have := H1.out.2.2.2; omega
            try case d5x4 => exact Nat.zero_le _
            intro v2 w3 own2 gr2 _ loc2
            have R2 : IRow w3 v2 (((ord cs i).take 0) ++ [3 + 5 * (i : Int)]) := IRow.of own2 (by simp) (by simp)
            obtain ⟨ao2, cap2, rfl⟩ := R2.shape
            have hl2 : (((ord cs i).take 0) ++ [3 + 5 * (i : Int)]).length = 0 + 1 := by have := H1.out.2.2.2; rw [List.length_append, this]; rfl
            rw [hl2] at R2
            try rw [hl2] at loc2
            try rw [hl2]
            have B2 : Below wr.heap.size wr w3 := (H1.out.2.1.alloc H1.out.2.1.size _).grown gr2 (by have := H1.out.2.1.size; simp; omega) (fun k hk => H1.out.2.2.1 k hk)
            have O2 : ∀ b, (Value.slice ao2 (0 + 1) cap2).ownBlock = some b → wr.heap.size ≤ b := fun b e => by
              rcases loc2 with h | h
              · exact H1.out.2.2.1 b (h ▸ e)
              · rw [e] at h; have := H1.out.2.1.size; simp at h; omega
            have H2 := Lib.hid (And.intro R2 (And.intro B2 (And.intro O2 hl2)))
            clear own2 gr2 loc2 R2 B2 O2 hl2
            go_wp2_with (at_builtin; refine wpList_append_own_at _ rfl _ _ 24 rfl 0 3 i0 (.int .i64 0) 1 8 Try.underlying24 hi hz0 hz1 hz2 rfl (by decide) _ _ _ rfl H2.out.1 ⟨g, 0, none⟩ i cap (((ord cs i).drop 0).map (Value.int .i64)) rfl (by rw [List.length_map, List.length_drop, ord_len]; omega) (fun j u hj => (HR.out.1.below H2.out.2.1).cellsFrom 0 j u hj) (fun v hv => (by obtain ⟨q, _, rfl⟩ := List.mem_map.1 hv; rfl)) ?e3x4 ?e4x4 ?e5x4 ?_)
            case e3x4 => have := H2.out.2.2.2; unfold maxLen; omega
            try case e4x4 => have := H2.out.2.2.2; omega
            try case e5x4 => exact Nat.zero_le _
            intro v3 w4 own3 gr3 _ loc3
            have R3 : IRow w4 v3 (ord cs (i + 1)) := by
              have e : ord cs (i + 1) = ((ord cs i).take 0) ++ [3 + 5 * (i : Int)] ++ (ord cs i).drop 0 := by simp only [ord, HA.out]
              rw [e]
              exact IRow.of own3 (by first | (simp [ord_len]; done) | (rw [List.length_append, H2.out.2.2.2, List.length_drop, ord_len]; omega)) (by simp)
            obtain ⟨ao3, cap3, rfl⟩ := R3.shape
            rw [ord_len] at R3
            try rw [ord_len] at loc3
            try rw [ord_len]
            have B3 : Below wr.heap.size wr w4 := H2.out.2.1.grown gr3 H2.out.2.1.size (fun k hk => H2.out.2.2.1 k hk)
            have O3 : ∀ b, (Value.slice ao3 (i + 1) cap3).ownBlock = some b → w.heap.size ≤ b := fun b e => by
              have hw := HR.out.2.1.size
              rcases loc3 with h | h
              · have := H2.out.2.2.1 b (h ▸ e); omega
              · rw [e] at h; have := H2.out.2.1.size; simp at h; omega
            have H3 := Lib.hid (And.intro R3 (And.intro (HR.out.2.1.trans (B3.mono HR.out.2.1.size)) O3))
            clear own3 gr3 loc3 R3 B3 O3
            go_wp2
            go_roundw
            case rel => exact ⟨i + 1, ao3, cap3, by omega, by first | rfl | go_num, rfl, H3.out.1, H3.out.2.1, H3.out.2.2, fun e => by omega⟩
            case measure => first | (simp [intOf]; done) | (simp [intOf]; omega)
      · obtain rfl : n = i := by omega
        by_cases hmn : M < n
        · have hmn' : (M : Int) < (n : Int) := by omega
          obtain ⟨W, hW⟩ : ∃ W, W = wr := ⟨_, rfl⟩
          obtain ⟨L, hL⟩ : ∃ L : Nat, (3 : Int) + 5 * (n : Int) = (L : Int) := ⟨3 + 5 * n, by omega⟩
          have hL1 : L = 3 + 5 * n := by omega
          have hmk : ∀ u : World, (Instr.makeSlice 23 (.int .i64 (3 + 5 * (n : Int))) (.int .i64 (3 + 5 * (n : Int)))).run Try.prog u = .ok (.slice (some ⟨u.heap.size, 0, none⟩) L L) (u.alloc (.cells (madeCells #[.int .i64 0] L) 2)) := fun u => by rw [hL]; exact run_make_row' (P := Try.prog) 23 2 (.int .i64 0) 8 Try.underlying23 Try.info64 rfl .i64 .i64 L (by omega) (by omega) u
          have HL := Lib.hid (And.intro hL1 trivial)
          clear hL
          obtain ⟨g, cap', cur, e2, hg⟩ := HR.out.1.pos (by rw [ord_len]; omega)
          rw [ord_len] at e2
          cases e2
          have hncap : n ≤ cap := by have := hg.2.2.1; rw [ord_len] at this; exact this
          have hnc : (n : Int) ≤ (cap : Int) := by omega
          have hmc : (M : Int) ≤ (cap : Int) := by omega
          have hL2 : (2 : Int) < (L : Int) := by omega
          have zg : g < wr.heap.size := (Array.getElem?_eq_some_iff.1 hg.1).1
          have RM := row_made wr L (by omega)
          have sL := (RM.pos (by first | (simp; done) | (simp; omega)))
          obtain ⟨gg, cc, ccur, ee, -, -, -, scell, sfroz⟩ := sL
          rw [List.length_replicate] at ee
          cases ee
          have s2 : (wr.alloc (.cells (madeCells #[.int .i64 0] L) 2)).cell? ⟨wr.heap.size, 2, none⟩ = some (.int .i64 0) := by have := scell 2 (by first | (simp; done) | (simp; omega)); rw [this, List.getD_eq_getElem?_getD, List.getElem?_replicate, if_pos (by omega)] <;> rfl
          have s2f := sfroz 2
          clear hL1
          have HRM := Lib.hid RM
          clear RM scell sfroz hg hW
          go_wp2
          generalize hrl : wr.heap.size = rl
          generalize hW : World.alloc _ _ = W
          have RW : Row W (.slice (some ⟨rl, 0, none⟩) L L) ((List.replicate L 0).set 2 50) := by rw [← hW, ← hrl]; exact row_made2 wr L (by have := HL.out.1; omega)
          have BW : Below wr.heap.size wr W := by rw [← hW]; exact (Below.refl _ _).alloc (Nat.le_refl _) _
          have OW := HR.out.1.below BW
          have zgr : g < rl := by omega
          have zrl : rl < W.heap.size := RW.lt (g := rl) rfl
          have zgW : g < W.heap.size := by omega
          have zlr : w.heap.size ≤ rl := by have := HR.out.2.1.size; omega
          have BwW := HR.out.2.1.trans (BW.mono HR.out.2.1.size)
          have zcw : ∀ b, b < w.heap.size → b < rl := fun b hb => by have := HR.out.2.1.size; omega
          obtain ⟨m, hm⟩ : ∃ m, M = m := ⟨_, rfl⟩
          obtain ⟨l0, hl0⟩ : ∃ l, ((List.replicate L (0 : Int)).set 2 50) = l := ⟨_, rfl⟩
          obtain ⟨on, hon⟩ : ∃ o, (ord cs n).take m = o := ⟨_, rfl⟩
          rw [hl0] at RW
          have hmn3 : m ≤ n := by omega
          have hm9 : (m : Int) ≤ 9 := by omega
          have hll : ∀ q, (layN cs on l0 q).length = L := fun q => by rw [layN_len, ← hl0]; simp
          have honl : on.length = m := by rw [← hon, List.length_take, ord_len]; omega
          have hat : ∀ q, q < m → ∃ an : Nat, on.getD q 0 = (an : Int) ∧ 3 ≤ an ∧ an + 5 ≤ L := fun q hq => by
            obtain ⟨an, h1, h2, h3⟩ := ord_at cs (n := n) (j := q) (by omega)
            exact ⟨an, by rw [← hon, take_getD hq, h1], h2, by have := HL.out.1; omega⟩
          have hcl : ∀ q, q < m → W.cell? ⟨g, q, none⟩ = some (.int .i64 (on.getD q 0)) := fun q hq => by
            obtain ⟨g', c', cur', e', -, -, -, hcc, -⟩ := OW.pos (by rw [ord_len]; omega)
            rw [ord_len] at e'
            cases e'
            rw [← hon, take_getD hq]
            exact hcc q (by rw [ord_len]; omega)
          have HW := Lib.hid (And.intro RW (And.intro BwW (And.intro OW (And.intro hll (And.intro honl (And.intro hat (And.intro hcl (And.intro hl0 hon))))))))
          clear hW RW BW OW BwW hll honl hat hcl hl0 hon s2 s2f hmk HRM
          try rw [hm]
          have HMM := Lib.hid hm
          clear hm
          go_loopw [13] (fun k wx => ∃ j : Nat, j ≤ m ∧ k = .int .i64 j ∧ Row wx (.slice (some ⟨rl, 0, none⟩) L L) (layN cs on l0 j) ∧ Kept (fun b => b = rl) W wx) (fun k _ => m - (intOf k).toNat)
          case atStart => exact ⟨0, Nat.zero_le _, rfl, HW.out.1, Kept.refl _ _⟩
          case round =>
            obtain ⟨j, hj1, rfl, hR2, hK2⟩ := hrel
            have HS := Lib.hid (And.intro hR2 hK2)
            clear hR2 hK2
            have zj : (0 : Int) ≤ (j : Int) := by omega
            have hj9 : (j : Int) ≤ 9 := by omega
            have zrl2 : rl < wr.heap.size := Nat.lt_of_lt_of_le zrl HS.out.2.size
            have zg2 : g < wr.heap.size := by omega
            by_cases hltj : j < m
            · have hltj' : (j : Int) < (m : Int) := by omega
              obtain ⟨an, han, ha3, haL⟩ := HW.out.2.2.2.2.2.1 j hltj
              have hcj : wr.cell? ⟨g, j, none⟩ = some (.int .i64 an) := by
                have := (HS.out.2.cell (p := ⟨g, j, none⟩) zgW (show ¬ g = rl by omega)).trans (HW.out.2.2.2.2.2.2.1 j hltj)
                rwa [han] at this
              have HAN := Lib.hid han
              clear han
              obtain ⟨gg2, cc2, ccur2, ee2, -, -, -, scell2, sfroz2⟩ := HS.out.1.pos (by rw [HW.out.2.2.2.1]; omega)
              rw [HW.out.2.2.2.1] at ee2 scell2
              cases ee2
              have HC2 := Lib.hid (And.intro scell2 sfroz2)
              clear scell2 sfroz2
              by_cases hj : j < cs.length
              · by_cases hz : j = 0
                · have hj' : (j : Int) < (cs.length : Int) := by omega
                  obtain ⟨cb', off', e1, -, hx⟩ := HC.out.2.2.1 (by omega)
                  cases e1
                  have hxW : W.cell? ⟨cb, off + j, none⟩ = some (.int .u8 (cs.getD j 0)) := (HW.out.2.1.cell (p := ⟨cb, off + j, none⟩) hcb).trans (hx j hj)
                  have zcb : cb < W.heap.size := Nat.lt_of_lt_of_le hcb (Nat.le_trans zlr (Nat.le_of_lt zrl))
                  have hcr : ¬ cb = rl := by omega
                  have hrj := bounds_u8 (wf_getD HC.out.2.1 j hj)
                  obtain ⟨x, hxx⟩ : ∃ x, cs.getD j 0 = x := ⟨_, rfl⟩
                  rw [hxx] at hxW hrj
                  obtain ⟨hrj1, hrj2⟩ := hrj
                  have HX := Lib.hid (And.intro hxx hxW)
                  clear hxx hx hxW
                  obtain rfl : 0 = j := hz.symm
                  have hLn : (L : Int) ≤ 48 := by have := HL.out.1; omega
                  have ha0 : ¬ an = 0 := by omega
                  have haL1 : (an : Int) + 1 < (L : Int) := by omega
                  have haL2 : (an : Int) + 2 < (L : Int) := by omega
                  have q0 := HC2.out.1 1 (by omega)
                  have qf0 := HC2.out.2 1
                  have p1 := HC2.out.1 (an + 1) (by omega)
                  have f1 := HC2.out.2 (an + 1)
                  have p2 := HC2.out.1 (an + 2) (by omega)
                  have f2 := HC2.out.2 (an + 2)
                  have hxr := (HS.out.2.cell (p := ⟨cb, off, none⟩) zcb hcr).trans (show W.cell? ⟨cb, off, none⟩ = _ from HX.out.2)
                  go_wp2_with fail
                  first | go_region | skip
                  all_goals
                    try go_wp2_with fail
                    generalize hwB : World.setCell _ _ _ = wB
                    have RB : Row wB (.slice (some ⟨rl, 0, none⟩) L L) ((((layN cs on l0 0).set 1 (an : Int)).set (an + 1) 1).set (an + 2) (x % 60)) := by
                      rw [← hwB]
                      first
                        | exact ((HS.out.1.set rfl 1 (by rw [HW.out.2.2.2.1]; omega) (an : Int)).set rfl (an + 1) (by rw [List.length_set, HW.out.2.2.2.1]; omega) 1).set rfl (an + 2) (by rw [List.length_set]; rw [List.length_set, HW.out.2.2.2.1]; omega) (x % 60)
                        | exact (((HS.out.1.set rfl 1 (by rw [HW.out.2.2.2.1]; omega) (an : Int)).below (Below.refl _ _).drew).set rfl (an + 1) (by rw [List.length_set, HW.out.2.2.2.1]; omega) 1).set rfl (an + 2) (by rw [List.length_set]; rw [List.length_set, HW.out.2.2.2.1]; omega) (x % 60)
                    have KB : Kept (fun b => b = rl) W wB := by
                      rw [← hwB]
                      first
                        | exact ((HS.out.2.setCell (p := ⟨rl, 1, none⟩) (fun _ => rfl) _).setCell (p := ⟨rl, an + 1, none⟩) (fun _ => rfl) _).setCell (p := ⟨rl, an + 2, none⟩) (fun _ => rfl) _
                        | exact (((HS.out.2.setCell (p := ⟨rl, 1, none⟩) (fun _ => rfl) _).drew).setCell (p := ⟨rl, an + 1, none⟩) (fun _ => rfl) _).setCell (p := ⟨rl, an + 2, none⟩) (fun _ => rfl) _
                    have EB : ((((layN cs on l0 0).set 1 (an : Int)).set (an + 1) 1).set (an + 2) (x % 60)) = layN cs on l0 (0 + 1) := by
                      simp only [layN, layStep, HAN.out, HX.out.1, if_pos hj, Int.toNat_natCast, if_true]
                    rw [EB] at RB
                    have HBB := Lib.hid (And.intro RB KB)
                    clear RB KB EB hwB
                    go_roundw
                    case rel => exact ⟨0 + 1, by omega, by go_num, by first | exact HBB.out.1 | exact HBB.out.1.below (Below.refl _ _).drew | exact HBB.out.1.below (Below.refl _ _).drew.drew, by first | exact HBB.out.2 | exact HBB.out.2.drew | exact HBB.out.2.drew.drew⟩
                    case measure => first | (simp [intOf]; done) | (simp [intOf]; omega)
                · have hj' : (j : Int) < (cs.length : Int) := by omega
                  obtain ⟨cb', off', e1, -, hx⟩ := HC.out.2.2.1 (by omega)
                  cases e1
                  have hxW : W.cell? ⟨cb, off + j, none⟩ = some (.int .u8 (cs.getD j 0)) := (HW.out.2.1.cell (p := ⟨cb, off + j, none⟩) hcb).trans (hx j hj)
                  have zcb : cb < W.heap.size := Nat.lt_of_lt_of_le hcb (Nat.le_trans zlr (Nat.le_of_lt zrl))
                  have hcr : ¬ cb = rl := by omega
                  have hrj := bounds_u8 (wf_getD HC.out.2.1 j hj)
                  obtain ⟨x, hxx⟩ : ∃ x, cs.getD j 0 = x := ⟨_, rfl⟩
                  rw [hxx] at hxW hrj
                  obtain ⟨hrj1, hrj2⟩ := hrj
                  have HX := Lib.hid (And.intro hxx hxW)
                  clear hxx hx hxW
                  have hLn : (L : Int) ≤ 48 := by have := HL.out.1; omega
                  have ha0 : ¬ an = 0 := by omega
                  have haL1 : (an : Int) + 1 < (L : Int) := by omega
                  have haL2 : (an : Int) + 2 < (L : Int) := by omega
                  obtain ⟨bn, hbn, hb3, hbL⟩ := HW.out.2.2.2.2.2.1 (j - 1) (by omega)
                  have hbj : wr.cell? ⟨g, j - 1, none⟩ = some (.int .i64 bn) := by
                    have := (HS.out.2.cell (p := ⟨g, j - 1, none⟩) zgW (show ¬ g = rl by omega)).trans (HW.out.2.2.2.2.2.2.1 (j - 1) (by omega))
                    rwa [hbn] at this
                  have HBN := Lib.hid hbn
                  have hj0 : (0 : Int) ≤ (j : Int) - 1 := by omega
                  have hjm : (j : Int) - 1 < (m : Int) := by omega
                  have hjt : ((j : Int) - 1).toNat = j - 1 := by omega
                  have hjz : ((j : Int) == 0) = false := by rw [beq_eq_false_iff_ne]; omega
                  have hbL3 : (bn : Int) + 3 < (L : Int) := by omega
                  have q0 := HC2.out.1 (bn + 3) (by omega)
                  have qf0 := HC2.out.2 (bn + 3)
                  clear hbn
                  go_wp2_with fail
                  go_region
                  all_goals
                    generalize hwA : World.setCell _ _ _ = wA
                    have RA : Row wA (.slice (some ⟨rl, 0, none⟩) L L) ((layN cs on l0 j).set (bn + 3) (an : Int)) := by rw [← hwA]; exact HS.out.1.set rfl (bn + 3) (by rw [HW.out.2.2.2.1]; omega) _
                    have KA : Kept (fun b => b = rl) W wA := by rw [← hwA]; exact HS.out.2.setCell (p := ⟨rl, bn + 3, none⟩) (fun _ => rfl) _
                    have hlA : ((layN cs on l0 j).set (bn + 3) (an : Int)).length = L := by rw [List.length_set]; exact HW.out.2.2.2.1 j
                    have hcA : wA.cell? ⟨g, j, none⟩ = some (.int .i64 an) := by
                      have := (KA.cell (p := ⟨g, j, none⟩) zgW (show ¬ g = rl by omega)).trans (HW.out.2.2.2.2.2.2.1 j hltj)
                      rwa [HAN.out] at this
                    have hxA := (KA.cell (p := ⟨cb, off + j, none⟩) zcb hcr).trans HX.out.2
                    obtain ⟨ggA, ccA, ccurA, eeA, -, -, -, scA, sfA⟩ := RA.pos (by rw [hlA]; omega)
                    rw [hlA] at eeA scA
                    cases eeA
                    have p1A := scA (an + 1) (by omega)
                    have f1A := sfA (an + 1)
                    have p2A := scA (an + 2) (by omega)
                    have f2A := sfA (an + 2)
                    clear scA sfA
                    have HA2 := Lib.hid (And.intro RA KA)
                    have zA : rl < wA.heap.size := Nat.lt_of_lt_of_le zrl KA.size
                    have zgA : g < wA.heap.size := by omega
                    clear RA KA hlA hwA q0 qf0 hbj hcj
                    go_wp2_with fail
                    first | go_region | skip
                    all_goals
                      try go_wp2_with fail
                      generalize hwB : World.setCell _ _ _ = wB
                      have RB : Row wB (.slice (some ⟨rl, 0, none⟩) L L) ((((layN cs on l0 j).set (bn + 3) (an : Int)).set (an + 1) 1).set (an + 2) (x % 60)) := by
                        rw [← hwB]
                        first
                          | exact (HA2.out.1.set rfl (an + 1) (by rw [List.length_set, HW.out.2.2.2.1]; omega) 1).set rfl (an + 2) (by rw [List.length_set]; rw [List.length_set, HW.out.2.2.2.1]; omega) (x % 60)
                          | exact ((HA2.out.1.below (Below.refl _ _).drew).set rfl (an + 1) (by rw [List.length_set, HW.out.2.2.2.1]; omega) 1).set rfl (an + 2) (by rw [List.length_set]; rw [List.length_set, HW.out.2.2.2.1]; omega) (x % 60)
                      have KB : Kept (fun b => b = rl) W wB := by
                        rw [← hwB]
                        first
                          | exact (HA2.out.2.setCell (p := ⟨rl, an + 1, none⟩) (fun _ => rfl) _).setCell (p := ⟨rl, an + 2, none⟩) (fun _ => rfl) _
                          | exact ((HA2.out.2.drew).setCell (p := ⟨rl, an + 1, none⟩) (fun _ => rfl) _).setCell (p := ⟨rl, an + 2, none⟩) (fun _ => rfl) _
                      have EB : ((((layN cs on l0 j).set (bn + 3) (an : Int)).set (an + 1) 1).set (an + 2) (x % 60)) = layN cs on l0 (j + 1) := by
                        simp only [layN, layStep, HAN.out, HX.out.1, if_pos hj, HBN.out, if_neg (show ¬ j = 0 by omega), Int.toNat_natCast]
                      rw [EB] at RB
                      have HBB := Lib.hid (And.intro RB KB)
                      clear RB KB EB hwB
                      go_roundw
                      case rel => exact ⟨j + 1, by omega, by go_num, by first | exact HBB.out.1 | exact HBB.out.1.below (Below.refl _ _).drew | exact HBB.out.1.below (Below.refl _ _).drew.drew, by first | exact HBB.out.2 | exact HBB.out.2.drew | exact HBB.out.2.drew.drew⟩
                      case measure => first | (simp [intOf]; done) | (simp [intOf]; omega)
              · by_cases hz : j = 0
                · omega
                · have hj' : (cs.length : Int) ≤ (j : Int) := by omega
                  have hLn : (L : Int) ≤ 48 := by have := HL.out.1; omega
                  have ha0 : ¬ an = 0 := by omega
                  have haL1 : (an : Int) + 1 < (L : Int) := by omega
                  have haL2 : (an : Int) + 2 < (L : Int) := by omega
                  obtain ⟨bn, hbn, hb3, hbL⟩ := HW.out.2.2.2.2.2.1 (j - 1) (by omega)
                  have hbj : wr.cell? ⟨g, j - 1, none⟩ = some (.int .i64 bn) := by
                    have := (HS.out.2.cell (p := ⟨g, j - 1, none⟩) zgW (show ¬ g = rl by omega)).trans (HW.out.2.2.2.2.2.2.1 (j - 1) (by omega))
                    rwa [hbn] at this
                  have HBN := Lib.hid hbn
                  have hj0 : (0 : Int) ≤ (j : Int) - 1 := by omega
                  have hjm : (j : Int) - 1 < (m : Int) := by omega
                  have hjt : ((j : Int) - 1).toNat = j - 1 := by omega
                  have hjz : ((j : Int) == 0) = false := by rw [beq_eq_false_iff_ne]; omega
                  have hbL3 : (bn : Int) + 3 < (L : Int) := by omega
                  have q0 := HC2.out.1 (bn + 3) (by omega)
                  have qf0 := HC2.out.2 (bn + 3)
                  clear hbn
                  go_wp2_with fail
                  go_region
                  all_goals
                    generalize hwA : World.setCell _ _ _ = wA
                    have RA : Row wA (.slice (some ⟨rl, 0, none⟩) L L) ((layN cs on l0 j).set (bn + 3) (an : Int)) := by rw [← hwA]; exact HS.out.1.set rfl (bn + 3) (by rw [HW.out.2.2.2.1]; omega) _
                    have KA : Kept (fun b => b = rl) W wA := by rw [← hwA]; exact HS.out.2.setCell (p := ⟨rl, bn + 3, none⟩) (fun _ => rfl) _
                    have hlA : ((layN cs on l0 j).set (bn + 3) (an : Int)).length = L := by rw [List.length_set]; exact HW.out.2.2.2.1 j
                    have hcA : wA.cell? ⟨g, j, none⟩ = some (.int .i64 an) := by
                      have := (KA.cell (p := ⟨g, j, none⟩) zgW (show ¬ g = rl by omega)).trans (HW.out.2.2.2.2.2.2.1 j hltj)
                      rwa [HAN.out] at this
                    obtain ⟨ggA, ccA, ccurA, eeA, -, -, -, scA, sfA⟩ := RA.pos (by rw [hlA]; omega)
                    rw [hlA] at eeA scA
                    cases eeA
                    have p1A := scA (an + 1) (by omega)
                    have f1A := sfA (an + 1)
                    have p2A := scA (an + 2) (by omega)
                    have f2A := sfA (an + 2)
                    clear scA sfA
                    have HA2 := Lib.hid (And.intro RA KA)
                    have zA : rl < wA.heap.size := Nat.lt_of_lt_of_le zrl KA.size
                    have zgA : g < wA.heap.size := by omega
                    clear RA KA hlA hwA q0 qf0 hbj hcj
                    go_wp2_with fail
                    generalize hwB : World.setCell _ _ _ = wB
                    have RB : Row wB (.slice (some ⟨rl, 0, none⟩) L L) (((layN cs on l0 j).set (bn + 3) (an : Int)).set (an + 1) 1) := by
                      rw [← hwB]
                      first
                        | exact HA2.out.1.set rfl (an + 1) (by rw [List.length_set, HW.out.2.2.2.1]; omega) 1
                        | exact (HA2.out.1.below (Below.refl _ _).drew).set rfl (an + 1) (by rw [List.length_set, HW.out.2.2.2.1]; omega) 1
                    have KB : Kept (fun b => b = rl) W wB := by
                      rw [← hwB]
                      first
                        | exact HA2.out.2.setCell (p := ⟨rl, an + 1, none⟩) (fun _ => rfl) _
                        | exact (HA2.out.2.drew).setCell (p := ⟨rl, an + 1, none⟩) (fun _ => rfl) _
                    have EB : (((layN cs on l0 j).set (bn + 3) (an : Int)).set (an + 1) 1) = layN cs on l0 (j + 1) := by
                      simp only [layN, layStep, HAN.out, if_neg hj, HBN.out, if_neg (show ¬ j = 0 by omega), Int.toNat_natCast]
                    rw [EB] at RB
                    have HBB := Lib.hid (And.intro RB KB)
                    clear RB KB EB hwB
                    go_roundw
                    case rel => exact ⟨j + 1, by omega, by go_num, by first | exact HBB.out.1 | exact HBB.out.1.below (Below.refl _ _).drew | exact HBB.out.1.below (Below.refl _ _).drew.drew, by first | exact HBB.out.2 | exact HBB.out.2.drew | exact HBB.out.2.drew.drew⟩
                    case measure => first | (simp [intOf]; done) | (simp [intOf]; omega)
            · obtain rfl : j = m := by omega
              have hmin : min M n = j := by have := HMM.out; omega
              have OT := (HW.out.2.2.1.kept HS.out.2 (fun b e => by cases e; exact (show ¬ g = rl by omega))).take (A := j) (by rw [ord_len]; omega)
              go_wp2
              go_ret2
              refine ⟨_, _, rfl, ?_, ?_, ?_, ?_⟩
              · rw [hmin, HW.out.2.2.2.2.2.2.2.2, ← HL.out.1, HW.out.2.2.2.2.2.2.2.1]; exact HS.out.1
              · rw [hmin]; exact OT
              · exact HW.out.2.1.trans ((HS.out.2.below (Nat.le_of_lt zrl) (fun k hk e => by omega)).mono zlr)
              · intro k e; cases e; exact zlr
        · by_cases hmn3 : M = n
          · subst hmn3
            obtain ⟨W, hW⟩ : ∃ W, W = wr := ⟨_, rfl⟩
            obtain ⟨L, hL⟩ : ∃ L : Nat, (3 : Int) + 5 * (M : Int) = (L : Int) := ⟨3 + 5 * M, by omega⟩
            have hL1 : L = 3 + 5 * M := by omega
            have hmk : ∀ u : World, (Instr.makeSlice 23 (.int .i64 (3 + 5 * (M : Int))) (.int .i64 (3 + 5 * (M : Int)))).run Try.prog u = .ok (.slice (some ⟨u.heap.size, 0, none⟩) L L) (u.alloc (.cells (madeCells #[.int .i64 0] L) 2)) := fun u => by rw [hL]; exact run_make_row' (P := Try.prog) 23 2 (.int .i64 0) 8 Try.underlying23 Try.info64 rfl .i64 .i64 L (by omega) (by omega) u
            have HL := Lib.hid (And.intro hL1 trivial)
            clear hL
            obtain ⟨g, cap', cur, e2, hg⟩ := HR.out.1.pos (by rw [ord_len]; omega)
            rw [ord_len] at e2
            cases e2
            have hncap : M ≤ cap := by have := hg.2.2.1; rw [ord_len] at this; exact this
            have hnc : (M : Int) ≤ (cap : Int) := by omega
            have hmc : (M : Int) ≤ (cap : Int) := by omega
            have hL2 : (2 : Int) < (L : Int) := by omega
            have zg : g < wr.heap.size := (Array.getElem?_eq_some_iff.1 hg.1).1
            have RM := row_made wr L (by omega)
            have sL := (RM.pos (by first | (simp; done) | (simp; omega)))
            obtain ⟨gg, cc, ccur, ee, -, -, -, scell, sfroz⟩ := sL
            rw [List.length_replicate] at ee
            cases ee
            have s2 : (wr.alloc (.cells (madeCells #[.int .i64 0] L) 2)).cell? ⟨wr.heap.size, 2, none⟩ = some (.int .i64 0) := by have := scell 2 (by first | (simp; done) | (simp; omega)); rw [this, List.getD_eq_getElem?_getD, List.getElem?_replicate, if_pos (by omega)] <;> rfl
            have s2f := sfroz 2
            clear hL1
            have HRM := Lib.hid RM
            clear RM scell sfroz hg hW
            go_wp2
            generalize hrl : wr.heap.size = rl
            generalize hW : World.alloc _ _ = W
            have RW : Row W (.slice (some ⟨rl, 0, none⟩) L L) ((List.replicate L 0).set 2 50) := by rw [← hW, ← hrl]; exact row_made2 wr L (by have := HL.out.1; omega)
            have BW : Below wr.heap.size wr W := by rw [← hW]; exact (Below.refl _ _).alloc (Nat.le_refl _) _
            have OW := HR.out.1.below BW
            have zgr : g < rl := by omega
            have zrl : rl < W.heap.size := RW.lt (g := rl) rfl
            have zgW : g < W.heap.size := by omega
            have zlr : w.heap.size ≤ rl := by have := HR.out.2.1.size; omega
            have BwW := HR.out.2.1.trans (BW.mono HR.out.2.1.size)
            have zcw : ∀ b, b < w.heap.size → b < rl := fun b hb => by have := HR.out.2.1.size; omega
            obtain ⟨m, hm⟩ : ∃ m, M = m := ⟨_, rfl⟩
            obtain ⟨l0, hl0⟩ : ∃ l, ((List.replicate L (0 : Int)).set 2 50) = l := ⟨_, rfl⟩
            obtain ⟨on, hon⟩ : ∃ o, (ord cs M).take m = o := ⟨_, rfl⟩
            rw [hl0] at RW
            have hmn3 : m ≤ M := by omega
            have hm9 : (m : Int) ≤ 9 := by omega
            have hll : ∀ q, (layN cs on l0 q).length = L := fun q => by rw [layN_len, ← hl0]; simp
            have honl : on.length = m := by rw [← hon, List.length_take, ord_len]; omega
            have hat : ∀ q, q < m → ∃ an : Nat, on.getD q 0 = (an : Int) ∧ 3 ≤ an ∧ an + 5 ≤ L := fun q hq => by
              obtain ⟨an, h1, h2, h3⟩ := ord_at cs (n := M) (j := q) (by omega)
              exact ⟨an, by rw [← hon, take_getD hq, h1], h2, by have := HL.out.1; omega⟩
            have hcl : ∀ q, q < m → W.cell? ⟨g, q, none⟩ = some (.int .i64 (on.getD q 0)) := fun q hq => by
              obtain ⟨g', c', cur', e', -, -, -, hcc, -⟩ := OW.pos (by rw [ord_len]; omega)
              rw [ord_len] at e'
              cases e'
              rw [← hon, take_getD hq]
              exact hcc q (by rw [ord_len]; omega)
            have HW := Lib.hid (And.intro RW (And.intro BwW (And.intro OW (And.intro hll (And.intro honl (And.intro hat (And.intro hcl (And.intro hl0 hon))))))))
            clear hW RW BW OW BwW hll honl hat hcl hl0 hon s2 s2f hmk HRM
            try rw [hm]
            have HMM := Lib.hid hm
            clear hm
            go_loopw [13] (fun k wx => ∃ j : Nat, j ≤ m ∧ k = .int .i64 j ∧ Row wx (.slice (some ⟨rl, 0, none⟩) L L) (layN cs on l0 j) ∧ Kept (fun b => b = rl) W wx) (fun k _ => m - (intOf k).toNat)
            case atStart => exact ⟨0, Nat.zero_le _, rfl, HW.out.1, Kept.refl _ _⟩
            case round =>
              obtain ⟨j, hj1, rfl, hR2, hK2⟩ := hrel
              have HS := Lib.hid (And.intro hR2 hK2)
              clear hR2 hK2
              have zj : (0 : Int) ≤ (j : Int) := by omega
              have hj9 : (j : Int) ≤ 9 := by omega
              have zrl2 : rl < wr.heap.size := Nat.lt_of_lt_of_le zrl HS.out.2.size
              have zg2 : g < wr.heap.size := by omega
              by_cases hltj : j < m
              · have hltj' : (j : Int) < (m : Int) := by omega
                obtain ⟨an, han, ha3, haL⟩ := HW.out.2.2.2.2.2.1 j hltj
                have hcj : wr.cell? ⟨g, j, none⟩ = some (.int .i64 an) := by
                  have := (HS.out.2.cell (p := ⟨g, j, none⟩) zgW (show ¬ g = rl by omega)).trans (HW.out.2.2.2.2.2.2.1 j hltj)
                  rwa [han] at this
                have HAN := Lib.hid han
                clear han
                obtain ⟨gg2, cc2, ccur2, ee2, -, -, -, scell2, sfroz2⟩ := HS.out.1.pos (by rw [HW.out.2.2.2.1]; omega)
                rw [HW.out.2.2.2.1] at ee2 scell2
                cases ee2
                have HC2 := Lib.hid (And.intro scell2 sfroz2)
                clear scell2 sfroz2
                by_cases hj : j < cs.length
                · by_cases hz : j = 0
                  · have hj' : (j : Int) < (cs.length : Int) := by omega
                    obtain ⟨cb', off', e1, -, hx⟩ := HC.out.2.2.1 (by omega)
                    cases e1
                    have hxW : W.cell? ⟨cb, off + j, none⟩ = some (.int .u8 (cs.getD j 0)) := (HW.out.2.1.cell (p := ⟨cb, off + j, none⟩) hcb).trans (hx j hj)
                    have zcb : cb < W.heap.size := Nat.lt_of_lt_of_le hcb (Nat.le_trans zlr (Nat.le_of_lt zrl))
                    have hcr : ¬ cb = rl := by omega
                    have hrj := bounds_u8 (wf_getD HC.out.2.1 j hj)
                    obtain ⟨x, hxx⟩ : ∃ x, cs.getD j 0 = x := ⟨_, rfl⟩
                    rw [hxx] at hxW hrj
                    obtain ⟨hrj1, hrj2⟩ := hrj
                    have HX := Lib.hid (And.intro hxx hxW)
                    clear hxx hx hxW
                    obtain rfl : 0 = j := hz.symm
                    have hLn : (L : Int) ≤ 48 := by have := HL.out.1; omega
                    have ha0 : ¬ an = 0 := by omega
                    have haL1 : (an : Int) + 1 < (L : Int) := by omega
                    have haL2 : (an : Int) + 2 < (L : Int) := by omega
                    have q0 := HC2.out.1 1 (by omega)
                    have qf0 := HC2.out.2 1
                    have p1 := HC2.out.1 (an + 1) (by omega)
                    have f1 := HC2.out.2 (an + 1)
                    have p2 := HC2.out.1 (an + 2) (by omega)
                    have f2 := HC2.out.2 (an + 2)
                    have hxr := (HS.out.2.cell (p := ⟨cb, off, none⟩) zcb hcr).trans (show W.cell? ⟨cb, off, none⟩ = _ from HX.out.2)
                    go_wp2_with fail
                    first | go_region | skip
                    all_goals
                      try go_wp2_with fail
                      generalize hwB : World.setCell _ _ _ = wB
                      have RB : Row wB (.slice (some ⟨rl, 0, none⟩) L L) ((((layN cs on l0 0).set 1 (an : Int)).set (an + 1) 1).set (an + 2) (x % 60)) := by
                        rw [← hwB]
                        first
                          | exact ((HS.out.1.set rfl 1 (by rw [HW.out.2.2.2.1]; omega) (an : Int)).set rfl (an + 1) (by rw [List.length_set, HW.out.2.2.2.1]; omega) 1).set rfl (an + 2) (by rw [List.length_set]; rw [List.length_set, HW.out.2.2.2.1]; omega) (x % 60)
                          | exact (((HS.out.1.set rfl 1 (by rw [HW.out.2.2.2.1]; omega) (an : Int)).below (Below.refl _ _).drew).set rfl (an + 1) (by rw [List.length_set, HW.out.2.2.2.1]; omega) 1).set rfl (an + 2) (by rw [List.length_set]; rw [List.length_set, HW.out.2.2.2.1]; omega) (x % 60)
                      have KB : Kept (fun b => b = rl) W wB := by
                        rw [← hwB]
                        first
                          | exact ((HS.out.2.setCell (p := ⟨rl, 1, none⟩) (fun _ => rfl) _).setCell (p := ⟨rl, an + 1, none⟩) (fun _ => rfl) _).setCell (p := ⟨rl, an + 2, none⟩) (fun _ => rfl) _
                          | exact (((HS.out.2.setCell (p := ⟨rl, 1, none⟩) (fun _ => rfl) _).drew).setCell (p := ⟨rl, an + 1, none⟩) (fun _ => rfl) _).setCell (p := ⟨rl, an + 2, none⟩) (fun _ => rfl) _
                      have EB : ((((layN cs on l0 0).set 1 (an : Int)).set (an + 1) 1).set (an + 2) (x % 60)) = layN cs on l0 (0 + 1) := by
                        simp only [layN, layStep, HAN.out, HX.out.1, if_pos hj, Int.toNat_natCast, if_true]
                      rw [EB] at RB
                      have HBB := Lib.hid (And.intro RB KB)
                      clear RB KB EB hwB
                      go_roundw
                      case rel => exact ⟨0 + 1, by omega, by go_num, by first | exact HBB.out.1 | exact HBB.out.1.below (Below.refl _ _).drew | exact HBB.out.1.below (Below.refl _ _).drew.drew, by first | exact HBB.out.2 | exact HBB.out.2.drew | exact HBB.out.2.drew.drew⟩
                      case measure => first | (simp [intOf]; done) | (simp [intOf]; omega)
                  · have hj' : (j : Int) < (cs.length : Int) := by omega
                    obtain ⟨cb', off', e1, -, hx⟩ := HC.out.2.2.1 (by omega)
                    cases e1
                    have hxW : W.cell? ⟨cb, off + j, none⟩ = some (.int .u8 (cs.getD j 0)) := (HW.out.2.1.cell (p := ⟨cb, off + j, none⟩) hcb).trans (hx j hj)
                    have zcb : cb < W.heap.size := Nat.lt_of_lt_of_le hcb (Nat.le_trans zlr (Nat.le_of_lt zrl))
                    have hcr : ¬ cb = rl := by omega
                    have hrj := bounds_u8 (wf_getD HC.out.2.1 j hj)
                    obtain ⟨x, hxx⟩ : ∃ x, cs.getD j 0 = x := ⟨_, rfl⟩
                    rw [hxx] at hxW hrj
                    obtain ⟨hrj1, hrj2⟩ := hrj
                    have HX := Lib.hid (And.intro hxx hxW)
                    clear hxx hx hxW
                    have hLn : (L : Int) ≤ 48 := by have := HL.out.1; omega
                    have ha0 : ¬ an = 0 := by omega
                    have haL1 : (an : Int) + 1 < (L : Int) := by omega
                    have haL2 : (an : Int) + 2 < (L : Int) := by omega
                    obtain ⟨bn, hbn, hb3, hbL⟩ := HW.out.2.2.2.2.2.1 (j - 1) (by omega)
                    have hbj : wr.cell? ⟨g, j - 1, none⟩ = some (.int .i64 bn) := by
                      have := (HS.out.2.cell (p := ⟨g, j - 1, none⟩) zgW (show ¬ g = rl by omega)).trans (HW.out.2.2.2.2.2.2.1 (j - 1) (by omega))
                      rwa [hbn] at this
                    have HBN := Lib.hid hbn
                    have hj0 : (0 : Int) ≤ (j : Int) - 1 := by omega
                    have hjm : (j : Int) - 1 < (m : Int) := by omega
                    have hjt : ((j : Int) - 1).toNat = j - 1 := by omega
                    have hjz : ((j : Int) == 0) = false := by rw [beq_eq_false_iff_ne]; omega
                    have hbL3 : (bn : Int) + 3 < (L : Int) := by omega
                    have q0 := HC2.out.1 (bn + 3) (by omega)
                    have qf0 := HC2.out.2 (bn + 3)
                    clear hbn
                    go_wp2_with fail
                    go_region
                    all_goals
                      generalize hwA : World.setCell _ _ _ = wA
                      have RA : Row wA (.slice (some ⟨rl, 0, none⟩) L L) ((layN cs on l0 j).set (bn + 3) (an : Int)) := by rw [← hwA]; exact HS.out.1.set rfl (bn + 3) (by rw [HW.out.2.2.2.1]; omega) _
                      have KA : Kept (fun b => b = rl) W wA := by rw [← hwA]; exact HS.out.2.setCell (p := ⟨rl, bn + 3, none⟩) (fun _ => rfl) _
                      have hlA : ((layN cs on l0 j).set (bn + 3) (an : Int)).length = L := by rw [List.length_set]; exact HW.out.2.2.2.1 j
                      have hcA : wA.cell? ⟨g, j, none⟩ = some (.int .i64 an) := by
                        have := (KA.cell (p := ⟨g, j, none⟩) zgW (show ¬ g = rl by omega)).trans (HW.out.2.2.2.2.2.2.1 j hltj)
                        rwa [HAN.out] at this
                      have hxA := (KA.cell (p := ⟨cb, off + j, none⟩) zcb hcr).trans HX.out.2
                      obtain ⟨ggA, ccA, ccurA, eeA, -, -, -, scA, sfA⟩ := RA.pos (by rw [hlA]; omega)
                      rw [hlA] at eeA scA
                      cases eeA
                      have p1A := scA (an + 1) (by omega)
                      have f1A := sfA (an + 1)
                      have p2A := scA (an + 2) (by omega)
                      have f2A := sfA (an + 2)
                      clear scA sfA
                      have HA2 := Lib.hid (And.intro RA KA)
                      have zA : rl < wA.heap.size := Nat.lt_of_lt_of_le zrl KA.size
                      have zgA : g < wA.heap.size := by omega
                      clear RA KA hlA hwA q0 qf0 hbj hcj
                      go_wp2_with fail
                      first | go_region | skip
                      all_goals
                        try go_wp2_with fail
                        generalize hwB : World.setCell _ _ _ = wB
                        have RB : Row wB (.slice (some ⟨rl, 0, none⟩) L L) ((((layN cs on l0 j).set (bn + 3) (an : Int)).set (an + 1) 1).set (an + 2) (x % 60)) := by
                          rw [← hwB]
                          first
                            | exact (HA2.out.1.set rfl (an + 1) (by rw [List.length_set, HW.out.2.2.2.1]; omega) 1).set rfl (an + 2) (by rw [List.length_set]; rw [List.length_set, HW.out.2.2.2.1]; omega) (x % 60)
                            | exact ((HA2.out.1.below (Below.refl _ _).drew).set rfl (an + 1) (by rw [List.length_set, HW.out.2.2.2.1]; omega) 1).set rfl (an + 2) (by rw [List.length_set]; rw [List.length_set, HW.out.2.2.2.1]; omega) (x % 60)
                        have KB : Kept (fun b => b = rl) W wB := by
                          rw [← hwB]
                          first
                            | exact (HA2.out.2.setCell (p := ⟨rl, an + 1, none⟩) (fun _ => rfl) _).setCell (p := ⟨rl, an + 2, none⟩) (fun _ => rfl) _
                            | exact ((HA2.out.2.drew).setCell (p := ⟨rl, an + 1, none⟩) (fun _ => rfl) _).setCell (p := ⟨rl, an + 2, none⟩) (fun _ => rfl) _
                        have EB : ((((layN cs on l0 j).set (bn + 3) (an : Int)).set (an + 1) 1).set (an + 2) (x % 60)) = layN cs on l0 (j + 1) := by
                          simp only [layN, layStep, HAN.out, HX.out.1, if_pos hj, HBN.out, if_neg (show ¬ j = 0 by omega), Int.toNat_natCast]
                        rw [EB] at RB
                        have HBB := Lib.hid (And.intro RB KB)
                        clear RB KB EB hwB
                        go_roundw
                        case rel => exact ⟨j + 1, by omega, by go_num, by first | exact HBB.out.1 | exact HBB.out.1.below (Below.refl _ _).drew | exact HBB.out.1.below (Below.refl _ _).drew.drew, by first | exact HBB.out.2 | exact HBB.out.2.drew | exact HBB.out.2.drew.drew⟩
                        case measure => first | (simp [intOf]; done) | (simp [intOf]; omega)
                · by_cases hz : j = 0
                  · omega
                  · have hj' : (cs.length : Int) ≤ (j : Int) := by omega
                    have hLn : (L : Int) ≤ 48 := by have := HL.out.1; omega
                    have ha0 : ¬ an = 0 := by omega
                    have haL1 : (an : Int) + 1 < (L : Int) := by omega
                    have haL2 : (an : Int) + 2 < (L : Int) := by omega
                    obtain ⟨bn, hbn, hb3, hbL⟩ := HW.out.2.2.2.2.2.1 (j - 1) (by omega)
                    have hbj : wr.cell? ⟨g, j - 1, none⟩ = some (.int .i64 bn) := by
                      have := (HS.out.2.cell (p := ⟨g, j - 1, none⟩) zgW (show ¬ g = rl by omega)).trans (HW.out.2.2.2.2.2.2.1 (j - 1) (by omega))
                      rwa [hbn] at this
                    have HBN := Lib.hid hbn
                    have hj0 : (0 : Int) ≤ (j : Int) - 1 := by omega
                    have hjm : (j : Int) - 1 < (m : Int) := by omega
                    have hjt : ((j : Int) - 1).toNat = j - 1 := by omega
                    have hjz : ((j : Int) == 0) = false := by rw [beq_eq_false_iff_ne]; omega
                    have hbL3 : (bn : Int) + 3 < (L : Int) := by omega
                    have q0 := HC2.out.1 (bn + 3) (by omega)
                    have qf0 := HC2.out.2 (bn + 3)
                    clear hbn
                    go_wp2_with fail
                    go_region
                    all_goals
                      generalize hwA : World.setCell _ _ _ = wA
                      have RA : Row wA (.slice (some ⟨rl, 0, none⟩) L L) ((layN cs on l0 j).set (bn + 3) (an : Int)) := by rw [← hwA]; exact HS.out.1.set rfl (bn + 3) (by rw [HW.out.2.2.2.1]; omega) _
                      have KA : Kept (fun b => b = rl) W wA := by rw [← hwA]; exact HS.out.2.setCell (p := ⟨rl, bn + 3, none⟩) (fun _ => rfl) _
                      have hlA : ((layN cs on l0 j).set (bn + 3) (an : Int)).length = L := by rw [List.length_set]; exact HW.out.2.2.2.1 j
                      have hcA : wA.cell? ⟨g, j, none⟩ = some (.int .i64 an) := by
                        have := (KA.cell (p := ⟨g, j, none⟩) zgW (show ¬ g = rl by omega)).trans (HW.out.2.2.2.2.2.2.1 j hltj)
                        rwa [HAN.out] at this
                      obtain ⟨ggA, ccA, ccurA, eeA, -, -, -, scA, sfA⟩ := RA.pos (by rw [hlA]; omega)
                      rw [hlA] at eeA scA
                      cases eeA
                      have p1A := scA (an + 1) (by omega)
                      have f1A := sfA (an + 1)
                      have p2A := scA (an + 2) (by omega)
                      have f2A := sfA (an + 2)
                      clear scA sfA
                      have HA2 := Lib.hid (And.intro RA KA)
                      have zA : rl < wA.heap.size := Nat.lt_of_lt_of_le zrl KA.size
                      have zgA : g < wA.heap.size := by omega
                      clear RA KA hlA hwA q0 qf0 hbj hcj
                      go_wp2_with fail
                      generalize hwB : World.setCell _ _ _ = wB
                      have RB : Row wB (.slice (some ⟨rl, 0, none⟩) L L) (((layN cs on l0 j).set (bn + 3) (an : Int)).set (an + 1) 1) := by
                        rw [← hwB]
                        first
                          | exact HA2.out.1.set rfl (an + 1) (by rw [List.length_set, HW.out.2.2.2.1]; omega) 1
                          | exact (HA2.out.1.below (Below.refl _ _).drew).set rfl (an + 1) (by rw [List.length_set, HW.out.2.2.2.1]; omega) 1
                      have KB : Kept (fun b => b = rl) W wB := by
                        rw [← hwB]
                        first
                          | exact HA2.out.2.setCell (p := ⟨rl, an + 1, none⟩) (fun _ => rfl) _
                          | exact (HA2.out.2.drew).setCell (p := ⟨rl, an + 1, none⟩) (fun _ => rfl) _
                      have EB : (((layN cs on l0 j).set (bn + 3) (an : Int)).set (an + 1) 1) = layN cs on l0 (j + 1) := by
                        simp only [layN, layStep, HAN.out, if_neg hj, HBN.out, if_neg (show ¬ j = 0 by omega), Int.toNat_natCast]
                      rw [EB] at RB
                      have HBB := Lib.hid (And.intro RB KB)
                      clear RB KB EB hwB
                      go_roundw
                      case rel => exact ⟨j + 1, by omega, by go_num, by first | exact HBB.out.1 | exact HBB.out.1.below (Below.refl _ _).drew | exact HBB.out.1.below (Below.refl _ _).drew.drew, by first | exact HBB.out.2 | exact HBB.out.2.drew | exact HBB.out.2.drew.drew⟩
                      case measure => first | (simp [intOf]; done) | (simp [intOf]; omega)
              · obtain rfl : j = m := by omega
                have hmin : min M M = j := by have := HMM.out; omega
                have OT := (HW.out.2.2.1.kept HS.out.2 (fun b e => by cases e; exact (show ¬ g = rl by omega))).take (A := j) (by rw [ord_len]; omega)
                go_wp2
                go_ret2
                refine ⟨_, _, rfl, ?_, ?_, ?_, ?_⟩
                · rw [hmin, HW.out.2.2.2.2.2.2.2.2, ← HL.out.1, HW.out.2.2.2.2.2.2.2.1]; exact HS.out.1
                · rw [hmin]; exact OT
                · exact HW.out.2.1.trans ((HS.out.2.below (Nat.le_of_lt zrl) (fun k hk e => by omega)).mono zlr)
                · intro k e; cases e; exact zlr
          · have hmn' : (n : Int) < (M : Int) := by omega
            obtain ⟨W, hW⟩ : ∃ W, W = wr := ⟨_, rfl⟩
            obtain ⟨L, hL⟩ : ∃ L : Nat, (3 : Int) + 5 * (n : Int) = (L : Int) := ⟨3 + 5 * n, by omega⟩
            have hL1 : L = 3 + 5 * n := by omega
            have hmk : ∀ u : World, (Instr.makeSlice 23 (.int .i64 (3 + 5 * (n : Int))) (.int .i64 (3 + 5 * (n : Int)))).run Try.prog u = .ok (.slice (some ⟨u.heap.size, 0, none⟩) L L) (u.alloc (.cells (madeCells #[.int .i64 0] L) 2)) := fun u => by rw [hL]; exact run_make_row' (P := Try.prog) 23 2 (.int .i64 0) 8 Try.underlying23 Try.info64 rfl .i64 .i64 L (by omega) (by omega) u
            have HL := Lib.hid (And.intro hL1 trivial)
            clear hL
            obtain ⟨g, cap', cur, e2, hg⟩ := HR.out.1.pos (by rw [ord_len]; omega)
            rw [ord_len] at e2
            cases e2
            have hncap : n ≤ cap := by have := hg.2.2.1; rw [ord_len] at this; exact this
            have hnc : (n : Int) ≤ (cap : Int) := by omega
            have hmc : (n : Int) ≤ (cap : Int) := by omega
            have hL2 : (2 : Int) < (L : Int) := by omega
            have zg : g < wr.heap.size := (Array.getElem?_eq_some_iff.1 hg.1).1
            have RM := row_made wr L (by omega)
            have sL := (RM.pos (by first | (simp; done) | (simp; omega)))
            obtain ⟨gg, cc, ccur, ee, -, -, -, scell, sfroz⟩ := sL
            rw [List.length_replicate] at ee
            cases ee
            have s2 : (wr.alloc (.cells (madeCells #[.int .i64 0] L) 2)).cell? ⟨wr.heap.size, 2, none⟩ = some (.int .i64 0) := by have := scell 2 (by first | (simp; done) | (simp; omega)); rw [this, List.getD_eq_getElem?_getD, List.getElem?_replicate, if_pos (by omega)] <;> rfl
            have s2f := sfroz 2
            clear hL1
            have HRM := Lib.hid RM
            clear RM scell sfroz hg hW
            go_wp2
            generalize hrl : wr.heap.size = rl
            generalize hW : World.alloc _ _ = W
            have RW : Row W (.slice (some ⟨rl, 0, none⟩) L L) ((List.replicate L 0).set 2 50) := by rw [← hW, ← hrl]; exact row_made2 wr L (by have := HL.out.1; omega)
            have BW : Below wr.heap.size wr W := by rw [← hW]; exact (Below.refl _ _).alloc (Nat.le_refl _) _
            have OW := HR.out.1.below BW
            have zgr : g < rl := by omega
            have zrl : rl < W.heap.size := RW.lt (g := rl) rfl
            have zgW : g < W.heap.size := by omega
            have zlr : w.heap.size ≤ rl := by have := HR.out.2.1.size; omega
            have BwW := HR.out.2.1.trans (BW.mono HR.out.2.1.size)
            have zcw : ∀ b, b < w.heap.size → b < rl := fun b hb => by have := HR.out.2.1.size; omega
            obtain ⟨m, hm⟩ : ∃ m, n = m := ⟨_, rfl⟩
            obtain ⟨l0, hl0⟩ : ∃ l, ((List.replicate L (0 : Int)).set 2 50) = l := ⟨_, rfl⟩
            obtain ⟨on, hon⟩ : ∃ o, (ord cs n).take m = o := ⟨_, rfl⟩
            rw [hl0] at RW
            have hmn3 : m ≤ n := by omega
            have hm9 : (m : Int) ≤ 9 := by omega
            have hll : ∀ q, (layN cs on l0 q).length = L := fun q => by rw [layN_len, ← hl0]; simp
            have honl : on.length = m := by rw [← hon, List.length_take, ord_len]; omega
            have hat : ∀ q, q < m → ∃ an : Nat, on.getD q 0 = (an : Int) ∧ 3 ≤ an ∧ an + 5 ≤ L := fun q hq => by
              obtain ⟨an, h1, h2, h3⟩ := ord_at cs (n := n) (j := q) (by omega)
              exact ⟨an, by rw [← hon, take_getD hq, h1], h2, by have := HL.out.1; omega⟩
            have hcl : ∀ q, q < m → W.cell? ⟨g, q, none⟩ = some (.int .i64 (on.getD q 0)) := fun q hq => by
              obtain ⟨g', c', cur', e', -, -, -, hcc, -⟩ := OW.pos (by rw [ord_len]; omega)
              rw [ord_len] at e'
              cases e'
              rw [← hon, take_getD hq]
              exact hcc q (by rw [ord_len]; omega)
            have HW := Lib.hid (And.intro RW (And.intro BwW (And.intro OW (And.intro hll (And.intro honl (And.intro hat (And.intro hcl (And.intro hl0 hon))))))))
            clear hW RW BW OW BwW hll honl hat hcl hl0 hon s2 s2f hmk HRM
            try rw [hm]
            have HMM := Lib.hid hm
            clear hm
            go_loopw [13] (fun k wx => ∃ j : Nat, j ≤ m ∧ k = .int .i64 j ∧ Row wx (.slice (some ⟨rl, 0, none⟩) L L) (layN cs on l0 j) ∧ Kept (fun b => b = rl) W wx) (fun k _ => m - (intOf k).toNat)
            case atStart => exact ⟨0, Nat.zero_le _, rfl, HW.out.1, Kept.refl _ _⟩
            case round =>
              obtain ⟨j, hj1, rfl, hR2, hK2⟩ := hrel
              have HS := Lib.hid (And.intro hR2 hK2)
              clear hR2 hK2
              have zj : (0 : Int) ≤ (j : Int) := by omega
              have hj9 : (j : Int) ≤ 9 := by omega
              have zrl2 : rl < wr.heap.size := Nat.lt_of_lt_of_le zrl HS.out.2.size
              have zg2 : g < wr.heap.size := by omega
              by_cases hltj : j < m
              · have hltj' : (j : Int) < (m : Int) := by omega
                obtain ⟨an, han, ha3, haL⟩ := HW.out.2.2.2.2.2.1 j hltj
                have hcj : wr.cell? ⟨g, j, none⟩ = some (.int .i64 an) := by
                  have := (HS.out.2.cell (p := ⟨g, j, none⟩) zgW (show ¬ g = rl by omega)).trans (HW.out.2.2.2.2.2.2.1 j hltj)
                  rwa [han] at this
                have HAN := Lib.hid han
                clear han
                obtain ⟨gg2, cc2, ccur2, ee2, -, -, -, scell2, sfroz2⟩ := HS.out.1.pos (by rw [HW.out.2.2.2.1]; omega)
                rw [HW.out.2.2.2.1] at ee2 scell2
                cases ee2
                have HC2 := Lib.hid (And.intro scell2 sfroz2)
                clear scell2 sfroz2
                by_cases hj : j < cs.length
                · by_cases hz : j = 0
                  · have hj' : (j : Int) < (cs.length : Int) := by omega
                    obtain ⟨cb', off', e1, -, hx⟩ := HC.out.2.2.1 (by omega)
                    cases e1
                    have hxW : W.cell? ⟨cb, off + j, none⟩ = some (.int .u8 (cs.getD j 0)) := (HW.out.2.1.cell (p := ⟨cb, off + j, none⟩) hcb).trans (hx j hj)
                    have zcb : cb < W.heap.size := Nat.lt_of_lt_of_le hcb (Nat.le_trans zlr (Nat.le_of_lt zrl))
                    have hcr : ¬ cb = rl := by omega
                    have hrj := bounds_u8 (wf_getD HC.out.2.1 j hj)
                    obtain ⟨x, hxx⟩ : ∃ x, cs.getD j 0 = x := ⟨_, rfl⟩
                    rw [hxx] at hxW hrj
                    obtain ⟨hrj1, hrj2⟩ := hrj
                    have HX := Lib.hid (And.intro hxx hxW)
                    clear hxx hx hxW
                    obtain rfl : 0 = j := hz.symm
                    have hLn : (L : Int) ≤ 48 := by have := HL.out.1; omega
                    have ha0 : ¬ an = 0 := by omega
                    have haL1 : (an : Int) + 1 < (L : Int) := by omega
                    have haL2 : (an : Int) + 2 < (L : Int) := by omega
                    have q0 := HC2.out.1 1 (by omega)
                    have qf0 := HC2.out.2 1
                    have p1 := HC2.out.1 (an + 1) (by omega)
                    have f1 := HC2.out.2 (an + 1)
                    have p2 := HC2.out.1 (an + 2) (by omega)
                    have f2 := HC2.out.2 (an + 2)
                    have hxr := (HS.out.2.cell (p := ⟨cb, off, none⟩) zcb hcr).trans (show W.cell? ⟨cb, off, none⟩ = _ from HX.out.2)
                    go_wp2_with fail
                    first | go_region | skip
                    all_goals
                      try go_wp2_with fail
                      generalize hwB : World.setCell _ _ _ = wB
                      have RB : Row wB (.slice (some ⟨rl, 0, none⟩) L L) ((((layN cs on l0 0).set 1 (an : Int)).set (an + 1) 1).set (an + 2) (x % 60)) := by
                        rw [← hwB]
                        first
                          | exact ((HS.out.1.set rfl 1 (by rw [HW.out.2.2.2.1]; omega) (an : Int)).set rfl (an + 1) (by rw [List.length_set, HW.out.2.2.2.1]; omega) 1).set rfl (an + 2) (by rw [List.length_set]; rw [List.length_set, HW.out.2.2.2.1]; omega) (x % 60)
                          | exact (((HS.out.1.set rfl 1 (by rw [HW.out.2.2.2.1]; omega) (an : Int)).below (Below.refl _ _).drew).set rfl (an + 1) (by rw [List.length_set, HW.out.2.2.2.1]; omega) 1).set rfl (an + 2) (by rw [List.length_set]; rw [List.length_set, HW.out.2.2.2.1]; omega) (x % 60)
                      have KB : Kept (fun b => b = rl) W wB := by
                        rw [← hwB]
                        first
                          | exact ((HS.out.2.setCell (p := ⟨rl, 1, none⟩) (fun _ => rfl) _).setCell (p := ⟨rl, an + 1, none⟩) (fun _ => rfl) _).setCell (p := ⟨rl, an + 2, none⟩) (fun _ => rfl) _
                          | exact (((HS.out.2.setCell (p := ⟨rl, 1, none⟩) (fun _ => rfl) _).drew).setCell (p := ⟨rl, an + 1, none⟩) (fun _ => rfl) _).setCell (p := ⟨rl, an + 2, none⟩) (fun _ => rfl) _
                      have EB : ((((layN cs on l0 0).set 1 (an : Int)).set (an + 1) 1).set (an + 2) (x % 60)) = layN cs on l0 (0 + 1) := by
                        simp only [layN, layStep, HAN.out, HX.out.1, if_pos hj, Int.toNat_natCast, if_true]
                      rw [EB] at RB
                      have HBB := Lib.hid (And.intro RB KB)
                      clear RB KB EB hwB
                      go_roundw
                      case rel => exact ⟨0 + 1, by omega, by go_num, by first | exact HBB.out.1 | exact HBB.out.1.below (Below.refl _ _).drew | exact HBB.out.1.below (Below.refl _ _).drew.drew, by first | exact HBB.out.2 | exact HBB.out.2.drew | exact HBB.out.2.drew.drew⟩
                      case measure => first | (simp [intOf]; done) | (simp [intOf]; omega)
                  · have hj' : (j : Int) < (cs.length : Int) := by omega
                    obtain ⟨cb', off', e1, -, hx⟩ := HC.out.2.2.1 (by omega)
                    cases e1
                    have hxW : W.cell? ⟨cb, off + j, none⟩ = some (.int .u8 (cs.getD j 0)) := (HW.out.2.1.cell (p := ⟨cb, off + j, none⟩) hcb).trans (hx j hj)
                    have zcb : cb < W.heap.size := Nat.lt_of_lt_of_le hcb (Nat.le_trans zlr (Nat.le_of_lt zrl))
                    have hcr : ¬ cb = rl := by omega
                    have hrj := bounds_u8 (wf_getD HC.out.2.1 j hj)
                    obtain ⟨x, hxx⟩ : ∃ x, cs.getD j 0 = x := ⟨_, rfl⟩
                    rw [hxx] at hxW hrj
                    obtain ⟨hrj1, hrj2⟩ := hrj
                    have HX := Lib.hid (And.intro hxx hxW)
                    clear hxx hx hxW
                    have hLn : (L : Int) ≤ 48 := by have := HL.out.1; omega
                    have ha0 : ¬ an = 0 := by omega
                    have haL1 : (an : Int) + 1 < (L : Int) := by omega
                    have haL2 : (an : Int) + 2 < (L : Int) := by omega
                    obtain ⟨bn, hbn, hb3, hbL⟩ := HW.out.2.2.2.2.2.1 (j - 1) (by omega)
                    have hbj : wr.cell? ⟨g, j - 1, none⟩ = some (.int .i64 bn) := by
                      have := (HS.out.2.cell (p := ⟨g, j - 1, none⟩) zgW (show ¬ g = rl by omega)).trans (HW.out.2.2.2.2.2.2.1 (j - 1) (by omega))
                      rwa [hbn] at this
                    have HBN := Lib.hid hbn
                    have hj0 : (0 : Int) ≤ (j : Int) - 1 := by omega
                    have hjm : (j : Int) - 1 < (m : Int) := by omega
                    have hjt : ((j : Int) - 1).toNat = j - 1 := by omega
                    have hjz : ((j : Int) == 0) = false := by rw [beq_eq_false_iff_ne]; omega
                    have hbL3 : (bn : Int) + 3 < (L : Int) := by omega
                    have q0 := HC2.out.1 (bn + 3) (by omega)
                    have qf0 := HC2.out.2 (bn + 3)
                    clear hbn
                    go_wp2_with fail
                    go_region
                    all_goals
                      generalize hwA : World.setCell _ _ _ = wA
                      have RA : Row wA (.slice (some ⟨rl, 0, none⟩) L L) ((layN cs on l0 j).set (bn + 3) (an : Int)) := by rw [← hwA]; exact HS.out.1.set rfl (bn + 3) (by rw [HW.out.2.2.2.1]; omega) _
                      have KA : Kept (fun b => b = rl) W wA := by rw [← hwA]; exact HS.out.2.setCell (p := ⟨rl, bn + 3, none⟩) (fun _ => rfl) _
                      have hlA : ((layN cs on l0 j).set (bn + 3) (an : Int)).length = L := by rw [List.length_set]; exact HW.out.2.2.2.1 j
                      have hcA : wA.cell? ⟨g, j, none⟩ = some (.int .i64 an) := by
                        have := (KA.cell (p := ⟨g, j, none⟩) zgW (show ¬ g = rl by omega)).trans (HW.out.2.2.2.2.2.2.1 j hltj)
                        rwa [HAN.out] at this
                      have hxA := (KA.cell (p := ⟨cb, off + j, none⟩) zcb hcr).trans HX.out.2
                      obtain ⟨ggA, ccA, ccurA, eeA, -, -, -, scA, sfA⟩ := RA.pos (by rw [hlA]; omega)
                      rw [hlA] at eeA scA
                      cases eeA
                      have p1A := scA (an + 1) (by omega)
                      have f1A := sfA (an + 1)
                      have p2A := scA (an + 2) (by omega)
                      have f2A := sfA (an + 2)
                      clear scA sfA
                      have HA2 := Lib.hid (And.intro RA KA)
                      have zA : rl < wA.heap.size := Nat.lt_of_lt_of_le zrl KA.size
                      have zgA : g < wA.heap.size := by omega
                      clear RA KA hlA hwA q0 qf0 hbj hcj
                      go_wp2_with fail
                      first | go_region | skip
                      all_goals
                        try go_wp2_with fail
                        generalize hwB : World.setCell _ _ _ = wB
                        have RB : Row wB (.slice (some ⟨rl, 0, none⟩) L L) ((((layN cs on l0 j).set (bn + 3) (an : Int)).set (an + 1) 1).set (an + 2) (x % 60)) := by
                          rw [← hwB]
                          first
                            | exact (HA2.out.1.set rfl (an + 1) (by rw [List.length_set, HW.out.2.2.2.1]; omega) 1).set rfl (an + 2) (by rw [List.length_set]; rw [List.length_set, HW.out.2.2.2.1]; omega) (x % 60)
                            | exact ((HA2.out.1.below (Below.refl _ _).drew).set rfl (an + 1) (by rw [List.length_set, HW.out.2.2.2.1]; omega) 1).set rfl (an + 2) (by rw [List.length_set]; rw [List.length_set, HW.out.2.2.2.1]; omega) (x % 60)
                        have KB : Kept (fun b => b = rl) W wB := by
                          rw [← hwB]
                          first
                            | exact (HA2.out.2.setCell (p := ⟨rl, an + 1, none⟩) (fun _ => rfl) _).setCell (p := ⟨rl, an + 2, none⟩) (fun _ => rfl) _
                            | exact ((HA2.out.2.drew).setCell (p := ⟨rl, an + 1, none⟩) (fun _ => rfl) _).setCell (p := ⟨rl, an + 2, none⟩) (fun _ => rfl) _
                        have EB : ((((layN cs on l0 j).set (bn + 3) (an : Int)).set (an + 1) 1).set (an + 2) (x % 60)) = layN cs on l0 (j + 1) := by
                          simp only [layN, layStep, HAN.out, HX.out.1, if_pos hj, HBN.out, if_neg (show ¬ j = 0 by omega), Int.toNat_natCast]
                        rw [EB] at RB
                        have HBB := Lib.hid (And.intro RB KB)
                        clear RB KB EB hwB
                        go_roundw
                        case rel => exact ⟨j + 1, by omega, by go_num, by first | exact HBB.out.1 | exact HBB.out.1.below (Below.refl _ _).drew | exact HBB.out.1.below (Below.refl _ _).drew.drew, by first | exact HBB.out.2 | exact HBB.out.2.drew | exact HBB.out.2.drew.drew⟩
                        case measure => first | (simp [intOf]; done) | (simp [intOf]; omega)
                · by_cases hz : j = 0
                  · omega
                  · have hj' : (cs.length : Int) ≤ (j : Int) := by omega
                    have hLn : (L : Int) ≤ 48 := by have := HL.out.1; omega
                    have ha0 : ¬ an = 0 := by omega
                    have haL1 : (an : Int) + 1 < (L : Int) := by omega
                    have haL2 : (an : Int) + 2 < (L : Int) := by omega
                    obtain ⟨bn, hbn, hb3, hbL⟩ := HW.out.2.2.2.2.2.1 (j - 1) (by omega)
                    have hbj : wr.cell? ⟨g, j - 1, none⟩ = some (.int .i64 bn) := by
                      have := (HS.out.2.cell (p := ⟨g, j - 1, none⟩) zgW (show ¬ g = rl by omega)).trans (HW.out.2.2.2.2.2.2.1 (j - 1) (by omega))
                      rwa [hbn] at this
                    have HBN := Lib.hid hbn
                    have hj0 : (0 : Int) ≤ (j : Int) - 1 := by omega
                    have hjm : (j : Int) - 1 < (m : Int) := by omega
                    have hjt : ((j : Int) - 1).toNat = j - 1 := by omega
                    have hjz : ((j : Int) == 0) = false := by rw [beq_eq_false_iff_ne]; omega
                    have hbL3 : (bn : Int) + 3 < (L : Int) := by omega
                    have q0 := HC2.out.1 (bn + 3) (by omega)
                    have qf0 := HC2.out.2 (bn + 3)
                    clear hbn
                    go_wp2_with fail
                    go_region
                    all_goals
                      generalize hwA : World.setCell _ _ _ = wA
                      have RA : Row wA (.slice (some ⟨rl, 0, none⟩) L L) ((layN cs on l0 j).set (bn + 3) (an : Int)) := by rw [← hwA]; exact HS.out.1.set rfl (bn + 3) (by rw [HW.out.2.2.2.1]; omega) _
                      have KA : Kept (fun b => b = rl) W wA := by rw [← hwA]; exact HS.out.2.setCell (p := ⟨rl, bn + 3, none⟩) (fun _ => rfl) _
                      have hlA : ((layN cs on l0 j).set (bn + 3) (an : Int)).length = L := by rw [List.length_set]; exact HW.out.2.2.2.1 j
                      have hcA : wA.cell? ⟨g, j, none⟩ = some (.int .i64 an) := by
                        have := (KA.cell (p := ⟨g, j, none⟩) zgW (show ¬ g = rl by omega)).trans (HW.out.2.2.2.2.2.2.1 j hltj)
                        rwa [HAN.out] at this
                      obtain ⟨ggA, ccA, ccurA, eeA, -, -, -, scA, sfA⟩ := RA.pos (by rw [hlA]; omega)
                      rw [hlA] at eeA scA
                      cases eeA
                      have p1A := scA (an + 1) (by omega)
                      have f1A := sfA (an + 1)
                      have p2A := scA (an + 2) (by omega)
                      have f2A := sfA (an + 2)
                      clear scA sfA
                      have HA2 := Lib.hid (And.intro RA KA)
                      have zA : rl < wA.heap.size := Nat.lt_of_lt_of_le zrl KA.size
                      have zgA : g < wA.heap.size := by omega
                      clear RA KA hlA hwA q0 qf0 hbj hcj
                      go_wp2_with fail
                      generalize hwB : World.setCell _ _ _ = wB
                      have RB : Row wB (.slice (some ⟨rl, 0, none⟩) L L) (((layN cs on l0 j).set (bn + 3) (an : Int)).set (an + 1) 1) := by
                        rw [← hwB]
                        first
                          | exact HA2.out.1.set rfl (an + 1) (by rw [List.length_set, HW.out.2.2.2.1]; omega) 1
                          | exact (HA2.out.1.below (Below.refl _ _).drew).set rfl (an + 1) (by rw [List.length_set, HW.out.2.2.2.1]; omega) 1
                      have KB : Kept (fun b => b = rl) W wB := by
                        rw [← hwB]
                        first
                          | exact HA2.out.2.setCell (p := ⟨rl, an + 1, none⟩) (fun _ => rfl) _
                          | exact (HA2.out.2.drew).setCell (p := ⟨rl, an + 1, none⟩) (fun _ => rfl) _
                      have EB : (((layN cs on l0 j).set (bn + 3) (an : Int)).set (an + 1) 1) = layN cs on l0 (j + 1) := by
                        simp only [layN, layStep, HAN.out, if_neg hj, HBN.out, if_neg (show ¬ j = 0 by omega), Int.toNat_natCast]
                      rw [EB] at RB
                      have HBB := Lib.hid (And.intro RB KB)
                      clear RB KB EB hwB
                      go_roundw
                      case rel => exact ⟨j + 1, by omega, by go_num, by first | exact HBB.out.1 | exact HBB.out.1.below (Below.refl _ _).drew | exact HBB.out.1.below (Below.refl _ _).drew.drew, by first | exact HBB.out.2 | exact HBB.out.2.drew | exact HBB.out.2.drew.drew⟩
                      case measure => first | (simp [intOf]; done) | (simp [intOf]; omega)
              · obtain rfl : j = m := by omega
                have hmin : min M n = j := by have := HMM.out; omega
                have OT := (HW.out.2.2.1.kept HS.out.2 (fun b e => by cases e; exact (show ¬ g = rl by omega))).take (A := j) (by rw [ord_len]; omega)
                go_wp2
                go_ret2
                refine ⟨_, _, rfl, ?_, ?_, ?_, ?_⟩
                · rw [hmin, HW.out.2.2.2.2.2.2.2.2, ← HL.out.1, HW.out.2.2.2.2.2.2.2.1]; exact HS.out.1
                · rw [hmin]; exact OT
                · exact HW.out.2.1.trans ((HS.out.2.below (Nat.le_of_lt zrl) (fun k hk e => by omega)).mono zlr)
                · intro k e; cases e; exact zlr
  · have hp0 : (cs.length : Int) ≤ 0 := by omega
    have hn1e : n = 1 := by have := HC.out.2.2.2; unfold nOf at this; rw [if_neg hp] at this; omega
    subst hn1e
    go_enter Try.func9, Try.ntmps9
    go_wp2
    go_loopw [7, 8] (fun o k wr => ∃ (i : Nat) (ao : Option Addr) (cap : Nat), i ≤ 1 ∧ k = .int .i64 i ∧ o = .slice ao i cap ∧ IRow wr (.slice ao i cap) (ord cs i) ∧ Below w.heap.size w wr ∧ (∀ b, (Value.slice ao i cap).ownBlock = some b → w.heap.size ≤ b) ∧ (i = 0 → ao = none ∧ cap = 0)) (fun _ k _ => 1 - (intOf k).toNat)
    case atStart => exact ⟨0, none, 0, by omega, rfl, rfl, IRow.nil _, Below.refl _ _, fun b e => (by cases e), fun _ => ⟨rfl, rfl⟩⟩
    case round =>
      obtain ⟨i, ao, cap, hi1, rfl, rfl, hR, hB, hO, h00⟩ := hrel
      have HR := Lib.hid (And.intro hR (And.intro hB (And.intro hO h00)))
      have zi : (0 : Int) ≤ (i : Int) := by omega
      have hi9 : (i : Int) ≤ 9 := by omega
      clear hR hB hO h00
      by_cases hlt : i < 1
      · have hlt' : (i : Int) < (1 : Int) := by omega
        have hk : ¬ i < cs.length := by omega
        have hz : i = 0 := by omega
        have hk' : (cs.length : Int) ≤ (i : Int) := by omega
        have HA := Lib.hid (show cAt cs i = 0 from by unfold cAt; rw [if_neg hk])
        obtain rfl : i = 0 := hz
        obtain ⟨e8, e9⟩ := HR.out.2.2.2 rfl
        subst e8 e9
        go_wp2_with (at_builtin; refine wpList_append_rows _ rfl _ _ 24 rfl 0 0 3 i0 (.int .i64 0) 1 8 Try.underlying24 hi hz0 hz1 hz2 rfl (by decide) _ _ _ rfl (World.ownsRow_nil _ 0 3 1) _ 1 _ rfl (irow_lit (vs := [3]) (heap_alloc_new _ _) rfl (by omega)) (fun v hv => (by obtain ⟨q, _, rfl⟩ := List.mem_map.1 hv; rfl)) ?d3x5 ?d4x5 ?d5x5 ?_)
        try case d3x5 => unfold maxLen; omega
        try case d4x5 => omega
        try case d5x5 => exact Nat.zero_le _
        intro v2 w3 own2 gr2 _ loc2
        have R2 : IRow w3 v2 [3] := IRow.of own2 (by simp) (by simp)
        obtain ⟨ao2, cap2, rfl⟩ := R2.shape
        try simp only [List.length_cons, List.length_nil, Nat.zero_add] at R2 loc2 gr2 ⊢
        have B2 : Below wr.heap.size wr w3 := ((Below.refl _ wr).alloc (Nat.le_refl _) _).grown gr2 (by simp) (fun k hk => by cases hk)
        have O2 : ∀ b, (Value.slice ao2 1 cap2).ownBlock = some b → wr.heap.size ≤ b := fun b e => by
          rcases loc2 with h | h
          · rw [h] at e; cases e
          · rw [e] at h; simp at h; omega
        have H2 := Lib.hid (And.intro R2 (And.intro B2 (And.intro O2 (rfl : ([3] : List Int).length = 0 + 1))))
        clear own2 gr2 loc2 R2 B2 O2
        go_wp2_with (at_builtin; refine wpList_append_rows _ rfl _ _ 24 rfl 0 0 3 i0 (.int .i64 0) 1 8 Try.underlying24 hi hz0 hz1 hz2 rfl (by decide) _ _ _ rfl H2.out.1 _ 0 _ rfl (World.ownsRow_nil _ 0 3 1) (fun v hv => by cases hv) ?e3x5 ?e4x5 ?e5x5 ?_)
        case e3x5 => have := H2.out.2.2.2; unfold maxLen; omega
        try case e4x5 => have := H2.out.2.2.2; omega
        try case e5x5 => exact Nat.zero_le _
        intro v3 w4 own3 gr3 _ loc3
        have R3 : IRow w4 v3 (ord cs (0 + 1)) := by
          have e : ord cs (0 + 1) = [3] ++ [] := by simp [ord]
          rw [e]
          exact IRow.of own3 (by first | (simp; done) | (rw [List.length_append, H2.out.2.2.2, List.length_nil]; omega)) (by simp)
        obtain ⟨ao3, cap3, rfl⟩ := R3.shape
        rw [ord_len] at R3
        try rw [ord_len] at loc3
        try rw [ord_len]
        have B3 : Below wr.heap.size wr w4 := H2.out.2.1.grown gr3 H2.out.2.1.size (fun k hk => H2.out.2.2.1 k hk)
        have O3 : ∀ b, (Value.slice ao3 (0 + 1) cap3).ownBlock = some b → w.heap.size ≤ b := fun b e => by
          have hw := HR.out.2.1.size
          rcases loc3 with h | h
          · have := H2.out.2.2.1 b (h ▸ e); omega
          · rw [e] at h; have := H2.out.2.1.size; simp at h; omega
        have H3 := Lib.hid (And.intro R3 (And.intro (HR.out.2.1.trans (B3.mono HR.out.2.1.size)) O3))
        clear own3 gr3 loc3 R3 B3 O3
        go_wp2
        go_roundw
        case rel => exact ⟨0 + 1, ao3, cap3, by omega, by first | rfl | go_num, rfl, H3.out.1, H3.out.2.1, H3.out.2.2, fun e => by omega⟩
        case measure => first | (simp [intOf]; done) | (simp [intOf]; omega)
      · obtain rfl : i = 1 := by omega
        by_cases hmn : M < 1
        · have hmn' : (M : Int) < (1 : Int) := by omega
          obtain ⟨W, hW⟩ : ∃ W, W = wr := ⟨_, rfl⟩
          have hL1 : 8 = 3 + 5 * 1 := rfl
          have hmk : ∀ u : World, (Instr.makeSlice 23 (.int .i64 8) (.int .i64 8)).run Try.prog u = .ok (.slice (some ⟨u.heap.size, 0, none⟩) 8 8) (u.alloc (.cells (madeCells #[.int .i64 0] 8) 2)) := fun u => by exact run_make_row' (P := Try.prog) 23 2 (.int .i64 0) 8 Try.underlying23 Try.info64 rfl .i64 .i64 8 (by omega) (by omega) u
          have HL := Lib.hid (And.intro hL1 trivial)
          skip
          obtain ⟨g, cap', cur, e2, hg⟩ := HR.out.1.pos (by rw [ord_len]; omega)
          rw [ord_len] at e2
          cases e2
          have hncap : 1 ≤ cap := by have := hg.2.2.1; rw [ord_len] at this; exact this
          have hnc : (1 : Int) ≤ (cap : Int) := by omega
          have hmc : (M : Int) ≤ (cap : Int) := by omega
          have hL2 : (2 : Int) < (8 : Int) := by omega
          have zg : g < wr.heap.size := (Array.getElem?_eq_some_iff.1 hg.1).1
          have RM := row_made wr 8 (by omega)
          have sL := (RM.pos (by first | (simp; done) | (simp; omega)))
          obtain ⟨gg, cc, ccur, ee, -, -, -, scell, sfroz⟩ := sL
          rw [List.length_replicate] at ee
          cases ee
          have s2 : (wr.alloc (.cells (madeCells #[.int .i64 0] 8) 2)).cell? ⟨wr.heap.size, 2, none⟩ = some (.int .i64 0) := by have := scell 2 (by first | (simp; done) | (simp; omega)); rw [this, List.getD_eq_getElem?_getD, List.getElem?_replicate, if_pos (by omega)] <;> rfl
          have s2f := sfroz 2
          clear hL1
          have HRM := Lib.hid RM
          clear RM scell sfroz hg hW
          go_wp2
          generalize hrl : wr.heap.size = rl
          generalize hW : World.alloc _ _ = W
          have RW : Row W (.slice (some ⟨rl, 0, none⟩) 8 8) ((List.replicate 8 0).set 2 50) := by rw [← hW, ← hrl]; exact row_made2 wr 8 (by omega)
          have BW : Below wr.heap.size wr W := by rw [← hW]; exact (Below.refl _ _).alloc (Nat.le_refl _) _
          have OW := HR.out.1.below BW
          have zgr : g < rl := by omega
          have zrl : rl < W.heap.size := RW.lt (g := rl) rfl
          have zgW : g < W.heap.size := by omega
          have zlr : w.heap.size ≤ rl := by have := HR.out.2.1.size; omega
          have BwW := HR.out.2.1.trans (BW.mono HR.out.2.1.size)
          have zcw : ∀ b, b < w.heap.size → b < rl := fun b hb => by have := HR.out.2.1.size; omega
          obtain ⟨m, hm⟩ : ∃ m, M = m := ⟨_, rfl⟩
          obtain ⟨l0, hl0⟩ : ∃ l, ((List.replicate 8 (0 : Int)).set 2 50) = l := ⟨_, rfl⟩
          obtain ⟨on, hon⟩ : ∃ o, (ord cs 1).take m = o := ⟨_, rfl⟩
          rw [hl0] at RW
          have hmn3 : m ≤ 1 := by omega
          have hm9 : (m : Int) ≤ 9 := by omega
          have hll : ∀ q, (layN cs on l0 q).length = 8 := fun q => by rw [layN_len, ← hl0]; simp
          have honl : on.length = m := by rw [← hon, List.length_take, ord_len]; omega
          have hat : ∀ q, q < m → ∃ an : Nat, on.getD q 0 = (an : Int) ∧ 3 ≤ an ∧ an + 5 ≤ 8 := fun q hq => by
            obtain ⟨an, h1, h2, h3⟩ := ord_at cs (n := 1) (j := q) (by omega)
            exact ⟨an, by rw [← hon, take_getD hq, h1], h2, by omega⟩
          have hcl : ∀ q, q < m → W.cell? ⟨g, q, none⟩ = some (.int .i64 (on.getD q 0)) := fun q hq => by
            obtain ⟨g', c', cur', e', -, -, -, hcc, -⟩ := OW.pos (by rw [ord_len]; omega)
            rw [ord_len] at e'
            cases e'
            rw [← hon, take_getD hq]
            exact hcc q (by rw [ord_len]; omega)
          have HW := Lib.hid (And.intro RW (And.intro BwW (And.intro OW (And.intro hll (And.intro honl (And.intro hat (And.intro hcl (And.intro hl0 hon))))))))
          clear hW RW BW OW BwW hll honl hat hcl hl0 hon s2 s2f hmk HRM
          try rw [hm]
          have HMM := Lib.hid hm
          clear hm
          go_loopw [13] (fun k wx => ∃ j : Nat, j ≤ m ∧ k = .int .i64 j ∧ Row wx (.slice (some ⟨rl, 0, none⟩) 8 8) (layN cs on l0 j) ∧ Kept (fun b => b = rl) W wx) (fun k _ => m - (intOf k).toNat)
          case atStart => exact ⟨0, Nat.zero_le _, rfl, HW.out.1, Kept.refl _ _⟩
          case round =>
            obtain ⟨j, hj1, rfl, hR2, hK2⟩ := hrel
            have HS := Lib.hid (And.intro hR2 hK2)
            clear hR2 hK2
            have zj : (0 : Int) ≤ (j : Int) := by omega
            have hj9 : (j : Int) ≤ 9 := by omega
            have zrl2 : rl < wr.heap.size := Nat.lt_of_lt_of_le zrl HS.out.2.size
            have zg2 : g < wr.heap.size := by omega
            by_cases hltj : j < m
            · have hltj' : (j : Int) < (m : Int) := by omega
              obtain ⟨an, han, ha3, haL⟩ := HW.out.2.2.2.2.2.1 j hltj
              have hcj : wr.cell? ⟨g, j, none⟩ = some (.int .i64 an) := by
                have := (HS.out.2.cell (p := ⟨g, j, none⟩) zgW (show ¬ g = rl by omega)).trans (HW.out.2.2.2.2.2.2.1 j hltj)
                rwa [han] at this
              have HAN := Lib.hid han
              clear han
              obtain ⟨gg2, cc2, ccur2, ee2, -, -, -, scell2, sfroz2⟩ := HS.out.1.pos (by rw [HW.out.2.2.2.1]; omega)
              rw [HW.out.2.2.2.1] at ee2 scell2
              cases ee2
              have HC2 := Lib.hid (And.intro scell2 sfroz2)
              clear scell2 sfroz2
              have hj : ¬ j < cs.length := by omega
              have hz : j = 0 := by omega
              have hj' : (cs.length : Int) ≤ (j : Int) := by omega
              obtain rfl : 0 = j := hz.symm
              have hLn : (8 : Int) ≤ 48 := by omega
              have ha0 : ¬ an = 0 := by omega
              have haL1 : (an : Int) + 1 < (8 : Int) := by omega
              have haL2 : (an : Int) + 2 < (8 : Int) := by omega
              have q0 := HC2.out.1 1 (by omega)
              have qf0 := HC2.out.2 1
              have p1 := HC2.out.1 (an + 1) (by omega)
              have f1 := HC2.out.2 (an + 1)
              have p2 := HC2.out.1 (an + 2) (by omega)
              have f2 := HC2.out.2 (an + 2)
              go_wp2_with fail
              generalize hwB : World.setCell _ _ _ = wB
              have RB : Row wB (.slice (some ⟨rl, 0, none⟩) 8 8) (((layN cs on l0 0).set 1 (an : Int)).set (an + 1) 1) := by
                rw [← hwB]
                first
                  | exact (HS.out.1.set rfl 1 (by rw [HW.out.2.2.2.1]; omega) (an : Int)).set rfl (an + 1) (by rw [List.length_set, HW.out.2.2.2.1]; omega) 1
                  | exact ((HS.out.1.set rfl 1 (by rw [HW.out.2.2.2.1]; omega) (an : Int)).below (Below.refl _ _).drew).set rfl (an + 1) (by rw [List.length_set, HW.out.2.2.2.1]; omega) 1
              have KB : Kept (fun b => b = rl) W wB := by
                rw [← hwB]
                first
                  | exact (HS.out.2.setCell (p := ⟨rl, 1, none⟩) (fun _ => rfl) _).setCell (p := ⟨rl, an + 1, none⟩) (fun _ => rfl) _
                  | exact ((HS.out.2.setCell (p := ⟨rl, 1, none⟩) (fun _ => rfl) _).drew).setCell (p := ⟨rl, an + 1, none⟩) (fun _ => rfl) _
              have EB : (((layN cs on l0 0).set 1 (an : Int)).set (an + 1) 1) = layN cs on l0 (0 + 1) := by
                simp only [layN, layStep, HAN.out, if_neg hj, Int.toNat_natCast, if_true]
              rw [EB] at RB
              have HBB := Lib.hid (And.intro RB KB)
              clear RB KB EB hwB
              go_roundw
              case rel => exact ⟨0 + 1, by omega, by go_num, by first | exact HBB.out.1 | exact HBB.out.1.below (Below.refl _ _).drew | exact HBB.out.1.below (Below.refl _ _).drew.drew, by first | exact HBB.out.2 | exact HBB.out.2.drew | exact HBB.out.2.drew.drew⟩
              case measure => first | (simp [intOf]; done) | (simp [intOf]; omega)
            · obtain rfl : j = m := by omega
              have hmin : min M 1 = j := by have := HMM.out; omega
              have OT := (HW.out.2.2.1.kept HS.out.2 (fun b e => by cases e; exact (show ¬ g = rl by omega))).take (A := j) (by rw [ord_len]; omega)
              go_wp2
              go_ret2
              refine ⟨_, _, rfl, ?_, ?_, ?_, ?_⟩
              · rw [hmin, HW.out.2.2.2.2.2.2.2.2, show (3 + 5 * 1 : Nat) = 8 from rfl, HW.out.2.2.2.2.2.2.2.1]; exact HS.out.1
              · rw [hmin]; exact OT
              · exact HW.out.2.1.trans ((HS.out.2.below (Nat.le_of_lt zrl) (fun k hk e => by omega)).mono zlr)
              · intro k e; cases e; exact zlr
        · by_cases hmn3 : M = 1
          · subst hmn3
            obtain ⟨W, hW⟩ : ∃ W, W = wr := ⟨_, rfl⟩
            have hL1 : 8 = 3 + 5 * 1 := rfl
            have hmk : ∀ u : World, (Instr.makeSlice 23 (.int .i64 8) (.int .i64 8)).run Try.prog u = .ok (.slice (some ⟨u.heap.size, 0, none⟩) 8 8) (u.alloc (.cells (madeCells #[.int .i64 0] 8) 2)) := fun u => by exact run_make_row' (P := Try.prog) 23 2 (.int .i64 0) 8 Try.underlying23 Try.info64 rfl .i64 .i64 8 (by omega) (by omega) u
            have HL := Lib.hid (And.intro hL1 trivial)
            skip
            obtain ⟨g, cap', cur, e2, hg⟩ := HR.out.1.pos (by rw [ord_len]; omega)
            rw [ord_len] at e2
            cases e2
            have hncap : 1 ≤ cap := by have := hg.2.2.1; rw [ord_len] at this; exact this
            have hnc : (1 : Int) ≤ (cap : Int) := by omega
            have hmc : (1 : Int) ≤ (cap : Int) := by omega
            have hL2 : (2 : Int) < (8 : Int) := by omega
            have zg : g < wr.heap.size := (Array.getElem?_eq_some_iff.1 hg.1).1
            have RM := row_made wr 8 (by omega)
            have sL := (RM.pos (by first | (simp; done) | (simp; omega)))
            obtain ⟨gg, cc, ccur, ee, -, -, -, scell, sfroz⟩ := sL
            rw [List.length_replicate] at ee
            cases ee
            have s2 : (wr.alloc (.cells (madeCells #[.int .i64 0] 8) 2)).cell? ⟨wr.heap.size, 2, none⟩ = some (.int .i64 0) := by have := scell 2 (by first | (simp; done) | (simp; omega)); rw [this, List.getD_eq_getElem?_getD, List.getElem?_replicate, if_pos (by omega)] <;> rfl
            have s2f := sfroz 2
            clear hL1
            have HRM := Lib.hid RM
            clear RM scell sfroz hg hW
            go_wp2
            generalize hrl : wr.heap.size = rl
            generalize hW : World.alloc _ _ = W
            have RW : Row W (.slice (some ⟨rl, 0, none⟩) 8 8) ((List.replicate 8 0).set 2 50) := by rw [← hW, ← hrl]; exact row_made2 wr 8 (by omega)
            have BW : Below wr.heap.size wr W := by rw [← hW]; exact (Below.refl _ _).alloc (Nat.le_refl _) _
            have OW := HR.out.1.below BW
            have zgr : g < rl := by omega
            have zrl : rl < W.heap.size := RW.lt (g := rl) rfl
            have zgW : g < W.heap.size := by omega
            have zlr : w.heap.size ≤ rl := by have := HR.out.2.1.size; omega
            have BwW := HR.out.2.1.trans (BW.mono HR.out.2.1.size)
            have zcw : ∀ b, b < w.heap.size → b < rl := fun b hb => by have := HR.out.2.1.size; omega
            obtain ⟨m, hm⟩ : ∃ m, 1 = m := ⟨_, rfl⟩
            obtain ⟨l0, hl0⟩ : ∃ l, ((List.replicate 8 (0 : Int)).set 2 50) = l := ⟨_, rfl⟩
            obtain ⟨on, hon⟩ : ∃ o, (ord cs 1).take m = o := ⟨_, rfl⟩
            rw [hl0] at RW
            have hmn3 : m ≤ 1 := by omega
            have hm9 : (m : Int) ≤ 9 := by omega
            have hll : ∀ q, (layN cs on l0 q).length = 8 := fun q => by rw [layN_len, ← hl0]; simp
            have honl : on.length = m := by rw [← hon, List.length_take, ord_len]; omega
            have hat : ∀ q, q < m → ∃ an : Nat, on.getD q 0 = (an : Int) ∧ 3 ≤ an ∧ an + 5 ≤ 8 := fun q hq => by
              obtain ⟨an, h1, h2, h3⟩ := ord_at cs (n := 1) (j := q) (by omega)
              exact ⟨an, by rw [← hon, take_getD hq, h1], h2, by omega⟩
            have hcl : ∀ q, q < m → W.cell? ⟨g, q, none⟩ = some (.int .i64 (on.getD q 0)) := fun q hq => by
              obtain ⟨g', c', cur', e', -, -, -, hcc, -⟩ := OW.pos (by rw [ord_len]; omega)
              rw [ord_len] at e'
              cases e'
              rw [← hon, take_getD hq]
              exact hcc q (by rw [ord_len]; omega)
            have HW := Lib.hid (And.intro RW (And.intro BwW (And.intro OW (And.intro hll (And.intro honl (And.intro hat (And.intro hcl (And.intro hl0 hon))))))))
            clear hW RW BW OW BwW hll honl hat hcl hl0 hon s2 s2f hmk HRM
            try rw [hm]
            have HMM := Lib.hid hm
            clear hm
            go_loopw [13] (fun k wx => ∃ j : Nat, j ≤ m ∧ k = .int .i64 j ∧ Row wx (.slice (some ⟨rl, 0, none⟩) 8 8) (layN cs on l0 j) ∧ Kept (fun b => b = rl) W wx) (fun k _ => m - (intOf k).toNat)
            case atStart => exact ⟨0, Nat.zero_le _, rfl, HW.out.1, Kept.refl _ _⟩
            case round =>
              obtain ⟨j, hj1, rfl, hR2, hK2⟩ := hrel
              have HS := Lib.hid (And.intro hR2 hK2)
              clear hR2 hK2
              have zj : (0 : Int) ≤ (j : Int) := by omega
              have hj9 : (j : Int) ≤ 9 := by omega
              have zrl2 : rl < wr.heap.size := Nat.lt_of_lt_of_le zrl HS.out.2.size
              have zg2 : g < wr.heap.size := by omega
              by_cases hltj : j < m
              · have hltj' : (j : Int) < (m : Int) := by omega
                obtain ⟨an, han, ha3, haL⟩ := HW.out.2.2.2.2.2.1 j hltj
                have hcj : wr.cell? ⟨g, j, none⟩ = some (.int .i64 an) := by
                  have := (HS.out.2.cell (p := ⟨g, j, none⟩) zgW (show ¬ g = rl by omega)).trans (HW.out.2.2.2.2.2.2.1 j hltj)
                  rwa [han] at this
                have HAN := Lib.hid han
                clear han
                obtain ⟨gg2, cc2, ccur2, ee2, -, -, -, scell2, sfroz2⟩ := HS.out.1.pos (by rw [HW.out.2.2.2.1]; omega)
                rw [HW.out.2.2.2.1] at ee2 scell2
                cases ee2
                have HC2 := Lib.hid (And.intro scell2 sfroz2)
                clear scell2 sfroz2
                have hj : ¬ j < cs.length := by omega
                have hz : j = 0 := by omega
                have hj' : (cs.length : Int) ≤ (j : Int) := by omega
                obtain rfl : 0 = j := hz.symm
                have hLn : (8 : Int) ≤ 48 := by omega
                have ha0 : ¬ an = 0 := by omega
                have haL1 : (an : Int) + 1 < (8 : Int) := by omega
                have haL2 : (an : Int) + 2 < (8 : Int) := by omega
                have q0 := HC2.out.1 1 (by omega)
                have qf0 := HC2.out.2 1
                have p1 := HC2.out.1 (an + 1) (by omega)
                have f1 := HC2.out.2 (an + 1)
                have p2 := HC2.out.1 (an + 2) (by omega)
                have f2 := HC2.out.2 (an + 2)
                go_wp2_with fail
                generalize hwB : World.setCell _ _ _ = wB
                have RB : Row wB (.slice (some ⟨rl, 0, none⟩) 8 8) (((layN cs on l0 0).set 1 (an : Int)).set (an + 1) 1) := by
                  rw [← hwB]
                  first
                    | exact (HS.out.1.set rfl 1 (by rw [HW.out.2.2.2.1]; omega) (an : Int)).set rfl (an + 1) (by rw [List.length_set, HW.out.2.2.2.1]; omega) 1
                    | exact ((HS.out.1.set rfl 1 (by rw [HW.out.2.2.2.1]; omega) (an : Int)).below (Below.refl _ _).drew).set rfl (an + 1) (by rw [List.length_set, HW.out.2.2.2.1]; omega) 1
                have KB : Kept (fun b => b = rl) W wB := by
                  rw [← hwB]
                  first
                    | exact (HS.out.2.setCell (p := ⟨rl, 1, none⟩) (fun _ => rfl) _).setCell (p := ⟨rl, an + 1, none⟩) (fun _ => rfl) _
                    | exact ((HS.out.2.setCell (p := ⟨rl, 1, none⟩) (fun _ => rfl) _).drew).setCell (p := ⟨rl, an + 1, none⟩) (fun _ => rfl) _
                have EB : (((layN cs on l0 0).set 1 (an : Int)).set (an + 1) 1) = layN cs on l0 (0 + 1) := by
                  simp only [layN, layStep, HAN.out, if_neg hj, Int.toNat_natCast, if_true]
                rw [EB] at RB
                have HBB := Lib.hid (And.intro RB KB)
                clear RB KB EB hwB
                go_roundw
                case rel => exact ⟨0 + 1, by omega, by go_num, by first | exact HBB.out.1 | exact HBB.out.1.below (Below.refl _ _).drew | exact HBB.out.1.below (Below.refl _ _).drew.drew, by first | exact HBB.out.2 | exact HBB.out.2.drew | exact HBB.out.2.drew.drew⟩
                case measure => first | (simp [intOf]; done) | (simp [intOf]; omega)
              · obtain rfl : j = m := by omega
                have hmin : min 1 1 = j := by have := HMM.out; omega
                have OT := (HW.out.2.2.1.kept HS.out.2 (fun b e => by cases e; exact (show ¬ g = rl by omega))).take (A := j) (by rw [ord_len]; omega)
                go_wp2
                go_ret2
                refine ⟨_, _, rfl, ?_, ?_, ?_, ?_⟩
                · rw [hmin, HW.out.2.2.2.2.2.2.2.2, show (3 + 5 * 1 : Nat) = 8 from rfl, HW.out.2.2.2.2.2.2.2.1]; exact HS.out.1
                · rw [hmin]; exact OT
                · exact HW.out.2.1.trans ((HS.out.2.below (Nat.le_of_lt zrl) (fun k hk e => by omega)).mono zlr)
                · intro k e; cases e; exact zlr
          · have hmn' : (1 : Int) < (M : Int) := by omega
            obtain ⟨W, hW⟩ : ∃ W, W = wr := ⟨_, rfl⟩
            have hL1 : 8 = 3 + 5 * 1 := rfl
            have hmk : ∀ u : World, (Instr.makeSlice 23 (.int .i64 8) (.int .i64 8)).run Try.prog u = .ok (.slice (some ⟨u.heap.size, 0, none⟩) 8 8) (u.alloc (.cells (madeCells #[.int .i64 0] 8) 2)) := fun u => by exact run_make_row' (P := Try.prog) 23 2 (.int .i64 0) 8 Try.underlying23 Try.info64 rfl .i64 .i64 8 (by omega) (by omega) u
            have HL := Lib.hid (And.intro hL1 trivial)
            skip
            obtain ⟨g, cap', cur, e2, hg⟩ := HR.out.1.pos (by rw [ord_len]; omega)
            rw [ord_len] at e2
            cases e2
            have hncap : 1 ≤ cap := by have := hg.2.2.1; rw [ord_len] at this; exact this
            have hnc : (1 : Int) ≤ (cap : Int) := by omega
            have hmc : (1 : Int) ≤ (cap : Int) := by omega
            have hL2 : (2 : Int) < (8 : Int) := by omega
            have zg : g < wr.heap.size := (Array.getElem?_eq_some_iff.1 hg.1).1
            have RM := row_made wr 8 (by omega)
            have sL := (RM.pos (by first | (simp; done) | (simp; omega)))
            obtain ⟨gg, cc, ccur, ee, -, -, -, scell, sfroz⟩ := sL
            rw [List.length_replicate] at ee
            cases ee
            have s2 : (wr.alloc (.cells (madeCells #[.int .i64 0] 8) 2)).cell? ⟨wr.heap.size, 2, none⟩ = some (.int .i64 0) := by have := scell 2 (by first | (simp; done) | (simp; omega)); rw [this, List.getD_eq_getElem?_getD, List.getElem?_replicate, if_pos (by omega)] <;> rfl
            have s2f := sfroz 2
            clear hL1
            have HRM := Lib.hid RM
            clear RM scell sfroz hg hW
            go_wp2
            generalize hrl : wr.heap.size = rl
            generalize hW : World.alloc _ _ = W
            have RW : Row W (.slice (some ⟨rl, 0, none⟩) 8 8) ((List.replicate 8 0).set 2 50) := by rw [← hW, ← hrl]; exact row_made2 wr 8 (by omega)
            have BW : Below wr.heap.size wr W := by rw [← hW]; exact (Below.refl _ _).alloc (Nat.le_refl _) _
            have OW := HR.out.1.below BW
            have zgr : g < rl := by omega
            have zrl : rl < W.heap.size := RW.lt (g := rl) rfl
            have zgW : g < W.heap.size := by omega
            have zlr : w.heap.size ≤ rl := by have := HR.out.2.1.size; omega
            have BwW := HR.out.2.1.trans (BW.mono HR.out.2.1.size)
            have zcw : ∀ b, b < w.heap.size → b < rl := fun b hb => by have := HR.out.2.1.size; omega
            obtain ⟨m, hm⟩ : ∃ m, 1 = m := ⟨_, rfl⟩
            obtain ⟨l0, hl0⟩ : ∃ l, ((List.replicate 8 (0 : Int)).set 2 50) = l := ⟨_, rfl⟩
            obtain ⟨on, hon⟩ : ∃ o, (ord cs 1).take m = o := ⟨_, rfl⟩
            rw [hl0] at RW
            have hmn3 : m ≤ 1 := by omega
            have hm9 : (m : Int) ≤ 9 := by omega
            have hll : ∀ q, (layN cs on l0 q).length = 8 := fun q => by rw [layN_len, ← hl0]; simp
            have honl : on.length = m := by rw [← hon, List.length_take, ord_len]; omega
            have hat : ∀ q, q < m → ∃ an : Nat, on.getD q 0 = (an : Int) ∧ 3 ≤ an ∧ an + 5 ≤ 8 := fun q hq => by
              obtain ⟨an, h1, h2, h3⟩ := ord_at cs (n := 1) (j := q) (by omega)
              exact ⟨an, by rw [← hon, take_getD hq, h1], h2, by omega⟩
            have hcl : ∀ q, q < m → W.cell? ⟨g, q, none⟩ = some (.int .i64 (on.getD q 0)) := fun q hq => by
              obtain ⟨g', c', cur', e', -, -, -, hcc, -⟩ := OW.pos (by rw [ord_len]; omega)
              rw [ord_len] at e'
              cases e'
              rw [← hon, take_getD hq]
              exact hcc q (by rw [ord_len]; omega)
            have HW := Lib.hid (And.intro RW (And.intro BwW (And.intro OW (And.intro hll (And.intro honl (And.intro hat (And.intro hcl (And.intro hl0 hon))))))))
            clear hW RW BW OW BwW hll honl hat hcl hl0 hon s2 s2f hmk HRM
            try rw [hm]
            have HMM := Lib.hid hm
            clear hm
            go_loopw [13] (fun k wx => ∃ j : Nat, j ≤ m ∧ k = .int .i64 j ∧ Row wx (.slice (some ⟨rl, 0, none⟩) 8 8) (layN cs on l0 j) ∧ Kept (fun b => b = rl) W wx) (fun k _ => m - (intOf k).toNat)
            case atStart => exact ⟨0, Nat.zero_le _, rfl, HW.out.1, Kept.refl _ _⟩
            case round =>
              obtain ⟨j, hj1, rfl, hR2, hK2⟩ := hrel
              have HS := Lib.hid (And.intro hR2 hK2)
              clear hR2 hK2
              have zj : (0 : Int) ≤ (j : Int) := by omega
              have hj9 : (j : Int) ≤ 9 := by omega
              have zrl2 : rl < wr.heap.size := Nat.lt_of_lt_of_le zrl HS.out.2.size
              have zg2 : g < wr.heap.size := by omega
              by_cases hltj : j < m
              · have hltj' : (j : Int) < (m : Int) := by omega
                obtain ⟨an, han, ha3, haL⟩ := HW.out.2.2.2.2.2.1 j hltj
                have hcj : wr.cell? ⟨g, j, none⟩ = some (.int .i64 an) := by
                  have := (HS.out.2.cell (p := ⟨g, j, none⟩) zgW (show ¬ g = rl by omega)).trans (HW.out.2.2.2.2.2.2.1 j hltj)
                  rwa [han] at this
                have HAN := Lib.hid han
                clear han
                obtain ⟨gg2, cc2, ccur2, ee2, -, -, -, scell2, sfroz2⟩ := HS.out.1.pos (by rw [HW.out.2.2.2.1]; omega)
                rw [HW.out.2.2.2.1] at ee2 scell2
                cases ee2
                have HC2 := Lib.hid (And.intro scell2 sfroz2)
                clear scell2 sfroz2
                have hj : ¬ j < cs.length := by omega
                have hz : j = 0 := by omega
                have hj' : (cs.length : Int) ≤ (j : Int) := by omega
                obtain rfl : 0 = j := hz.symm
                have hLn : (8 : Int) ≤ 48 := by omega
                have ha0 : ¬ an = 0 := by omega
                have haL1 : (an : Int) + 1 < (8 : Int) := by omega
                have haL2 : (an : Int) + 2 < (8 : Int) := by omega
                have q0 := HC2.out.1 1 (by omega)
                have qf0 := HC2.out.2 1
                have p1 := HC2.out.1 (an + 1) (by omega)
                have f1 := HC2.out.2 (an + 1)
                have p2 := HC2.out.1 (an + 2) (by omega)
                have f2 := HC2.out.2 (an + 2)
                go_wp2_with fail
                generalize hwB : World.setCell _ _ _ = wB
                have RB : Row wB (.slice (some ⟨rl, 0, none⟩) 8 8) (((layN cs on l0 0).set 1 (an : Int)).set (an + 1) 1) := by
                  rw [← hwB]
                  first
                    | exact (HS.out.1.set rfl 1 (by rw [HW.out.2.2.2.1]; omega) (an : Int)).set rfl (an + 1) (by rw [List.length_set, HW.out.2.2.2.1]; omega) 1
                    | exact ((HS.out.1.set rfl 1 (by rw [HW.out.2.2.2.1]; omega) (an : Int)).below (Below.refl _ _).drew).set rfl (an + 1) (by rw [List.length_set, HW.out.2.2.2.1]; omega) 1
                have KB : Kept (fun b => b = rl) W wB := by
                  rw [← hwB]
                  first
                    | exact (HS.out.2.setCell (p := ⟨rl, 1, none⟩) (fun _ => rfl) _).setCell (p := ⟨rl, an + 1, none⟩) (fun _ => rfl) _
                    | exact ((HS.out.2.setCell (p := ⟨rl, 1, none⟩) (fun _ => rfl) _).drew).setCell (p := ⟨rl, an + 1, none⟩) (fun _ => rfl) _
                have EB : (((layN cs on l0 0).set 1 (an : Int)).set (an + 1) 1) = layN cs on l0 (0 + 1) := by
                  simp only [layN, layStep, HAN.out, if_neg hj, Int.toNat_natCast, if_true]
                rw [EB] at RB
                have HBB := Lib.hid (And.intro RB KB)
                clear RB KB EB hwB
                go_roundw
                case rel => exact ⟨0 + 1, by omega, by go_num, by first | exact HBB.out.1 | exact HBB.out.1.below (Below.refl _ _).drew | exact HBB.out.1.below (Below.refl _ _).drew.drew, by first | exact HBB.out.2 | exact HBB.out.2.drew | exact HBB.out.2.drew.drew⟩
                case measure => first | (simp [intOf]; done) | (simp [intOf]; omega)
              · obtain rfl : j = m := by omega
                have hmin : min M 1 = j := by have := HMM.out; omega
                have OT := (HW.out.2.2.1.kept HS.out.2 (fun b e => by cases e; exact (show ¬ g = rl by omega))).take (A := j) (by rw [ord_len]; omega)
                go_wp2
                go_ret2
                refine ⟨_, _, rfl, ?_, ?_, ?_, ?_⟩
                · rw [hmin, HW.out.2.2.2.2.2.2.2.2, show (3 + 5 * 1 : Nat) = 8 from rfl, HW.out.2.2.2.2.2.2.2.1]; exact HS.out.1
                · rw [hmin]; exact OT
                · exact HW.out.2.1.trans ((HS.out.2.below (Nat.le_of_lt zrl) (fun k hk e => by omega)).mono zlr)
                · intro k e; cases e; exact zlr
end Go.Proofs.Ytnpkhkfhlpopbaa
