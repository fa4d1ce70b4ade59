/- Cells: numbers of choices: some list of at most 40 numbers, of the call itself. -/
import Derived.Test.YtnpkhkfhlpopbaaRecMem
import Derived.Test.YtnpkhkfhlpopbaaRecFun
namespace Go.Proofs.Ytnpkhkfhlpopbaa
set_option linter.unusedSimpArgs false
set_option linter.unusedVariables false
open Go.RowKit
open Go.ChangeShapes Go.WideShapes Go.ChangeAt

def f8 (cs : List Int) (k : Int) : Int := if k < (cs.length : Int) then cs.getD k.toNat 0 else 0
theorem f8_rng {cs : List Int} (h : ∀ x ∈ cs, (Lit.int .u8 x).wf = true) (k : Int) (h0 : 0 ≤ k) : 0 ≤ f8 cs k ∧ f8 cs k ≤ 255 := by
  unfold f8
  by_cases hk : k < (cs.length : Int)
  · rw [if_pos hk]; have := bounds_u8 (wf_getD h k.toNat (by omega)); omega
  · rw [if_neg hk]; omega
set_option maxHeartbeats 400000 in
theorem func8_f (c : Value) (cs : List Int) (w : World) (h : InSlice .u8 w c cs) (k : Int) (h0 : 0 ≤ k) :
    Calls Try.prog 50 #[c, .int .i64 k] w fun e w' => e = .returned (.int .i64 (f8 cs k)) ∧ w = w' := by
  obtain ⟨ao, cap, rfl, hwf, hmax, hcells⟩ := h
  by_cases hk : k < (cs.length : Int)
  · obtain ⟨b, off, rfl, hb, hc⟩ := hcells (by omega)
    have hx := hc k.toNat (by omega)
    have hr := bounds_u8 (wf_getD hwf k.toNat (by omega))
    rw [f8, if_pos hk]
    obtain ⟨x, hxx⟩ : ∃ x, cs.getD k.toNat 0 = x := ⟨_, rfl⟩
    rw [hxx] at hx hr ⊢
    obtain ⟨hr1, hr2⟩ := hr
    clear hc hwf hxx
    go_enter Try.func50, Try.ntmps50
    go_wp2
    go_ret
    exact ⟨rfl, rfl⟩
  · rw [f8, if_neg hk]
    have hk2 : (cs.length : Int) ≤ k := by omega
    clear hcells hwf
    go_enter Try.func50, Try.ntmps50
    go_wp2
    go_ret
    exact ⟨rfl, rfl⟩
theorem row_lit {w : World} {g : Nat} {vs : List Int} {n : Nat} (h : w.heap[g]? = some (.cells (vs.map (Value.int .i64)).toArray 2 (0, 0))) (hl : vs.length = n) (hn : n ≤ 100) : Row w (.slice (some ⟨g, 0, none⟩) n n) vs := by
  subst hl
  refine ⟨by simp, .inr ⟨g, vs.length, _, rfl, Nat.zero_le _, h, Nat.le_refl _, by unfold maxLen; omega, by simp, List.take_of_length_le (by simp)⟩⟩

/-- Numbers that are small. -/
def Sm (xs : List Int) : Prop := ∀ x ∈ xs, -100000 ≤ x ∧ x ≤ 100000
theorem Sm.app {xs ys : List Int} (h : Sm xs) (k : ∀ x ∈ ys, -100000 ≤ x ∧ x ≤ 100000) : Sm (xs ++ ys) := fun x hx => by
  rcases List.mem_append.1 hx with h1 | h1
  · exact h x h1
  · exact k x h1
set_option maxRecDepth 100000 in
set_option maxHeartbeats 8000000 in
theorem CellsOf_some (c : Value) (cs : List Int) (w : World) (m : Int) (h : InSlice .u8 w c cs) (hn : cs.length ≤ 1000000) (hp : 0 < cs.length) (hm : cs.getD 0 0 % 7 = m) (m0 : 0 ≤ m) (m6 : m ≤ 6) :
    Calls Try.prog 25 #[c] w fun e w' => ∃ v ys, e = .returned v ∧ Row w' v ys ∧ ys.length ≤ 40 ∧ Below w.heap.size w w' ∧ (∀ k, v.ownBlock = some k → w.heap.size ≤ k) ∧ Sm ys := by
  obtain ⟨i0, hi, hz0, hz1, hz2⟩ := info_parts Try.info64
  have h0 := h
  obtain ⟨ao, cap, rfl, hwf, hmax, hcells⟩ := h
  obtain ⟨b, off, rfl, hb, hc⟩ := hcells hp
  have hc0 : w.cell? ⟨b, off, none⟩ = some (.int .u8 (cs.getD 0 0)) := hc 0 hp
  have hr0 := bounds_u8 (wf_getD hwf 0 hp)
  obtain ⟨c0, hc0e⟩ : ∃ x, cs.getD 0 0 = x := ⟨_, rfl⟩
  rw [hc0e] at hc0 hr0 hm
  obtain ⟨hr1, hr2⟩ := hr0
  have HL := Lib.hid h0
  have Hw := Lib.hid hwf
  have hp' : (0 : Int) < (cs.length : Int) := by omega
  have hn' : (cs.length : Int) ≤ 1000000 := by omega
  clear h0 hwf hc hc0e hcells hp
  go_enter Try.func25, Try.ntmps25
  go_wp2_with fail
  refine (func8_f _ cs _ HL.out 1 (by omega)).mono ?_
  rintro e w' ⟨rfl, rfl⟩
  obtain ⟨A1, hA1⟩ : ∃ z, f8 cs 1 = z := ⟨_, rfl⟩
  have hA1r := f8_rng Hw.out 1 (by omega)
  rw [hA1] at hA1r ⊢
  clear hA1
  obtain ⟨hA11, hA12⟩ := hA1r
  go_wp2_with fail
  refine (func8_f _ cs _ HL.out 2 (by omega)).mono ?_
  rintro e w' ⟨rfl, rfl⟩
  obtain ⟨A2, hA2⟩ : ∃ z, f8 cs 2 = z := ⟨_, rfl⟩
  have hA2r := f8_rng Hw.out 2 (by omega)
  rw [hA2] at hA2r ⊢
  clear hA2
  obtain ⟨hA21, hA22⟩ := hA2r

  by_cases hg : 0 < m ∧ 0 < A1 % 5
  · obtain ⟨hg1, hg2⟩ := hg
    have hAm0 : 0 ≤ A1 % m := Int.emod_nonneg _ (by omega)
    have hAm1 : A1 % m < m := Int.emod_lt_of_pos _ hg1
    obtain ⟨Q, hQ⟩ : ∃ Q, A1 % m = Q := ⟨_, rfl⟩
    rw [hQ] at hAm0 hAm1
    go_wp2
    clear hQ
    obtain ⟨w1, hw1, hh1, hB1, hO1⟩ : ∃ w1, w1 = w.alloc (.cells #[.int .i64 (A1 % 3), .int .i64 (3 + 5 * Q), .int .i64 (A2 % 20)] 2) ∧ w1.heap[w.heap.size]? = some (.cells #[.int .i64 (A1 % 3), .int .i64 (3 + 5 * Q), .int .i64 (A2 % 20)] 2 (0, 0)) ∧ Below w.heap.size w w1 ∧ (∀ k, (Value.slice (some ⟨w.heap.size, 0, none⟩) 3 3).ownBlock = some k → w.heap.size ≤ k) :=
      ⟨_, rfl, heap_alloc_new _ _, by go_grown, fun k e => by cases e; exact Nat.le_refl _⟩
    have hR1 : Row w1 (.slice (some ⟨w.heap.size, 0, none⟩) 3 3) [A1 % 3, 3 + 5 * Q, A2 % 20] := row_lit (vs := [A1 % 3, 3 + 5 * Q, A2 % 20]) hh1 rfl (by omega)
    rw [← hw1]
    clear hw1 hh1
    obtain ⟨vs0, hvs⟩ : ∃ vs, vs = [A1 % 3, 3 + 5 * Q, A2 % 20] := ⟨_, rfl⟩
    have hv1 : vs0.length = 3 := by rw [hvs]; rfl
    have hS1 : Sm vs0 := by rw [hvs]; simp only [Sm, List.forall_mem_cons]; exact ⟨by omega, by omega, by omega, fun _ h => by cases h⟩
    rw [← hvs] at hR1
    clear hvs
    have HR0 := Lib.hid (And.intro hR1 (And.intro hB1 (And.intro hO1 hS1)))
    have Hv := Lib.hid hv1
    clear hR1 hB1 hO1 hv1 hS1
    go_wp2
    go_loopw [5, 6] (fun s j wr => ∃ (i : Nat) (ao : Option Addr) (cap : Nat) (ys : List Int), (i : Int) ≤ m ∧ s = .slice ao ys.length cap ∧ j = .int .i64 i ∧ Row wr (.slice ao ys.length cap) ys ∧ ys.length = 3 + 5 * i ∧ Below w.heap.size w wr ∧ (∀ k, (Value.slice ao ys.length cap).ownBlock = some k → w.heap.size ≤ k) ∧ Sm ys) (fun _ j _ => (m - intOf j).toNat)
    case atStart => exact ⟨0, some ⟨w.heap.size, 0, none⟩, 3, vs0, by omega, by rw [Hv.out], rfl, by rw [Hv.out]; exact HR0.out.1, Hv.out, HR0.out.2.1, by rw [Hv.out]; exact HR0.out.2.2.1, HR0.out.2.2.2⟩
    case round =>
      obtain ⟨i, ao1, cap1, ys, hi1, rfl, rfl, hR, hy, hB, hO, hS⟩ := hrel
      have HS := Lib.hid hS
      have HR := Lib.hid hR
      have Hy := Lib.hid hy
      have HB := Lib.hid hB
      have HO := Lib.hid hO
      have HL1 := Lib.hid (HL.out.below hB)
      have i0' : (0 : Int) ≤ (i : Int) := by omega
      have i6 : (i : Int) ≤ 6 := by omega
      clear hR hy hB hO hS HR0 Hv
      by_cases hlt : (i : Int) < m
      · have hmp : 0 < m := by omega
        go_wp2_with fail
        refine (func8_f _ cs _ HL1.out (3 + 4 * i) (by omega)).mono ?_
        rintro e w' ⟨rfl, rfl⟩
        obtain ⟨x, hx⟩ : ∃ z, f8 cs (3 + 4 * (i : Int)) = z := ⟨_, rfl⟩
        have hxr := f8_rng Hw.out (3 + 4 * (i : Int)) (by omega)
        rw [hx] at hxr ⊢
        clear hx
        obtain ⟨hx1, hx2⟩ := hxr
        go_wp2_with fail
        refine (func8_f _ cs _ HL1.out (4 + 4 * i) (by omega)).mono ?_
        rintro e w' ⟨rfl, rfl⟩
        obtain ⟨y, hy⟩ : ∃ z, f8 cs (4 + 4 * (i : Int)) = z := ⟨_, rfl⟩
        have hyr := f8_rng Hw.out (4 + 4 * (i : Int)) (by omega)
        rw [hy] at hyr ⊢
        clear hy
        obtain ⟨hy1, hy2⟩ := hyr
        have hxm0 : 0 ≤ x / 5 % m := Int.emod_nonneg _ (by omega)
        have hxm1 : x / 5 % m < m := Int.emod_lt_of_pos _ hmp
        obtain ⟨P, hP⟩ : ∃ P, x / 5 % m = P := ⟨_, rfl⟩
        rw [hP] at hxm0 hxm1
        by_cases hx5 : 0 < x % 5
        · cases hx77 : (x == 77)
          · go_wp2_with fail
            refine (func8_f _ cs _ HL1.out (5 + 4 * i) (by omega)).mono ?_
            rintro e w' ⟨rfl, rfl⟩
            obtain ⟨z, hz⟩ : ∃ z, f8 cs (5 + 4 * (i : Int)) = z := ⟨_, rfl⟩
            have hzr := f8_rng Hw.out (5 + 4 * (i : Int)) (by omega)
            rw [hz] at hzr ⊢
            clear hz
            obtain ⟨hzA, hzB⟩ := hzr
            go_wp2_with fail
            refine (func8_f _ cs _ HL1.out (6 + 4 * i) (by omega)).mono ?_
            rintro e w' ⟨rfl, rfl⟩
            obtain ⟨u, hu⟩ : ∃ z, f8 cs (6 + 4 * (i : Int)) = z := ⟨_, rfl⟩
            have hur := f8_rng Hw.out (6 + 4 * (i : Int)) (by omega)
            rw [hu] at hur ⊢
            clear hu
            obtain ⟨hu1, hu2⟩ := hur
            have RA : ∀ o, (wr.alloc o).ownsRow 0 2 1 (.slice ao1 ys.length cap1) ys.length (ys.map (Value.int .i64)) := fun o => HR.out.alloc o
            go_wp2_with (at_builtin; refine wpList_append_rows _ rfl _ _ 23 rfl 0 0 2 i0 (.int .i64 0) 1 8 Try.underlying23 hi hz0 hz1 hz2 rfl (by decide) _ _ _ rfl (RA _) _ 5 _ rfl (row_lit (vs := [y % 4 - 1, z % 4 % 3, u % 20, 3 + 5 * P, x * 300]) (heap_alloc_new _ _) rfl (by omega)) (fun v hv => (by obtain ⟨q, _, rfl⟩ := List.mem_map.1 hv; rfl)) ?c3x0 ?c4x0 ?c5x0 ?_)
            case c3x0 => have := Hy.out; unfold maxLen; omega
            case c4x0 => have := Hy.out; omega
            case c5x0 => exact Nat.zero_le _
            intro v' w5 hown' hgrow _ hloc
            have hR5 : Row w5 v' (ys ++ [y % 4 - 1, z % 4 % 3, u % 20, 3 + 5 * P, x * 300]) := Row.of hown' (by simp) (by simp)
            obtain ⟨ao5, cap5, rfl⟩ := hR5.shape
            have hlen5 : (ys ++ [y % 4 - 1, z % 4 % 3, u % 20, 3 + 5 * P, x * 300]).length = 3 + 5 * (i + 1) := by have := Hy.out; simp; omega
            have hB5 : Below w.heap.size w w5 := (HB.out.alloc HB.out.size _).grown hgrow (by have := HB.out.size; simp; omega) (fun k hk => HO.out k hk)
            have hO5 : ∀ k, (Value.slice ao5 (ys ++ [y % 4 - 1, z % 4 % 3, u % 20, 3 + 5 * P, x * 300]).length cap5).ownBlock = some k → w.heap.size ≤ k := fun k hk => by
              rcases hloc with h | h
              · exact HO.out k (h ▸ hk)
              · rw [hk] at h; have := HB.out.size; simp at h; omega
            have hS5 : Sm (ys ++ [y % 4 - 1, z % 4 % 3, u % 20, 3 + 5 * P, x * 300]) := HS.out.app (by simp only [List.forall_mem_cons]; refine ⟨by omega, by omega, by omega, by omega, by omega, fun _ h => by cases h⟩)
            have HZ := Lib.hid (And.intro hR5 (And.intro hlen5 (And.intro hB5 (And.intro hO5 hS5))))
            clear hS5
            clear hR5 hlen5 hB5 hO5 hown' hgrow hloc RA
            go_wp2
            go_roundw
            case rel => exact ⟨i + 1, ao5, cap5, _, by omega, by first | rfl | (simp; done), by go_num, HZ.out.1, HZ.out.2.1, HZ.out.2.2.1, HZ.out.2.2.2.1, HZ.out.2.2.2.2⟩
            case measure => simp [intOf]; omega
          · go_wp2_with fail
            refine (func8_f _ cs _ HL1.out (5 + 4 * i) (by omega)).mono ?_
            rintro e w' ⟨rfl, rfl⟩
            obtain ⟨z, hz⟩ : ∃ z, f8 cs (5 + 4 * (i : Int)) = z := ⟨_, rfl⟩
            have hzr := f8_rng Hw.out (5 + 4 * (i : Int)) (by omega)
            rw [hz] at hzr ⊢
            clear hz
            obtain ⟨hzA, hzB⟩ := hzr
            go_wp2_with fail
            refine (func8_f _ cs _ HL1.out (6 + 4 * i) (by omega)).mono ?_
            rintro e w' ⟨rfl, rfl⟩
            obtain ⟨u, hu⟩ : ∃ z, f8 cs (6 + 4 * (i : Int)) = z := ⟨_, rfl⟩
            have hur := f8_rng Hw.out (6 + 4 * (i : Int)) (by omega)
            rw [hu] at hur ⊢
            clear hu
            obtain ⟨hu1, hu2⟩ := hur
            have RA : ∀ o, (wr.alloc o).ownsRow 0 2 1 (.slice ao1 ys.length cap1) ys.length (ys.map (Value.int .i64)) := fun o => HR.out.alloc o
            go_wp2_with (at_builtin; refine wpList_append_rows _ rfl _ _ 23 rfl 0 0 2 i0 (.int .i64 0) 1 8 Try.underlying23 hi hz0 hz1 hz2 rfl (by decide) _ _ _ rfl (RA _) _ 5 _ rfl (row_lit (vs := [y % 4 - 1, z % 4 % 3, u % 20, y, x * 300]) (heap_alloc_new _ _) rfl (by omega)) (fun v hv => (by obtain ⟨q, _, rfl⟩ := List.mem_map.1 hv; rfl)) ?c3x1 ?c4x1 ?c5x1 ?_)
            case c3x1 => have := Hy.out; unfold maxLen; omega
            case c4x1 => have := Hy.out; omega
            case c5x1 => exact Nat.zero_le _
            intro v' w5 hown' hgrow _ hloc
            have hR5 : Row w5 v' (ys ++ [y % 4 - 1, z % 4 % 3, u % 20, y, x * 300]) := Row.of hown' (by simp) (by simp)
            obtain ⟨ao5, cap5, rfl⟩ := hR5.shape
            have hlen5 : (ys ++ [y % 4 - 1, z % 4 % 3, u % 20, y, x * 300]).length = 3 + 5 * (i + 1) := by have := Hy.out; simp; omega
            have hB5 : Below w.heap.size w w5 := (HB.out.alloc HB.out.size _).grown hgrow (by have := HB.out.size; simp; omega) (fun k hk => HO.out k hk)
            have hO5 : ∀ k, (Value.slice ao5 (ys ++ [y % 4 - 1, z % 4 % 3, u % 20, y, x * 300]).length cap5).ownBlock = some k → w.heap.size ≤ k := fun k hk => by
              rcases hloc with h | h
              · exact HO.out k (h ▸ hk)
              · rw [hk] at h; have := HB.out.size; simp at h; omega
            have hS5 : Sm (ys ++ [y % 4 - 1, z % 4 % 3, u % 20, y, x * 300]) := HS.out.app (by simp only [List.forall_mem_cons]; refine ⟨by omega, by omega, by omega, by omega, by omega, fun _ h => by cases h⟩)
            have HZ := Lib.hid (And.intro hR5 (And.intro hlen5 (And.intro hB5 (And.intro hO5 hS5))))
            clear hS5
            clear hR5 hlen5 hB5 hO5 hown' hgrow hloc RA
            go_wp2
            go_roundw
            case rel => exact ⟨i + 1, ao5, cap5, _, by omega, by first | rfl | (simp; done), by go_num, HZ.out.1, HZ.out.2.1, HZ.out.2.2.1, HZ.out.2.2.2.1, HZ.out.2.2.2.2⟩
            case measure => simp [intOf]; omega
        · have hx5 : x % 5 ≤ 0 := by omega
          have hx77 : (x == 77) = false := by rw [beq_eq_false_iff_ne]; omega
          go_wp2_with fail
          refine (func8_f _ cs _ HL1.out (5 + 4 * i) (by omega)).mono ?_
          rintro e w' ⟨rfl, rfl⟩
          obtain ⟨z, hz⟩ : ∃ z, f8 cs (5 + 4 * (i : Int)) = z := ⟨_, rfl⟩
          have hzr := f8_rng Hw.out (5 + 4 * (i : Int)) (by omega)
          rw [hz] at hzr ⊢
          clear hz
          obtain ⟨hzA, hzB⟩ := hzr
          go_wp2_with fail
          refine (func8_f _ cs _ HL1.out (6 + 4 * i) (by omega)).mono ?_
          rintro e w' ⟨rfl, rfl⟩
          obtain ⟨u, hu⟩ : ∃ z, f8 cs (6 + 4 * (i : Int)) = z := ⟨_, rfl⟩
          have hur := f8_rng Hw.out (6 + 4 * (i : Int)) (by omega)
          rw [hu] at hur ⊢
          clear hu
          obtain ⟨hu1, hu2⟩ := hur
          have RA : ∀ o, (wr.alloc o).ownsRow 0 2 1 (.slice ao1 ys.length cap1) ys.length (ys.map (Value.int .i64)) := fun o => HR.out.alloc o
          go_wp2_with (at_builtin; refine wpList_append_rows _ rfl _ _ 23 rfl 0 0 2 i0 (.int .i64 0) 1 8 Try.underlying23 hi hz0 hz1 hz2 rfl (by decide) _ _ _ rfl (RA _) _ 5 _ rfl (row_lit (vs := [y % 4 - 1, z % 4 % 3, u % 20, 0, x * 300]) (heap_alloc_new _ _) rfl (by omega)) (fun v hv => (by obtain ⟨q, _, rfl⟩ := List.mem_map.1 hv; rfl)) ?c3x2 ?c4x2 ?c5x2 ?_)
          case c3x2 => have := Hy.out; unfold maxLen; omega
          case c4x2 => have := Hy.out; omega
          case c5x2 => exact Nat.zero_le _
          intro v' w5 hown' hgrow _ hloc
          have hR5 : Row w5 v' (ys ++ [y % 4 - 1, z % 4 % 3, u % 20, 0, x * 300]) := Row.of hown' (by simp) (by simp)
          obtain ⟨ao5, cap5, rfl⟩ := hR5.shape
          have hlen5 : (ys ++ [y % 4 - 1, z % 4 % 3, u % 20, 0, x * 300]).length = 3 + 5 * (i + 1) := by have := Hy.out; simp; omega
          have hB5 : Below w.heap.size w w5 := (HB.out.alloc HB.out.size _).grown hgrow (by have := HB.out.size; simp; omega) (fun k hk => HO.out k hk)
          have hO5 : ∀ k, (Value.slice ao5 (ys ++ [y % 4 - 1, z % 4 % 3, u % 20, 0, x * 300]).length cap5).ownBlock = some k → w.heap.size ≤ k := fun k hk => by
            rcases hloc with h | h
            · exact HO.out k (h ▸ hk)
            · rw [hk] at h; have := HB.out.size; simp at h; omega
          have hS5 : Sm (ys ++ [y % 4 - 1, z % 4 % 3, u % 20, 0, x * 300]) := HS.out.app (by simp only [List.forall_mem_cons]; refine ⟨by omega, by omega, by omega, by omega, by omega, fun _ h => by cases h⟩)
          have HZ := Lib.hid (And.intro hR5 (And.intro hlen5 (And.intro hB5 (And.intro hO5 hS5))))
          clear hS5
          clear hR5 hlen5 hB5 hO5 hown' hgrow hloc RA
          go_wp2
          go_roundw
          case rel => exact ⟨i + 1, ao5, cap5, _, by omega, by first | rfl | (simp; done), by go_num, HZ.out.1, HZ.out.2.1, HZ.out.2.2.1, HZ.out.2.2.2.1, HZ.out.2.2.2.2⟩
          case measure => simp [intOf]; omega
        
      · have hy45 := Hy.out
        have hyl : ys.length ≤ 33 := by omega
        have H2 : ∀ o, (wr.alloc o).ownsRow 0 2 1 (.slice ao1 ys.length cap1) ys.length (ys.map (Value.int .i64)) := fun o => HR.out.alloc o
        clear hy45
        by_cases h2 : (cs.length : Int) % 3 = 2
        · have h2' : ((cs.length : Int) % 3 == 2) = true := by rw [h2]; rfl
          go_wp2_with (at_builtin; refine wpList_append_rows _ rfl _ _ 23 rfl 0 0 2 i0 (.int .i64 0) 1 8 Try.underlying23 hi hz0 hz1 hz2 rfl (by decide) _ _ _ rfl (H2 _) _ 2 _ rfl (row_lit (vs := [1, 2]) (heap_alloc_new _ _) rfl (by omega)) (fun v hv => (by obtain ⟨q, _, rfl⟩ := List.mem_map.1 hv; rfl)) ?c3x3 ?c4x3 ?c5x3 ?_)
          case c3x3 => unfold maxLen; omega
          case c4x3 => omega
          intro v' w5 hown' hgrow _ hloc
          have hR5 : Row w5 v' (ys ++ [1, 2]) := Row.of hown' (by simp) (by simp)
          have hB5 : Below w.heap.size w w5 := (HB.out.alloc HB.out.size _).grown hgrow (by have := HB.out.size; simp; omega) (fun k hk => HO.out k hk)
          have hO5 : ∀ k, v'.ownBlock = some k → w.heap.size ≤ k := fun k hk => by
            rcases hloc with h | h
            · exact HO.out k (h ▸ hk)
            · rw [hk] at h; have := HB.out.size; simp at h; omega
          have HZ := Lib.hid (And.intro hR5 (And.intro hB5 hO5))
          clear hR5 hB5 hO5 hown' hgrow hloc H2 h2 h2'
          go_wp2
          go_ret
          first | exact ⟨_, rfl, _, HZ.out.1, by simp; omega, HZ.out.2.1, HZ.out.2.2, HS.out.app (by simp only [List.forall_mem_cons]; exact ⟨by omega, by omega, fun _ h => by cases h⟩)⟩ | exact ⟨_, _, rfl, HZ.out.1, by simp; omega, HZ.out.2.1, HZ.out.2.2, HS.out.app (by simp only [List.forall_mem_cons]; exact ⟨by omega, by omega, fun _ h => by cases h⟩)⟩
        · have h2' : ((cs.length : Int) % 3 == 2) = false := by rw [beq_eq_false_iff_ne]; exact h2
          clear h2 H2
          go_wp2
          go_ret
          first | exact ⟨_, rfl, ys, HR.out, by omega, HB.out, HO.out, HS.out⟩ | exact ⟨_, ys, rfl, HR.out, by omega, HB.out, HO.out, HS.out⟩
  · have hg' : m ≤ 0 ∨ (0 < m ∧ A1 % 5 ≤ 0) := by omega
    clear hg
    rcases hg' with hg' | ⟨hg0, hg'⟩
    · go_wp2
      obtain ⟨w1, hw1, hh1, hB1, hO1⟩ : ∃ w1, w1 = w.alloc (.cells #[.int .i64 (A1 % 3), .int .i64 (0), .int .i64 (A2 % 20)] 2) ∧ w1.heap[w.heap.size]? = some (.cells #[.int .i64 (A1 % 3), .int .i64 (0), .int .i64 (A2 % 20)] 2 (0, 0)) ∧ Below w.heap.size w w1 ∧ (∀ k, (Value.slice (some ⟨w.heap.size, 0, none⟩) 3 3).ownBlock = some k → w.heap.size ≤ k) :=
        ⟨_, rfl, heap_alloc_new _ _, by go_grown, fun k e => by cases e; exact Nat.le_refl _⟩
      have hR1 : Row w1 (.slice (some ⟨w.heap.size, 0, none⟩) 3 3) [A1 % 3, 0, A2 % 20] := row_lit (vs := [A1 % 3, 0, A2 % 20]) hh1 rfl (by omega)
      rw [← hw1]
      clear hw1 hh1
      obtain ⟨vs0, hvs⟩ : ∃ vs, vs = [A1 % 3, 0, A2 % 20] := ⟨_, rfl⟩
      have hv1 : vs0.length = 3 := by rw [hvs]; rfl
      have hS1 : Sm vs0 := by rw [hvs]; simp only [Sm, List.forall_mem_cons]; exact ⟨by omega, by omega, by omega, fun _ h => by cases h⟩
      rw [← hvs] at hR1
      clear hvs
      have HR0 := Lib.hid (And.intro hR1 (And.intro hB1 (And.intro hO1 hS1)))
      have Hv := Lib.hid hv1
      clear hR1 hB1 hO1 hv1 hS1
      go_wp2
      go_loopw [5, 6] (fun s j wr => ∃ (i : Nat) (ao : Option Addr) (cap : Nat) (ys : List Int), (i : Int) ≤ m ∧ s = .slice ao ys.length cap ∧ j = .int .i64 i ∧ Row wr (.slice ao ys.length cap) ys ∧ ys.length = 3 + 5 * i ∧ Below w.heap.size w wr ∧ (∀ k, (Value.slice ao ys.length cap).ownBlock = some k → w.heap.size ≤ k) ∧ Sm ys) (fun _ j _ => (m - intOf j).toNat)
      case atStart => exact ⟨0, some ⟨w.heap.size, 0, none⟩, 3, vs0, by omega, by rw [Hv.out], rfl, by rw [Hv.out]; exact HR0.out.1, Hv.out, HR0.out.2.1, by rw [Hv.out]; exact HR0.out.2.2.1, HR0.out.2.2.2⟩
      case round =>
        obtain ⟨i, ao1, cap1, ys, hi1, rfl, rfl, hR, hy, hB, hO, hS⟩ := hrel
        have HS := Lib.hid hS
        have HR := Lib.hid hR
        have Hy := Lib.hid hy
        have HB := Lib.hid hB
        have HO := Lib.hid hO
        have HL1 := Lib.hid (HL.out.below hB)
        have i0' : (0 : Int) ≤ (i : Int) := by omega
        have i6 : (i : Int) ≤ 6 := by omega
        clear hR hy hB hO hS HR0 Hv
        by_cases hlt : (i : Int) < m
        · exfalso; omega
        · have hy45 := Hy.out
          have hyl : ys.length ≤ 33 := by omega
          have H2 : ∀ o, (wr.alloc o).ownsRow 0 2 1 (.slice ao1 ys.length cap1) ys.length (ys.map (Value.int .i64)) := fun o => HR.out.alloc o
          clear hy45
          by_cases h2 : (cs.length : Int) % 3 = 2
          · have h2' : ((cs.length : Int) % 3 == 2) = true := by rw [h2]; rfl
            go_wp2_with (at_builtin; refine wpList_append_rows _ rfl _ _ 23 rfl 0 0 2 i0 (.int .i64 0) 1 8 Try.underlying23 hi hz0 hz1 hz2 rfl (by decide) _ _ _ rfl (H2 _) _ 2 _ rfl (row_lit (vs := [1, 2]) (heap_alloc_new _ _) rfl (by omega)) (fun v hv => (by obtain ⟨q, _, rfl⟩ := List.mem_map.1 hv; rfl)) ?c3x4 ?c4x4 ?c5x4 ?_)
            case c3x4 => unfold maxLen; omega
            case c4x4 => omega
            intro v' w5 hown' hgrow _ hloc
            have hR5 : Row w5 v' (ys ++ [1, 2]) := Row.of hown' (by simp) (by simp)
            have hB5 : Below w.heap.size w w5 := (HB.out.alloc HB.out.size _).grown hgrow (by have := HB.out.size; simp; omega) (fun k hk => HO.out k hk)
            have hO5 : ∀ k, v'.ownBlock = some k → w.heap.size ≤ k := fun k hk => by
              rcases hloc with h | h
              · exact HO.out k (h ▸ hk)
              · rw [hk] at h; have := HB.out.size; simp at h; omega
            have HZ := Lib.hid (And.intro hR5 (And.intro hB5 hO5))
            clear hR5 hB5 hO5 hown' hgrow hloc H2 h2 h2'
            go_wp2
            go_ret
            first | exact ⟨_, rfl, _, HZ.out.1, by simp; omega, HZ.out.2.1, HZ.out.2.2, HS.out.app (by simp only [List.forall_mem_cons]; exact ⟨by omega, by omega, fun _ h => by cases h⟩)⟩ | exact ⟨_, _, rfl, HZ.out.1, by simp; omega, HZ.out.2.1, HZ.out.2.2, HS.out.app (by simp only [List.forall_mem_cons]; exact ⟨by omega, by omega, fun _ h => by cases h⟩)⟩
          · have h2' : ((cs.length : Int) % 3 == 2) = false := by rw [beq_eq_false_iff_ne]; exact h2
            clear h2 H2
            go_wp2
            go_ret
            first | exact ⟨_, rfl, ys, HR.out, by omega, HB.out, HO.out, HS.out⟩ | exact ⟨_, ys, rfl, HR.out, by omega, HB.out, HO.out, HS.out⟩
    · go_wp2
      obtain ⟨w1, hw1, hh1, hB1, hO1⟩ : ∃ w1, w1 = w.alloc (.cells #[.int .i64 (A1 % 3), .int .i64 (0), .int .i64 (A2 % 20)] 2) ∧ w1.heap[w.heap.size]? = some (.cells #[.int .i64 (A1 % 3), .int .i64 (0), .int .i64 (A2 % 20)] 2 (0, 0)) ∧ Below w.heap.size w w1 ∧ (∀ k, (Value.slice (some ⟨w.heap.size, 0, none⟩) 3 3).ownBlock = some k → w.heap.size ≤ k) :=
        ⟨_, rfl, heap_alloc_new _ _, by go_grown, fun k e => by cases e; exact Nat.le_refl _⟩
      have hR1 : Row w1 (.slice (some ⟨w.heap.size, 0, none⟩) 3 3) [A1 % 3, 0, A2 % 20] := row_lit (vs := [A1 % 3, 0, A2 % 20]) hh1 rfl (by omega)
      rw [← hw1]
      clear hw1 hh1
      obtain ⟨vs0, hvs⟩ : ∃ vs, vs = [A1 % 3, 0, A2 % 20] := ⟨_, rfl⟩
      have hv1 : vs0.length = 3 := by rw [hvs]; rfl
      have hS1 : Sm vs0 := by rw [hvs]; simp only [Sm, List.forall_mem_cons]; exact ⟨by omega, by omega, by omega, fun _ h => by cases h⟩
      rw [← hvs] at hR1
      clear hvs
      have HR0 := Lib.hid (And.intro hR1 (And.intro hB1 (And.intro hO1 hS1)))
      have Hv := Lib.hid hv1
      clear hR1 hB1 hO1 hv1 hS1
      go_wp2
      go_loopw [5, 6] (fun s j wr => ∃ (i : Nat) (ao : Option Addr) (cap : Nat) (ys : List Int), (i : Int) ≤ m ∧ s = .slice ao ys.length cap ∧ j = .int .i64 i ∧ Row wr (.slice ao ys.length cap) ys ∧ ys.length = 3 + 5 * i ∧ Below w.heap.size w wr ∧ (∀ k, (Value.slice ao ys.length cap).ownBlock = some k → w.heap.size ≤ k) ∧ Sm ys) (fun _ j _ => (m - intOf j).toNat)
      case atStart => exact ⟨0, some ⟨w.heap.size, 0, none⟩, 3, vs0, by omega, by rw [Hv.out], rfl, by rw [Hv.out]; exact HR0.out.1, Hv.out, HR0.out.2.1, by rw [Hv.out]; exact HR0.out.2.2.1, HR0.out.2.2.2⟩
      case round =>
        obtain ⟨i, ao1, cap1, ys, hi1, rfl, rfl, hR, hy, hB, hO, hS⟩ := hrel
        have HS := Lib.hid hS
        have HR := Lib.hid hR
        have Hy := Lib.hid hy
        have HB := Lib.hid hB
        have HO := Lib.hid hO
        have HL1 := Lib.hid (HL.out.below hB)
        have i0' : (0 : Int) ≤ (i : Int) := by omega
        have i6 : (i : Int) ≤ 6 := by omega
        clear hR hy hB hO hS HR0 Hv
        by_cases hlt : (i : Int) < m
        · have hmp : 0 < m := by omega
          go_wp2_with fail
          refine (func8_f _ cs _ HL1.out (3 + 4 * i) (by omega)).mono ?_
          rintro e w' ⟨rfl, rfl⟩
          obtain ⟨x, hx⟩ : ∃ z, f8 cs (3 + 4 * (i : Int)) = z := ⟨_, rfl⟩
          have hxr := f8_rng Hw.out (3 + 4 * (i : Int)) (by omega)
          rw [hx] at hxr ⊢
          clear hx
          obtain ⟨hx1, hx2⟩ := hxr
          go_wp2_with fail
          refine (func8_f _ cs _ HL1.out (4 + 4 * i) (by omega)).mono ?_
          rintro e w' ⟨rfl, rfl⟩
          obtain ⟨y, hy⟩ : ∃ z, f8 cs (4 + 4 * (i : Int)) = z := ⟨_, rfl⟩
          have hyr := f8_rng Hw.out (4 + 4 * (i : Int)) (by omega)
          rw [hy] at hyr ⊢
          clear hy
          obtain ⟨hy1, hy2⟩ := hyr
          have hxm0 : 0 ≤ x / 5 % m := Int.emod_nonneg _ (by omega)
          have hxm1 : x / 5 % m < m := Int.emod_lt_of_pos _ hmp
          obtain ⟨P, hP⟩ : ∃ P, x / 5 % m = P := ⟨_, rfl⟩
          rw [hP] at hxm0 hxm1
          by_cases hx5 : 0 < x % 5
          · cases hx77 : (x == 77)
            · go_wp2_with fail
              refine (func8_f _ cs _ HL1.out (5 + 4 * i) (by omega)).mono ?_
              rintro e w' ⟨rfl, rfl⟩
              obtain ⟨z, hz⟩ : ∃ z, f8 cs (5 + 4 * (i : Int)) = z := ⟨_, rfl⟩
              have hzr := f8_rng Hw.out (5 + 4 * (i : Int)) (by omega)
              rw [hz] at hzr ⊢
              clear hz
              obtain ⟨hzA, hzB⟩ := hzr
              go_wp2_with fail
              refine (func8_f _ cs _ HL1.out (6 + 4 * i) (by omega)).mono ?_
              rintro e w' ⟨rfl, rfl⟩
              obtain ⟨u, hu⟩ : ∃ z, f8 cs (6 + 4 * (i : Int)) = z := ⟨_, rfl⟩
              have hur := f8_rng Hw.out (6 + 4 * (i : Int)) (by omega)
              rw [hu] at hur ⊢
              clear hu
              obtain ⟨hu1, hu2⟩ := hur
              have RA : ∀ o, (wr.alloc o).ownsRow 0 2 1 (.slice ao1 ys.length cap1) ys.length (ys.map (Value.int .i64)) := fun o => HR.out.alloc o
              go_wp2_with (at_builtin; refine wpList_append_rows _ rfl _ _ 23 rfl 0 0 2 i0 (.int .i64 0) 1 8 Try.underlying23 hi hz0 hz1 hz2 rfl (by decide) _ _ _ rfl (RA _) _ 5 _ rfl (row_lit (vs := [y % 4 - 1, z % 4 % 3, u % 20, 3 + 5 * P, x * 300]) (heap_alloc_new _ _) rfl (by omega)) (fun v hv => (by obtain ⟨q, _, rfl⟩ := List.mem_map.1 hv; rfl)) ?c3x5 ?c4x5 ?c5x5 ?_)
              case c3x5 => have := Hy.out; unfold maxLen; omega
              case c4x5 => have := Hy.out; omega
              case c5x5 => exact Nat.zero_le _
              intro v' w5 hown' hgrow _ hloc
              have hR5 : Row w5 v' (ys ++ [y % 4 - 1, z % 4 % 3, u % 20, 3 + 5 * P, x * 300]) := Row.of hown' (by simp) (by simp)
              obtain ⟨ao5, cap5, rfl⟩ := hR5.shape
              have hlen5 : (ys ++ [y % 4 - 1, z % 4 % 3, u % 20, 3 + 5 * P, x * 300]).length = 3 + 5 * (i + 1) := by have := Hy.out; simp; omega
              have hB5 : Below w.heap.size w w5 := (HB.out.alloc HB.out.size _).grown hgrow (by have := HB.out.size; simp; omega) (fun k hk => HO.out k hk)
              have hO5 : ∀ k, (Value.slice ao5 (ys ++ [y % 4 - 1, z % 4 % 3, u % 20, 3 + 5 * P, x * 300]).length cap5).ownBlock = some k → w.heap.size ≤ k := fun k hk => by
                rcases hloc with h | h
                · exact HO.out k (h ▸ hk)
                · rw [hk] at h; have := HB.out.size; simp at h; omega
              have hS5 : Sm (ys ++ [y % 4 - 1, z % 4 % 3, u % 20, 3 + 5 * P, x * 300]) := HS.out.app (by simp only [List.forall_mem_cons]; refine ⟨by omega, by omega, by omega, by omega, by omega, fun _ h => by cases h⟩)
              have HZ := Lib.hid (And.intro hR5 (And.intro hlen5 (And.intro hB5 (And.intro hO5 hS5))))
              clear hS5
              clear hR5 hlen5 hB5 hO5 hown' hgrow hloc RA
              go_wp2
              go_roundw
              case rel => exact ⟨i + 1, ao5, cap5, _, by omega, by first | rfl | (simp; done), by go_num, HZ.out.1, HZ.out.2.1, HZ.out.2.2.1, HZ.out.2.2.2.1, HZ.out.2.2.2.2⟩
              case measure => simp [intOf]; omega
            · go_wp2_with fail
              refine (func8_f _ cs _ HL1.out (5 + 4 * i) (by omega)).mono ?_
              rintro e w' ⟨rfl, rfl⟩
              obtain ⟨z, hz⟩ : ∃ z, f8 cs (5 + 4 * (i : Int)) = z := ⟨_, rfl⟩
              have hzr := f8_rng Hw.out (5 + 4 * (i : Int)) (by omega)
              rw [hz] at hzr ⊢
              clear hz
              obtain ⟨hzA, hzB⟩ := hzr
              go_wp2_with fail
              refine (func8_f _ cs _ HL1.out (6 + 4 * i) (by omega)).mono ?_
              rintro e w' ⟨rfl, rfl⟩
              obtain ⟨u, hu⟩ : ∃ z, f8 cs (6 + 4 * (i : Int)) = z := ⟨_, rfl⟩
              have hur := f8_rng Hw.out (6 + 4 * (i : Int)) (by omega)
              rw [hu] at hur ⊢
              clear hu
              obtain ⟨hu1, hu2⟩ := hur
              have RA : ∀ o, (wr.alloc o).ownsRow 0 2 1 (.slice ao1 ys.length cap1) ys.length (ys.map (Value.int .i64)) := fun o => HR.out.alloc o
              go_wp2_with (at_builtin; refine wpList_append_rows _ rfl _ _ 23 rfl 0 0 2 i0 (.int .i64 0) 1 8 Try.underlying23 hi hz0 hz1 hz2 rfl (by decide) _ _ _ rfl (RA _) _ 5 _ rfl (row_lit (vs := [y % 4 - 1, z % 4 % 3, u % 20, y, x * 300]) (heap_alloc_new _ _) rfl (by omega)) (fun v hv => (by obtain ⟨q, _, rfl⟩ := List.mem_map.1 hv; rfl)) ?c3x6 ?c4x6 ?c5x6 ?_)
              case c3x6 => have := Hy.out; unfold maxLen; omega
              case c4x6 => have := Hy.out; omega
              case c5x6 => exact Nat.zero_le _
              intro v' w5 hown' hgrow _ hloc
              have hR5 : Row w5 v' (ys ++ [y % 4 - 1, z % 4 % 3, u % 20, y, x * 300]) := Row.of hown' (by simp) (by simp)
              obtain ⟨ao5, cap5, rfl⟩ := hR5.shape
              have hlen5 : (ys ++ [y % 4 - 1, z % 4 % 3, u % 20, y, x * 300]).length = 3 + 5 * (i + 1) := by have := Hy.out; simp; omega
              have hB5 : Below w.heap.size w w5 := (HB.out.alloc HB.out.size _).grown hgrow (by have := HB.out.size; simp; omega) (fun k hk => HO.out k hk)
              have hO5 : ∀ k, (Value.slice ao5 (ys ++ [y % 4 - 1, z % 4 % 3, u % 20, y, x * 300]).length cap5).ownBlock = some k → w.heap.size ≤ k := fun k hk => by
                rcases hloc with h | h
                · exact HO.out k (h ▸ hk)
                · rw [hk] at h; have := HB.out.size; simp at h; omega
              have hS5 : Sm (ys ++ [y % 4 - 1, z % 4 % 3, u % 20, y, x * 300]) := HS.out.app (by simp only [List.forall_mem_cons]; refine ⟨by omega, by omega, by omega, by omega, by omega, fun _ h => by cases h⟩)
              have HZ := Lib.hid (And.intro hR5 (And.intro hlen5 (And.intro hB5 (And.intro hO5 hS5))))
              clear hS5
              clear hR5 hlen5 hB5 hO5 hown' hgrow hloc RA
              go_wp2
              go_roundw
              case rel => exact ⟨i + 1, ao5, cap5, _, by omega, by first | rfl | (simp; done), by go_num, HZ.out.1, HZ.out.2.1, HZ.out.2.2.1, HZ.out.2.2.2.1, HZ.out.2.2.2.2⟩
              case measure => simp [intOf]; omega
          · have hx5 : x % 5 ≤ 0 := by omega
            have hx77 : (x == 77) = false := by rw [beq_eq_false_iff_ne]; omega
            go_wp2_with fail
            refine (func8_f _ cs _ HL1.out (5 + 4 * i) (by omega)).mono ?_
            rintro e w' ⟨rfl, rfl⟩
            obtain ⟨z, hz⟩ : ∃ z, f8 cs (5 + 4 * (i : Int)) = z := ⟨_, rfl⟩
            have hzr := f8_rng Hw.out (5 + 4 * (i : Int)) (by omega)
            rw [hz] at hzr ⊢
            clear hz
            obtain ⟨hzA, hzB⟩ := hzr
            go_wp2_with fail
            refine (func8_f _ cs _ HL1.out (6 + 4 * i) (by omega)).mono ?_
            rintro e w' ⟨rfl, rfl⟩
            obtain ⟨u, hu⟩ : ∃ z, f8 cs (6 + 4 * (i : Int)) = z := ⟨_, rfl⟩
            have hur := f8_rng Hw.out (6 + 4 * (i : Int)) (by omega)
            rw [hu] at hur ⊢
            clear hu
            obtain ⟨hu1, hu2⟩ := hur
            have RA : ∀ o, (wr.alloc o).ownsRow 0 2 1 (.slice ao1 ys.length cap1) ys.length (ys.map (Value.int .i64)) := fun o => HR.out.alloc o
            go_wp2_with (at_builtin; refine wpList_append_rows _ rfl _ _ 23 rfl 0 0 2 i0 (.int .i64 0) 1 8 Try.underlying23 hi hz0 hz1 hz2 rfl (by decide) _ _ _ rfl (RA _) _ 5 _ rfl (row_lit (vs := [y % 4 - 1, z % 4 % 3, u % 20, 0, x * 300]) (heap_alloc_new _ _) rfl (by omega)) (fun v hv => (by obtain ⟨q, _, rfl⟩ := List.mem_map.1 hv; rfl)) ?c3x7 ?c4x7 ?c5x7 ?_)
            case c3x7 => have := Hy.out; unfold maxLen; omega
            case c4x7 => have := Hy.out; omega
            case c5x7 => exact Nat.zero_le _
            intro v' w5 hown' hgrow _ hloc
            have hR5 : Row w5 v' (ys ++ [y % 4 - 1, z % 4 % 3, u % 20, 0, x * 300]) := Row.of hown' (by simp) (by simp)
            obtain ⟨ao5, cap5, rfl⟩ := hR5.shape
            have hlen5 : (ys ++ [y % 4 - 1, z % 4 % 3, u % 20, 0, x * 300]).length = 3 + 5 * (i + 1) := by have := Hy.out; simp; omega
            have hB5 : Below w.heap.size w w5 := (HB.out.alloc HB.out.size _).grown hgrow (by have := HB.out.size; simp; omega) (fun k hk => HO.out k hk)
            have hO5 : ∀ k, (Value.slice ao5 (ys ++ [y % 4 - 1, z % 4 % 3, u % 20, 0, x * 300]).length cap5).ownBlock = some k → w.heap.size ≤ k := fun k hk => by
              rcases hloc with h | h
              · exact HO.out k (h ▸ hk)
              · rw [hk] at h; have := HB.out.size; simp at h; omega
            have hS5 : Sm (ys ++ [y % 4 - 1, z % 4 % 3, u % 20, 0, x * 300]) := HS.out.app (by simp only [List.forall_mem_cons]; refine ⟨by omega, by omega, by omega, by omega, by omega, fun _ h => by cases h⟩)
            have HZ := Lib.hid (And.intro hR5 (And.intro hlen5 (And.intro hB5 (And.intro hO5 hS5))))
            clear hS5
            clear hR5 hlen5 hB5 hO5 hown' hgrow hloc RA
            go_wp2
            go_roundw
            case rel => exact ⟨i + 1, ao5, cap5, _, by omega, by first | rfl | (simp; done), by go_num, HZ.out.1, HZ.out.2.1, HZ.out.2.2.1, HZ.out.2.2.2.1, HZ.out.2.2.2.2⟩
            case measure => simp [intOf]; omega
          
        · have hy45 := Hy.out
          have hyl : ys.length ≤ 33 := by omega
          have H2 : ∀ o, (wr.alloc o).ownsRow 0 2 1 (.slice ao1 ys.length cap1) ys.length (ys.map (Value.int .i64)) := fun o => HR.out.alloc o
          clear hy45
          by_cases h2 : (cs.length : Int) % 3 = 2
          · have h2' : ((cs.length : Int) % 3 == 2) = true := by rw [h2]; rfl
            go_wp2_with (at_builtin; refine wpList_append_rows _ rfl _ _ 23 rfl 0 0 2 i0 (.int .i64 0) 1 8 Try.underlying23 hi hz0 hz1 hz2 rfl (by decide) _ _ _ rfl (H2 _) _ 2 _ rfl (row_lit (vs := [1, 2]) (heap_alloc_new _ _) rfl (by omega)) (fun v hv => (by obtain ⟨q, _, rfl⟩ := List.mem_map.1 hv; rfl)) ?c3x8 ?c4x8 ?c5x8 ?_)
            case c3x8 => unfold maxLen; omega
            case c4x8 => omega
            intro v' w5 hown' hgrow _ hloc
            have hR5 : Row w5 v' (ys ++ [1, 2]) := Row.of hown' (by simp) (by simp)
            have hB5 : Below w.heap.size w w5 := (HB.out.alloc HB.out.size _).grown hgrow (by have := HB.out.size; simp; omega) (fun k hk => HO.out k hk)
            have hO5 : ∀ k, v'.ownBlock = some k → w.heap.size ≤ k := fun k hk => by
              rcases hloc with h | h
              · exact HO.out k (h ▸ hk)
              · rw [hk] at h; have := HB.out.size; simp at h; omega
            have HZ := Lib.hid (And.intro hR5 (And.intro hB5 hO5))
            clear hR5 hB5 hO5 hown' hgrow hloc H2 h2 h2'
            go_wp2
            go_ret
            first | exact ⟨_, rfl, _, HZ.out.1, by simp; omega, HZ.out.2.1, HZ.out.2.2, HS.out.app (by simp only [List.forall_mem_cons]; exact ⟨by omega, by omega, fun _ h => by cases h⟩)⟩ | exact ⟨_, _, rfl, HZ.out.1, by simp; omega, HZ.out.2.1, HZ.out.2.2, HS.out.app (by simp only [List.forall_mem_cons]; exact ⟨by omega, by omega, fun _ h => by cases h⟩)⟩
          · have h2' : ((cs.length : Int) % 3 == 2) = false := by rw [beq_eq_false_iff_ne]; exact h2
            clear h2 H2
            go_wp2
            go_ret
            first | exact ⟨_, rfl, ys, HR.out, by omega, HB.out, HO.out, HS.out⟩ | exact ⟨_, ys, rfl, HR.out, by omega, HB.out, HO.out, HS.out⟩

set_option maxRecDepth 100000 in
set_option maxHeartbeats 2000000 in
theorem CellsOf_none (c : Value) (w : World) (h : InSlice .u8 w c []) :
    Calls Try.prog 25 #[c] w fun e w' => ∃ v ys, e = .returned v ∧ Row w' v ys ∧ ys.length ≤ 40 ∧ Below w.heap.size w w' ∧ (∀ k, v.ownBlock = some k → w.heap.size ≤ k) ∧ Sm ys := by
  have h0 := h
  obtain ⟨ao, cap, rfl, -, -, -⟩ := h
  simp only [List.length_nil] at h0 ⊢
  have HL := Lib.hid h0
  clear h0
  have e1 : f8 [] 1 = 0 := rfl
  have e2 : f8 [] 2 = 0 := rfl
  have c1 := func8_f _ [] w HL.out 1 (by omega)
  have c2 := func8_f _ [] w HL.out 2 (by omega)
  rw [e1] at c1
  rw [e2] at c2
  clear e1 e2
  go_enter Try.func25, Try.ntmps25
  go_wp2_with fail
  refine c1.mono ?_
  rintro e w' ⟨rfl, rfl⟩
  go_wp2_with fail
  refine c2.mono ?_
  rintro e w' ⟨rfl, rfl⟩
  clear c1 c2
  go_wp2
  refine wp_loop_rounds 1 ?_
  rw [rounds_succ]
  go_wp2
  go_ret
  have hR : Row (w.alloc (.cells #[.int .i64 0, .int .i64 0, .int .i64 0] 2)) (.slice (some ⟨w.heap.size, 0, none⟩) 3 3) [0, 0, 0] := row_lit (vs := [0, 0, 0]) (heap_alloc_new _ _) rfl (by omega)
  have hB : Below w.heap.size w (w.alloc (.cells #[.int .i64 0, .int .i64 0, .int .i64 0] 2)) := by go_grown
  have hO : ∀ k, (Value.slice (some ⟨w.heap.size, 0, none⟩) 3 3).ownBlock = some k → w.heap.size ≤ k := fun k e => by cases e; exact Nat.le_refl _
  first | exact ⟨_, rfl, [0, 0, 0], hR, by simp, hB, hO, by simp [Sm]⟩ | exact ⟨_, [0, 0, 0], rfl, hR, by simp, hB, hO, by simp [Sm]⟩
theorem CellsOf_f (c : Value) (cs : List Int) (w : World) (h : InSlice .u8 w c cs) (hn : cs.length ≤ 1000000) :
    Calls Try.prog 25 #[c] w fun e w' => ∃ v ys, e = .returned v ∧ Row w' v ys ∧ ys.length ≤ 40 ∧ Below w.heap.size w w' ∧ (∀ k, v.ownBlock = some k → w.heap.size ≤ k) ∧ Sm ys := by
  by_cases hp : 0 < cs.length
  · obtain ⟨ao, cap, h1, h2, h3⟩ := id h
    have := bounds_u8 (wf_getD h2 0 hp)
    exact CellsOf_some c cs w _ h hn hp rfl (by omega) (by omega)
  · obtain rfl : cs = [] := List.eq_nil_of_length_eq_zero (by omega)
    exact CellsOf_none c w h

end Go.Proofs.Ytnpkhkfhlpopbaa
