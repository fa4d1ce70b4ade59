/- Of lists of ints: whether two are the same; the place of a number. -/
import Derived.Test.YtnpkhkfhlpopbaaChainP
import Derived.Deep.Slices
import Derived.Deep.QuietTactic
import Derived.BigQuiet
namespace Go.Proofs.Ytnpkhkfhlpopbaa
set_option linter.unusedSimpArgs false
set_option linter.unusedVariables false
open Go.RowKit
open Go.ChangeShapes Go.WideShapes Go.ChangeAt

set_option maxRecDepth 100000 in
set_option maxHeartbeats 1000000 in
theorem Ints_any (u v : Value) (xs ys : List Int) (w : World) (hu : Sl w u xs) (hv : Sl w v ys) (n1 : xs.length ≤ 1000000) :
    Calls Try.prog 16 #[u, v] w fun e w' => e = .returned (.bool (decide (xs = ys))) ∧ ∃ n, w' = w.drewN n := by
  by_cases hlen : xs.length = ys.length
  · by_cases hz : xs.length = 0
    · obtain rfl : xs = [] := List.eq_nil_of_length_eq_zero hz
      obtain rfl : ys = [] := List.eq_nil_of_length_eq_zero hlen.symm
      obtain ⟨ao, cap, rfl, -⟩ := hu
      obtain ⟨bo, cap', rfl, -⟩ := hv
      simp only [List.length_nil]
      clear hlen hz
      go_enter Try.func16, Try.ntmps16
      go_wp2
      refine wp_loop_rounds 1 ?_
      rw [rounds_succ]
      go_wp2
      go_ret
      exact ⟨rfl, 0, rfl⟩
    · obtain ⟨ao, cap, rfl, hcc⟩ := hu
      obtain ⟨g, og, rfl, hg, hc⟩ := hcc (Nat.pos_of_ne_zero hz)
      obtain ⟨bo, cap', rfl, hcc'⟩ := hv
      obtain ⟨g', og', rfl, hg', hc'⟩ := hcc' (hlen ▸ Nat.pos_of_ne_zero hz)
      rw [← hlen]
      have Hc := Lib.hid (And.intro hc hc')
      have Hl := Lib.hid hlen
      have hpos : 0 < xs.length := Nat.pos_of_ne_zero hz
      clear hc hc' hcc hcc' hg hg' hlen hz
      go_enter Try.func16, Try.ntmps16
      go_wp2
      go_loopw [5] (fun i wr => ∃ k n : Nat, k ≤ xs.length ∧ i = .int .i64 k ∧ xs.take k = ys.take k ∧ wr = w.drewN n) (fun i _ => xs.length - (intOf i).toNat)
      case atStart => exact ⟨0, 0, Nat.zero_le _, rfl, by simp, rfl⟩
      case round =>
        obtain ⟨k, n, hk, rfl, heq, rfl⟩ := hrel
        have Hq := Lib.hid heq
        clear heq
        by_cases hlt : k < xs.length
        · have h1 : w.cell? ⟨g, og + k, none⟩ = some (.int .i64 (xs.getD k 0)) := Hc.out.1 k hlt
          have h2 : w.cell? ⟨g', og' + k, none⟩ = some (.int .i64 (ys.getD k 0)) := Hc.out.2 k (by have := Hl.out; omega)
          obtain ⟨x, hx⟩ : ∃ x, xs.getD k 0 = x := ⟨_, rfl⟩
          obtain ⟨y, hy⟩ : ∃ y, ys.getD k 0 = y := ⟨_, rfl⟩
          rw [hx] at h1
          rw [hy] at h2
          have Hxy := Lib.hid (And.intro hx hy)
          clear hx hy
          have i1 : (0 : Int) ≤ (k : Int) := by omega
          have i2 : (k : Int) < (xs.length : Int) := by omega
          by_cases he : x = y
          · subst he
            go_wp2
            go_quiet (fail)
            go_wp2
            go_roundw
            case rel => exact ⟨k + 1, _, by omega, by go_num, take_step Hq.out hlt (by have := Hl.out; omega) (Hxy.out.1.trans Hxy.out.2.symm), rfl⟩
            case measure => simp [intOf]; omega
          · have he' : (x != y) = true := by rw [bne_iff_ne]; exact he
            go_wp2
            go_quiet (fail)
            go_wp2
            go_ret
            exact ⟨ret_bool (by symm; rw [decide_eq_false_iff_not]; rintro rfl; exact he (Hxy.out.1.symm.trans Hxy.out.2)), _, World.drewN_drewN ..⟩
        · obtain rfl : k = xs.length := by omega
          go_wp2
          go_ret
          exact ⟨ret_bool (by symm; rw [decide_eq_true_iff]; have h5 := Hq.out; rw [List.take_of_length_le (Nat.le_refl _), List.take_of_length_le (by have := Hl.out; omega)] at h5; exact h5), n, rfl⟩
  · obtain ⟨ao, cap, rfl, -⟩ := hu
    obtain ⟨bo, cap', rfl, -⟩ := hv
    have h5 : ((xs.length : Int) != (ys.length : Int)) = true := by rw [bne_iff_ne]; omega
    have Hl := Lib.hid hlen
    clear hlen
    go_enter Try.func16, Try.ntmps16
    go_wp2
    go_ret
    exact ⟨ret_bool (by symm; rw [decide_eq_false_iff_not]; rintro rfl; exact Hl.out rfl), 0, rfl⟩

/-- The place of a number in a list; below 0: it is not there. -/
def placeOf : List Int → Int → Int
  | [], _ => -1
  | x :: xs, n => if x = n then 0 else if placeOf xs n < 0 then -1 else placeOf xs n + 1
theorem placeOf_rng : ∀ (xs : List Int) (n : Int), -1 ≤ placeOf xs n ∧ placeOf xs n < xs.length
  | [], n => by simp [placeOf]
  | x :: xs, n => by
    have := placeOf_rng xs n
    simp only [placeOf, List.length_cons]
    split
    · omega
    split <;> omega
theorem placeOf_mem : ∀ (xs : List Int) (n : Int), 0 ≤ placeOf xs n ↔ n ∈ xs
  | [], n => by simp [placeOf]
  | x :: xs, n => by
    have h := placeOf_mem xs n
    have hr := placeOf_rng xs n
    simp only [placeOf, List.mem_cons]
    split
    · rename_i e; simp [e]
    · rename_i e
      have e' : ¬ n = x := fun h => e h.symm
      split
      · rename_i h2
        have : n ∉ xs := fun hm => by have := h.2 hm; omega
        simp [e', this]
      · have : n ∈ xs := h.1 (by omega)
        simp only [this, or_true, iff_true]
        omega
theorem placeOf_no {xs : List Int} {n : Int} (h : ∀ q, q < xs.length → xs.getD q 0 ≠ n) : placeOf xs n = -1 := by
  have hr := placeOf_rng xs n
  have : ¬ 0 ≤ placeOf xs n := fun h0 => by
    obtain ⟨q, hq, e⟩ := List.mem_iff_getElem.1 ((placeOf_mem xs n).1 h0)
    refine h q hq ?_
    rw [List.getD_eq_getElem?_getD, List.getElem?_eq_getElem hq]; exact e
  omega
theorem placeOf_at : ∀ {xs : List Int} {n : Int} {k : Nat}, (∀ q, q < k → xs.getD q 0 ≠ n) → k < xs.length → xs.getD k 0 = n → placeOf xs n = k
  | [], n, k, _, hk, _ => by simp at hk
  | x :: xs, n, 0, _, _, e => by
    have e' : x = n := by simpa using e
    simp [placeOf, e']
  | x :: xs, n, k + 1, h, hk, e => by
    have h0 : ¬ x = n := by simpa using h 0 (by omega)
    have ih := placeOf_at (xs := xs) (n := n) (k := k) (fun q hq => by simpa using h (q + 1) (by omega)) (by simpa using hk) (by simpa using e)
    simp only [placeOf, if_neg h0, ih]
    rw [if_neg (by omega)]
    omega
set_option maxRecDepth 100000 in
set_option maxHeartbeats 1000000 in
theorem Place_any (v : Value) (xs : List Int) (n : Int) (w : World) (h : Sl w v xs) (hn : xs.length ≤ 1000000) :
    Calls Try.prog 23 #[v, .int .i64 n] w fun e w' => e = .returned (.int .i64 (placeOf xs n)) ∧ w = w' := by
  obtain ⟨ao, cap, rfl, hc⟩ := h
  have HC := Lib.hid hc
  have hn' : (xs.length : Int) ≤ 1000000 := by omega
  clear hc
  go_enter Try.func23, Try.ntmps23
  go_wp2
  go_loopw [5] (fun i wr => ∃ k : Nat, k ≤ xs.length ∧ i = .int .i64 k ∧ wr = w ∧ ∀ q, q < k → xs.getD q 0 ≠ n) (fun i _ => xs.length - (intOf i).toNat)
  case atStart => exact ⟨0, Nat.zero_le _, rfl, rfl, fun q hq => by omega⟩
  case round =>
    obtain ⟨k, hk, rfl, rfl, hne⟩ := hrel
    have HN := Lib.hid hne
    have zk : (0 : Int) ≤ (k : Int) := by omega
    clear hne
    by_cases hlt : k < xs.length
    · have hlt' : (k : Int) < (xs.length : Int) := by omega
      obtain ⟨b, off, rfl, hb, hcc⟩ := HC.out (by omega)
      have hx := hcc k hlt
      obtain ⟨x, hxx⟩ : ∃ x, xs.getD k 0 = x := ⟨_, rfl⟩
      rw [hxx] at hx
      have HX := Lib.hid hxx
      clear hcc hxx
      by_cases he : x = n
      · have he' : (x == n) = true := beq_iff_eq.2 he
        have HE := Lib.hid he
        clear he
        go_wp2
        go_ret
        exact ⟨by rw [placeOf_at HN.out hlt (HX.out.trans HE.out)]; rfl, rfl⟩
      · have he' : (x == n) = false := beq_eq_false_iff_ne.2 he
        have HE := Lib.hid he
        clear he
        go_wp2
        go_roundw
        case rel => exact ⟨k + 1, by omega, by go_num, by first | rfl | trivial, fun q hq => by
          by_cases hqk : q = k
          · subst hqk; exact fun e => HE.out (HX.out.symm.trans e)
          · exact HN.out q (by omega)⟩
        case measure => simp [intOf]; omega
    · obtain rfl : k = xs.length := by omega
      have HP := Lib.hid (placeOf_no HN.out)
      go_wp2
      go_ret
      exact ⟨by rw [HP.out]; rfl, rfl⟩

end Go.Proofs.Ytnpkhkfhlpopbaa
