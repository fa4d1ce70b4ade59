/- The library's IndexFunc and DeleteFunc at a closure that tells a number's truth. -/
import Derived.Test.YtnpkhkfhlpopbaaListA
import Derived.Lib.SliceRun
namespace Go.Proofs.Ytnpkhkfhlpopbaa
set_option linter.unusedSimpArgs false
set_option linter.unusedVariables false
open Go.RowKit
open Go.ChangeShapes Go.WideShapes Go.ChangeAt

/-- Cells of a block, from off on. -/
def RowO (w : World) (G off : Nat) (xs : List Int) : Prop := ∃ cur : Array Value, w.heap[G]? = some (.cells cur 3 (0, 0)) ∧ off + xs.length ≤ cur.size ∧ ∀ j, j < xs.length → cur[off + j]? = some (.int .i64 (xs.getD j 0))
section
variable {w w' : World} {G off : Nat} {xs : List Int}
theorem RowO.lt (h : RowO w G off xs) : G < w.heap.size := by obtain ⟨cur, h1, -⟩ := h; exact (Array.getElem?_eq_some_iff.1 h1).1
theorem RowO.cell (h : RowO w G off xs) {j : Nat} (hj : j < xs.length) : w.cell? ⟨G, off + j, none⟩ = some (.int .i64 (xs.getD j 0)) := by
  obtain ⟨cur, h1, h2, h3⟩ := h
  have := h3 j hj
  simp only [World.cell?, h1]
  exact this
theorem RowO.frozen (h : RowO w G off xs) (j : Nat) : w.frozen? ⟨G, j, none⟩ = false := by
  obtain ⟨cur, h1, -⟩ := h
  simp [World.frozen?, h1]
theorem RowO.kept {F : Nat → Prop} (h : RowO w G off xs) (hk : Kept F w w') (hf : ¬ F G) : RowO w' G off xs := by
  have hl := h.lt
  obtain ⟨cur, h1, h2⟩ := h
  exact ⟨cur, (hk.block G hl hf).trans h1, h2⟩
theorem RowO.below (h : RowO w G off xs) (hb : Below w.heap.size w w') : RowO w' G off xs := by
  have hl := h.lt
  obtain ⟨cur, h1, h2⟩ := h
  exact ⟨cur, (hb.block G hl).trans h1, h2⟩
theorem RowO.set (h : RowO w G off xs) {j : Nat} (hj : j < xs.length) (v : Int) : RowO (w.setCell ⟨G, off + j, none⟩ (.int .i64 v)) G off (xs.set j v) := by
  obtain ⟨cur, h1, h2, h3⟩ := h
  refine ⟨cur.setIfInBounds (off + j) (.int .i64 v), heap_setCell_self h1 _ _, by simpa using h2, fun q hq => ?_⟩
  simp only [List.length_set] at hq
  rw [Array.getElem?_setIfInBounds, List.getD_eq_getElem?_getD, List.getElem?_set]
  by_cases e : off + j = off + q
  · have : j = q := by omega
    subst this
    rw [if_pos e, if_pos (by omega)]
    simp [hj]
  · rw [if_neg e, if_neg (by omega), h3 q hq, List.getD_eq_getElem?_getD]
theorem RowO.sl (h : RowO w G off xs) {i : Nat} (hi : i ≤ xs.length) (cap : Nat) : Sl w (.slice (some ⟨G, off, none⟩) i cap) (xs.take i) := by
  have hl : (xs.take i).length = i := by rw [List.length_take]; omega
  refine ⟨some ⟨G, off, none⟩, cap, by rw [hl], fun _ => ⟨G, off, rfl, h.lt, fun j hj => ?_⟩⟩
  rw [hl] at hj
  rw [h.cell (by omega), List.getD_eq_getElem?_getD, List.getD_eq_getElem?_getD, List.getElem?_take, if_pos hj]
theorem IRow.rowO {v : Value} (h : IRow w v xs) (hp : 0 < xs.length) : ∃ g cap, v = .slice (some ⟨g, 0, none⟩) xs.length cap ∧ RowO w g 0 xs := by
  obtain ⟨g, cap, cur, e, h1, h2, h3, h4, -⟩ := h.pos hp
  refine ⟨g, cap, e, cur, h1, by omega, fun j hj => ?_⟩
  have := h4 j hj
  rw [World.cell?, h1] at this
  rw [Nat.zero_add]
  exact this
theorem RowO.drop1 (h : RowO w G off xs) (hp : 0 < xs.length) : RowO w G (off + 1) (xs.drop 1) := by
  obtain ⟨cur, h1, h2, h3⟩ := h
  refine ⟨cur, h1, ?_, fun j hj => ?_⟩
  · rw [List.length_drop]; omega
  · rw [List.length_drop] at hj
    have := h3 (j + 1) (by omega)
    rw [show off + 1 + j = off + (j + 1) by omega, this, List.getD_eq_getElem?_getD, List.getD_eq_getElem?_getD, List.getElem?_drop, Nat.add_comm]
end
theorem kept_setCells (b : Nat) : ∀ (vs : List Value) (o : Nat) (w : World), Kept (fun k => k = b) w (w.setCells b o vs)
  | [], _, w => Kept.refl _ w
  | v :: r, o, w => ((Kept.refl (fun k => k = b) w).setCell (p := ⟨b, o, none⟩) (fun _ => rfl) v).trans (kept_setCells b r (o + 1) _)
theorem filter_take_succ {p : Int → Bool} {xs : List Int} {j : Nat} (h : j < xs.length) : (xs.take (j + 1)).filter p = (xs.take j).filter p ++ (if p (xs.getD j 0) = true then [xs.getD j 0] else []) := by
  rw [List.take_succ_eq_append_getElem h, List.filter_append, List.getD_eq_getElem?_getD, List.getElem?_eq_getElem h]
  simp only [List.filter_cons, List.filter_nil, Option.getD_some]
/-- The place at which p holds first, or -1. -/
def FirstAt (p : Int → Bool) (xs : List Int) (r : Int) : Prop := (r = -1 ∧ ∀ q, q < xs.length → p (xs.getD q 0) = false) ∨ ∃ k : Nat, k < xs.length ∧ r = (k : Int) ∧ p (xs.getD k 0) = true ∧ ∀ q, q < k → p (xs.getD q 0) = false

theorem run_clear_sliceL (w : World) (b o n c : Nat) (hn : 0 < n) (hc : ∀ j, j < n → (w.cell? ⟨b, o + j, none⟩).isSome = true) (hf : ∀ j, j < n → w.frozen? ⟨b, o + j, none⟩ = false) (ty : TypeId) :
    (Builtin.clear_ #[24] ty #[.slice (some ⟨b, o, none⟩) n c]).run Try.prog w = .ok (.tuple #[]) (w.setCells b o (List.replicate n (.int .i64 0))) :=
  Lib.run_clear_slice w 24 3 ty (.int .i64 0) Try.underlying24 (fun _ => by kernel_rfl) rfl rfl b o n c hn hc hf

set_option maxHeartbeats 400000 in
theorem IndexFunc_nil_w (w : World) (ao : Option Addr) (cap : Nat) (c0 : Value) : Calls Try.prog 57 #[.slice ao 0 cap, .func (.func 40) #[] #[c0]] w fun e w' => e = .returned (.int .i64 (-1)) ∧ w = w' := by
  go_enter Try.func57, Try.ntmps57
  go_wp2
  refine wp_loop_rounds 1 ?_
  rw [rounds_succ]
  go_wp2
  go_ret
  exact ⟨rfl, rfl⟩
theorem DeleteFunc_nil_w (w : World) (ao : Option Addr) (cap : Nat) (c0 : Value) : Calls Try.prog 39 #[.slice ao 0 cap, .func (.func 40) #[] #[c0]] w fun e w' => e = .returned (.slice ao 0 cap) ∧ Below w.heap.size w w' := by
  go_enter Try.func39, Try.ntmps39
  go_wp2_with fail
  refine (IndexFunc_nil_w w ao cap c0).mono ?_
  rintro e w' ⟨rfl, rfl⟩
  go_wp2
  go_ret
  exact ⟨rfl, Below.refl _ _⟩

set_option maxHeartbeats 400000 in
theorem IndexFunc_nil_s (w : World) (ao : Option Addr) (cap : Nat) (c0 c1 : Value) : Calls Try.prog 57 #[.slice ao 0 cap, .func (.func 42) #[] #[c0, c1]] w fun e w' => e = .returned (.int .i64 (-1)) ∧ w = w' := by
  go_enter Try.func57, Try.ntmps57
  go_wp2
  refine wp_loop_rounds 1 ?_
  rw [rounds_succ]
  go_wp2
  go_ret
  exact ⟨rfl, rfl⟩
theorem DeleteFunc_nil_s (w : World) (ao : Option Addr) (cap : Nat) (c0 c1 : Value) : Calls Try.prog 39 #[.slice ao 0 cap, .func (.func 42) #[] #[c0, c1]] w fun e w' => e = .returned (.slice ao 0 cap) ∧ Below w.heap.size w w' := by
  go_enter Try.func39, Try.ntmps39
  go_wp2_with fail
  refine (IndexFunc_nil_s w ao cap c0 c1).mono ?_
  rintro e w' ⟨rfl, rfl⟩
  go_wp2
  go_ret
  exact ⟨rfl, Below.refl _ _⟩

set_option maxRecDepth 100000 in
set_option maxHeartbeats 1000000 in
theorem IndexFunc_w (w : World) (G off cap : Nat) (xs : List Int) (c0 : Value) (p : Int → Bool) (Inv : World → Prop) (hf : ∀ (u : World) (x : Int), Inv u → Calls Try.prog 40 #[.int .i64 x, c0] u fun e u' => e = .returned (.bool (p x)) ∧ Below u.heap.size u u') (hI : ∀ u u', Inv u → Below u.heap.size u u' → Inv u') (h : RowO w G off xs) (hw : Inv w) (hn : xs.length ≤ 1000000) :
    Calls Try.prog 57 #[.slice (some ⟨G, off, none⟩) xs.length cap, .func (.func 40) #[] #[c0]] w fun e w' => ∃ r : Int, e = .returned (.int .i64 r) ∧ FirstAt p xs r ∧ Below w.heap.size w w' := by
  have H := Lib.hid (And.intro h hw)
  have HF := Lib.hid (And.intro hf hI)
  have hn' : (xs.length : Int) ≤ 1000000 := by omega
  clear h hw hf hI
  go_enter Try.func57, Try.ntmps57
  go_wp2
  go_loopw [8] (fun i wr => ∃ k : Nat, k ≤ xs.length ∧ i = .int .i64 k ∧ Below w.heap.size w wr ∧ ∀ q, q < k → p (xs.getD q 0) = false) (fun i _ => xs.length - (intOf i).toNat)
  case atStart => exact ⟨0, Nat.zero_le _, rfl, Below.refl _ _, fun q hq => by omega⟩
  case round =>
    obtain ⟨k, hk, rfl, hB, hne⟩ := hrel
    have HN := Lib.hid (And.intro hB hne)
    have zk : (0 : Int) ≤ (k : Int) := by omega
    clear hne hB
    by_cases hlt : k < xs.length
    · have hlt' : (k : Int) < (xs.length : Int) := by omega
      have hx := (H.out.1.below HN.out.1).cell hlt
      obtain ⟨x, hxx⟩ : ∃ x, xs.getD k 0 = x := ⟨_, rfl⟩
      rw [hxx] at hx
      have HX := Lib.hid hxx
      clear hxx
      go_wp2_with fail
      refine (HF.out.1 _ x (HF.out.2 _ _ H.out.2 HN.out.1)).mono ?_
      rintro e w2 ⟨rfl, hb2⟩
      have B2 : Below w.heap.size w w2 := HN.out.1.trans (hb2.mono HN.out.1.size)
      clear hb2 hx
      cases hp : p x
      · have HP := Lib.hid hp
        clear hp
        go_wp2_with fail
        go_roundw
        case rel => exact ⟨k + 1, by omega, by go_num, B2, fun q hq => by
          by_cases hqk : q = k
          · subst hqk; rw [HX.out]; exact HP.out
          · exact HN.out.2 q (by omega)⟩
        case measure => simp [intOf]; omega
      · have HP := Lib.hid hp
        clear hp
        go_wp2
        go_ret
        exact ⟨k, rfl, .inr ⟨k, hlt, rfl, by rw [HX.out]; exact HP.out, HN.out.2⟩, B2⟩
    · obtain rfl : k = xs.length := by omega
      go_wp2
      go_ret
      exact ⟨-1, rfl, .inl ⟨rfl, HN.out.2⟩, HN.out.1⟩
set_option maxRecDepth 100000 in
set_option maxHeartbeats 2000000 in
theorem DeleteFunc_w (w : World) (G off cap : Nat) (xs : List Int) (c0 : Value) (p : Int → Bool) (Inv : World → Prop) (hf : ∀ (u : World) (x : Int), Inv u → Calls Try.prog 40 #[.int .i64 x, c0] u fun e u' => e = .returned (.bool (p x)) ∧ Below u.heap.size u u') (hI : ∀ u u', Inv u → Below u.heap.size u u' → Inv u') (hK : ∀ u u', Inv u → Kept (fun k => k = G) u u' → Inv u') (h : RowO w G off xs) (hw : Inv w) (hn : xs.length ≤ 1000000) (hcap : xs.length ≤ cap) (hoff : off ≤ 10) :
    Calls Try.prog 39 #[.slice (some ⟨G, off, none⟩) xs.length cap, .func (.func 40) #[] #[c0]] w fun e w' => ∃ i, e = .returned (.slice (some ⟨G, off, none⟩) i cap) ∧ Sl w' (.slice (some ⟨G, off, none⟩) i cap) (xs.filter fun x => !p x) ∧ Kept (fun k => k = G) w w' := by
  have H := Lib.hid (And.intro h hw)
  have HF := Lib.hid (And.intro hf (And.intro hI hK))
  have hn' : (xs.length : Int) ≤ 1000000 := by omega
  clear h hw hf hI hK
  go_enter Try.func39, Try.ntmps39
  go_wp2_with fail
  refine (IndexFunc_w w G off cap xs c0 p Inv HF.out.1 HF.out.2.1 H.out.1 H.out.2 hn).mono ?_
  rintro e w1 ⟨r, rfl, hr, hb1⟩
  rcases hr with ⟨rfl, hno⟩ | ⟨k, hk, rfl, hpk, hno⟩
  · have HN := Lib.hid (And.intro hno hb1)
    clear hno hb1
    go_wp2
    go_ret
    have e : xs.filter (fun x => !p x) = xs := by
      rw [List.filter_eq_self]
      intro a ha
      obtain ⟨q, hq, rfl⟩ := List.mem_iff_getElem.1 ha
      have := HN.out.1 q hq
      rw [List.getD_eq_getElem?_getD, List.getElem?_eq_getElem hq] at this
      simpa using this
    refine ⟨xs.length, rfl, ?_, keptF HN.out.2⟩
    rw [e]
    have := (H.out.1.below HN.out.2).sl (Nat.le_refl _) cap
    rwa [List.take_length] at this
  · have e0 : (xs.take (k + 1)).filter (fun x => !p x) = xs.take k := by
      rw [filter_take_succ hk, hpk]
      have : (xs.take k).filter (fun x => !p x) = xs.take k := by
        rw [List.filter_eq_self]
        intro a ha
        obtain ⟨q, hq, rfl⟩ := List.mem_iff_getElem.1 ha
        rw [List.length_take] at hq
        have := hno q (by omega)
        rw [List.getD_eq_getElem?_getD, List.getElem?_eq_getElem (by omega)] at this
        simpa using this
      rw [this]
      simp
    have HE := Lib.hid e0
    have HB1 := Lib.hid hb1
    have zk : (0 : Int) ≤ (k : Int) := by omega
    have hk' : (k : Int) < (xs.length : Int) := by omega
    clear e0 hno hpk hb1
    have hk1 : ((k : Int) == -1) = false := by first | (simp; done) | (simp; omega)
    have hk2 : decide ((k : Int) = -1) = false := decide_eq_false (by omega)
    go_wp2_with fail
    go_loopw [5, 6] (fun i j wr => ∃ (a c : Nat) (L : List Int), a < c ∧ c ≤ xs.length ∧ i = .int .i64 a ∧ j = .int .i64 c ∧ L.length = xs.length ∧ L.take a = (xs.take c).filter (fun x => !p x) ∧ (∀ q, c ≤ q → L.getD q 0 = xs.getD q 0) ∧ RowO wr G off L ∧ Inv wr ∧ Kept (fun k => k = G) w wr) (fun _ j _ => xs.length - (intOf j).toNat)
    case atStart => exact ⟨k, k + 1, xs, by omega, by omega, rfl, by go_num, rfl, HE.out.symm, fun q hq => rfl, H.out.1.below HB1.out, HF.out.2.1 _ _ H.out.2 HB1.out, keptF HB1.out⟩
    case round =>
      obtain ⟨a, c, L, hac, hc, rfl, rfl, hL, ht, hd, hR, hIw, hKw⟩ := hrel
      have HR := Lib.hid (And.intro hR (And.intro hIw (And.intro hKw (And.intro hL (And.intro ht hd)))))
      have zc : (0 : Int) ≤ (c : Int) := by omega
      have za : (0 : Int) ≤ (a : Int) := by omega
      have hac' : (a : Int) < (c : Int) := by omega
      have hc' : (c : Int) ≤ (xs.length : Int) := by omega
      clear hR hIw hKw hL ht hd
      by_cases hlt : c < xs.length
      · have hlt' : (c : Int) < (xs.length : Int) := by omega
        have hx := HR.out.1.cell (j := c) (by rw [HR.out.2.2.2.1]; exact hlt)
        rw [HR.out.2.2.2.2.2 c (Nat.le_refl _)] at hx
        obtain ⟨x, hxx⟩ : ∃ x, xs.getD c 0 = x := ⟨_, rfl⟩
        rw [hxx] at hx
        have HX := Lib.hid hxx
        clear hxx
        go_wp2_with fail
        refine (HF.out.1 _ x HR.out.2.1).mono ?_
        rintro e w2 ⟨rfl, hb2⟩
        have R2 := HR.out.1.below hb2
        have H2 := Lib.hid (And.intro R2 (And.intro (HF.out.2.1 _ _ HR.out.2.1 hb2) (HR.out.2.2.1.trans (keptF hb2))))
        have hx2 := R2.cell (j := a) (by rw [HR.out.2.2.2.1]; omega)
        have hf2 := R2.frozen (off + a)
        clear hb2 hx R2
        cases hp : p x
        · have HP := Lib.hid hp
          clear hp
          go_wp2_with fail
          have K3 : Kept (fun k => k = G) w2 (w2.setCell ⟨G, off + a, none⟩ (.int .i64 x)) := (Kept.refl (fun k => k = G) w2).setCell (p := ⟨G, off + a, none⟩) (fun _ => rfl) _
          have R3 := H2.out.1.set (j := a) (by rw [HR.out.2.2.2.1]; omega) x
          have H3 := Lib.hid (And.intro R3 (And.intro (HF.out.2.2 _ _ H2.out.2.1 K3) (H2.out.2.2.trans K3)))
          clear K3 R3 hx2 hf2
          generalize World.setCell w2 _ _ = w3 at H3 ⊢
          go_wp2_with fail
          go_roundw
          case rel => exact ⟨a + 1, c + 1, L.set a x, by omega, by omega, by go_num, by go_num, by rw [List.length_set]; exact HR.out.2.2.2.1, by
            rw [filter_take_succ hlt, HX.out, HP.out, ← HR.out.2.2.2.2.1]
            rw [List.take_succ_eq_append_getElem (by rw [List.length_set, HR.out.2.2.2.1]; omega), List.take_set_of_le (Nat.le_refl _)]
            simp, fun q hq => by
            rw [List.getD_eq_getElem?_getD, List.getElem?_set, if_neg (by omega), ← List.getD_eq_getElem?_getD]; exact HR.out.2.2.2.2.2 q (by omega), H3.out.1, H3.out.2.1, H3.out.2.2⟩
          case measure => simp [intOf]; omega
        · have HP := Lib.hid hp
          clear hp
          go_wp2_with fail
          go_roundw
          case rel => exact ⟨a, c + 1, L, by omega, by omega, rfl, by go_num, HR.out.2.2.2.1, by
            rw [filter_take_succ hlt, HX.out, HP.out, ← HR.out.2.2.2.2.1]
            simp, fun q hq => HR.out.2.2.2.2.2 q (by omega), H2.out.1, H2.out.2.1, H2.out.2.2⟩
          case measure => simp [intOf]; omega
      · obtain rfl : c = xs.length := by omega
        have ha2 : a < xs.length := hac
        have ha3 : (a : Int) ≤ (cap : Int) := by omega
        have hcap' : (xs.length : Int) ≤ (cap : Int) := by omega
        obtain ⟨d, hd⟩ : ∃ d, xs.length - a = d := ⟨_, rfl⟩
        have qc := fun ty => run_clear_sliceL wr G (off + a) (xs.length - a) (cap - a) (by omega) (fun j hj => by rw [Nat.add_assoc, HR.out.1.cell (j := a + j) (by rw [HR.out.2.2.2.1]; omega)]; rfl) (fun j hj => HR.out.1.frozen _) ty
        have KC := kept_setCells G (List.replicate (xs.length - a) (.int .i64 0)) (off + a) wr
        clear hd
        go_wp2
        go_ret
        refine ⟨a, rfl, ?_, HR.out.2.2.1.trans KC⟩
        have hs := HR.out.1.sl (i := a) (by rw [HR.out.2.2.2.1]; omega) cap
        rw [HR.out.2.2.2.2.1, List.take_length] at hs
        obtain ⟨ao, cp, e1, e2⟩ := hs
        refine ⟨ao, cp, e1, fun hp => ?_⟩
        obtain ⟨b', o', e3, e4, e5⟩ := e2 hp
        cases e1
        cases e3
        refine ⟨G, off, rfl, Nat.lt_of_lt_of_le e4 KC.size, fun j hj => ?_⟩
        rw [World.cell?_setCells_out G _ _ _ _ (fun _ _ => .inl (Nat.add_lt_add_left hj off))]
        exact e5 j hj

set_option maxRecDepth 100000 in
set_option maxHeartbeats 1000000 in
theorem IndexFunc_s (w : World) (G off cap : Nat) (xs : List Int) (c0 c1 : Value) (p : Int → Bool) (Inv : World → Prop) (hf : ∀ (u : World) (x : Int), Inv u → Calls Try.prog 42 #[.int .i64 x, c0, c1] u fun e u' => e = .returned (.bool (p x)) ∧ Below u.heap.size u u') (hI : ∀ u u', Inv u → Below u.heap.size u u' → Inv u') (h : RowO w G off xs) (hw : Inv w) (hn : xs.length ≤ 1000000) :
    Calls Try.prog 57 #[.slice (some ⟨G, off, none⟩) xs.length cap, .func (.func 42) #[] #[c0, c1]] w fun e w' => ∃ r : Int, e = .returned (.int .i64 r) ∧ FirstAt p xs r ∧ Below w.heap.size w w' := by
  have H := Lib.hid (And.intro h hw)
  have HF := Lib.hid (And.intro hf hI)
  have hn' : (xs.length : Int) ≤ 1000000 := by omega
  clear h hw hf hI
  go_enter Try.func57, Try.ntmps57
  go_wp2
  go_loopw [8] (fun i wr => ∃ k : Nat, k ≤ xs.length ∧ i = .int .i64 k ∧ Below w.heap.size w wr ∧ ∀ q, q < k → p (xs.getD q 0) = false) (fun i _ => xs.length - (intOf i).toNat)
  case atStart => exact ⟨0, Nat.zero_le _, rfl, Below.refl _ _, fun q hq => by omega⟩
  case round =>
    obtain ⟨k, hk, rfl, hB, hne⟩ := hrel
    have HN := Lib.hid (And.intro hB hne)
    have zk : (0 : Int) ≤ (k : Int) := by omega
    clear hne hB
    by_cases hlt : k < xs.length
    · have hlt' : (k : Int) < (xs.length : Int) := by omega
      have hx := (H.out.1.below HN.out.1).cell hlt
      obtain ⟨x, hxx⟩ : ∃ x, xs.getD k 0 = x := ⟨_, rfl⟩
      rw [hxx] at hx
      have HX := Lib.hid hxx
      clear hxx
      go_wp2_with fail
      refine (HF.out.1 _ x (HF.out.2 _ _ H.out.2 HN.out.1)).mono ?_
      rintro e w2 ⟨rfl, hb2⟩
      have B2 : Below w.heap.size w w2 := HN.out.1.trans (hb2.mono HN.out.1.size)
      clear hb2 hx
      cases hp : p x
      · have HP := Lib.hid hp
        clear hp
        go_wp2_with fail
        go_roundw
        case rel => exact ⟨k + 1, by omega, by go_num, B2, fun q hq => by
          by_cases hqk : q = k
          · subst hqk; rw [HX.out]; exact HP.out
          · exact HN.out.2 q (by omega)⟩
        case measure => simp [intOf]; omega
      · have HP := Lib.hid hp
        clear hp
        go_wp2
        go_ret
        exact ⟨k, rfl, .inr ⟨k, hlt, rfl, by rw [HX.out]; exact HP.out, HN.out.2⟩, B2⟩
    · obtain rfl : k = xs.length := by omega
      go_wp2
      go_ret
      exact ⟨-1, rfl, .inl ⟨rfl, HN.out.2⟩, HN.out.1⟩
set_option maxRecDepth 100000 in
set_option maxHeartbeats 2000000 in
theorem DeleteFunc_s (w : World) (G off cap : Nat) (xs : List Int) (c0 c1 : Value) (p : Int → Bool) (Inv : World → Prop) (hf : ∀ (u : World) (x : Int), Inv u → Calls Try.prog 42 #[.int .i64 x, c0, c1] u fun e u' => e = .returned (.bool (p x)) ∧ Below u.heap.size u u') (hI : ∀ u u', Inv u → Below u.heap.size u u' → Inv u') (hK : ∀ u u', Inv u → Kept (fun k => k = G) u u' → Inv u') (h : RowO w G off xs) (hw : Inv w) (hn : xs.length ≤ 1000000) (hcap : xs.length ≤ cap) (hoff : off ≤ 10) :
    Calls Try.prog 39 #[.slice (some ⟨G, off, none⟩) xs.length cap, .func (.func 42) #[] #[c0, c1]] w fun e w' => ∃ i, e = .returned (.slice (some ⟨G, off, none⟩) i cap) ∧ Sl w' (.slice (some ⟨G, off, none⟩) i cap) (xs.filter fun x => !p x) ∧ Kept (fun k => k = G) w w' := by
  have H := Lib.hid (And.intro h hw)
  have HF := Lib.hid (And.intro hf (And.intro hI hK))
  have hn' : (xs.length : Int) ≤ 1000000 := by omega
  clear h hw hf hI hK
  go_enter Try.func39, Try.ntmps39
  go_wp2_with fail
  refine (IndexFunc_s w G off cap xs c0 c1 p Inv HF.out.1 HF.out.2.1 H.out.1 H.out.2 hn).mono ?_
  rintro e w1 ⟨r, rfl, hr, hb1⟩
  rcases hr with ⟨rfl, hno⟩ | ⟨k, hk, rfl, hpk, hno⟩
  · have HN := Lib.hid (And.intro hno hb1)
    clear hno hb1
    go_wp2
    go_ret
    have e : xs.filter (fun x => !p x) = xs := by
      rw [List.filter_eq_self]
      intro a ha
      obtain ⟨q, hq, rfl⟩ := List.mem_iff_getElem.1 ha
      have := HN.out.1 q hq
      rw [List.getD_eq_getElem?_getD, List.getElem?_eq_getElem hq] at this
      simpa using this
    refine ⟨xs.length, rfl, ?_, keptF HN.out.2⟩
    rw [e]
    have := (H.out.1.below HN.out.2).sl (Nat.le_refl _) cap
    rwa [List.take_length] at this
  · have e0 : (xs.take (k + 1)).filter (fun x => !p x) = xs.take k := by
      rw [filter_take_succ hk, hpk]
      have : (xs.take k).filter (fun x => !p x) = xs.take k := by
        rw [List.filter_eq_self]
        intro a ha
        obtain ⟨q, hq, rfl⟩ := List.mem_iff_getElem.1 ha
        rw [List.length_take] at hq
        have := hno q (by omega)
        rw [List.getD_eq_getElem?_getD, List.getElem?_eq_getElem (by omega)] at this
        simpa using this
      rw [this]
      simp
    have HE := Lib.hid e0
    have HB1 := Lib.hid hb1
    have zk : (0 : Int) ≤ (k : Int) := by omega
    have hk' : (k : Int) < (xs.length : Int) := by omega
    clear e0 hno hpk hb1
    have hk1 : ((k : Int) == -1) = false := by first | (simp; done) | (simp; omega)
    have hk2 : decide ((k : Int) = -1) = false := decide_eq_false (by omega)
    go_wp2_with fail
    go_loopw [5, 6] (fun i j wr => ∃ (a c : Nat) (L : List Int), a < c ∧ c ≤ xs.length ∧ i = .int .i64 a ∧ j = .int .i64 c ∧ L.length = xs.length ∧ L.take a = (xs.take c).filter (fun x => !p x) ∧ (∀ q, c ≤ q → L.getD q 0 = xs.getD q 0) ∧ RowO wr G off L ∧ Inv wr ∧ Kept (fun k => k = G) w wr) (fun _ j _ => xs.length - (intOf j).toNat)
    case atStart => exact ⟨k, k + 1, xs, by omega, by omega, rfl, by go_num, rfl, HE.out.symm, fun q hq => rfl, H.out.1.below HB1.out, HF.out.2.1 _ _ H.out.2 HB1.out, keptF HB1.out⟩
    case round =>
      obtain ⟨a, c, L, hac, hc, rfl, rfl, hL, ht, hd, hR, hIw, hKw⟩ := hrel
      have HR := Lib.hid (And.intro hR (And.intro hIw (And.intro hKw (And.intro hL (And.intro ht hd)))))
      have zc : (0 : Int) ≤ (c : Int) := by omega
      have za : (0 : Int) ≤ (a : Int) := by omega
      have hac' : (a : Int) < (c : Int) := by omega
      have hc' : (c : Int) ≤ (xs.length : Int) := by omega
      clear hR hIw hKw hL ht hd
      by_cases hlt : c < xs.length
      · have hlt' : (c : Int) < (xs.length : Int) := by omega
        have hx := HR.out.1.cell (j := c) (by rw [HR.out.2.2.2.1]; exact hlt)
        rw [HR.out.2.2.2.2.2 c (Nat.le_refl _)] at hx
        obtain ⟨x, hxx⟩ : ∃ x, xs.getD c 0 = x := ⟨_, rfl⟩
        rw [hxx] at hx
        have HX := Lib.hid hxx
        clear hxx
        go_wp2_with fail
        refine (HF.out.1 _ x HR.out.2.1).mono ?_
        rintro e w2 ⟨rfl, hb2⟩
        have R2 := HR.out.1.below hb2
        have H2 := Lib.hid (And.intro R2 (And.intro (HF.out.2.1 _ _ HR.out.2.1 hb2) (HR.out.2.2.1.trans (keptF hb2))))
        have hx2 := R2.cell (j := a) (by rw [HR.out.2.2.2.1]; omega)
        have hf2 := R2.frozen (off + a)
        clear hb2 hx R2
        cases hp : p x
        · have HP := Lib.hid hp
          clear hp
          go_wp2_with fail
          have K3 : Kept (fun k => k = G) w2 (w2.setCell ⟨G, off + a, none⟩ (.int .i64 x)) := (Kept.refl (fun k => k = G) w2).setCell (p := ⟨G, off + a, none⟩) (fun _ => rfl) _
          have R3 := H2.out.1.set (j := a) (by rw [HR.out.2.2.2.1]; omega) x
          have H3 := Lib.hid (And.intro R3 (And.intro (HF.out.2.2 _ _ H2.out.2.1 K3) (H2.out.2.2.trans K3)))
          clear K3 R3 hx2 hf2
          generalize World.setCell w2 _ _ = w3 at H3 ⊢
          go_wp2_with fail
          go_roundw
          case rel => exact ⟨a + 1, c + 1, L.set a x, by omega, by omega, by go_num, by go_num, by rw [List.length_set]; exact HR.out.2.2.2.1, by
            rw [filter_take_succ hlt, HX.out, HP.out, ← HR.out.2.2.2.2.1]
            rw [List.take_succ_eq_append_getElem (by rw [List.length_set, HR.out.2.2.2.1]; omega), List.take_set_of_le (Nat.le_refl _)]
            simp, fun q hq => by
            rw [List.getD_eq_getElem?_getD, List.getElem?_set, if_neg (by omega), ← List.getD_eq_getElem?_getD]; exact HR.out.2.2.2.2.2 q (by omega), H3.out.1, H3.out.2.1, H3.out.2.2⟩
          case measure => simp [intOf]; omega
        · have HP := Lib.hid hp
          clear hp
          go_wp2_with fail
          go_roundw
          case rel => exact ⟨a, c + 1, L, by omega, by omega, rfl, by go_num, HR.out.2.2.2.1, by
            rw [filter_take_succ hlt, HX.out, HP.out, ← HR.out.2.2.2.2.1]
            simp, fun q hq => HR.out.2.2.2.2.2 q (by omega), H2.out.1, H2.out.2.1, H2.out.2.2⟩
          case measure => simp [intOf]; omega
      · obtain rfl : c = xs.length := by omega
        have ha2 : a < xs.length := hac
        have ha3 : (a : Int) ≤ (cap : Int) := by omega
        have hcap' : (xs.length : Int) ≤ (cap : Int) := by omega
        obtain ⟨d, hd⟩ : ∃ d, xs.length - a = d := ⟨_, rfl⟩
        have qc := fun ty => run_clear_sliceL wr G (off + a) (xs.length - a) (cap - a) (by omega) (fun j hj => by rw [Nat.add_assoc, HR.out.1.cell (j := a + j) (by rw [HR.out.2.2.2.1]; omega)]; rfl) (fun j hj => HR.out.1.frozen _) ty
        have KC := kept_setCells G (List.replicate (xs.length - a) (.int .i64 0)) (off + a) wr
        clear hd
        go_wp2
        go_ret
        refine ⟨a, rfl, ?_, HR.out.2.2.1.trans KC⟩
        have hs := HR.out.1.sl (i := a) (by rw [HR.out.2.2.2.1]; omega) cap
        rw [HR.out.2.2.2.2.1, List.take_length] at hs
        obtain ⟨ao, cp, e1, e2⟩ := hs
        refine ⟨ao, cp, e1, fun hp => ?_⟩
        obtain ⟨b', o', e3, e4, e5⟩ := e2 hp
        cases e1
        cases e3
        refine ⟨G, off, rfl, Nat.lt_of_lt_of_le e4 KC.size, fun j hj => ?_⟩
        rw [World.cell?_setCells_out G _ _ _ _ (fun _ _ => .inl (Nat.add_lt_add_left hj off))]
        exact e5 j hj

end Go.Proofs.Ytnpkhkfhlpopbaa
