/- The contracts of the reference of layer 2: each call tells a memory by value, and turns nothing that was there. -/
import Derived.Test.YtnpkhkfhlpopbaaCellsA
namespace Go.Proofs.Ytnpkhkfhlpopbaa
set_option linter.unusedSimpArgs false
set_option linter.unusedVariables false
open Go.RowKit

/-- A reference memory by value: its size, cells and steps. -/
def RVal (w : World) (v : Value) (q : Option Nat) (N : Int) (xs : List Int) (st : Int) : Prop := ∃ sl, v = .agg #[.int .i64 N, sl, .int .i64 st] ∧ sl.ownBlock = q ∧ Row w sl xs

theorem RVal.open {w : World} {v : Value} {q : Option Nat} {N st : Int} {xs : List Int} (h : RVal w v q N xs st) : ∃ ao cap, v = .agg #[.int .i64 N, .slice ao xs.length cap, .int .i64 st] ∧ (Value.slice ao xs.length cap).ownBlock = q ∧ Row w (.slice ao xs.length cap) xs := by
  obtain ⟨sl, rfl, hq, hr⟩ := h
  obtain ⟨ao, cap, rfl⟩ := hr.shape
  exact ⟨ao, cap, rfl, hq, hr⟩
theorem RVal.below {w w' : World} {v : Value} {q : Option Nat} {N st : Int} {xs : List Int} (h : RVal w v q N xs st) (hb : Below w.heap.size w w') : RVal w' v q N xs st := by
  obtain ⟨sl, rfl, hq, hr⟩ := h
  exact ⟨sl, rfl, hq, hr.below hb⟩
theorem RVal.kept {S : Nat → Prop} {w w' : World} {v : Value} {q : Option Nat} {N st : Int} {xs : List Int} (h : RVal w v q N xs st) (hk : Kept S w w') (hs : ∀ k, q = some k → ¬ S k) : RVal w' v q N xs st := by
  obtain ⟨sl, rfl, hq, hr⟩ := h
  exact ⟨sl, rfl, hq, hr.kept hk (fun k e => hs k (hq ▸ e))⟩
theorem RVal.lt {w : World} {v : Value} {k : Nat} {N st : Int} {xs : List Int} (h : RVal w v (some k) N xs st) : k < w.heap.size := by
  obtain ⟨sl, rfl, hq, hr⟩ := h
  exact hr.lt hq

set_option maxHeartbeats 400000 in
theorem rNew_any (n : Int) (w : World) :
    Calls Try.prog 28 #[.int .i64 n] w fun e w' => e = .returned (.agg #[.int .i64 (capOf n), .slice none 0 0, .int .i64 0]) ∧ Below w.heap.size w w' := by
  go_enter Try.func28, Try.ntmps28
  go_wp2
  all_goals
    first
      | (rw [show capOf n = 1000 from by unfold capOf; omega]; go_returns; exact ⟨rfl, by go_grown⟩)
      | (rw [show capOf n = n from by unfold capOf; omega]; go_returns; exact ⟨rfl, by go_grown⟩)
      | (rw [show capOf n = 0 from by unfold capOf; omega]; go_returns; exact ⟨rfl, by go_grown⟩)

set_option maxHeartbeats 400000 in
theorem rHas_yes (N st a : Int) (ao : Option Addr) (len cap : Nat) (w : World) (h0 : 0 ≤ a) (h1 : a < (len : Int)) :
    Calls Try.prog 53 #[.agg #[.int .i64 N, .slice ao len cap, .int .i64 st], .int .i64 a] w fun e w' => e = .returned (.bool true) ∧ Below w.heap.size w w' := by
  go_enter Try.func53, Try.ntmps53
  go_wp2
  go_ret
  exact ⟨ret_bool (by simp; try omega), by go_grown⟩

set_option maxHeartbeats 400000 in
theorem rHas_no (N st a : Int) (ao : Option Addr) (len cap : Nat) (w : World) (h : a < 0 ∨ (len : Int) ≤ a) :
    Calls Try.prog 53 #[.agg #[.int .i64 N, .slice ao len cap, .int .i64 st], .int .i64 a] w fun e w' => e = .returned (.bool false) ∧ Below w.heap.size w w' := by
  by_cases h0 : a < 0
  · go_enter Try.func53, Try.ntmps53
    go_wp2
    go_ret
    exact ⟨ret_bool (by simp; try omega), by go_grown⟩
  · have h1 : (len : Int) ≤ a := by omega
    go_enter Try.func53, Try.ntmps53
    go_wp2
    go_ret
    exact ⟨ret_bool (by simp; try omega), by go_grown⟩

set_option maxRecDepth 100000 in
set_option maxHeartbeats 1000000 in
theorem rfresh_any (N st : Int) (xs : List Int) (v : Value) (q : Option Nat) (w : World) (h : RVal w v q N xs st) (hn : xs.length ≤ 1000000) :
    Calls Try.prog 52 #[v] w fun e w' => ∃ ao cap, e = .returned (.agg #[.int .i64 N, .slice ao xs.length cap, .int .i64 st]) ∧ Row w' (.slice ao xs.length cap) xs ∧ (∀ k, (Value.slice ao xs.length cap).ownBlock = some k → w.heap.size ≤ k) ∧ Below w.heap.size w w' := by
  obtain ⟨i0, hi, hz0, hz1, hz2⟩ := info_parts Try.info64
  have hone : ∀ u ∈ xs.map (Value.int .i64), u.oneCell' = true := fun u hu => by
    obtain ⟨x, _, rfl⟩ := List.mem_map.1 hu
    rfl
  obtain ⟨ao, cap, rfl, _, hr⟩ := h.open
  have hre : ∀ o p, ((w.alloc o).alloc p).ownsRow 0 2 1 (.slice ao xs.length cap) xs.length (xs.map (Value.int .i64)) := fun o p => Row.alloc (Row.alloc hr o) p
  go_enter Try.func52, Try.ntmps52
  go_wp2_with (at_builtin; refine wpList_append_rows _ rfl _ _ 23 rfl (w.heap.size + 1 + 1) 0 2 i0 (.int .i64 0) 1 8 Try.underlying23 hi hz0 hz1 hz2 rfl (by decide) _ _ _ rfl (World.ownsRow_nil _ _ _ _) _ _ _ rfl (hre _ _) hone ?c3 ?c4 ?c5 ?_)
  case c3 => unfold maxLen; omega
  case c4 => omega
  case c5 => simp
  intro v' w1 hown' hgrow _ hloc
  obtain ⟨ao', cap', rfl⟩ := ownsRow_shape hown'
  have hB : Below (w.heap.size + 1 + 1) ((w.alloc (.cells #[.int .i64 N, .slice ao xs.length cap, .int .i64 st] 35)).alloc (.cells #[.int .i64 0, .slice none 0 0, .int .i64 0] 35)) w1 := (Below.refl _ _).grown hgrow (by simp) (fun k hk => by cases hk)
  have hz : w.heap.size + 1 < w1.heap.size := by have := hB.size; simp at this; omega
  have hz0 : w.heap.size < w1.heap.size := by omega
  have c0 : w1.cell? ⟨w.heap.size, 0, none⟩ = some (.int .i64 N) := (hB.cell (p := ⟨w.heap.size, 0, none⟩) (by first | (simp; done) | (simp; omega))).trans (by go_simp)
  have c1 : w1.cell? ⟨w.heap.size, 1, none⟩ = some (.slice ao xs.length cap) := (hB.cell (p := ⟨w.heap.size, 1, none⟩) (by first | (simp; done) | (simp; omega))).trans (by go_simp)
  have c2 : w1.cell? ⟨w.heap.size, 2, none⟩ = some (.int .i64 st) := (hB.cell (p := ⟨w.heap.size, 2, none⟩) (by first | (simp; done) | (simp; omega))).trans (by go_simp)
  have f1 : w1.frozen? ⟨w.heap.size, 1, none⟩ = false := (hB.frozen (p := ⟨w.heap.size, 1, none⟩) (by first | (simp; done) | (simp; omega))).trans (by go_simp)
  have d0 : w1.cell? ⟨w.heap.size + 1, 0, none⟩ = some (.int .i64 0) := (hB.cell (p := ⟨w.heap.size + 1, 0, none⟩) (by first | (simp; done) | (simp; omega))).trans (by go_simp)
  have d1 : w1.cell? ⟨w.heap.size + 1, 1, none⟩ = some (.slice none 0 0) := (hB.cell (p := ⟨w.heap.size + 1, 1, none⟩) (by first | (simp; done) | (simp; omega))).trans (by go_simp)
  have d2 : w1.cell? ⟨w.heap.size + 1, 2, none⟩ = some (.int .i64 0) := (hB.cell (p := ⟨w.heap.size + 1, 2, none⟩) (by first | (simp; done) | (simp; omega))).trans (by go_simp)
  have e0 : w1.frozen? ⟨w.heap.size + 1, 0, none⟩ = false := (hB.frozen (p := ⟨w.heap.size + 1, 0, none⟩) (by first | (simp; done) | (simp; omega))).trans (by go_simp)
  have e1 : w1.frozen? ⟨w.heap.size + 1, 1, none⟩ = false := (hB.frozen (p := ⟨w.heap.size + 1, 1, none⟩) (by first | (simp; done) | (simp; omega))).trans (by go_simp)
  have e2 : w1.frozen? ⟨w.heap.size + 1, 2, none⟩ = false := (hB.frozen (p := ⟨w.heap.size + 1, 2, none⟩) (by first | (simp; done) | (simp; omega))).trans (by go_simp)
  have Hx := Lib.hid (And.intro hown' (And.intro hgrow (And.intro hB hr)))
  clear hown' hgrow hB hloc hre hr
  go_wp2
  refine bodyPost_ret (v := .agg #[.int .i64 N, .slice ao' xs.length cap', .int .i64 st]) (by simp [results, Try.results52, go_sem, d0, d1, d2, c1, hz, hz0]) rfl ⟨ao', cap', rfl, ?_, ?_, ?_⟩
  · have hlt := fun k hk => (World.ownsRow.lt Hx.out.1 k hk).1
    exact ((((Row.of Hx.out.1 rfl rfl).kept (kept_setCell w1 ⟨w.heap.size, 1, none⟩ _) (fun k hk => by have := hlt k hk; simp; omega)).kept (kept_setCell _ ⟨w.heap.size + 1, 0, none⟩ _) (fun k hk => by have := hlt k hk; simp; omega)).kept
      (kept_setCell _ ⟨w.heap.size + 1, 1, none⟩ _) (fun k hk => by have := hlt k hk; simp; omega)).kept (kept_setCell _ ⟨w.heap.size + 1, 2, none⟩ _) (fun k hk => by have := hlt k hk; simp; omega)
  · intro k hk
    have := (World.ownsRow.lt Hx.out.1 k hk).1
    omega
  · exact ((((((((Below.refl _ w).alloc (Nat.le_refl _) _).alloc (by simp) _).trans (Hx.out.2.2.1.mono (by omega))).setCell (by simp) _).setCell (by simp) _).setCell (by simp) _).setCell (by simp) _)

end Go.Proofs.Ytnpkhkfhlpopbaa
