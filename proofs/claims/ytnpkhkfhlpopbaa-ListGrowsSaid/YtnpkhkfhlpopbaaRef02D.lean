/- The contracts of the reference of layer 2, more: Alloc, and whether numbers are the same. -/
import Derived.Test.YtnpkhkfhlpopbaaRef02C
import Derived.Deep.QuietTactic
import Derived.BigQuiet
namespace Go.Proofs.Ytnpkhkfhlpopbaa
set_option linter.unusedSimpArgs false
set_option linter.unusedVariables false
open Go.RowKit

set_option maxRecDepth 100000 in
set_option maxHeartbeats 1000000 in
theorem rAlloc_neg (N st a : Int) (xs : List Int) (v : Value) (q : Option Nat) (w : World) (h : RVal w v q N xs st) (h0 : a < 0) :
    Calls Try.prog 29 #[v, .int .i64 a] w fun e w' => e = .returned (.tuple #[v, .int .i64 0, .int .i64 1]) ∧ Below w.heap.size w w' := by
  obtain ⟨ao, cap, rfl, _, hr⟩ := h.open
  go_enter Try.func29, Try.ntmps29
  go_wp2
  refine bodyPost_ret (v := .tuple #[.agg #[.int .i64 N, .slice ao xs.length cap, .int .i64 st], .int .i64 0, .int .i64 1]) (by simp [results, Try.results29, go_sem]) rfl ?_
  exact ⟨rfl, by go_grown⟩

set_option maxRecDepth 100000 in
set_option maxHeartbeats 1000000 in
theorem rAlloc_full (N st a : Int) (xs : List Int) (v : Value) (q : Option Nat) (w : World) (h : RVal w v q N xs st) (h0 : 0 ≤ a) (h1 : N - xs.length < a) (q0 : 0 ≤ N) (q1 : N ≤ 1000) (q2 : (xs.length : Int) ≤ N) :
    Calls Try.prog 29 #[v, .int .i64 a] w fun e w' => e = .returned (.tuple #[v, .int .i64 0, .int .i64 11]) ∧ Below w.heap.size w w' := by
  obtain ⟨ao, cap, rfl, _, hr⟩ := h.open
  go_enter Try.func29, Try.ntmps29
  go_wp2
  refine bodyPost_ret (v := .tuple #[.agg #[.int .i64 N, .slice ao xs.length cap, .int .i64 st], .int .i64 0, .int .i64 11]) (by simp [results, Try.results29, go_sem]) rfl ?_
  exact ⟨rfl, by go_grown⟩

set_option maxRecDepth 100000 in
set_option maxHeartbeats 2000000 in
theorem rAlloc_yes (N st a : Int) (xs : List Int) (v : Value) (q : Option Nat) (w : World) (h : RVal w v q N xs st) (h0 : 0 ≤ a) (h1 : a ≤ N - xs.length) (q0 : 0 ≤ N) (q1 : N ≤ 1000) (q2 : (xs.length : Int) ≤ N) (s0 : 0 ≤ st) (s1 : st < 4611686018427387904) :
    Calls Try.prog 29 #[v, .int .i64 a] w fun e w' => ∃ v' q', e = .returned (.tuple #[v', .int .i64 xs.length, .int .i64 0]) ∧ RVal w' v' q' N (xs ++ List.replicate a.toNat 0) (st + 1) ∧ (∀ k, q' = some k → w.heap.size ≤ k) ∧ Below w.heap.size w w' := by
  obtain ⟨i0, hi, hz0, hz1, hz2⟩ := info_parts Try.info64
  obtain ⟨ao, cap, rfl, _, hr⟩ := h.open
  have hr0 : RVal ((w.alloc (.cells #[.int .i64 N, .slice ao xs.length cap, .int .i64 st] 35)).alloc (.cells #[.int .i64 0, .slice none 0 0, .int .i64 0] 35)) (.agg #[.int .i64 N, .slice ao xs.length cap, .int .i64 st]) (Value.slice ao xs.length cap).ownBlock N xs st := ⟨_, rfl, rfl, (hr.alloc _).alloc _⟩
  clear hr
  go_enter Try.func29, Try.ntmps29
  go_wp2_with fail
  refine (rfresh_any N st xs _ _ _ hr0 (by omega)).mono ?_
  rintro e w1 ⟨ao1, cap1, rfl, hr2, hk2, hb1⟩
  have z1 : w.heap.size + 1 < w1.heap.size := by have := hb1.size; first | omega | (simp at this; omega)
  have z1_0 : w.heap.size < w1.heap.size := by omega
  have B1 : Below w.heap.size w w1 := Below.trans (by go_grown) (hb1.mono (by first | omega | (simp; omega) | (simp; done)))
  have c1_0_0 : w1.cell? ⟨w.heap.size, 0, none⟩ = some (.int .i64 N) := (hb1.cell (p := ⟨w.heap.size, 0, none⟩) (by first | omega | (simp; omega) | (simp; done))).trans (by go_simp)
  have c1_0_1 : w1.cell? ⟨w.heap.size, 1, none⟩ = some (.slice ao xs.length cap) := (hb1.cell (p := ⟨w.heap.size, 1, none⟩) (by first | omega | (simp; omega) | (simp; done))).trans (by go_simp)
  have c1_0_2 : w1.cell? ⟨w.heap.size, 2, none⟩ = some (.int .i64 st) := (hb1.cell (p := ⟨w.heap.size, 2, none⟩) (by first | omega | (simp; omega) | (simp; done))).trans (by go_simp)
  have c1_1_0 : w1.cell? ⟨w.heap.size + 1, 0, none⟩ = some (.int .i64 0) := (hb1.cell (p := ⟨w.heap.size + 1, 0, none⟩) (by first | omega | (simp; omega) | (simp; done))).trans (by go_simp)
  have f1_1_0 : w1.frozen? ⟨w.heap.size + 1, 0, none⟩ = false := (hb1.frozen (p := ⟨w.heap.size + 1, 0, none⟩) (by first | omega | (simp; omega) | (simp; done))).trans (by go_simp)
  have c1_1_1 : w1.cell? ⟨w.heap.size + 1, 1, none⟩ = some (.slice none 0 0) := (hb1.cell (p := ⟨w.heap.size + 1, 1, none⟩) (by first | omega | (simp; omega) | (simp; done))).trans (by go_simp)
  have f1_1_1 : w1.frozen? ⟨w.heap.size + 1, 1, none⟩ = false := (hb1.frozen (p := ⟨w.heap.size + 1, 1, none⟩) (by first | omega | (simp; omega) | (simp; done))).trans (by go_simp)
  have c1_1_2 : w1.cell? ⟨w.heap.size + 1, 2, none⟩ = some (.int .i64 0) := (hb1.cell (p := ⟨w.heap.size + 1, 2, none⟩) (by first | omega | (simp; omega) | (simp; done))).trans (by go_simp)
  have f1_1_2 : w1.frozen? ⟨w.heap.size + 1, 2, none⟩ = false := (hb1.frozen (p := ⟨w.heap.size + 1, 2, none⟩) (by first | omega | (simp; omega) | (simp; done))).trans (by go_simp)
  have hk3 : ∀ k, (Value.slice ao1 xs.length cap1).ownBlock = some k → w.heap.size + 1 < k ∧ k < w1.heap.size := fun k hk => ⟨by have := hk2 k hk; simp at this; omega, hr2.lt hk⟩
  have hr3 : ∀ o, (w1.alloc o).ownsRow 0 2 1 (.slice ao1 xs.length cap1) xs.length (xs.map (Value.int .i64)) := fun o => hr2.alloc o
  have Hk := Lib.hid hk3
  clear hk2 hb1 hr0 hr2 hk3
  go_wp2_with (at_builtin; refine wpList_append_zeros _ rfl _ _ 23 3 rfl 0 2 i0 (.int .i64 0) 8 Try.underlying23 Try.underlying3 hi hz0 hz1 hz2 rfl rfl (by decide) _ _ _ rfl (hr3 _) a.toNat _ rfl ?k1 ?k2 ?k3 ?_)
  case k1 => omega
  case k2 => omega
  case k3 => omega
  intro v' w2 hown' hgrow hloc
  obtain ⟨ao', cap', rfl⟩ := ownsRow_shape hown'
  have hk3 := Hk.out
  have hd : ∀ b, (b ≤ w.heap.size + 1 ∨ b = w1.heap.size) → some b ≠ (Value.slice ao1 xs.length cap1).ownBlock := fun b hb e => by have := hk3 b e.symm; omega
  have hz : w1.heap.size < w2.heap.size := by have := hgrow.size; simp at this; omega
  have hz' : w.heap.size + 1 < w2.heap.size := by omega
  have d0 : w2.cell? ⟨w.heap.size + 1, 0, none⟩ = some (.int .i64 0) := (World.cell?_of_block (hgrow.block (w.heap.size + 1) (by first | omega | (simp; omega) | (simp; done)) (hd _ (by omega)))).trans (by go_simp)
  have df0 : w2.frozen? ⟨w.heap.size + 1, 0, none⟩ = false := (World.frozen?_of_block (hgrow.block (w.heap.size + 1) (by first | omega | (simp; omega) | (simp; done)) (hd _ (by omega)))).trans (by go_simp)
  have d1 : w2.cell? ⟨w.heap.size + 1, 1, none⟩ = some (.slice none 0 0) := (World.cell?_of_block (hgrow.block (w.heap.size + 1) (by first | omega | (simp; omega) | (simp; done)) (hd _ (by omega)))).trans (by go_simp)
  have df1 : w2.frozen? ⟨w.heap.size + 1, 1, none⟩ = false := (World.frozen?_of_block (hgrow.block (w.heap.size + 1) (by first | omega | (simp; omega) | (simp; done)) (hd _ (by omega)))).trans (by go_simp)
  have d2 : w2.cell? ⟨w.heap.size + 1, 2, none⟩ = some (.int .i64 0) := (World.cell?_of_block (hgrow.block (w.heap.size + 1) (by first | omega | (simp; omega) | (simp; done)) (hd _ (by omega)))).trans (by go_simp)
  have df2 : w2.frozen? ⟨w.heap.size + 1, 2, none⟩ = false := (World.frozen?_of_block (hgrow.block (w.heap.size + 1) (by first | omega | (simp; omega) | (simp; done)) (hd _ (by omega)))).trans (by go_simp)
  have g0 : w2.cell? ⟨w1.heap.size, 0, none⟩ = some (.int .i64 N) := (World.cell?_of_block (hgrow.block (w1.heap.size) (by first | omega | (simp; omega) | (simp; done)) (hd _ (by omega)))).trans (by go_simp)
  have gf0 : w2.frozen? ⟨w1.heap.size, 0, none⟩ = false := (World.frozen?_of_block (hgrow.block (w1.heap.size) (by first | omega | (simp; omega) | (simp; done)) (hd _ (by omega)))).trans (by go_simp)
  have g1 : w2.cell? ⟨w1.heap.size, 1, none⟩ = some (.slice ao1 xs.length cap1) := (World.cell?_of_block (hgrow.block (w1.heap.size) (by first | omega | (simp; omega) | (simp; done)) (hd _ (by omega)))).trans (by go_simp)
  have gf1 : w2.frozen? ⟨w1.heap.size, 1, none⟩ = false := (World.frozen?_of_block (hgrow.block (w1.heap.size) (by first | omega | (simp; omega) | (simp; done)) (hd _ (by omega)))).trans (by go_simp)
  have g2 : w2.cell? ⟨w1.heap.size, 2, none⟩ = some (.int .i64 st) := (World.cell?_of_block (hgrow.block (w1.heap.size) (by first | omega | (simp; omega) | (simp; done)) (hd _ (by omega)))).trans (by go_simp)
  have gf2 : w2.frozen? ⟨w1.heap.size, 2, none⟩ = false := (World.frozen?_of_block (hgrow.block (w1.heap.size) (by first | omega | (simp; omega) | (simp; done)) (hd _ (by omega)))).trans (by go_simp)
  have hlt : ∀ k, (Value.slice ao' (xs.length + a.toNat) cap').ownBlock = some k → w.heap.size + 1 < k ∧ k ≠ w1.heap.size := fun k hk => by
    rcases hloc with h2 | h2
    · have := hk3 k (h2 ▸ hk); omega
    · rw [hk] at h2; simp at h2; omega
  have hB2 : Below w.heap.size w w2 := (B1.alloc (by omega) _).grown hgrow (by simp; omega) (fun k hk => by have := hk3 k hk; omega)
  have Hx := Lib.hid (And.intro hown' (And.intro hlt hB2))
  clear hown' hgrow hloc hlt hB2 hd hk3 hr3 c1_0_0 c1_0_1 c1_0_2 c1_1_0 c1_1_1 c1_1_2 f1_1_0 f1_1_1 f1_1_2 B1
  go_wp2
  have hne : ¬ w1.heap.size = w.heap.size + 1 := by omega
  refine bodyPost_ret (v := .tuple #[.agg #[.int .i64 N, .slice ao' (xs.length + a.toNat) cap', .int .i64 (st + 1)], .int .i64 xs.length, .int .i64 0]) ?_ rfl ⟨_, (Value.slice ao' (xs.length + a.toNat) cap').ownBlock, rfl, ?_, fun k hk => by have := Hx.out.2.1 k hk; omega, ?_⟩
  · simp [results, Try.results29, go_sem, d0, d1, d2, hz, hz', hne]
  · refine ⟨_, rfl, rfl, ?_⟩
    have h5 : Row w2 (.slice ao' (xs.length + a.toNat) cap') (xs ++ List.replicate a.toNat 0) := Row.of Hx.out.1 (by simp) (by simp)
    exact ((((h5.kept (kept_setCell _ ⟨w1.heap.size, 1, none⟩ _) (fun k hk => (Hx.out.2.1 k hk).2)).kept (kept_setCell _ ⟨w1.heap.size, 2, none⟩ _) (fun k hk => (Hx.out.2.1 k hk).2)).kept
      (kept_setCell _ ⟨w.heap.size + 1, 0, none⟩ _) (fun k hk e => by have := Hx.out.2.1 k hk; simp at e; omega)).kept (kept_setCell _ ⟨w.heap.size + 1, 1, none⟩ _) (fun k hk e => by have := Hx.out.2.1 k hk; simp at e; omega)).kept (kept_setCell _ ⟨w.heap.size + 1, 2, none⟩ _) (fun k hk e => by have := Hx.out.2.1 k hk; simp at e; omega)
  · exact ((((Hx.out.2.2.setCell (by simp; omega) _).setCell (by simp; omega) _).setCell (by simp) _).setCell (by simp) _).setCell (by simp) _

theorem take_step {xs ys : List Int} {k : Nat} (h : xs.take k = ys.take k) (h1 : k < xs.length) (h2 : k < ys.length) (he : xs.getD k 0 = ys.getD k 0) : xs.take (k + 1) = ys.take (k + 1) := by
  rw [List.take_succ_eq_append_getElem h1, List.take_succ_eq_append_getElem h2, h]
  have e : xs[k] = ys[k] := by simpa [h1, h2] using he
  rw [e]

end Go.Proofs.Ytnpkhkfhlpopbaa
