/- The contracts of package cells, more: Alloc and Copy. -/
import Derived.Test.YtnpkhkfhlpopbaaCellsA
import Derived.Deep.RegionHeld3
namespace Go.Proofs.Ytnpkhkfhlpopbaa
set_option linter.unusedSimpArgs false
set_option linter.unusedVariables false
open Go.RowKit

set_option maxRecDepth 100000 in
set_option maxHeartbeats 2000000 in
theorem Alloc_yes (b : Nat) (g : Option Nat) (N st a : Int) (xs : List Int) (w : World) (h : MemIs w b g N xs st) (h0 : 0 ≤ a) (h1 : a ≤ N - xs.length) (q0 : 0 ≤ N) (q1 : N ≤ 1000) (q2 : (xs.length : Int) ≤ N) (s0 : 0 ≤ st) (s1 : st < 4611686018427387904) :
    Calls Try.prog 30 #[.pointer (some ⟨b, 0, none⟩), .int .i64 a] w fun e w' => e = .returned (.tuple #[.int .i64 xs.length, .int .u16 0]) ∧
      (∃ g', MemIs w' b g' N (xs ++ List.replicate a.toNat 0) (st + 1) ∧ (g' = g ∨ ∃ k, g' = some k ∧ w.heap.size ≤ k)) ∧ Kept (fun k => k = b ∨ some k = g) w w' := by
  obtain ⟨i0, hi, hz0, hz1, hz2⟩ := info_parts Try.info64
  have hgne : ∀ k, g = some k → k ≠ b ∧ k < w.heap.size := fun k e => by subst e; exact ⟨fun e' => by subst e'; exact h.ne, h.row_lt⟩
  obtain ⟨ao, cap, hb, hg, hr⟩ := h.open
  obtain ⟨c0, c1, c2, f0, f1, f2, hl⟩ := blk3 hb
  have hb1 : (w.alloc (.cells #[.int .u16 0] 29)).heap[b]? = some (.cells #[.int .i64 N, .slice ao xs.length cap, .int .i64 st] 88 (0, 0)) := (Below.heap_alloc _ _ _ hl).trans hb
  have hbg : some b ≠ (Value.slice ao xs.length cap).ownBlock := fun e => (hgne b (by rw [← hg, ← e])).1 rfl
  have heg : some w.heap.size ≠ (Value.slice ao xs.length cap).ownBlock := fun e => by have := (hgne w.heap.size (by rw [← hg, ← e])).2; omega
  have Hz := Lib.hid (And.intro hgne (And.intro hb1 (And.intro hbg heg)))
  have Hg := Lib.hid hg
  clear hb hgne hb1 hbg heg hg
  go_enter_defers Try.func30, Try.ntmps30
  go_wp2_with (at_builtin; refine wpList_append_zeros _ rfl _ _ 23 3 rfl 0 2 i0 (.int .i64 0) 8 Try.underlying23 Try.underlying3 hi hz0 hz1 hz2 rfl rfl (by decide) _ _ _ rfl (Row.alloc hr _) a.toNat _ rfl ?k1 ?k2 ?k3 ?_)
  case k1 => omega
  case k2 => omega
  case k3 => omega
  intro v' w1 hown' hgrow hloc
  obtain ⟨ao', cap', rfl⟩ := ownsRow_shape hown'
  obtain ⟨hgne, hb1, hbg, heg⟩ := Hz.out
  have hg := Hg.out
  have hb2 : w1.heap[b]? = some (.cells #[.int .i64 N, .slice ao xs.length cap, .int .i64 st] 88 (0, 0)) := (hgrow.block b (by simp; omega) hbg).trans hb1
  have he2 : w1.heap[w.heap.size]? = some (.cells #[.int .u16 0] 29 (0, 0)) := (hgrow.block w.heap.size (by simp) heg).trans (heap_alloc_new w _)
  have hz : w.heap.size < w1.heap.size := (Array.getElem?_eq_some_iff.1 he2).1
  obtain ⟨d0, d1, d2, e0, e1, e2, hl2⟩ := blk3 hb2
  have ce : w1.cell? ⟨w.heap.size, 0, none⟩ = some (.int .u16 0) := cell_of_one he2
  have fe : w1.frozen? ⟨w.heap.size, 0, none⟩ = false := free_of_one he2
  have Hx : Hid (Row w (.slice ao xs.length cap) xs ∧ w1.ownsRow 0 2 1 (.slice ao' (xs.length + a.toNat) cap') (xs.length + a.toNat) (xs.map (Value.int .i64) ++ List.replicate a.toNat (.int .i64 0)) ∧ (w.alloc (.cells #[.int .u16 0] 29)).grownBy w1 (Value.slice ao xs.length cap).ownBlock ∧
    ((Value.slice ao' (xs.length + a.toNat) cap').ownBlock = (Value.slice ao xs.length cap).ownBlock ∨ (Value.slice ao' (xs.length + a.toNat) cap').ownBlock = some (w.heap.size + 1))) := ⟨hr, hown', hgrow, hloc⟩
  clear hr hown' hgrow hloc c0 c1 c2 f0 f1 f2 hb1 hbg heg hgne hg
  have hb3 : ((w1.setCell ⟨b, 1, none⟩ (.slice ao' (xs.length + a.toNat) cap')).setCell ⟨w.heap.size, 0, none⟩ (.int .u16 0)).heap[b]? = some (.cells #[.int .i64 N, .slice ao' (xs.length + a.toNat) cap', .int .i64 st] 88 (0, 0)) :=
    (Below.heap_setCell _ _ _ _ (by simp; omega)).trans (heap_setCell_self hb2 1 _)
  have he3 : ((w1.setCell ⟨b, 1, none⟩ (.slice ao' (xs.length + a.toNat) cap')).setCell ⟨w.heap.size, 0, none⟩ (.int .u16 0)).heap[w.heap.size]? = some (.cells #[.int .u16 0] 29 (0, 0)) :=
    heap_setCell_self ((Below.heap_setCell _ _ _ _ (by simp; omega)).trans he2) 0 _
  have hz3 := cell_of_one he3
  have he4 : (((w1.setCell ⟨b, 1, none⟩ (.slice ao' (xs.length + a.toNat) cap')).setCell ⟨w.heap.size, 0, none⟩ (.int .u16 0)).setCell ⟨b, 2, none⟩ (.int .i64 (st + 1))).cell? ⟨w.heap.size, 0, none⟩ = some (.int .u16 0) := by
    rw [World.cell?_of_block (Below.heap_setCell _ _ _ _ (by simp; omega))]; exact hz3
  have Hy := Lib.hid (And.intro hb2 (And.intro he2 (And.intro hb3 he3)))
  clear hb2 he2 hb3 he3
  go_wp2
  refine leaves_cons (f := 33) (args := #[.pointer (some ⟨b, 0, none⟩), .pointer (some ⟨w.heap.size, 0, none⟩)]) (by simp) (by simp [go_sem]) ?_
  refine (count_ok b w.heap.size N st _ .returning _ Hy.out.2.2.1 hz3 s0 s1).mono ?_
  rintro e u' w'' ⟨rfl, rfl, rfl⟩
  refine ⟨_, by simp [results, Try.results30, go_sem, he4]; try rfl, ⟨rfl, ?_, ?_⟩⟩
  · obtain ⟨hr, hown', hgrow, hloc⟩ := Hx.out
    obtain ⟨hgne, hb1, hbg, heg⟩ := Hz.out
    have hg := Hg.out
    have hb5 := heap_setCell_self Hy.out.2.2.1 2 (.int .i64 (st + 1))
    have hlt : ∀ k, (Value.slice ao' (xs.length + a.toNat) cap').ownBlock = some k → k ≠ b ∧ k ≠ w.heap.size := fun k hk => by
      rcases hloc with h2 | h2
      · have := hgne k (by rw [← hg, ← h2, hk]); exact ⟨this.1, by omega⟩
      · rw [hk] at h2; simp at h2; exact ⟨by omega, by omega⟩
    refine ⟨(Value.slice ao' (xs.length + a.toNat) cap').ownBlock, ⟨_, hb5, rfl, ?_⟩, ?_⟩
    · refine (((Row.of hown' (by simp) (by simp)).kept (kept_setCell w1 ⟨b, 1, none⟩ _) (fun k hk => (hlt k hk).1)).kept (kept_setCell _ ⟨w.heap.size, 0, none⟩ _) (fun k hk => (hlt k hk).2)).kept (kept_setCell _ ⟨b, 2, none⟩ _) (fun k hk => (hlt k hk).1)
    · rcases hloc with h2 | h2
      · exact .inl (h2.trans hg)
      · exact .inr ⟨_, h2, by simp⟩
  · obtain ⟨hr, hown', hgrow, hloc⟩ := Hx.out
    have hg := Hg.out
    refine (((((Kept.refl (fun j => j = b ∨ some j = g) w).alloc _).grown hgrow (fun k hk _ => .inr ?_)).setCell (p := ⟨b, 1, none⟩) (fun _ => .inl rfl) _).setCell (p := ⟨w.heap.size, 0, none⟩) (fun hh => by simp at hh) _).setCell (p := ⟨b, 2, none⟩) (fun _ => .inl rfl) _
    rw [← hk, hg]

set_option maxRecDepth 100000 in
set_option maxHeartbeats 1000000 in
theorem Alloc_full (b : Nat) (g : Option Nat) (N st a : Int) (xs : List Int) (w : World) (h : MemIs w b g N xs st) (h0 : 0 ≤ a) (h1 : N - xs.length < a) (q0 : 0 ≤ N) (q1 : N ≤ 1000) (q2 : (xs.length : Int) ≤ N) :
    Calls Try.prog 30 #[.pointer (some ⟨b, 0, none⟩), .int .i64 a] w fun e w' => e = .returned (.tuple #[.int .i64 0, .int .u16 11]) ∧ Below w.heap.size w w' := by
  obtain ⟨ao, cap, hb, _, _⟩ := h.open
  obtain ⟨c0, c1, c2, f0, f1, f2, hl⟩ := blk3 hb
  clear hb
  go_enter_defers Try.func30, Try.ntmps30
  go_wp2
  refine leaves_cons (f := 33) (args := #[.pointer (some ⟨b, 0, none⟩), .pointer (some ⟨w.heap.size, 0, none⟩)]) (by simp) (by simp [go_sem]) ?_
  refine (count_no b w.heap.size 11 .returning _ (by go_simp) rfl).mono ?_
  rintro e u' w'' ⟨rfl, rfl, rfl⟩
  refine ⟨_, by simp [results, Try.results30, go_sem]; try rfl, ⟨rfl, by go_grown⟩⟩

set_option maxRecDepth 100000 in
set_option maxHeartbeats 1000000 in
theorem Alloc_neg (p : Option Addr) (a : Int) (w : World) (h0 : a < 0) :
    Calls Try.prog 30 #[.pointer p, .int .i64 a] w fun e w' => e = .returned (.tuple #[.int .i64 0, .int .u16 1]) ∧ Below w.heap.size w w' := by
  go_enter_defers Try.func30, Try.ntmps30
  go_wp2
  refine ⟨_, by simp [results, Try.results30, go_sem]; try rfl, ⟨rfl, by go_grown⟩⟩

set_option maxRecDepth 100000 in
set_option maxHeartbeats 1000000 in
theorem Alloc_nil (a : Int) (w : World) (h0 : 0 < a) :
    Calls Try.prog 30 #[.pointer none, .int .i64 a] w fun e w' => e = .returned (.tuple #[.int .i64 0, .int .u16 11]) ∧ Below w.heap.size w w' := by
  go_enter_defers Try.func30, Try.ntmps30
  go_wp2
  refine ⟨_, by simp [results, Try.results30, go_sem]; try rfl, ⟨rfl, by go_grown⟩⟩

set_option maxRecDepth 100000 in
set_option maxHeartbeats 1000000 in
theorem Alloc_nil0 (w : World) :
    Calls Try.prog 30 #[.pointer none, .int .i64 0] w fun e w' => e = .returned (.tuple #[.int .i64 0, .int .u16 0]) ∧ Below w.heap.size w w' := by
  go_enter_defers Try.func30, Try.ntmps30
  go_wp2
  refine ⟨_, by simp [results, Try.results30, go_sem]; try rfl, ⟨rfl, by go_grown⟩⟩

end Go.Proofs.Ytnpkhkfhlpopbaa
