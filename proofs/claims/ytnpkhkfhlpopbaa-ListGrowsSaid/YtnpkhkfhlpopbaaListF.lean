/- The chain of package list, collected. -/
import Derived.Test.YtnpkhkfhlpopbaaListE
import Derived.RangeFuncNested
import Derived.RangeFuncBound
import Derived.RangeFuncCalls
import Derived.RangeFuncLeaves
import Derived.RangeFuncMany
import Derived.RangeFuncKeeps
import Derived.RangeFuncFrom
import Derived.Shelf.Abstract
import Derived.Shelf.RegionOpen
import Derived.WalkKit
import Derived.OwnWalkIn
import Derived.TacticsInMore
import Derived.LoopNIn
import Derived.LoopIn
import Derived.BigFrameIn
import Derived.Maps.AppendAt
namespace Go.Proofs.Ytnpkhkfhlpopbaa
set_option linter.unusedSimpArgs false
set_option linter.unusedVariables false
open Go.RowKit
open Go.ChangeShapes Go.WideShapes Go.ChangeAt Go.Shelf

attribute [local go_sem] Oper.semAt_some
theorem kept_of_grown {w w' : World} {row : Option Nat} (hg : w.grownBy w' row) : Kept (fun k => row = some k) w w' := ⟨hg.os, hg.tape, hg.output, hg.size, fun k hk hn => hg.block k hk (fun e => hn e.symm)⟩
theorem VAt.grown {w w' : World} {B : Nat} {ao : Option Addr} {cap M : Nat} {X : List Int} {row : Option Nat} (h : VAt w B ao cap M X) (hg : w.grownBy w' row) (h1 : some B ≠ row) (h2 : some M ≠ row) (h3 : ∀ b off, ao = some ⟨b, off, none⟩ → 0 < X.length → some b ≠ row) : VAt w' B ao cap M X := by
  refine ⟨(hg.block B h.lt h1).trans h.bl, (hg.block M h.mp.lt h2).trans h.mp, ?_⟩
  obtain ⟨ao', cap', e, hc⟩ := h.sl
  refine ⟨ao', cap', e, fun hp => ?_⟩
  obtain ⟨b, off, e1, e2, e3⟩ := hc hp
  simp only [Value.slice.injEq] at e
  have hb := h3 b off (e.1.trans e1) hp
  exact ⟨b, off, e1, Nat.lt_of_lt_of_le e2 hg.size, fun j hj => (World.cell?_of_block (a := ⟨b, off + j, none⟩) (hg.block b e2 hb)).trans (e3 j hj)⟩
theorem VAt.head {w : World} {B : Nat} {ao : Option Addr} {cap M : Nat} {X : List Int} (h : VAt w B ao cap M X) {b off : Nat} (e : ao = some ⟨b, off, none⟩) (hp : 0 < X.length) : ∃ x, w.cell? ⟨b, off + 0, none⟩ = some x ∧ b < w.heap.size := by
  obtain ⟨ao', cap', e1, hc⟩ := h.sl
  obtain ⟨b', off', e2, e3, e4⟩ := hc hp
  simp only [Value.slice.injEq] at e1
  rw [← e1.1, e] at e2
  cases e2
  exact ⟨_, e4 0 hp, e3⟩
theorem kpV_t {B cap M : Nat} {ao : Option Addr} {X : List Int} {A C D : World} (h : KpV B ao cap M X A C) (k : KpV B ao cap M X C D) : KpV B ao cap M X A D :=
  ⟨h.walks.trans k.walks, fun v => k.view (h.view v), fun b cs hb => k.recs b cs (h.recs b cs hb)⟩
theorem kpV_b {B cap M : Nat} {ao : Option Addr} {X : List Int} (W : World) (l : Nat) (o o' : Obj) (h : W.heap[l]? = some o) (hc : o.isCells = false) (hw : o.isWalk = false) : KpV B ao cap M X W (W.putObj l o') := by
  refine ⟨KeepsWalks.putObj o' h hw, fun hv => VAt.grown hv (grownBy_putObj' W l o') ?_ ?_ ?_, fun k cs hk => (World.putObj_heap_other ?_).trans hk⟩
  · rintro e; cases e; rw [hv.bl] at h; cases h; cases hc
  · rintro e; cases e; rw [show W.heap[M]? = _ from hv.mp] at h; cases h; cases hw
  · rintro b off e hp e2
    cases e2
    obtain ⟨x, hx, -⟩ := hv.head e hp
    simp only [World.cell?, h] at hx
    cases o <;> simp [Obj.isCells] at hc <;> simp at hx
  · rintro rfl; rw [hk] at h; cases h; cases hc
theorem kpV_refl {B cap M : Nat} {ao : Option Addr} {X : List Int} (W : World) : KpV B ao cap M X W W := ⟨KeepsWalks.refl W, fun h => h, fun _ _ h => h⟩
theorem kpV_box {B cap M : Nat} {ao : Option Addr} {X : List Int} {W : World} {R : Nat} {t : TypeId} {v : Value} (hv : Boxed W R t v) (ht : t ≠ 73) (u : Value) (h1 : B ≠ R) (h2 : M ≠ R) (h3 : ∀ b off, ao = some ⟨b, off, none⟩ → 0 < X.length → b ≠ R) : KpV B ao cap M X W (W.setCell ⟨R, 0, none⟩ u) := by
  refine ⟨(KeepsOthers.setCell W ⟨R, 0, none⟩ u).walks, fun h => VAt.grown h (grownBy_setCell' W R u) (fun e => h1 (by cases e; rfl)) (fun e => h2 (by cases e; rfl)) (fun b off e hp e2 => h3 b off e hp (by cases e2; rfl)), fun k cs hk => ((grownBy_setCell' W R u).block k (Array.getElem?_eq_some_iff.1 hk).1 (fun e => ?_)).trans hk⟩
  cases e
  rw [show W.heap[R]? = _ from hv] at hk
  cases hk
  exact ht rfl
theorem ownsRow_weak {w : World} {b b' e size : Nat} {v : Value} {n : Nat} {xs : List Value} (h : w.ownsRow b e size v n xs) (hb : b' ≤ b) : w.ownsRow b' e size v n xs := by
  refine ⟨h.1, ?_⟩
  rcases h.2 with h | ⟨g, cap, cur, e1, e2, r⟩
  · exact .inl h
  · exact .inr ⟨g, cap, cur, e1, Nat.le_trans hb e2, r⟩
theorem kpV_appended {B cap M : Nat} {ao : Option Addr} {X : List Int} {W w1 : World} {s R k m : Nat} {v v' : Value} {xs ys : List Value} {tmp : Obj}
    (hv : Boxed W R 24 v) (hrow : W.ownsRow s 3 1 v k xs) (hown' : w1.ownsRow s 3 1 v' m ys) (hgrow : (W.alloc tmp).grownBy w1 v.ownBlock) (h1 : B ≠ R) (h2 : M ≠ R) (h3 : ∀ b off, ao = some ⟨b, off, none⟩ → 0 < X.length → b ≠ R)
    (g1 : B < s) (g2 : M < s) (g3 : ∀ b off, ao = some ⟨b, off, none⟩ → 0 < X.length → b < s) : KpV B ao cap M X W (w1.setCell ⟨R, 0, none⟩ v') := by
  have hv1 : Boxed w1 R 24 v := (hv.alloc tmp).kept hgrow (hv.not_row (by decide) hrow)
  have hs : ∀ j, v.ownBlock = some j → s ≤ j ∧ ∃ cur, W.heap[j]? = some (.cells cur 3 (0, 0)) := by
    intro j ej
    rcases hrow.2 with ⟨rfl, _⟩ | ⟨g, cap, cur, rfl, hb, hgb, _⟩
    · simp [Value.ownBlock] at ej
    · obtain rfl : g = j := by simpa [Value.ownBlock] using ej
      exact ⟨hb, cur, hgb⟩
  refine kpV_t (C := w1) ⟨?_, fun h => ?_, fun b cs hb => ?_⟩ (kpV_box hv1 (by decide) v' h1 h2 h3)
  · refine (KeepsWalks.alloc W tmp).trans (KeepsWalks.of_grownBy hgrow fun j o ej hj => ?_)
    obtain ⟨-, cur, hc⟩ := hs j ej
    rw [(Below.heap_alloc W tmp j (Array.getElem?_eq_some_iff.1 hc).1).trans hc] at hj
    cases hj; rfl
  · refine VAt.grown (VAt.grown h (World.grownBy_alloc W tmp none) (by simp) (by simp) (by simp)) hgrow (fun e => ?_) (fun e => ?_) (fun b off e hp e2 => ?_)
    · have := (hs B e.symm).1; omega
    · have := (hs M e.symm).1; omega
    · have := (hs b e2.symm).1; have := g3 b off e hp; omega
  · refine (hgrow.block b (by have := (Array.getElem?_eq_some_iff.1 hb).1; simp; omega) (fun e => ?_)).trans ((Below.heap_alloc W tmp b (Array.getElem?_eq_some_iff.1 hb).1).trans hb)
    obtain ⟨-, cur, hc⟩ := hs b e.symm
    rw [hc] at hb; cases hb
theorem chnF_length (X : List Int) : ∀ (f : Nat) (acc : List Int) (a : Int), (chnF X f acc a).length ≤ f
  | 0, _, _ => by simp [chnF]
  | f + 1, acc, a => by
    simp only [chnF]
    split
    · simp
    · split
      · have := chnF_length X f (a :: acc) (recAt X a 3); simp; omega
      · simp
def reachC (X : List Int) : List Int × Bool := if ∀ p ∈ chnL X, p.2 = true then ((chnL X).map (·.1), true) else ([], false)

set_option maxRecDepth 100000 in
set_option maxHeartbeats 4000000 in
theorem reachV_f (w : World) (ao : Option Addr) (cap M : Nat) (X : List Int) (hl : X.length ≤ 1000) (hs : Sl w (.slice ao X.length cap) X) (hm : MapAt w M (recAll X)) :
    Calls Try.prog 35 #[.agg #[.slice ao X.length cap, .map (some M)]] w fun e w' => ∃ u, e = .returned (.tuple #[u, .bool (reachC X).2]) ∧ IRow w' u (reachC X).1 ∧ (∀ k, u.ownBlock = some k → w.heap.size ≤ k) ∧ Below w.heap.size w w' := by
  obtain ⟨i0, hi, hz0, hz1, hz2⟩ := info_parts Try.infoIntL
  refine (callsIn_wide (n := 5)).1 ?_
  refine callsIn_of_wp_marks Try.func35 rfl trivial ?_ rfl
  simp only [Try.ntmps35, List.size_toArray, List.length_cons, List.length_nil, Nat.reduceAdd, Nat.reduceSub, Array.replicate_succ, Array.replicate_zero, List.push_toArray, List.append_toArray, List.nil_append, List.cons_append]
  gi_wp2_with (refine ⟨trivial, ?_⟩; gi_at_call 55; refine (callsIn_wide.2 (chain_f 0 _ _ _)).mono ?_; rintro e w1 ⟨rfl, rfl⟩)
  obtain ⟨s, hsz⟩ : ∃ s, w.heap.size = s := ⟨_, rfl⟩
  generalize hW0 : World.alloc (World.alloc (World.alloc (World.alloc (World.alloc _ _) _) _) _) _ = W0
  have B0 : Below w.heap.size w W0 := by rw [← hW0]; go_grown
  have N4 : W0.heap[s + 1 + 1 + 1 + 1]? = some (.cells #[.slice ao X.length cap, .map (some M)] 69 (0, 0)) := by rw [← hW0, ← hsz]; exact alloc_at (by simp) _
  have N3 : Boxed W0 (s + 1 + 1 + 1) 24 (.slice none 0 0) := by rw [← hW0, ← hsz]; exact (Below.heap_alloc _ _ _ (by simp)).trans (alloc_at (by simp) _)
  have N2 : Boxed W0 (s + 1 + 1) 4 (.bool false) := by rw [← hW0, ← hsz]; exact (Below.heap_alloc _ _ _ (by simp)).trans ((Below.heap_alloc _ _ _ (by simp)).trans (alloc_at (by simp) _))
  have N1 : Boxed W0 (s + 1) 24 (.slice none 0 0) := by rw [← hW0, ← hsz]; exact (Below.heap_alloc _ _ _ (by simp)).trans ((Below.heap_alloc _ _ _ (by simp)).trans ((Below.heap_alloc _ _ _ (by simp)).trans (alloc_at (by simp) _)))
  have V0 : VAt W0 (s + 1 + 1 + 1 + 1) ao cap M X := ⟨N4, hm.below B0, hs.below B0⟩
  have hMs : M < s := by have := hm.lt; omega
  have has : ∀ b off, ao = some ⟨b, off, none⟩ → 0 < X.length → b < s := fun b off e hp => by
    obtain ⟨ao', cap', e1, hc⟩ := hs
    simp only [Value.slice.injEq] at e1
    obtain ⟨b', off', e2, e3, -⟩ := hc hp
    rw [← e1.1, e] at e2
    cases e2
    omega
  have z0 : W0.heap.size = s + 1 + 1 + 1 + 1 + 1 := by rw [← hW0, ← hsz]; simp
  rw [hsz] at B0 ⊢
  clear hW0 N4 hs hm
  refine wpIn_rangeFunc_ownF rfl (by omega) (gf := 65) (lb := #[.pointer (some ⟨s + 1 + 1 + 1 + 1, 0, none⟩)]) rfl trivial (enters_of Try.func65 (by kernel_rfl) rfl)
    (chain_stops (5 - 1) (by omega) _ cap M ao X hl W0 V0) kpV_t (fun W l o o' _ h hc hw => kpV_b W l o o' h hc hw) (Below.refl _ _) (fun _ => rfl)
    (fun pre W => (∃ v, Boxed W (s + 1 + 1 + 1) 24 v ∧ W.ownsRow (s + 1 + 1 + 1 + 1 + 1) 3 1 v pre.length (pre.map fun p => Value.int .i64 p.1) ∧ True) ∧ Boxed W (s + 1) 24 (.slice none 0 0) ∧ Boxed W (s + 1 + 1) 4 (.bool false) ∧ (∀ p ∈ pre, p.2 = true) ∧ Below s w W)
    (fun c pre W => (c = .ret ∧ ∃ p ∈ pre, p.2 = false) ∧ Boxed W (s + 1) 24 (.slice none 0 0) ∧ Boxed W (s + 1 + 1) 4 (.bool false) ∧ Below s w W)
    (OwnFrom.and (Own.from (holdsRow_own (s + 1 + 1 + 1 + 1 + 1) (s + 1 + 1 + 1) 24 3 1 (fun pre : List (Int × Bool) => pre.length) (fun pre => pre.map fun p => Value.int .i64 p.1) (fun _ _ => True)) _) (OwnFrom.and (Own.from (boxed_own _ _ (fun _ => .slice none 0 0)) _) (OwnFrom.and (Own.from (boxed_own _ _ (fun _ => .bool false)) _) (OwnFrom.and (ownFrom_pure _ _) (ownFrom_below (by omega) (by omega))))))
    (fun c => OwnFrom.and (ownFrom_pure _ _) (OwnFrom.and (Own.from (boxed_own _ _ (fun _ => .slice none 0 0)) _) (OwnFrom.and (Own.from (boxed_own _ _ (fun _ => .bool false)) _) (ownFrom_below (by omega) (by omega)))))
    ⟨⟨_, N3, World.ownsRow_nil _ _ _ _, trivial⟩, N1, N2, by simp, B0⟩
    (fun x => { tmps := #[.agg #[.slice ao X.length cap, .map (some M)], .pointer (some ⟨s, 0, none⟩), .pointer (some ⟨s + 1, 0, none⟩), .pointer (some ⟨s + 1 + 1, 0, none⟩), .pointer (some ⟨s + 1 + 1 + 1, 0, none⟩), .int .i64 x.1, .bool x.2, .agg #[.slice ao X.length cap, .map (some M)], .func (.func 65) #[] #[.pointer (some ⟨s + 1 + 1 + 1 + 1, 0, none⟩)], .int .i64 x.1, .bool x.2, undef, undef, undef, undef, undef, undef, undef], defers := [] }) ?assign ?body ?done ?stop
  case assign =>
    intro l x W K hK
    gi_wp2
    exact hK
  case body =>
    rintro l pre ⟨a, b⟩ W ⟨⟨v, hv, hrow, -⟩, hn1, hn2, hall, hB⟩ hlt
    have hpl : pre.length < 1002 := Nat.lt_of_lt_of_le hlt (chnF_length _ _ _ _)
    clear V0 N1 N2 N3 B0 hlt
    cases b
    · have c1 := hn1.cell
      have f1 := hn1.frozen
      have c2 := hn2.cell
      have f2 := hn2.frozen
      gi_wp2
      exact ⟨(KeepsOthers.setCell _ _ _).trans (KeepsOthers.setCell _ _ _), ⟨rfl, (a, false), by simp, rfl⟩, (hn1.set _).other (by omega) _, (hn2.other (by omega) _).set _, (hB.setCell (p := ⟨s + 1, 0, none⟩) (by dsimp only; omega) _).setCell (p := ⟨s + 1 + 1, 0, none⟩) (by simp; omega) _⟩
    · have hc := hv.cell
      have hlt := hv.lt
      have hpm : pre.length + 1 ≤ maxLen := by unfold maxLen; omega
      gi_wp2_with (gi_at_builtin; refine wpListIn_append_own _ rfl _ _ 24 rfl (s + 1 + 1 + 1 + 1 + 1) 3 i0 (.int .i64 0) 1 8 Try.underlying24 hi hz0 hz1 hz2 rfl (by decide) _ _ _ rfl (hrow.alloc _) ⟨W.heap.size, 0, none⟩ 1 1 [.int .i64 a] rfl rfl (cell_one_new _ _ _) (by simp [Value.oneCell']) hpm (by omega) (by simp; omega) ?_; intro v' w1 hown' hgrow _; obtain ⟨g', cap', rfl⟩ := ownsRow_succ hown'; obtain ⟨hv1, hv2, -, hk2, hb2⟩ := hv.appended (n₀ := s) (by decide) (ownsRow_weak hrow (by omega)) (by omega) (by omega) (ownsRow_weak hown' (by omega)) hgrow; have hc1 := hv1.cell; have hf1 := hv1.frozen)
      have hr2 := hown'.kept (grownBy_setCell' w1 (s + 1 + 1 + 1) (.slice (some ⟨g', 0, none⟩) (pre.length + 1) cap')) (.inr (hv1.not_row (by decide) hown').symm)
      refine ⟨hk2, kpV_appended hv hrow hown' hgrow (by omega) (by omega) (fun b off e hp => by have := has b off e hp; omega) (by omega) (by omega) (fun b off e hp => by have := has b off e hp; omega), ⟨_, hv2, by simpa using hr2, trivial⟩, ((hn1.alloc _).kept hgrow (hn1.not_row (by decide) hrow)).other (by omega) _, ((hn2.alloc _).kept hgrow (hn2.not_row (by decide) hrow)).other (by omega) _, fun p hp => ?_, hB.trans hb2⟩
      rcases List.mem_append.1 hp with h | h
      · exact hall p h
      · rw [List.mem_singleton.1 h]
  case done =>
    rintro D ys W hD rfl ⟨⟨v, hv, hrow, -⟩, hn1, hn2, hall, hB⟩ hK
    obtain ⟨ao', cap', rfl⟩ := ownsRow_shape hrow
    have hc := hv.cell
    have c1 := hn1.cell
    have f1 := hn1.frozen
    have c2 := hn2.cell
    have f2 := hn2.frozen
    have hR : reachC X = ((chnL X).map (·.1), true) := if_pos hall
    clear V0 N1 N2 N3 B0
    gi_wp2
    have hK' := ((KeepsOthers.setCell W ⟨s + 1, 0, none⟩ (.slice ao' (chnL X).length cap')).trans (KeepsOthers.setCell _ ⟨s + 1 + 1, 0, none⟩ (.bool true))).same D _ hK rfl
    refine ⟨by simp, .inl ⟨_, _, rfl, run_takeDeferred hK', ?_⟩⟩
    have x1 := (((hn1.set (.slice ao' (chnL X).length cap')).other (B' := s + 1 + 1) (by omega) (.bool true)).kept (grownBy_putObj' _ D (.deferred none)) (fun e => by cases e; omega)).cell
    have x2 := (((hn2.other (B' := s + 1) (by omega) (.slice ao' (chnL X).length cap')).set (.bool true)).kept (grownBy_putObj' _ D (.deferred none)) (fun e => by cases e; omega)).cell
    have r1 := hrow.kept (grownBy_setCell' W (s + 1) (.slice ao' (chnL X).length cap')) (.inr (hn1.not_row (by decide) hrow).symm)
    have r2 := r1.kept (grownBy_setCell' _ (s + 1 + 1) (.bool true)) (.inr (((hn2.other (B' := s + 1) (by omega) (.slice ao' (chnL X).length cap'))).not_row (by decide) r1).symm)
    have r3 := ownsRow_putObj r2 (.deferred none) hK' rfl
    refine ⟨.tuple #[.slice ao' (chnL X).length cap', .bool true], by simp [results, Try.f35, go_sem, x1, x2], _, by rw [hR], by rw [hR]; exact IRow.of r3 (by simp) (by simp), fun k e => by have := (World.ownsRow.lt hrow k e).1; omega, ?_⟩
    rw [hsz]
    exact ((hB.setCell (p := ⟨s + 1, 0, none⟩) (by dsimp only; omega) _).setCell (p := ⟨s + 1 + 1, 0, none⟩) (by dsimp only; omega) _).trans (belowK_b (w := W0) (by omega) _ D _ _ (by omega) hK' rfl rfl)
  case stop =>
    rintro D c pre W hD hpre ⟨⟨rfl, p, hp, hpf⟩, hn1, hn2, hB⟩ hK
    have hR : reachC X = ([], false) := if_neg (fun h => by have := h p (hpre.subset hp); rw [hpf] at this; cases this)
    clear V0 N1 N2 N3 B0
    gi_wp2
    refine ⟨by simp, .inl ⟨_, _, rfl, run_takeDeferred hK, ?_⟩⟩
    have x1 := (hn1.kept (grownBy_putObj' _ D (.deferred none)) (fun e => by cases e; omega)).cell
    have x2 := (hn2.kept (grownBy_putObj' _ D (.deferred none)) (fun e => by cases e; omega)).cell
    refine ⟨.tuple #[.slice none 0 0, .bool false], by simp [results, Try.f35, go_sem, x1, x2], _, by rw [hR], by rw [hR]; exact IRow.nil _, fun k e => by simp [Value.ownBlock] at e, ?_⟩
    rw [hsz]
    exact hB.trans (belowK_b (w := W0) (by omega) _ D _ _ (by omega) hK rfl rfl)

end Go.Proofs.Ytnpkhkfhlpopbaa
