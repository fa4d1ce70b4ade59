/- A memory beside its reference, with the threads of both; a reference that is opened. -/
import Derived.Test.YtcellcjojfbajaaOwP
import Derived.Test.YtcellcjojfbajaaRef15
import Derived.Test.YtcellcjojfbajaaRef15L
import Derived.Test.YtcellcjojfbajaaRecMem
import Derived.Test.YtcellcjojfbajaaRecCells
import Derived.Test.YtcellcjojfbajaaOwS0
namespace Go.Proofs.Ytcellcjojfbajaa
set_option linter.unusedSimpArgs false
set_option linter.unusedVariables false
open Go.RowKit
open Go.ChangeShapes Go.WideShapes Go.ChangeAt

set_option maxRecDepth 100000 in
set_option maxHeartbeats 1000000 in
theorem rOpen_yes (n : Int) (w : World) (h0 : 1 ≤ n) (h1 : n ≤ 64) :
    Calls Try.prog 17 #[.int .i64 n] w fun e w' => ∃ v q, e = .returned (.tuple #[v, .bool true]) ∧ RVal w' v q (3 + 5 * n) [0, 0, 0] 1 ∧ (∀ k, q = some k → w.heap.size ≤ k) ∧ Below w.heap.size w w' := by
  go_enter Try.func17, Try.ntmps17
  go_wp2_with fail
  refine (rNew_any (3 + 5 * n) _).mono ?_
  rintro e w1 ⟨rfl, hb1⟩
  rw [show capOf (3 + 5 * n) = 3 + 5 * n from by unfold capOf; omega]
  have B1 : Below w.heap.size w w1 := Below.trans (by go_grown) (hb1.mono (by simp))
  have z1 : w.heap.size < w1.heap.size := by have := hb1.size; simp at this; omega
  have c0 : w1.cell? ⟨w.heap.size, 0, none⟩ = some (.int .i64 0) := (hb1.cell (p := ⟨w.heap.size, 0, none⟩) (by simp)).trans (by go_simp)
  have f0 : w1.frozen? ⟨w.heap.size, 0, none⟩ = false := (hb1.frozen (p := ⟨w.heap.size, 0, none⟩) (by simp)).trans (by go_simp)
  have c1 : w1.cell? ⟨w.heap.size, 1, none⟩ = some (.slice none 0 0) := (hb1.cell (p := ⟨w.heap.size, 1, none⟩) (by simp)).trans (by go_simp)
  have f1 : w1.frozen? ⟨w.heap.size, 1, none⟩ = false := (hb1.frozen (p := ⟨w.heap.size, 1, none⟩) (by simp)).trans (by go_simp)
  have c2 : w1.cell? ⟨w.heap.size, 2, none⟩ = some (.int .i64 0) := (hb1.cell (p := ⟨w.heap.size, 2, none⟩) (by simp)).trans (by go_simp)
  have f2 : w1.frozen? ⟨w.heap.size, 2, none⟩ = false := (hb1.frozen (p := ⟨w.heap.size, 2, none⟩) (by simp)).trans (by go_simp)
  clear hb1
  go_wp2_with fail
  have hr : RVal w1 (.agg #[.int .i64 (3 + 5 * n), .slice none 0 0, .int .i64 0]) none (3 + 5 * n) [] 0 := ⟨.slice none 0 0, rfl, rfl, Row.nil _⟩
  refine (rAlloc_yes _ _ 3 _ _ _ _ hr (by omega) (by simp; omega) (by omega) (by omega) (by simp; omega) (by omega) (by omega)).mono ?_
  rintro e w2 ⟨v2, q2, rfl, h2, hq2, hb2⟩
  simp only [List.nil_append, show (3 : Int).toNat = 3 from rfl, List.replicate] at h2
  obtain ⟨ao, cap, rfl, -, -⟩ := h2.open
  have B2 : Below w.heap.size w w2 := B1.trans (hb2.mono (by omega))
  have z2 : w.heap.size < w2.heap.size := Nat.lt_of_lt_of_le z1 hb2.size
  have d0 := (hb2.cell (p := ⟨w.heap.size, 0, none⟩) z1).trans c0
  have g0 := (hb2.frozen (p := ⟨w.heap.size, 0, none⟩) z1).trans f0
  have d1 := (hb2.cell (p := ⟨w.heap.size, 1, none⟩) z1).trans c1
  have g1 := (hb2.frozen (p := ⟨w.heap.size, 1, none⟩) z1).trans f1
  have d2 := (hb2.cell (p := ⟨w.heap.size, 2, none⟩) z1).trans c2
  have g2 := (hb2.frozen (p := ⟨w.heap.size, 2, none⟩) z1).trans f2
  have hqn : ∀ k, q2 = some k → k ≠ w.heap.size := fun k e => by have := hq2 k e; omega
  have HX := Lib.hid (And.intro h2 (And.intro hqn (fun k e => Nat.le_trans (Nat.le_of_lt z1) (hq2 k e) : ∀ k, q2 = some k → w.heap.size ≤ k)))
  clear c0 c1 c2 f0 f1 f2 B1 hr hb2 hq2 h2 hqn
  go_wp2
  refine bodyPost_ret (v := .tuple #[.agg #[.int .i64 (3 + 5 * n), .slice ao [0, 0, 0].length cap, .int .i64 1], .bool true]) (by simp [results, Try.results17, go_sem, d0, d1, d2, z2]) rfl ⟨_, q2, rfl, ?_, HX.out.2.2, ?_⟩
  · exact (HX.out.1.kept (kept_set3 _ w.heap.size _ _ _) HX.out.2.1).below (by go_grown)
  · exact (((B2.setCell (by simp) _).setCell (by simp) _).setCell (by simp) _).alloc (by simp; omega) _

/-- A memory at b, its reference in the block r8, and the threads of both at r10 and r12; an operation at q0. -/
structure RS (w wr : World) (b : Nat) (g : Option Nat) (X : List Int) (st : Int) (q : Option Nat) (ao : Option Addr) (cap : Nat) (Y : List Int) (su : Int) (T U : Th) (bt : Value) (r8 r10 r12 q0 : Nat) (oc : Obj) : Prop where
  ms : MS w wr b g 18 X st
  rv : RVal wr (.agg #[.int .i64 18, .slice ao Y.length cap, .int .i64 su]) q 18 Y su
  qf : ∀ k, q = some k → (k ≠ r8 ∧ k ≠ r10 ∧ k ≠ r12 ∧ k ≠ q0) ∧ ¬ Foot b g k
  a8 : wr.heap[r8]? = some (.cells #[.int .i64 18, .slice ao Y.length cap, .int .i64 su] 47 (0, 0))
  a10 : wr.heap[r10]? = some (.cells #[.int .i64 T.i0, .int .i64 T.i1, .int .i64 T.i2, .int .i64 T.i3, .int .i64 T.i4, .int .i64 T.i5, .int .i64 T.i6, .int .i64 T.i7, .int .i64 T.i8, .int .i64 T.i9, .int .i64 T.i10, .int .i64 T.i11, bt] 30 (0, 0))
  a12 : wr.heap[r12]? = some (.cells #[.int .i64 U.i0, .int .i64 U.i1, .int .i64 U.i2, .int .i64 U.i3, .int .i64 U.i4, .int .i64 U.i5, .int .i64 U.i6, .int .i64 U.i7, .int .i64 U.i8, .int .i64 U.i9, .int .i64 U.i10, .int .i64 U.i11, .slice none 0 0] 30 (0, 0))
  aq : wr.heap[q0]? = some oc
  f8 : ¬ Foot b g r8
  f10 : ¬ Foot b g r10
  f12 : ¬ Foot b g r12
  fq : ¬ Foot b g q0
  hi : w.heap.size ≤ r8 ∧ w.heap.size ≤ r10 ∧ w.heap.size ≤ r12
  ne : r8 ≠ r10 ∧ r8 ≠ r12 ∧ r10 ≠ r12 ∧ q0 ≠ r8 ∧ q0 ≠ r10 ∧ q0 ≠ r12
  s0 : 0 ≤ st ∧ 0 ≤ su
  yl : (Y.length : Int) ≤ 18
  rg : Rg64 T.i2
theorem MS.older {W0 W1 w : World} {b : Nat} {g : Option Nat} {N : Int} {xs : List Int} {st : Int} (hB : Below W0.heap.size W0 W1) (h : MS W1 w b g N xs st) : MS W0 w b g N xs st := ⟨h.1, Nat.le_trans hB.size h.2.1, fun k e => Nat.le_trans hB.size (h.2.2.1 k e), hB.trans (h.B.mono hB.size), h.2.2.2.2⟩
section
variable {w wr w1 : World} {b : Nat} {g g1 : Option Nat} {X X1 : List Int} {st st1 : Int} {q q1 : Option Nat} {ao ao1 : Option Addr} {cap cap1 : Nat} {Y Y1 : List Int} {su su1 : Int} {T U T1 U1 : Th} {bt bt1 : Value} {r8 r10 r12 q0 : Nat} {oc : Obj}
theorem RS.z8 (h : RS w wr b g X st q ao cap Y su T U bt r8 r10 r12 q0 oc) : r8 < wr.heap.size := (Array.getElem?_eq_some_iff.1 h.a8).1
theorem RS.z10 (h : RS w wr b g X st q ao cap Y su T U bt r8 r10 r12 q0 oc) : r10 < wr.heap.size := (Array.getElem?_eq_some_iff.1 h.a10).1
theorem RS.z12 (h : RS w wr b g X st q ao cap Y su T U bt r8 r10 r12 q0 oc) : r12 < wr.heap.size := (Array.getElem?_eq_some_iff.1 h.a12).1
theorem RS.zq (h : RS w wr b g X st q ao cap Y su T U bt r8 r10 r12 q0 oc) : q0 < wr.heap.size := (Array.getElem?_eq_some_iff.1 h.aq).1
theorem RS.ql (h : RS w wr b g X st q ao cap Y su T U bt r8 r10 r12 q0 oc) : ∀ k, q = some k → k < wr.heap.size := fun k e => by have := h.rv; subst e; exact this.lt
theorem RS.row (h : RS w wr b g X st q ao cap Y su T U bt r8 r10 r12 q0 oc) : Row wr (.slice ao Y.length cap) Y := by
  obtain ⟨ao', cap', e, _, hr⟩ := h.rv.open
  simp only [Value.agg.injEq] at e
  have e2 := (Array.mk.injEq _ _ ▸ e : _ = _)
  simp only [List.cons.injEq, and_true, true_and] at e2
  rw [e2]; exact hr
theorem RS.below (h : RS w wr b g X st q ao cap Y su T U bt r8 r10 r12 q0 oc) (hb : Below wr.heap.size wr w1) : RS w w1 b g X st q ao cap Y su T U bt r8 r10 r12 q0 oc :=
  ⟨h.ms.below hb, h.rv.below hb, h.qf, (hb.block r8 h.z8).trans h.a8, (hb.block r10 h.z10).trans h.a10, (hb.block r12 h.z12).trans h.a12, (hb.block q0 h.zq).trans h.aq, h.f8, h.f10, h.f12, h.fq, h.hi, h.ne, h.s0, h.yl, h.rg⟩
theorem RS.mem (h : RS w wr b g X st q ao cap Y su T U bt r8 r10 r12 q0 oc) (m : MS w w1 b g1 18 X1 st1) (hk : Kept (Foot b g) wr w1) (hg : g1 = g ∨ ∃ k, g1 = some k ∧ wr.heap.size ≤ k) (h0 : 0 ≤ st1) : RS w w1 b g1 X1 st1 q ao cap Y su T U bt r8 r10 r12 q0 oc :=
  ⟨m, h.rv.kept hk (fun k e => (h.qf k e).2), fun k e => ⟨(h.qf k e).1, foot_on (h.qf k e).2 (h.ql k e) hg⟩, (hk.block r8 h.z8 h.f8).trans h.a8, (hk.block r10 h.z10 h.f10).trans h.a10, (hk.block r12 h.z12 h.f12).trans h.a12, (hk.block q0 h.zq h.fq).trans h.aq,
    foot_on h.f8 h.z8 hg, foot_on h.f10 h.z10 hg, foot_on h.f12 h.z12 hg, foot_on h.fq h.zq hg, h.hi, h.ne, ⟨h0, h.s0.2⟩, h.yl, h.rg⟩
/-- What was not there is not the memory's. -/
theorem RS.newf (h : RS w wr b g X st q ao cap Y su T U bt r8 r10 r12 q0 oc) {k : Nat} (hk : wr.heap.size ≤ k) : ¬ Foot b g k := h.ms.past k hk
/-- All three are written: the reference's new memory, and both threads. -/
theorem RS.put (h : RS w wr b g X st q ao cap Y su T U bt r8 r10 r12 q0 oc) (hb : Below wr.heap.size wr w1) {w2 : World} (V : RVal w1 (.agg #[.int .i64 18, .slice ao1 Y1.length cap1, .int .i64 su1]) q1 18 Y1 su1) (hq : q1 = q ∨ ∀ k, q1 = some k → wr.heap.size ≤ k) (hk : Kept (fun k => k = r8 ∨ k = r10 ∨ k = r12) w1 w2)
    (e8 : w2.heap[r8]? = some (.cells #[.int .i64 18, .slice ao1 Y1.length cap1, .int .i64 su1] 47 (0, 0))) (e10 : w2.heap[r10]? = some (.cells #[.int .i64 T1.i0, .int .i64 T1.i1, .int .i64 T1.i2, .int .i64 T1.i3, .int .i64 T1.i4, .int .i64 T1.i5, .int .i64 T1.i6, .int .i64 T1.i7, .int .i64 T1.i8, .int .i64 T1.i9, .int .i64 T1.i10, .int .i64 T1.i11, bt1] 30 (0, 0))) (e12 : w2.heap[r12]? = some (.cells #[.int .i64 U1.i0, .int .i64 U1.i1, .int .i64 U1.i2, .int .i64 U1.i3, .int .i64 U1.i4, .int .i64 U1.i5, .int .i64 U1.i6, .int .i64 U1.i7, .int .i64 U1.i8, .int .i64 U1.i9, .int .i64 U1.i10, .int .i64 U1.i11, .slice none 0 0] 30 (0, 0))) (y1 : (Y1.length : Int) ≤ 18) (s1 : 0 ≤ su1) (rg : Rg64 T1.i2) : RS w w2 b g X st q1 ao1 cap1 Y1 su1 T1 U1 bt1 r8 r10 r12 q0 oc := by
  have h2 := h.below hb
  have hi := h.hi
  have hq2 : ∀ k, q1 = some k → (k ≠ r8 ∧ k ≠ r10 ∧ k ≠ r12 ∧ k ≠ q0) ∧ ¬ Foot b g k := fun k e => by
    rcases hq with rfl | hq
    · exact h.qf k e
    · have a := hq k e
      have := h.z8; have := h.z10; have := h.z12; have := h.zq
      exact ⟨by omega, h.newf a⟩
  have hne := h.ne
  refine ⟨h2.ms.kept hk (h2.ms.B.trans (hk.below h2.ms.B.size (fun k hk e => by omega))) (fun e => ?_) (fun k e e2 => ?_), V.kept hk (fun k e e2 => by have := (hq2 k e).1; omega), hq2, e8, e10, e12, (hk.block q0 h2.zq (fun e => by omega)).trans h2.aq, h.f8, h.f10, h.f12, h.fq, h.hi, h.ne, ⟨h.s0.1, s1⟩, y1, rg⟩
  · rcases e with e | e | e
    · exact h.f8 (.inl e.symm)
    · exact h.f10 (.inl e.symm)
    · exact h.f12 (.inl e.symm)
  · rcases e2 with e2 | e2 | e2
    · exact h.f8 (.inr (by rw [e, e2]))
    · exact h.f10 (.inr (by rw [e, e2]))
    · exact h.f12 (.inr (by rw [e, e2]))
theorem RS.put8 (h : RS w wr b g X st q ao cap Y su T U bt r8 r10 r12 q0 oc) (hb : Below wr.heap.size wr w1) {w2 : World} (V : RVal w1 (.agg #[.int .i64 18, .slice ao1 Y1.length cap1, .int .i64 su1]) q1 18 Y1 su1) (hq : q1 = q ∨ ∀ k, q1 = some k → wr.heap.size ≤ k) (hk : Kept (fun k => k = r8) w1 w2)
    (e8 : w2.heap[r8]? = some (.cells #[.int .i64 18, .slice ao1 Y1.length cap1, .int .i64 su1] 47 (0, 0))) (y1 : (Y1.length : Int) ≤ 18) (s1 : 0 ≤ su1) : RS w w2 b g X st q1 ao1 cap1 Y1 su1 T U bt r8 r10 r12 q0 oc := by
  have hne := h.ne
  exact h.put hb V hq (hk.mono (fun _ _ e => .inl e)) e8 ((hk.block r10 (Nat.lt_of_lt_of_le h.z10 hb.size) (by omega)).trans ((hb.block r10 h.z10).trans h.a10)) ((hk.block r12 (Nat.lt_of_lt_of_le h.z12 hb.size) (by omega)).trans ((hb.block r12 h.z12).trans h.a12)) y1 s1 h.rg
theorem RS.putT (h : RS w wr b g X st q ao cap Y su T U bt r8 r10 r12 q0 oc) (hk : Kept (fun k => k = r10) wr w1) (e10 : w1.heap[r10]? = some (.cells #[.int .i64 T1.i0, .int .i64 T1.i1, .int .i64 T1.i2, .int .i64 T1.i3, .int .i64 T1.i4, .int .i64 T1.i5, .int .i64 T1.i6, .int .i64 T1.i7, .int .i64 T1.i8, .int .i64 T1.i9, .int .i64 T1.i10, .int .i64 T1.i11, bt1] 30 (0, 0))) (rg : Rg64 T1.i2) : RS w w1 b g X st q ao cap Y su T1 U bt1 r8 r10 r12 q0 oc := by
  have hne := h.ne
  exact h.put (Below.refl _ _) h.rv (.inl rfl) (hk.mono (fun _ _ e => .inr (.inl e))) ((hk.block r8 h.z8 (by omega)).trans h.a8) e10 ((hk.block r12 h.z12 (by omega)).trans h.a12) h.yl h.s0.2 rg
theorem RS.putU (h : RS w wr b g X st q ao cap Y su T U bt r8 r10 r12 q0 oc) (hk : Kept (fun k => k = r12) wr w1) (e12 : w1.heap[r12]? = some (.cells #[.int .i64 U1.i0, .int .i64 U1.i1, .int .i64 U1.i2, .int .i64 U1.i3, .int .i64 U1.i4, .int .i64 U1.i5, .int .i64 U1.i6, .int .i64 U1.i7, .int .i64 U1.i8, .int .i64 U1.i9, .int .i64 U1.i10, .int .i64 U1.i11, .slice none 0 0] 30 (0, 0))) : RS w w1 b g X st q ao cap Y su T U1 bt r8 r10 r12 q0 oc := by
  have hne := h.ne
  exact h.put (Below.refl _ _) h.rv (.inl rfl) (hk.mono (fun _ _ e => .inr (.inr e))) ((hk.block r8 h.z8 (by omega)).trans h.a8) ((hk.block r10 h.z10 (by omega)).trans h.a10) e12 h.yl h.s0.2 h.rg
end

theorem upd3 {W : World} {r8 r10 r12 : Nat} {c8 c10 c12 : Array Value} {t8 t10 t12 : TypeId} {x0 x1 x2 x3 x4 x5 x6 x7 x8 x9 x10 x11 x12 z0 z1 z2 z3 z4 z5 z6 z7 z8 z9 z10 z11 z12 y0 y1 y2 : Value} (h10 : W.heap[r10]? = some (.cells c10 t10 (0, 0))) (h12 : W.heap[r12]? = some (.cells c12 t12 (0, 0))) (h8 : W.heap[r8]? = some (.cells c8 t8 (0, 0))) (s10 : c10.size = 13) (s12 : c12.size = 13) (s8 : c8.size = 3) (n1 : r10 ≠ r12) (n2 : r10 ≠ r8) (n3 : r12 ≠ r8) :
    ∀ w5, (((((((((((((((((((((((((((((W.setCell ⟨r10, 0, none⟩ x0).setCell ⟨r10, 1, none⟩ x1).setCell ⟨r10, 2, none⟩ x2).setCell ⟨r10, 3, none⟩ x3).setCell ⟨r10, 4, none⟩ x4).setCell ⟨r10, 5, none⟩ x5).setCell ⟨r10, 6, none⟩ x6).setCell ⟨r10, 7, none⟩ x7).setCell ⟨r10, 8, none⟩ x8).setCell ⟨r10, 9, none⟩ x9).setCell ⟨r10, 10, none⟩ x10).setCell ⟨r10, 11, none⟩ x11).setCell ⟨r10, 12, none⟩ x12).setCell ⟨r12, 0, none⟩ z0).setCell ⟨r12, 1, none⟩ z1).setCell ⟨r12, 2, none⟩ z2).setCell ⟨r12, 3, none⟩ z3).setCell ⟨r12, 4, none⟩ z4).setCell ⟨r12, 5, none⟩ z5).setCell ⟨r12, 6, none⟩ z6).setCell ⟨r12, 7, none⟩ z7).setCell ⟨r12, 8, none⟩ z8).setCell ⟨r12, 9, none⟩ z9).setCell ⟨r12, 10, none⟩ z10).setCell ⟨r12, 11, none⟩ z11).setCell ⟨r12, 12, none⟩ z12).setCell ⟨r8, 0, none⟩ y0).setCell ⟨r8, 1, none⟩ y1).setCell ⟨r8, 2, none⟩ y2) = w5 → w5.heap[r10]? = some (.cells #[x0, x1, x2, x3, x4, x5, x6, x7, x8, x9, x10, x11, x12] t10 (0, 0)) ∧ w5.heap[r12]? = some (.cells #[z0, z1, z2, z3, z4, z5, z6, z7, z8, z9, z10, z11, z12] t12 (0, 0)) ∧ w5.heap[r8]? = some (.cells #[y0, y1, y2] t8 (0, 0)) ∧ Kept (fun k => k = r10 ∨ k = r12 ∨ k = r8) W w5 ∧ w5.heap.size = W.heap.size := by
  rintro w5 rfl
  have E := set3F (la := [x0, x1, x2, x3, x4, x5, x6, x7, x8, x9, x10, x11, x12]) (lb := [z0, z1, z2, z3, z4, z5, z6, z7, z8, z9, z10, z11, z12]) (lc := [y0, y1, y2]) h10 h12 h8 s10 s12 s8 n1 n2 n3
  exact ⟨E.1, E.2.1, E.2.2.1, E.2.2.2, by simp⟩

end Go.Proofs.Ytcellcjojfbajaa
