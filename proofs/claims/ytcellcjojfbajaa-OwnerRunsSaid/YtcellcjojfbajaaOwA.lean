/- What a step of package owner does to a thread that lies in memory: load, either. -/
import Derived.Test.YtcellcjojfbajaaThr
import Derived.Test.YtcellcjojfbajaaWord
import Derived.BigRegion
import Derived.BigQuiet
import Derived.Deep.RegionHeld3
import Derived.RegionTactic
import Derived.StillTailTactics
import Derived.Deep.RegionWith
import Derived.Deep.CutRange
namespace Go.Proofs.Ytcellcjojfbajaa
set_option linter.unusedSimpArgs false
set_option linter.unusedVariables false
open Go.RowKit
open Go.ChangeShapes Go.WideShapes Go.ChangeAt

theorem MS.farx {W0 w w' : World} {b x : Nat} {g : Option Nat} {N st : Int} {xs : List Int} (h : MS W0 w b g N xs st) (hk : Kept (fun k => k = x) w w') (hW : W0.heap.size ≤ x) (hF : ¬ Foot b g x) : MS W0 w' b g N xs st :=
  h.kept hk (h.B.trans (hk.below h.B.size (fun k hk e => by omega))) (fun e => hF (.inl e.symm)) (fun k e e2 => hF (.inr (by rw [e, e2])))
/-- A thread that does a step lies at x, beside the memory. -/
def OT (W0 w : World) (x : Nat) (g : Option Nat) (N st : Int) (xs : List Int) (i0 i1 i2 i3 i4 i5 i6 i7 i8 i9 i10 i11 : Int) (bt : Value) (b : Nat) (rc rv : Int) (td : Bool) : Prop :=
  MS W0 w b g N xs st ∧ w.heap[x]? = some (.cells #[.int .i64 i0, .int .i64 i1, .int .i64 i2, .int .i64 i3, .int .i64 i4, .int .i64 i5, .int .i64 i6, .int .i64 i7, .int .i64 i8, .int .i64 i9, .int .i64 i10, .int .i64 i11, bt, .pointer (some ⟨b, 0, none⟩), .int .u8 rc, .int .i32 rv, .bool td] 82 (0, 0)) ∧ W0.heap.size ≤ x ∧ ¬ Foot b g x ∧ 0 ≤ st
abbrev FX (b : Nat) (g : Option Nat) (x : Nat) : Nat → Prop := fun k => Foot b g k ∨ k = x
section
variable {W0 w w' : World} {x : Nat} {g : Option Nat} {N st : Int} {xs : List Int} {i0 i1 i2 i3 i4 i5 i6 i7 i8 i9 i10 i11 : Int} {bt : Value} {b : Nat} {rc rv : Int} {td : Bool}
theorem OT.ms (h : OT W0 w x g N st xs i0 i1 i2 i3 i4 i5 i6 i7 i8 i9 i10 i11 bt b rc rv td) : MS W0 w b g N xs st := h.1
theorem OT.blk (h : OT W0 w x g N st xs i0 i1 i2 i3 i4 i5 i6 i7 i8 i9 i10 i11 bt b rc rv td) : w.heap[x]? = some (.cells #[.int .i64 i0, .int .i64 i1, .int .i64 i2, .int .i64 i3, .int .i64 i4, .int .i64 i5, .int .i64 i6, .int .i64 i7, .int .i64 i8, .int .i64 i9, .int .i64 i10, .int .i64 i11, bt, .pointer (some ⟨b, 0, none⟩), .int .u8 rc, .int .i32 rv, .bool td] 82 (0, 0)) := h.2.1
theorem OT.lt (h : OT W0 w x g N st xs i0 i1 i2 i3 i4 i5 i6 i7 i8 i9 i10 i11 bt b rc rv td) : x < w.heap.size := (Array.getElem?_eq_some_iff.1 h.2.1).1
theorem OT.below (h : OT W0 w x g N st xs i0 i1 i2 i3 i4 i5 i6 i7 i8 i9 i10 i11 bt b rc rv td) (hb : Below w.heap.size w w') : OT W0 w' x g N st xs i0 i1 i2 i3 i4 i5 i6 i7 i8 i9 i10 i11 bt b rc rv td := ⟨h.1.below hb, (hb.block x h.lt).trans h.2.1, h.2.2⟩
theorem OT.drew (h : OT W0 w x g N st xs i0 i1 i2 i3 i4 i5 i6 i7 i8 i9 i10 i11 bt b rc rv td) : OT W0 w.drew x g N st xs i0 i1 i2 i3 i4 i5 i6 i7 i8 i9 i10 i11 bt b rc rv td := h.below (Below.refl _ _).drew
theorem OT.mem (h : OT W0 w x g N st xs i0 i1 i2 i3 i4 i5 i6 i7 i8 i9 i10 i11 bt b rc rv td) {st' : Int} {xs' : List Int} {g' : Option Nat} (m : MS W0 w' b g' N xs' st') (hk : Kept (Foot b g) w w') (hg : g' = g ∨ ∃ k, g' = some k ∧ w.heap.size ≤ k) (h0 : 0 ≤ st') : OT W0 w' x g' N st' xs' i0 i1 i2 i3 i4 i5 i6 i7 i8 i9 i10 i11 bt b rc rv td :=
  ⟨m, (hk.block x h.lt h.2.2.2.1).trans h.2.1, h.2.2.1, fun e => by
    rcases hg with rfl | ⟨k, rfl, hk⟩
    · exact h.2.2.2.1 e
    · rcases e with e | e
      · exact h.2.2.2.1 (.inl e)
      · have := h.lt
        simp at e
        omega, h0⟩
theorem OT.open (h : OT W0 w x g N st xs i0 i1 i2 i3 i4 i5 i6 i7 i8 i9 i10 i11 bt b rc rv td) : (w.cell? ⟨x, 0, none⟩ = some (.int .i64 i0) ∧ w.cell? ⟨x, 1, none⟩ = some (.int .i64 i1) ∧ w.cell? ⟨x, 2, none⟩ = some (.int .i64 i2) ∧ w.cell? ⟨x, 3, none⟩ = some (.int .i64 i3) ∧ w.cell? ⟨x, 4, none⟩ = some (.int .i64 i4) ∧ w.cell? ⟨x, 5, none⟩ = some (.int .i64 i5) ∧ w.cell? ⟨x, 6, none⟩ = some (.int .i64 i6) ∧ w.cell? ⟨x, 7, none⟩ = some (.int .i64 i7) ∧ w.cell? ⟨x, 8, none⟩ = some (.int .i64 i8) ∧ w.cell? ⟨x, 9, none⟩ = some (.int .i64 i9) ∧ w.cell? ⟨x, 10, none⟩ = some (.int .i64 i10) ∧ w.cell? ⟨x, 11, none⟩ = some (.int .i64 i11) ∧ w.cell? ⟨x, 12, none⟩ = some (bt) ∧ w.cell? ⟨x, 13, none⟩ = some (.pointer (some ⟨b, 0, none⟩)) ∧ w.cell? ⟨x, 14, none⟩ = some (.int .u8 rc) ∧ w.cell? ⟨x, 15, none⟩ = some (.int .i32 rv) ∧ w.cell? ⟨x, 16, none⟩ = some (.bool td)) ∧ (∀ j, w.frozen? ⟨x, j, none⟩ = false) ∧ x < w.heap.size := by
  have hb := h.blk
  refine ⟨⟨?_, ?_, ?_, ?_, ?_, ?_, ?_, ?_, ?_, ?_, ?_, ?_, ?_, ?_, ?_, ?_, ?_⟩, fun j => blkF hb j, h.lt⟩ <;> simp [World.cell?, hb]
theorem kx (w : World) (b : Nat) (g : Option Nat) (x j : Nat) (v : Value) : Kept (FX b g x) w (w.setCell ⟨x, j, none⟩ v) := (Kept.refl (FX b g x) w).setCell (p := ⟨x, j, none⟩) (fun _ => .inr rfl) _
theorem kxF {F : Nat → Prop} {x : Nat} {w w' : World} (h : Kept F w w') : Kept (fun k => F k ∨ k = x) w w' := h.mono (fun _ _ e => .inl e)
theorem OT.set0 (h : OT W0 w x g N st xs i0 i1 i2 i3 i4 i5 i6 i7 i8 i9 i10 i11 bt b rc rv td) (y : Int) : OT W0 (w.setCell ⟨x, 0, none⟩ (.int .i64 y)) x g N st xs y i1 i2 i3 i4 i5 i6 i7 i8 i9 i10 i11 bt b rc rv td := by
  have hk : Kept (fun k => k = x) w (w.setCell ⟨x, 0, none⟩ (.int .i64 y)) := (Kept.refl (fun k => k = x) w).setCell (p := ⟨x, 0, none⟩) (fun _ => rfl) _
  refine ⟨h.1.farx hk h.2.2.1 h.2.2.2.1, ?_, h.2.2⟩
  rw [heap_setCell_self h.2.1]; rfl
theorem OT.set1 (h : OT W0 w x g N st xs i0 i1 i2 i3 i4 i5 i6 i7 i8 i9 i10 i11 bt b rc rv td) (y : Int) : OT W0 (w.setCell ⟨x, 1, none⟩ (.int .i64 y)) x g N st xs i0 y i2 i3 i4 i5 i6 i7 i8 i9 i10 i11 bt b rc rv td := by
  have hk : Kept (fun k => k = x) w (w.setCell ⟨x, 1, none⟩ (.int .i64 y)) := (Kept.refl (fun k => k = x) w).setCell (p := ⟨x, 1, none⟩) (fun _ => rfl) _
  refine ⟨h.1.farx hk h.2.2.1 h.2.2.2.1, ?_, h.2.2⟩
  rw [heap_setCell_self h.2.1]; rfl
theorem OT.set2 (h : OT W0 w x g N st xs i0 i1 i2 i3 i4 i5 i6 i7 i8 i9 i10 i11 bt b rc rv td) (y : Int) : OT W0 (w.setCell ⟨x, 2, none⟩ (.int .i64 y)) x g N st xs i0 i1 y i3 i4 i5 i6 i7 i8 i9 i10 i11 bt b rc rv td := by
  have hk : Kept (fun k => k = x) w (w.setCell ⟨x, 2, none⟩ (.int .i64 y)) := (Kept.refl (fun k => k = x) w).setCell (p := ⟨x, 2, none⟩) (fun _ => rfl) _
  refine ⟨h.1.farx hk h.2.2.1 h.2.2.2.1, ?_, h.2.2⟩
  rw [heap_setCell_self h.2.1]; rfl
theorem OT.set3 (h : OT W0 w x g N st xs i0 i1 i2 i3 i4 i5 i6 i7 i8 i9 i10 i11 bt b rc rv td) (y : Int) : OT W0 (w.setCell ⟨x, 3, none⟩ (.int .i64 y)) x g N st xs i0 i1 i2 y i4 i5 i6 i7 i8 i9 i10 i11 bt b rc rv td := by
  have hk : Kept (fun k => k = x) w (w.setCell ⟨x, 3, none⟩ (.int .i64 y)) := (Kept.refl (fun k => k = x) w).setCell (p := ⟨x, 3, none⟩) (fun _ => rfl) _
  refine ⟨h.1.farx hk h.2.2.1 h.2.2.2.1, ?_, h.2.2⟩
  rw [heap_setCell_self h.2.1]; rfl
theorem OT.set4 (h : OT W0 w x g N st xs i0 i1 i2 i3 i4 i5 i6 i7 i8 i9 i10 i11 bt b rc rv td) (y : Int) : OT W0 (w.setCell ⟨x, 4, none⟩ (.int .i64 y)) x g N st xs i0 i1 i2 i3 y i5 i6 i7 i8 i9 i10 i11 bt b rc rv td := by
  have hk : Kept (fun k => k = x) w (w.setCell ⟨x, 4, none⟩ (.int .i64 y)) := (Kept.refl (fun k => k = x) w).setCell (p := ⟨x, 4, none⟩) (fun _ => rfl) _
  refine ⟨h.1.farx hk h.2.2.1 h.2.2.2.1, ?_, h.2.2⟩
  rw [heap_setCell_self h.2.1]; rfl
theorem OT.set5 (h : OT W0 w x g N st xs i0 i1 i2 i3 i4 i5 i6 i7 i8 i9 i10 i11 bt b rc rv td) (y : Int) : OT W0 (w.setCell ⟨x, 5, none⟩ (.int .i64 y)) x g N st xs i0 i1 i2 i3 i4 y i6 i7 i8 i9 i10 i11 bt b rc rv td := by
  have hk : Kept (fun k => k = x) w (w.setCell ⟨x, 5, none⟩ (.int .i64 y)) := (Kept.refl (fun k => k = x) w).setCell (p := ⟨x, 5, none⟩) (fun _ => rfl) _
  refine ⟨h.1.farx hk h.2.2.1 h.2.2.2.1, ?_, h.2.2⟩
  rw [heap_setCell_self h.2.1]; rfl
theorem OT.set6 (h : OT W0 w x g N st xs i0 i1 i2 i3 i4 i5 i6 i7 i8 i9 i10 i11 bt b rc rv td) (y : Int) : OT W0 (w.setCell ⟨x, 6, none⟩ (.int .i64 y)) x g N st xs i0 i1 i2 i3 i4 i5 y i7 i8 i9 i10 i11 bt b rc rv td := by
  have hk : Kept (fun k => k = x) w (w.setCell ⟨x, 6, none⟩ (.int .i64 y)) := (Kept.refl (fun k => k = x) w).setCell (p := ⟨x, 6, none⟩) (fun _ => rfl) _
  refine ⟨h.1.farx hk h.2.2.1 h.2.2.2.1, ?_, h.2.2⟩
  rw [heap_setCell_self h.2.1]; rfl
theorem OT.set7 (h : OT W0 w x g N st xs i0 i1 i2 i3 i4 i5 i6 i7 i8 i9 i10 i11 bt b rc rv td) (y : Int) : OT W0 (w.setCell ⟨x, 7, none⟩ (.int .i64 y)) x g N st xs i0 i1 i2 i3 i4 i5 i6 y i8 i9 i10 i11 bt b rc rv td := by
  have hk : Kept (fun k => k = x) w (w.setCell ⟨x, 7, none⟩ (.int .i64 y)) := (Kept.refl (fun k => k = x) w).setCell (p := ⟨x, 7, none⟩) (fun _ => rfl) _
  refine ⟨h.1.farx hk h.2.2.1 h.2.2.2.1, ?_, h.2.2⟩
  rw [heap_setCell_self h.2.1]; rfl
theorem OT.set8 (h : OT W0 w x g N st xs i0 i1 i2 i3 i4 i5 i6 i7 i8 i9 i10 i11 bt b rc rv td) (y : Int) : OT W0 (w.setCell ⟨x, 8, none⟩ (.int .i64 y)) x g N st xs i0 i1 i2 i3 i4 i5 i6 i7 y i9 i10 i11 bt b rc rv td := by
  have hk : Kept (fun k => k = x) w (w.setCell ⟨x, 8, none⟩ (.int .i64 y)) := (Kept.refl (fun k => k = x) w).setCell (p := ⟨x, 8, none⟩) (fun _ => rfl) _
  refine ⟨h.1.farx hk h.2.2.1 h.2.2.2.1, ?_, h.2.2⟩
  rw [heap_setCell_self h.2.1]; rfl
theorem OT.set9 (h : OT W0 w x g N st xs i0 i1 i2 i3 i4 i5 i6 i7 i8 i9 i10 i11 bt b rc rv td) (y : Int) : OT W0 (w.setCell ⟨x, 9, none⟩ (.int .i64 y)) x g N st xs i0 i1 i2 i3 i4 i5 i6 i7 i8 y i10 i11 bt b rc rv td := by
  have hk : Kept (fun k => k = x) w (w.setCell ⟨x, 9, none⟩ (.int .i64 y)) := (Kept.refl (fun k => k = x) w).setCell (p := ⟨x, 9, none⟩) (fun _ => rfl) _
  refine ⟨h.1.farx hk h.2.2.1 h.2.2.2.1, ?_, h.2.2⟩
  rw [heap_setCell_self h.2.1]; rfl
theorem OT.set10 (h : OT W0 w x g N st xs i0 i1 i2 i3 i4 i5 i6 i7 i8 i9 i10 i11 bt b rc rv td) (y : Int) : OT W0 (w.setCell ⟨x, 10, none⟩ (.int .i64 y)) x g N st xs i0 i1 i2 i3 i4 i5 i6 i7 i8 i9 y i11 bt b rc rv td := by
  have hk : Kept (fun k => k = x) w (w.setCell ⟨x, 10, none⟩ (.int .i64 y)) := (Kept.refl (fun k => k = x) w).setCell (p := ⟨x, 10, none⟩) (fun _ => rfl) _
  refine ⟨h.1.farx hk h.2.2.1 h.2.2.2.1, ?_, h.2.2⟩
  rw [heap_setCell_self h.2.1]; rfl
theorem OT.set11 (h : OT W0 w x g N st xs i0 i1 i2 i3 i4 i5 i6 i7 i8 i9 i10 i11 bt b rc rv td) (y : Int) : OT W0 (w.setCell ⟨x, 11, none⟩ (.int .i64 y)) x g N st xs i0 i1 i2 i3 i4 i5 i6 i7 i8 i9 i10 y bt b rc rv td := by
  have hk : Kept (fun k => k = x) w (w.setCell ⟨x, 11, none⟩ (.int .i64 y)) := (Kept.refl (fun k => k = x) w).setCell (p := ⟨x, 11, none⟩) (fun _ => rfl) _
  refine ⟨h.1.farx hk h.2.2.1 h.2.2.2.1, ?_, h.2.2⟩
  rw [heap_setCell_self h.2.1]; rfl
theorem OT.setR (h : OT W0 w x g N st xs i0 i1 i2 i3 i4 i5 i6 i7 i8 i9 i10 i11 bt b rc rv td) (k v : Int) : OT W0 ((w.setCell ⟨x, 14, none⟩ (.int .u8 k)).setCell ⟨x, 15, none⟩ (.int .i32 v)) x g N st xs i0 i1 i2 i3 i4 i5 i6 i7 i8 i9 i10 i11 bt b k v td := by
  have hk : Kept (fun k => k = x) w ((w.setCell ⟨x, 14, none⟩ (.int .u8 k)).setCell ⟨x, 15, none⟩ (.int .i32 v)) := ((Kept.refl (fun k => k = x) w).setCell (p := ⟨x, 14, none⟩) (fun _ => rfl) _).setCell (p := ⟨x, 15, none⟩) (fun _ => rfl) _
  refine ⟨h.1.farx hk h.2.2.1 h.2.2.2.1, ?_, h.2.2⟩
  have h1 : (w.setCell ⟨x, 14, none⟩ (.int .u8 k)).heap[x]? = _ := heap_setCell_self h.2.1 14 (.int .u8 k)
  rw [heap_setCell_self h1]; rfl
theorem OT.setT (h : OT W0 w x g N st xs i0 i1 i2 i3 i4 i5 i6 i7 i8 i9 i10 i11 bt b rc rv td) (d : Bool) : OT W0 (w.setCell ⟨x, 16, none⟩ (.bool d)) x g N st xs i0 i1 i2 i3 i4 i5 i6 i7 i8 i9 i10 i11 bt b rc rv d := by
  have hk : Kept (fun k => k = x) w (w.setCell ⟨x, 16, none⟩ (.bool d)) := (Kept.refl (fun k => k = x) w).setCell (p := ⟨x, 16, none⟩) (fun _ => rfl) _
  refine ⟨h.1.farx hk h.2.2.1 h.2.2.2.1, ?_, h.2.2⟩
  rw [heap_setCell_self h.2.1]; rfl
end
theorem oPutB_any (v : Bool) (e : Int) (w : World) : Calls Try.prog 73 #[.bool v, .int .u16 e] w fun r w' => r = .returned (.bool v) ∧ w = w' := by
  go_enter Try.func73, Try.ntmps73
  go_wp2
  go_ret
  exact ⟨rfl, rfl⟩
theorem oPutI_any (v e : Int) (w : World) : Calls Try.prog 78 #[.int .i64 v, .int .u16 e] w fun r w' => r = .returned (.int .i64 v) ∧ w = w' := by
  go_enter Try.func78, Try.ntmps78
  go_wp2
  go_ret
  exact ⟨rfl, rfl⟩
set_option maxHeartbeats 1000000 in
theorem oLoad_any (W0 w : World) (x : Nat) (g : Option Nat) (N st : Int) (xs : List Int) (i0 i1 i2 i3 i4 i5 i6 i7 i8 i9 i10 i11 : Int) (bt : Value) (b : Nat) (rc rv : Int) (td : Bool) (a v : Int) (h : OT W0 w x g N st xs i0 i1 i2 i3 i4 i5 i6 i7 i8 i9 i10 i11 bt b rc rv td) (hv : cellAt xs a = v) (s1 : st < 1000000) :
    Calls Try.prog 75 #[.pointer (some ⟨x, 0, none⟩), .int .i64 a] w fun e w' => e = .returned (.tuple #[]) ∧ OT W0 w' x g N (st + cntAt xs a) xs i0 i1 i2 i3 i4 v i6 i7 i8 i9 i10 i11 bt b rc rv td ∧ Kept (FX b g x) w w' := by
  obtain ⟨⟨c0, c1, c2, c3, c4, c5, c6, c7, c8, c9, c10, c11, c12, c13, c14, c15, c16⟩, hf, hx⟩ := h.open
  have H := Lib.hid h
  have cL := Lib.hid (hv ▸ Load_f h.ms a s1)
  clear hf h hv c0 c1 c2 c3 c4 c5 c6 c7 c8 c9 c10 c11 c12
  go_enter Try.func75, Try.ntmps75
  go_wp2_with fail
  refine cL.out.mono ?_
  rintro e w1 ⟨rfl, m1, k1⟩
  have h1 := H.out.mem m1 k1 (.inl rfl) (by have := H.out.2.2.2.2; have := cntAt_rng xs a; omega)
  have f5 := blkF h1.blk 5
  obtain ⟨⟨d0, d1, d2, d3, d4, d5, d6, d7, d8, d9, d10, d11, d12, d13, d14, d15, d16⟩, -, z1⟩ := h1.open
  have H1 := Lib.hid (And.intro h1 k1)
  clear h1 m1 k1 c13 c14 c15 c16 d0 d1 d2 d3 d4 d6 d7 d8 d9 d10 d11 d12 d13 d14 d15 d16
  go_wp2_with fail
  refine (oPutI_any _ _ _).mono ?_
  rintro e w' ⟨rfl, rfl⟩
  go_wp2
  go_end0
  exact ⟨rfl, H1.out.1.set5 v, (kxF H1.out.2).trans (kx _ _ _ _ _ _)⟩
set_option maxHeartbeats 1000000 in
theorem oEither_any (W0 w : World) (x : Nat) (g : Option Nat) (N st : Int) (xs : List Int) (i0 i1 i2 i3 i4 i5 i6 i7 i8 i9 i10 i11 : Int) (bt : Value) (b : Nat) (rc rv : Int) (td : Bool) (is : Bool) (y n : Int) (h : OT W0 w x g N st xs i0 i1 i2 i3 i4 i5 i6 i7 i8 i9 i10 i11 bt b rc rv td) :
    Calls Try.prog 72 #[.pointer (some ⟨x, 0, none⟩), .bool is, .int .i64 y, .int .i64 n] w fun e w' => e = .returned (.tuple #[]) ∧ OT W0 w' x g N st xs i0 (if is = true then y else n) i2 i3 i4 i5 i6 i7 i8 i9 i10 i11 bt b rc rv td ∧ Kept (FX b g x) w w' := by
  have f1 := blkF h.blk 1
  obtain ⟨⟨c0, c1, -⟩, -, hx⟩ := h.open
  have H := Lib.hid h
  clear h c0
  cases is
  · go_enter Try.func72, Try.ntmps72
    go_wp2
    go_end0
    exact ⟨rfl, H.out.set1 n, kx _ _ _ _ _ _⟩
  · go_enter Try.func72, Try.ntmps72
    go_wp2
    go_end0
    exact ⟨rfl, by first | exact H.out.set1 y | exact (H.out.set1 n).set1 y, by first | exact kx _ _ _ _ _ _ | exact (kx _ _ _ _ _ _).trans (kx _ _ _ _ _ _)⟩

end Go.Proofs.Ytcellcjojfbajaa
