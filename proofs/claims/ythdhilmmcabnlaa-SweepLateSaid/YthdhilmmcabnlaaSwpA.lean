/- What a step of package sweep does to a thread that lies in memory: load, by, seek. -/
import Derived.Test.YthdhilmmcabnlaaThr
import Derived.BigRegion
import Derived.BigQuiet
import Derived.Deep.RegionHeld3
import Derived.RegionTactic
import Derived.Maps.OwnOps
namespace Go.Proofs.Ythdhilmmcabnlaa
set_option linter.unusedSimpArgs false
set_option linter.unusedVariables false
open Go.RowKit
open Go.ChangeShapes Go.WideShapes Go.ChangeAt

/-- The block of a thread that does a step. -/
def Turn (w : World) (x : Nat) (i0 i1 i2 i3 i4 i5 i6 i7 i8 i9 i10 i11 : Int) (bt : Value) (b : Nat) (age : Int) : Prop :=
  w.heap[x]? = some (.cells #[.int .i64 i0, .int .i64 i1, .int .i64 i2, .int .i64 i3, .int .i64 i4, .int .i64 i5, .int .i64 i6, .int .i64 i7, .int .i64 i8, .int .i64 i9, .int .i64 i10, .int .i64 i11, bt, .pointer (some ⟨b, 0, none⟩), .int .i64 age] 95 (0, 0))
section
variable {w w' : World} {x : Nat} {i0 i1 i2 i3 i4 i5 i6 i7 i8 i9 i10 i11 : Int} {bt : Value} {b : Nat} {age : Int}
theorem Turn.kept {F : Nat → Prop} (h : Turn w x i0 i1 i2 i3 i4 i5 i6 i7 i8 i9 i10 i11 bt b age) (hk : Kept F w w') (hx : ¬ F x) : Turn w' x i0 i1 i2 i3 i4 i5 i6 i7 i8 i9 i10 i11 bt b age := (hk.block x (Array.getElem?_eq_some_iff.1 h).1 hx).trans h
theorem Turn.below (h : Turn w x i0 i1 i2 i3 i4 i5 i6 i7 i8 i9 i10 i11 bt b age) (hb : Below w.heap.size w w') : Turn w' x i0 i1 i2 i3 i4 i5 i6 i7 i8 i9 i10 i11 bt b age := h.kept (F := fun _ => False) (Kept.of_below hb (fun k h1 h2 => by omega)) (fun h => h)
theorem Turn.lt (h : Turn w x i0 i1 i2 i3 i4 i5 i6 i7 i8 i9 i10 i11 bt b age) : x < w.heap.size := (Array.getElem?_eq_some_iff.1 h).1
theorem Turn.open (h : Turn w x i0 i1 i2 i3 i4 i5 i6 i7 i8 i9 i10 i11 bt b age) : (w.cell? ⟨x, 0, none⟩ = some (.int .i64 i0) ∧ w.cell? ⟨x, 1, none⟩ = some (.int .i64 i1) ∧ w.cell? ⟨x, 2, none⟩ = some (.int .i64 i2) ∧ w.cell? ⟨x, 3, none⟩ = some (.int .i64 i3) ∧ w.cell? ⟨x, 4, none⟩ = some (.int .i64 i4) ∧ w.cell? ⟨x, 5, none⟩ = some (.int .i64 i5) ∧ w.cell? ⟨x, 6, none⟩ = some (.int .i64 i6) ∧ w.cell? ⟨x, 7, none⟩ = some (.int .i64 i7) ∧ w.cell? ⟨x, 8, none⟩ = some (.int .i64 i8) ∧ w.cell? ⟨x, 9, none⟩ = some (.int .i64 i9) ∧ w.cell? ⟨x, 10, none⟩ = some (.int .i64 i10) ∧ w.cell? ⟨x, 11, none⟩ = some (.int .i64 i11) ∧ w.cell? ⟨x, 12, none⟩ = some (bt) ∧ w.cell? ⟨x, 13, none⟩ = some (.pointer (some ⟨b, 0, none⟩)) ∧ w.cell? ⟨x, 14, none⟩ = some (.int .i64 age)) ∧ (∀ j, w.frozen? ⟨x, j, none⟩ = false) ∧ x < w.heap.size := by
  unfold Turn at h
  refine ⟨⟨?_, ?_, ?_, ?_, ?_, ?_, ?_, ?_, ?_, ?_, ?_, ?_, ?_, ?_, ?_⟩, fun j => blkF h j, (Array.getElem?_eq_some_iff.1 h).1⟩ <;> simp [World.cell?, h]
theorem Turn.set0 (h : Turn w x i0 i1 i2 i3 i4 i5 i6 i7 i8 i9 i10 i11 bt b age) (y : Int) : Turn (w.setCell ⟨x, 0, none⟩ (.int .i64 y)) x y i1 i2 i3 i4 i5 i6 i7 i8 i9 i10 i11 bt b age := by
  unfold Turn at h ⊢
  rw [heap_setCell_self h]; rfl
theorem Turn.set1 (h : Turn w x i0 i1 i2 i3 i4 i5 i6 i7 i8 i9 i10 i11 bt b age) (y : Int) : Turn (w.setCell ⟨x, 1, none⟩ (.int .i64 y)) x i0 y i2 i3 i4 i5 i6 i7 i8 i9 i10 i11 bt b age := by
  unfold Turn at h ⊢
  rw [heap_setCell_self h]; rfl
theorem Turn.set2 (h : Turn w x i0 i1 i2 i3 i4 i5 i6 i7 i8 i9 i10 i11 bt b age) (y : Int) : Turn (w.setCell ⟨x, 2, none⟩ (.int .i64 y)) x i0 i1 y i3 i4 i5 i6 i7 i8 i9 i10 i11 bt b age := by
  unfold Turn at h ⊢
  rw [heap_setCell_self h]; rfl
theorem Turn.set3 (h : Turn w x i0 i1 i2 i3 i4 i5 i6 i7 i8 i9 i10 i11 bt b age) (y : Int) : Turn (w.setCell ⟨x, 3, none⟩ (.int .i64 y)) x i0 i1 i2 y i4 i5 i6 i7 i8 i9 i10 i11 bt b age := by
  unfold Turn at h ⊢
  rw [heap_setCell_self h]; rfl
theorem Turn.set4 (h : Turn w x i0 i1 i2 i3 i4 i5 i6 i7 i8 i9 i10 i11 bt b age) (y : Int) : Turn (w.setCell ⟨x, 4, none⟩ (.int .i64 y)) x i0 i1 i2 i3 y i5 i6 i7 i8 i9 i10 i11 bt b age := by
  unfold Turn at h ⊢
  rw [heap_setCell_self h]; rfl
theorem Turn.set5 (h : Turn w x i0 i1 i2 i3 i4 i5 i6 i7 i8 i9 i10 i11 bt b age) (y : Int) : Turn (w.setCell ⟨x, 5, none⟩ (.int .i64 y)) x i0 i1 i2 i3 i4 y i6 i7 i8 i9 i10 i11 bt b age := by
  unfold Turn at h ⊢
  rw [heap_setCell_self h]; rfl
theorem Turn.set6 (h : Turn w x i0 i1 i2 i3 i4 i5 i6 i7 i8 i9 i10 i11 bt b age) (y : Int) : Turn (w.setCell ⟨x, 6, none⟩ (.int .i64 y)) x i0 i1 i2 i3 i4 i5 y i7 i8 i9 i10 i11 bt b age := by
  unfold Turn at h ⊢
  rw [heap_setCell_self h]; rfl
theorem Turn.set7 (h : Turn w x i0 i1 i2 i3 i4 i5 i6 i7 i8 i9 i10 i11 bt b age) (y : Int) : Turn (w.setCell ⟨x, 7, none⟩ (.int .i64 y)) x i0 i1 i2 i3 i4 i5 i6 y i8 i9 i10 i11 bt b age := by
  unfold Turn at h ⊢
  rw [heap_setCell_self h]; rfl
theorem Turn.set8 (h : Turn w x i0 i1 i2 i3 i4 i5 i6 i7 i8 i9 i10 i11 bt b age) (y : Int) : Turn (w.setCell ⟨x, 8, none⟩ (.int .i64 y)) x i0 i1 i2 i3 i4 i5 i6 i7 y i9 i10 i11 bt b age := by
  unfold Turn at h ⊢
  rw [heap_setCell_self h]; rfl
theorem Turn.set9 (h : Turn w x i0 i1 i2 i3 i4 i5 i6 i7 i8 i9 i10 i11 bt b age) (y : Int) : Turn (w.setCell ⟨x, 9, none⟩ (.int .i64 y)) x i0 i1 i2 i3 i4 i5 i6 i7 i8 y i10 i11 bt b age := by
  unfold Turn at h ⊢
  rw [heap_setCell_self h]; rfl
theorem Turn.set10 (h : Turn w x i0 i1 i2 i3 i4 i5 i6 i7 i8 i9 i10 i11 bt b age) (y : Int) : Turn (w.setCell ⟨x, 10, none⟩ (.int .i64 y)) x i0 i1 i2 i3 i4 i5 i6 i7 i8 i9 y i11 bt b age := by
  unfold Turn at h ⊢
  rw [heap_setCell_self h]; rfl
theorem Turn.set11 (h : Turn w x i0 i1 i2 i3 i4 i5 i6 i7 i8 i9 i10 i11 bt b age) (y : Int) : Turn (w.setCell ⟨x, 11, none⟩ (.int .i64 y)) x i0 i1 i2 i3 i4 i5 i6 i7 i8 i9 i10 y bt b age := by
  unfold Turn at h ⊢
  rw [heap_setCell_self h]; rfl
end

theorem MS.far {W0 w w' : World} {b x : Nat} {g : Option Nat} {N st : Int} {xs : List Int} (h : MS W0 w b g N xs st) (hk : Kept (fun k => k = x) w w') (hW : W0.heap.size ≤ x) (hF : ¬ Foot b g x) : MS W0 w' b g N xs st :=
  h.kept hk (h.B.trans (hk.below h.B.size (fun k hk e => by omega))) (fun e => hF (.inl e.symm)) (fun k e e2 => hF (.inr (by rw [e, e2])))
/-- A thread that does a step lies at x, beside the memory; since w0 nothing else has turned. -/
def TW (W0 w0 w : World) (x : Nat) (g : Option Nat) (N st : Int) (xs : List Int) (i0 i1 i2 i3 i4 i5 i6 i7 i8 i9 i10 i11 : Int) (bt : Value) (b : Nat) (age : Int) : Prop :=
  MS W0 w b g N xs st ∧ Turn w x i0 i1 i2 i3 i4 i5 i6 i7 i8 i9 i10 i11 bt b age ∧ Kept (fun k => Foot b g k ∨ k = x) w0 w ∧ W0.heap.size ≤ x ∧ ¬ Foot b g x ∧ 0 ≤ st
section
variable {W0 w0 w w' : World} {x : Nat} {g : Option Nat} {N st : Int} {xs : List Int} {i0 i1 i2 i3 i4 i5 i6 i7 i8 i9 i10 i11 : Int} {bt : Value} {b : Nat} {age : Int}
theorem TW.ms (h : TW W0 w0 w x g N st xs i0 i1 i2 i3 i4 i5 i6 i7 i8 i9 i10 i11 bt b age) : MS W0 w b g N xs st := h.1
theorem TW.turn (h : TW W0 w0 w x g N st xs i0 i1 i2 i3 i4 i5 i6 i7 i8 i9 i10 i11 bt b age) : Turn w x i0 i1 i2 i3 i4 i5 i6 i7 i8 i9 i10 i11 bt b age := h.2.1
theorem TW.K (h : TW W0 w0 w x g N st xs i0 i1 i2 i3 i4 i5 i6 i7 i8 i9 i10 i11 bt b age) : Kept (fun k => Foot b g k ∨ k = x) w0 w := h.2.2.1
theorem TW.below (h : TW W0 w0 w x g N st xs i0 i1 i2 i3 i4 i5 i6 i7 i8 i9 i10 i11 bt b age) (hb : Below w.heap.size w w') : TW W0 w0 w' x g N st xs i0 i1 i2 i3 i4 i5 i6 i7 i8 i9 i10 i11 bt b age :=
  ⟨h.1.below hb, h.turn.below hb, h.K.trans (keptF hb), h.2.2.2⟩
theorem TW.load (h : TW W0 w0 w x g N st xs i0 i1 i2 i3 i4 i5 i6 i7 i8 i9 i10 i11 bt b age) {st' : Int} {w' : World} (m : MS W0 w' b g N xs st') (hk : Kept (Foot b g) w w') (h0 : 0 ≤ st') : TW W0 w0 w' x g N st' xs i0 i1 i2 i3 i4 i5 i6 i7 i8 i9 i10 i11 bt b age :=
  ⟨m, h.turn.kept hk h.2.2.2.2.1, h.K.trans (hk.mono (fun _ _ e => .inl e)), h.2.2.2.1, h.2.2.2.2.1, h0⟩
theorem TW.mem (h : TW W0 w0 w x g N st xs i0 i1 i2 i3 i4 i5 i6 i7 i8 i9 i10 i11 bt b age) {st' : Int} {xs' : List Int} {w' : World} (m : MS W0 w' b g N xs' st') (hk : Kept (Foot b g) w w') (h0 : 0 ≤ st') : TW W0 w0 w' x g N st' xs' i0 i1 i2 i3 i4 i5 i6 i7 i8 i9 i10 i11 bt b age :=
  ⟨m, h.turn.kept hk h.2.2.2.2.1, h.K.trans (hk.mono (fun _ _ e => .inl e)), h.2.2.2.1, h.2.2.2.2.1, h0⟩
theorem TW.set0 (h : TW W0 w0 w x g N st xs i0 i1 i2 i3 i4 i5 i6 i7 i8 i9 i10 i11 bt b age) (y : Int) : TW W0 w0 (w.setCell ⟨x, 0, none⟩ (.int .i64 y)) x g N st xs y i1 i2 i3 i4 i5 i6 i7 i8 i9 i10 i11 bt b age :=
  have hk : Kept (fun k => k = x) w (w.setCell ⟨x, 0, none⟩ (.int .i64 y)) := (Kept.refl (fun k => k = x) w).setCell (p := ⟨x, 0, none⟩) (fun _ => rfl) _
  ⟨h.1.far hk h.2.2.2.1 h.2.2.2.2.1, h.turn.set0 y, h.K.step hk (fun i _ e => .inr e), h.2.2.2⟩
theorem TW.set1 (h : TW W0 w0 w x g N st xs i0 i1 i2 i3 i4 i5 i6 i7 i8 i9 i10 i11 bt b age) (y : Int) : TW W0 w0 (w.setCell ⟨x, 1, none⟩ (.int .i64 y)) x g N st xs i0 y i2 i3 i4 i5 i6 i7 i8 i9 i10 i11 bt b age :=
  have hk : Kept (fun k => k = x) w (w.setCell ⟨x, 1, none⟩ (.int .i64 y)) := (Kept.refl (fun k => k = x) w).setCell (p := ⟨x, 1, none⟩) (fun _ => rfl) _
  ⟨h.1.far hk h.2.2.2.1 h.2.2.2.2.1, h.turn.set1 y, h.K.step hk (fun i _ e => .inr e), h.2.2.2⟩
theorem TW.set2 (h : TW W0 w0 w x g N st xs i0 i1 i2 i3 i4 i5 i6 i7 i8 i9 i10 i11 bt b age) (y : Int) : TW W0 w0 (w.setCell ⟨x, 2, none⟩ (.int .i64 y)) x g N st xs i0 i1 y i3 i4 i5 i6 i7 i8 i9 i10 i11 bt b age :=
  have hk : Kept (fun k => k = x) w (w.setCell ⟨x, 2, none⟩ (.int .i64 y)) := (Kept.refl (fun k => k = x) w).setCell (p := ⟨x, 2, none⟩) (fun _ => rfl) _
  ⟨h.1.far hk h.2.2.2.1 h.2.2.2.2.1, h.turn.set2 y, h.K.step hk (fun i _ e => .inr e), h.2.2.2⟩
theorem TW.set3 (h : TW W0 w0 w x g N st xs i0 i1 i2 i3 i4 i5 i6 i7 i8 i9 i10 i11 bt b age) (y : Int) : TW W0 w0 (w.setCell ⟨x, 3, none⟩ (.int .i64 y)) x g N st xs i0 i1 i2 y i4 i5 i6 i7 i8 i9 i10 i11 bt b age :=
  have hk : Kept (fun k => k = x) w (w.setCell ⟨x, 3, none⟩ (.int .i64 y)) := (Kept.refl (fun k => k = x) w).setCell (p := ⟨x, 3, none⟩) (fun _ => rfl) _
  ⟨h.1.far hk h.2.2.2.1 h.2.2.2.2.1, h.turn.set3 y, h.K.step hk (fun i _ e => .inr e), h.2.2.2⟩
theorem TW.set4 (h : TW W0 w0 w x g N st xs i0 i1 i2 i3 i4 i5 i6 i7 i8 i9 i10 i11 bt b age) (y : Int) : TW W0 w0 (w.setCell ⟨x, 4, none⟩ (.int .i64 y)) x g N st xs i0 i1 i2 i3 y i5 i6 i7 i8 i9 i10 i11 bt b age :=
  have hk : Kept (fun k => k = x) w (w.setCell ⟨x, 4, none⟩ (.int .i64 y)) := (Kept.refl (fun k => k = x) w).setCell (p := ⟨x, 4, none⟩) (fun _ => rfl) _
  ⟨h.1.far hk h.2.2.2.1 h.2.2.2.2.1, h.turn.set4 y, h.K.step hk (fun i _ e => .inr e), h.2.2.2⟩
theorem TW.set5 (h : TW W0 w0 w x g N st xs i0 i1 i2 i3 i4 i5 i6 i7 i8 i9 i10 i11 bt b age) (y : Int) : TW W0 w0 (w.setCell ⟨x, 5, none⟩ (.int .i64 y)) x g N st xs i0 i1 i2 i3 i4 y i6 i7 i8 i9 i10 i11 bt b age :=
  have hk : Kept (fun k => k = x) w (w.setCell ⟨x, 5, none⟩ (.int .i64 y)) := (Kept.refl (fun k => k = x) w).setCell (p := ⟨x, 5, none⟩) (fun _ => rfl) _
  ⟨h.1.far hk h.2.2.2.1 h.2.2.2.2.1, h.turn.set5 y, h.K.step hk (fun i _ e => .inr e), h.2.2.2⟩
theorem TW.set6 (h : TW W0 w0 w x g N st xs i0 i1 i2 i3 i4 i5 i6 i7 i8 i9 i10 i11 bt b age) (y : Int) : TW W0 w0 (w.setCell ⟨x, 6, none⟩ (.int .i64 y)) x g N st xs i0 i1 i2 i3 i4 i5 y i7 i8 i9 i10 i11 bt b age :=
  have hk : Kept (fun k => k = x) w (w.setCell ⟨x, 6, none⟩ (.int .i64 y)) := (Kept.refl (fun k => k = x) w).setCell (p := ⟨x, 6, none⟩) (fun _ => rfl) _
  ⟨h.1.far hk h.2.2.2.1 h.2.2.2.2.1, h.turn.set6 y, h.K.step hk (fun i _ e => .inr e), h.2.2.2⟩
theorem TW.set7 (h : TW W0 w0 w x g N st xs i0 i1 i2 i3 i4 i5 i6 i7 i8 i9 i10 i11 bt b age) (y : Int) : TW W0 w0 (w.setCell ⟨x, 7, none⟩ (.int .i64 y)) x g N st xs i0 i1 i2 i3 i4 i5 i6 y i8 i9 i10 i11 bt b age :=
  have hk : Kept (fun k => k = x) w (w.setCell ⟨x, 7, none⟩ (.int .i64 y)) := (Kept.refl (fun k => k = x) w).setCell (p := ⟨x, 7, none⟩) (fun _ => rfl) _
  ⟨h.1.far hk h.2.2.2.1 h.2.2.2.2.1, h.turn.set7 y, h.K.step hk (fun i _ e => .inr e), h.2.2.2⟩
theorem TW.set8 (h : TW W0 w0 w x g N st xs i0 i1 i2 i3 i4 i5 i6 i7 i8 i9 i10 i11 bt b age) (y : Int) : TW W0 w0 (w.setCell ⟨x, 8, none⟩ (.int .i64 y)) x g N st xs i0 i1 i2 i3 i4 i5 i6 i7 y i9 i10 i11 bt b age :=
  have hk : Kept (fun k => k = x) w (w.setCell ⟨x, 8, none⟩ (.int .i64 y)) := (Kept.refl (fun k => k = x) w).setCell (p := ⟨x, 8, none⟩) (fun _ => rfl) _
  ⟨h.1.far hk h.2.2.2.1 h.2.2.2.2.1, h.turn.set8 y, h.K.step hk (fun i _ e => .inr e), h.2.2.2⟩
theorem TW.set9 (h : TW W0 w0 w x g N st xs i0 i1 i2 i3 i4 i5 i6 i7 i8 i9 i10 i11 bt b age) (y : Int) : TW W0 w0 (w.setCell ⟨x, 9, none⟩ (.int .i64 y)) x g N st xs i0 i1 i2 i3 i4 i5 i6 i7 i8 y i10 i11 bt b age :=
  have hk : Kept (fun k => k = x) w (w.setCell ⟨x, 9, none⟩ (.int .i64 y)) := (Kept.refl (fun k => k = x) w).setCell (p := ⟨x, 9, none⟩) (fun _ => rfl) _
  ⟨h.1.far hk h.2.2.2.1 h.2.2.2.2.1, h.turn.set9 y, h.K.step hk (fun i _ e => .inr e), h.2.2.2⟩
theorem TW.set10 (h : TW W0 w0 w x g N st xs i0 i1 i2 i3 i4 i5 i6 i7 i8 i9 i10 i11 bt b age) (y : Int) : TW W0 w0 (w.setCell ⟨x, 10, none⟩ (.int .i64 y)) x g N st xs i0 i1 i2 i3 i4 i5 i6 i7 i8 i9 y i11 bt b age :=
  have hk : Kept (fun k => k = x) w (w.setCell ⟨x, 10, none⟩ (.int .i64 y)) := (Kept.refl (fun k => k = x) w).setCell (p := ⟨x, 10, none⟩) (fun _ => rfl) _
  ⟨h.1.far hk h.2.2.2.1 h.2.2.2.2.1, h.turn.set10 y, h.K.step hk (fun i _ e => .inr e), h.2.2.2⟩
theorem TW.set11 (h : TW W0 w0 w x g N st xs i0 i1 i2 i3 i4 i5 i6 i7 i8 i9 i10 i11 bt b age) (y : Int) : TW W0 w0 (w.setCell ⟨x, 11, none⟩ (.int .i64 y)) x g N st xs i0 i1 i2 i3 i4 i5 i6 i7 i8 i9 i10 y bt b age :=
  have hk : Kept (fun k => k = x) w (w.setCell ⟨x, 11, none⟩ (.int .i64 y)) := (Kept.refl (fun k => k = x) w).setCell (p := ⟨x, 11, none⟩) (fun _ => rfl) _
  ⟨h.1.far hk h.2.2.2.1 h.2.2.2.2.1, h.turn.set11 y, h.K.step hk (fun i _ e => .inr e), h.2.2.2⟩
end
set_option maxHeartbeats 400000 in
theorem sBy_any (W0 w0 w : World) (x : Nat) (g : Option Nat) (N st : Int) (xs : List Int) (i0 i1 i2 i3 i4 i5 i6 i7 i8 i9 i10 i11 : Int) (bt : Value) (b : Nat) (age : Int) (h : TW W0 w0 w x g N st xs i0 i1 i2 i3 i4 i5 i6 i7 i8 i9 i10 i11 bt b age) :
    Calls Try.prog 45 #[.pointer (some ⟨x, 0, none⟩)] w fun e w' => e = .returned (.tuple #[]) ∧ TW W0 w0 w' x g N st xs i0 41 i2 i3 i4 i5 i6 i6 i8 i9 i10 i11 bt b age := by
  obtain ⟨⟨c0, c1, c2, c3, c4, c5, c6, c7, c8, c9, c10, c11, c12, c13, c14⟩, hf, hx⟩ := h.turn.open
  have f1 := hf 1
  have f7 := hf 7
  have H := Lib.hid h
  clear hf h
  go_enter Try.func45, Try.ntmps45
  go_wp2
  go_end0
  exact ⟨rfl, (H.out.set7 i6).set1 41⟩
set_option maxHeartbeats 1000000 in
theorem sLoad_any (W0 w0 w : World) (x : Nat) (g : Option Nat) (N st : Int) (xs : List Int) (i0 i1 i2 i3 i4 i5 i6 i7 i8 i9 i10 i11 : Int) (bt : Value) (b : Nat) (age : Int) (a v : Int) (h : TW W0 w0 w x g N st xs i0 i1 i2 i3 i4 i5 i6 i7 i8 i9 i10 i11 bt b age) (hv : cellAt xs a = v) (s1 : st < 1000000) :
    Calls Try.prog 46 #[.pointer (some ⟨x, 0, none⟩), .int .i64 a] w fun e w' => e = .returned (.int .i64 v) ∧ TW W0 w0 w' x g N (st + cntAt xs a) xs i0 i1 i2 i3 i4 v i6 i7 i8 i9 i10 i11 bt b age := by
  obtain ⟨⟨c0, c1, c2, c3, c4, c5, c6, c7, c8, c9, c10, c11, c12, c13, c14⟩, hf, hx⟩ := h.turn.open
  have H := Lib.hid h
  have cL := Lib.hid (hv ▸ Load_f h.ms a s1)
  clear hf h hv
  go_enter Try.func46, Try.ntmps46
  go_wp2_with fail
  refine cL.out.mono ?_
  rintro e w1 ⟨rfl, m1, k1⟩
  have h1 := H.out.load m1 k1 (by have := H.out.2.2.2.2.2; have := cntAt_rng xs a; omega)
  have f5 := blkF h1.turn 5
  obtain ⟨⟨d0, d1, d2, d3, d4, d5, -⟩, -, z1⟩ := h1.turn.open
  have H1 := Lib.hid h1
  clear h1 m1 k1 c0 c1 c2 c3 c4 c5 c6 c7 c8 c9 c10 c11 c12 c13 c14
  go_wp2
  go_ret
  exact ⟨rfl, H1.out.set5 v⟩
theorem mapii_u : Try.prog.underlying 106 = some (.map 3 3) := by kernel_rfl
theorem int_zero (w : World) : (zeroValue 3).run Try.prog w = .ok (.int .i64 0) w := by kernel_rfl

end Go.Proofs.Ythdhilmmcabnlaa
