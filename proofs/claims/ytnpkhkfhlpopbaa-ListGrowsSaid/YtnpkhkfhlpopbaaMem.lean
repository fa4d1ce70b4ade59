/- The memory of cells as it lies in the heap: a block of three cells and a row of numbers; what keeps it and what turns it. -/
import Derived.Test.YtnpkhkfhlpopbaaBase
import Derived.Test.YtnpkhkfhlpopbaaLaws
import Derived.WalkSpells
import Derived.WalkLawsBesides
import Derived.Handy
import Derived.KernelRfl
namespace Go.Proofs.Ytnpkhkfhlpopbaa
set_option linter.unusedSimpArgs false
set_option linter.unusedVariables false
open Go.RowKit

/-- The numbers xs, owned by the slice value v. -/
def Row (w : World) (v : Value) (xs : List Int) : Prop := w.ownsRow 0 2 1 v xs.length (xs.map (Value.int .i64))

/-- A memory at block b: its size n, its cells xs (in block g, if any), its steps st. -/
def MemIs (w : World) (b : Nat) (g : Option Nat) (n : Int) (xs : List Int) (st : Int) : Prop :=
  ∃ v, w.heap[b]? = some (.cells #[.int .i64 n, v, .int .i64 st] 88 (0, 0)) ∧ v.ownBlock = g ∧ Row w v xs

theorem Row.kept {S : Nat → Prop} {w w' : World} {v : Value} {xs : List Int} (h : Row w v xs) (hk : Kept S w w') (hs : ∀ g, v.ownBlock = some g → ¬ S g) : Row w' v xs := ownsRow_kept h hk hs
theorem Row.lt {w : World} {v : Value} {xs : List Int} (h : Row w v xs) {g : Nat} (hg : v.ownBlock = some g) : g < w.heap.size := (World.ownsRow.lt h g hg).2
theorem Row.alloc {w : World} {v : Value} {xs : List Int} (h : Row w v xs) (o : Obj) : Row (w.alloc o) v xs := World.ownsRow.alloc h o
theorem Row.nil (w : World) : Row w (.slice none 0 0) [] := World.ownsRow_nil w 0 2 1
theorem Row.below {w w' : World} {v : Value} {xs : List Int} (h : Row w v xs) (hb : Below w.heap.size w w') : Row w' v xs :=
  h.kept (Kept.of_below (S := fun _ => False) hb (fun k h1 h2 => by omega)) (fun _ _ h => h)

theorem Row.of {w : World} {base : Nat} {v : Value} {n : Nat} {ys : List Value} {xs : List Int} (h : w.ownsRow base 2 1 v n ys) (hn : n = xs.length) (hy : ys = xs.map (Value.int .i64)) : Row w v xs := by
  subst hn; subst hy
  refine ⟨h.1, ?_⟩
  rcases h.2 with h2 | ⟨g, cap, cur, h2, _, r⟩
  · exact .inl h2
  · exact .inr ⟨g, cap, cur, h2, Nat.zero_le _, r⟩
/-- What a row's slice is: its length, and its cells where there is any. -/
theorem Row.shape {w : World} {v : Value} {xs : List Int} (h : Row w v xs) : ∃ ao cap, v = .slice ao xs.length cap := by
  rcases h.2 with ⟨rfl, h0⟩ | ⟨g, cap, cur, rfl, _⟩
  · exact ⟨none, 0, by rw [h0]⟩
  · exact ⟨_, cap, rfl⟩
theorem Row.pos {w : World} {v : Value} {xs : List Int} (h : Row w v xs) (hp : 0 < xs.length) : ∃ g cap cur, v = .slice (some ⟨g, 0, none⟩) xs.length cap ∧ w.heap[g]? = some (.cells cur 2 (0, 0)) ∧ cur.size = cap ∧ xs.length ≤ cap ∧
    (∀ j, j < xs.length → w.cell? ⟨g, j, none⟩ = some (.int .i64 (xs.getD j 0))) ∧ (∀ j, w.frozen? ⟨g, j, none⟩ = false) := by
  rcases h.2 with ⟨rfl, h0⟩ | ⟨g, cap, cur, rfl, _, hg, hn, _, hc, ht⟩
  · omega
  · refine ⟨g, cap, cur, rfl, hg, by simpa using hc, hn, fun j hj => ?_, fun j => by simp [World.frozen?, hg]⟩
    have h1 : (xs.map (Value.int .i64))[j]? = some (.int .i64 (xs.getD j 0)) := by
      simp [List.getElem?_map, List.getElem?_eq_getElem hj]
    have h2 := World.ownsRow.cells h (g := g) rfl j _ h1
    have ha : (⟨g, 0, none⟩ : Addr).add j = ⟨g, j, none⟩ := by unfold Addr.add; split <;> simp_all
    rw [ha] at h2
    exact h2

theorem MemIs.lt {w : World} {b : Nat} {g : Option Nat} {n : Int} {xs : List Int} {st : Int} (h : MemIs w b g n xs st) : b < w.heap.size := by
  obtain ⟨v, hb, _⟩ := h
  exact (Array.getElem?_eq_some_iff.1 hb).1
theorem MemIs.row_lt {w : World} {b k : Nat} {n : Int} {xs : List Int} {st : Int} (h : MemIs w b (some k) n xs st) : k < w.heap.size := by
  obtain ⟨v, hb, hg, hr⟩ := h
  exact hr.lt hg
theorem MemIs.ne {w : World} {b : Nat} {n : Int} {xs : List Int} {st : Int} (h : MemIs w b (some b) n xs st) : False := by
  obtain ⟨v, hb, hg, hr⟩ := h
  rcases hr.2 with ⟨rfl, _⟩ | ⟨g', cap, cur, rfl, _, hgg, _⟩
  · cases hg
  · simp only [Value.ownBlock, Option.some.injEq] at hg
    subst hg
    rw [hb] at hgg
    simp at hgg
theorem MemIs.kept {S : Nat → Prop} {w w' : World} {b : Nat} {g : Option Nat} {n : Int} {xs : List Int} {st : Int} (h : MemIs w b g n xs st) (hk : Kept S w w') (hb : ¬ S b) (hg : ∀ k, g = some k → ¬ S k) : MemIs w' b g n xs st := by
  have hl := h.lt
  obtain ⟨v, h1, h2, h3⟩ := h
  exact ⟨v, (hk.block b hl hb).trans h1, h2, h3.kept hk (fun k e => hg k (h2 ▸ e))⟩
theorem MemIs.below {w w' : World} {b : Nat} {g : Option Nat} {n : Int} {xs : List Int} {st : Int} (h : MemIs w b g n xs st) (hb : Below w.heap.size w w') : MemIs w' b g n xs st :=
  h.kept (Kept.of_below (S := fun _ => False) hb (fun k h1 h2 => by omega)) (fun h => h) (fun _ _ h => h)
theorem MemIs.alloc {w : World} {b : Nat} {g : Option Nat} {n : Int} {xs : List Int} {st : Int} (h : MemIs w b g n xs st) (o : Obj) : MemIs (w.alloc o) b g n xs st :=
  h.below ((Below.refl _ _).alloc (Nat.le_refl _) o)
theorem heap_setCell_self {w : World} {b : Nat} {cs : Array Value} {t : TypeId} {fr : Nat × Nat} (h : w.heap[b]? = some (.cells cs t fr)) (j : Nat) (u : Value) : (w.setCell ⟨b, j, none⟩ u).heap[b]? = some (.cells (cs.setIfInBounds j u) t fr) := by
  have hlt := (Array.getElem?_eq_some_iff.1 h).1
  have hv := (Array.getElem?_eq_some_iff.1 h).2
  simp only [World.setCell]
  rw [Array.getElem?_eq_getElem (by simpa using hlt), Array.getElem_modify]
  simp [hv]
theorem kept_setCell (w : World) (a : Addr) (u : Value) : Kept (fun k => k = a.block) w (w.setCell a u) := (Kept.refl (fun k => k = a.block) w).setCell (p := a) (fun _ => rfl) u
theorem MemIs.setSteps {w : World} {b : Nat} {g : Option Nat} {n : Int} {xs : List Int} {st : Int} (h : MemIs w b g n xs st) (st' : Int) : MemIs (w.setCell ⟨b, 2, none⟩ (.int .i64 st')) b g n xs st' := by
  have hne : ∀ k, g = some k → k ≠ b := fun k e e' => by subst e; subst e'; exact h.ne
  obtain ⟨v, h1, h2, h3⟩ := h
  refine ⟨v, by rw [heap_setCell_self h1]; rfl, h2, h3.kept (kept_setCell w _ _) (fun k e => hne k (h2 ▸ e))⟩
theorem Row.set {w : World} {v : Value} {xs : List Int} {k : Nat} (h : Row w v xs) (hk : v.ownBlock = some k) (j : Nat) (hj : j < xs.length) (x : Int) : Row (w.setCell ⟨k, j, none⟩ (.int .i64 x)) v (xs.set j x) := by
  rcases h.2 with ⟨rfl, _⟩ | ⟨g, cap, cur, rfl, hb, hg, hn, hm, hc, ht⟩
  · cases hk
  · simp only [Value.ownBlock, Option.some.injEq] at hk
    subst hk
    refine ⟨by simp, .inr ⟨g, cap, _, by simp, hb, heap_setCell_self hg j _, by simpa using hn, hm, by simpa using hc, ?_⟩⟩
    have hs : j < cur.size := by omega
    simp only [List.length_set, Nat.mul_one, Array.toList_setIfInBounds, List.map_set] at ht ⊢
    rw [List.take_set, ht]
theorem MemIs.setCell {w : World} {b k : Nat} {n : Int} {xs : List Int} {st : Int} (h : MemIs w b (some k) n xs st) (j : Nat) (hj : j < xs.length) (x : Int) : MemIs (w.setCell ⟨k, j, none⟩ (.int .i64 x)) b (some k) n (xs.set j x) st := by
  have hne : b ≠ k := fun e => by subst e; exact h.ne
  have hl := h.lt
  obtain ⟨v, h1, h2, h3⟩ := h
  exact ⟨v, ((kept_setCell w _ _).block b hl hne).trans h1, h2, h3.set h2 j hj x⟩

/-- What the walks ask of a memory's block. -/
theorem MemIs.open {w : World} {b : Nat} {g : Option Nat} {n : Int} {xs : List Int} {st : Int} (h : MemIs w b g n xs st) : ∃ ao cap, w.heap[b]? = some (.cells #[.int .i64 n, .slice ao xs.length cap, .int .i64 st] 88 (0, 0)) ∧ (Value.slice ao xs.length cap).ownBlock = g ∧ Row w (.slice ao xs.length cap) xs := by
  obtain ⟨v, h1, h2, h3⟩ := h
  obtain ⟨ao, cap, rfl⟩ := h3.shape
  exact ⟨ao, cap, h1, h2, h3⟩
theorem MemIs.open_pos {w : World} {b : Nat} {g : Option Nat} {n : Int} {xs : List Int} {st : Int} (h : MemIs w b g n xs st) (hp : 0 < xs.length) : ∃ k cap, g = some k ∧ w.heap[b]? = some (.cells #[.int .i64 n, .slice (some ⟨k, 0, none⟩) xs.length cap, .int .i64 st] 88 (0, 0)) ∧
    k < w.heap.size ∧ b ≠ k ∧ (∀ j, j < xs.length → w.cell? ⟨k, j, none⟩ = some (.int .i64 (xs.getD j 0))) ∧ (∀ j, w.frozen? ⟨k, j, none⟩ = false) := by
  have h0 := h
  obtain ⟨v, h1, h2, h3⟩ := h
  obtain ⟨k, cap, cur, rfl, hg, _, _, hc, hf⟩ := h3.pos hp
  simp only [Value.ownBlock] at h2
  subst h2
  exact ⟨k, cap, rfl, h1, (Array.getElem?_eq_some_iff.1 hg).1, fun e => by subst e; exact h0.ne, hc, hf⟩
theorem blk3 {w : World} {b : Nat} {x y z : Value} {t : TypeId} (h : w.heap[b]? = some (.cells #[x, y, z] t (0, 0))) : w.cell? ⟨b, 0, none⟩ = some x ∧ w.cell? ⟨b, 1, none⟩ = some y ∧ w.cell? ⟨b, 2, none⟩ = some z ∧ w.frozen? ⟨b, 0, none⟩ = false ∧ w.frozen? ⟨b, 1, none⟩ = false ∧ w.frozen? ⟨b, 2, none⟩ = false ∧ b < w.heap.size :=
  ⟨by simp [World.cell?, h], by simp [World.cell?, h], by simp [World.cell?, h], by simp [World.frozen?, h], by simp [World.frozen?, h], by simp [World.frozen?, h], (Array.getElem?_eq_some_iff.1 h).1⟩

end Go.Proofs.Ytnpkhkfhlpopbaa
