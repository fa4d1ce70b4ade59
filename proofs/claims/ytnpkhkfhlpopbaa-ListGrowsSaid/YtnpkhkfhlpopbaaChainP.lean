/- Rows of ints that a call owns; the order and the cells that Chain lays, as functions. -/
import Derived.Test.YtnpkhkfhlpopbaaRecCells
namespace Go.Proofs.Ytnpkhkfhlpopbaa
set_option linter.unusedSimpArgs false
set_option linter.unusedVariables false
open Go.RowKit

/-- The numbers xs, owned by the slice value v of ints. -/
def IRow (w : World) (v : Value) (xs : List Int) : Prop := w.ownsRow 0 3 1 v xs.length (xs.map (Value.int .i64))
theorem IRow.kept {S : Nat → Prop} {w w' : World} {v : Value} {xs : List Int} (h : IRow w v xs) (hk : Kept S w w') (hs : ∀ g, v.ownBlock = some g → ¬ S g) : IRow w' v xs := ownsRow_kept h hk hs
theorem IRow.lt {w : World} {v : Value} {xs : List Int} (h : IRow w v xs) {g : Nat} (hg : v.ownBlock = some g) : g < w.heap.size := (World.ownsRow.lt h g hg).2
theorem IRow.alloc {w : World} {v : Value} {xs : List Int} (h : IRow w v xs) (o : Obj) : IRow (w.alloc o) v xs := World.ownsRow.alloc h o
theorem IRow.nil (w : World) : IRow w (.slice none 0 0) [] := World.ownsRow_nil w 0 3 1
theorem IRow.below {w w' : World} {v : Value} {xs : List Int} (h : IRow w v xs) (hb : Below w.heap.size w w') : IRow w' v xs :=
  h.kept (Kept.of_below (S := fun _ => False) hb (fun k h1 h2 => by omega)) (fun _ _ h => h)

theorem IRow.of {w : World} {base : Nat} {v : Value} {n : Nat} {ys : List Value} {xs : List Int} (h : w.ownsRow base 3 1 v n ys) (hn : n = xs.length) (hy : ys = xs.map (Value.int .i64)) : IRow w v xs := by
  subst hn; subst hy
  refine ⟨h.1, ?_⟩
  rcases h.2 with h2 | ⟨g, cap, cur, h2, _, r⟩
  · exact .inl h2
  · exact .inr ⟨g, cap, cur, h2, Nat.zero_le _, r⟩
/-- What a row's slice is: its length, and its cells where there is any. -/
theorem IRow.shape {w : World} {v : Value} {xs : List Int} (h : IRow w v xs) : ∃ ao cap, v = .slice ao xs.length cap := by
  rcases h.2 with ⟨rfl, h0⟩ | ⟨g, cap, cur, rfl, _⟩
  · exact ⟨none, 0, by rw [h0]⟩
  · exact ⟨_, cap, rfl⟩
theorem IRow.pos {w : World} {v : Value} {xs : List Int} (h : IRow w v xs) (hp : 0 < xs.length) : ∃ g cap cur, v = .slice (some ⟨g, 0, none⟩) xs.length cap ∧ w.heap[g]? = some (.cells cur 3 (0, 0)) ∧ cur.size = cap ∧ xs.length ≤ cap ∧
    (∀ j, j < xs.length → w.cell? ⟨g, j, none⟩ = some (.int .i64 (xs.getD j 0))) ∧ (∀ j, w.frozen? ⟨g, j, none⟩ = false) := by
  rcases h.2 with ⟨rfl, h0⟩ | ⟨g, cap, cur, rfl, _, hg, hn, _, hc, ht⟩
  · omega
  · refine ⟨g, cap, cur, rfl, hg, by simpa using hc, hn, fun j hj => ?_, fun j => by simp [World.frozen?, hg]⟩
    have h1 : (xs.map (Value.int .i64))[j]? = some (.int .i64 (xs.getD j 0)) := by
      simp [List.getElem?_map, List.getElem?_eq_getElem hj]
    have h2 := World.ownsRow.cells h (g := g) rfl j _ h1
    have ha : (⟨g, 0, none⟩ : Addr).add j = ⟨g, j, none⟩ := by unfold Addr.add; split <;> simp_all
    rw [ha] at h2
    exact h2


theorem irow_lit {w : World} {g : Nat} {vs : List Int} {n : Nat} (h : w.heap[g]? = some (.cells (vs.map (Value.int .i64)).toArray 3 (0, 0))) (hl : vs.length = n) (hn : n ≤ 100) : IRow w (.slice (some ⟨g, 0, none⟩) n n) vs := by
  subst hl
  refine ⟨by simp, .inr ⟨g, vs.length, _, rfl, Nat.zero_le _, h, Nat.le_refl _, by unfold maxLen; omega, by simp, List.take_of_length_le (by simp)⟩⟩
theorem IRow.take {w : World} {g : Nat} {cap n A : Nat} {xs : List Int} (h : IRow w (.slice (some ⟨g, 0, none⟩) n cap) xs) (hA : A ≤ xs.length) : IRow w (.slice (some ⟨g, 0, none⟩) A cap) (xs.take A) := by
  have hl : (xs.take A).length = A := by rw [List.length_take]; omega
  rcases h.2 with ⟨e, _⟩ | ⟨g', cap', cur, e, hb, hg, hn, hm, hc, ht⟩
  · cases e
  · cases e
    refine ⟨by simp, .inr ⟨g, cap, cur, by rw [hl], hb, hg, by omega, hm, hc, ?_⟩⟩
    rw [hl, Nat.mul_one, List.map_take, ← ht, Nat.mul_one, List.take_take, Nat.min_eq_left hA]
theorem IRow.cellsFrom {w : World} {g cap n : Nat} {xs : List Int} (h : IRow w (.slice (some ⟨g, 0, none⟩) n cap) xs) (A j : Nat) (u : Value) (hj : ((xs.drop A).map (Value.int .i64))[j]? = some u) : w.cell? ((⟨g, A, none⟩ : Addr).add j) = some u := by
  have ha : (⟨g, A, none⟩ : Addr).add j = ⟨g, A + j, none⟩ := by unfold Addr.add; split <;> simp_all
  have hb : (⟨g, 0, none⟩ : Addr).add (A + j) = ⟨g, A + j, none⟩ := by unfold Addr.add; split <;> simp_all
  rw [ha, ← hb]
  refine World.ownsRow.cells h (g := g) rfl (A + j) u ?_
  rw [List.map_drop, List.getElem?_drop] at hj
  exact hj
/-- Where the k-th record is laid among those ahead of it. -/
def cAt (cs : List Int) (k : Nat) : Nat := if k < cs.length then (cs.getD k 0).toNat % (k + 1) else 0
theorem cAt_le (cs : List Int) (k : Nat) : cAt cs k ≤ k := by
  unfold cAt
  split
  · have := Nat.mod_lt (cs.getD k 0).toNat (show 0 < k + 1 by omega); omega
  · omega
/-- The order of the first k records. -/
def ord (cs : List Int) : Nat → List Int
  | 0 => []
  | k + 1 => (ord cs k).take (cAt cs k) ++ [3 + 5 * (k : Int)] ++ (ord cs k).drop (cAt cs k)
theorem ord_len (cs : List Int) : ∀ k, (ord cs k).length = k
  | 0 => rfl
  | k + 1 => by
    have h := ord_len cs k
    have := cAt_le cs k
    simp only [ord, List.length_append, List.length_take, List.length_drop, List.length_cons, List.length_nil, h]
    omega
/-- Which records there are: the numbers 3 + 5 j, j below k, each once. -/
theorem ord_mem (cs : List Int) : ∀ k x, x ∈ ord cs k ↔ ∃ j : Nat, j < k ∧ x = 3 + 5 * (j : Int)
  | 0, x => by simp [ord]
  | k + 1, x => by
    have e : x ∈ ord cs (k + 1) ↔ x ∈ ord cs k ∨ x = 3 + 5 * (k : Int) := by
      conv => rhs; rw [← List.take_append_drop (cAt cs k) (ord cs k)]
      simp only [ord, List.mem_append, List.mem_singleton]
      constructor
      · rintro ((h | h) | h)
        · exact .inl (.inl h)
        · exact .inr h
        · exact .inl (.inr h)
      · rintro ((h | h) | h)
        · exact .inl (.inl h)
        · exact .inr h
        · exact .inl (.inr h)
    rw [e, ord_mem cs k x]
    constructor
    · rintro (⟨j, h1, h2⟩ | h)
      · exact ⟨j, by omega, h2⟩
      · exact ⟨k, by omega, h⟩
    · rintro ⟨j, h1, h2⟩
      by_cases hj : j = k
      · exact .inr (by rw [h2, hj])
      · exact .inl ⟨j, by omega, h2⟩
theorem ord_nodup (cs : List Int) : ∀ k, (ord cs k).Nodup
  | 0 => by simp [ord]
  | k + 1 => by
    have h := ord_nodup cs k
    have hm : (3 + 5 * (k : Int)) ∉ ord cs k := fun hx => by
      obtain ⟨j, h1, h2⟩ := (ord_mem cs k _).1 hx
      omega
    have hp : (ord cs (k + 1)).Perm ((3 + 5 * (k : Int)) :: ord cs k) := by
      simp only [ord, List.append_assoc, List.singleton_append]
      refine List.perm_middle.trans ?_
      rw [List.take_append_drop]
    exact hp.nodup_iff.2 (List.nodup_cons.2 ⟨hm, h⟩)
/-- How many records there are. -/
def nOf (cs : List Int) : Nat := if 0 < cs.length then 1 + (cs.getD 0 0).toNat % 9 else 1
theorem nOf_rng (cs : List Int) : 1 ≤ nOf cs ∧ nOf cs ≤ 9 := by unfold nOf; split <;> omega
/-- One record more is laid on the list. -/
def layStep (cs on l : List Int) (k : Nat) : List Int :=
  let a := on.getD k 0
  let l1 := if k = 0 then l.set 1 a else l.set ((on.getD (k - 1) 0).toNat + 3) a
  let l2 := l1.set (a.toNat + 1) 1
  if k < cs.length then l2.set (a.toNat + 2) (cs.getD k 0 % 60) else l2
def layN (cs on l : List Int) : Nat → List Int
  | 0 => l
  | k + 1 => layStep cs on (layN cs on l k) k
theorem layStep_len (cs on l : List Int) (k : Nat) : (layStep cs on l k).length = l.length := by
  unfold layStep
  simp only []
  repeat' split
  all_goals simp
theorem layN_len (cs on l : List Int) : ∀ k, (layN cs on l k).length = l.length
  | 0 => rfl
  | k + 1 => by rw [layN, layStep_len, layN_len cs on l k]
theorem madeCells_one (z : Value) (n : Nat) : (madeCells #[z] n).toList = List.replicate n z := by
  apply List.ext_getElem
  · simp [madeCells]
  · intro i h1 h2
    simp [madeCells, Nat.mod_one]
theorem row_made (w : World) (L : Nat) (hL : L ≤ 1000) : Row (w.alloc (.cells (madeCells #[.int .i64 0] L) 2)) (.slice (some ⟨w.heap.size, 0, none⟩) L L) (List.replicate L 0) := by
  refine ⟨by simp, .inr ⟨w.heap.size, L, _, by simp, Nat.zero_le _, heap_alloc_new _ _, by simp, by unfold maxLen; omega, by rw [size_madeCells]; omega, ?_⟩⟩
  rw [madeCells_one]
  simp
theorem row_made2 (w : World) (L : Nat) (hL : L ≤ 1000) : Row (w.alloc (.cells ((madeCells #[.int .i64 0] L).setIfInBounds 2 (.int .i64 50)) 2)) (.slice (some ⟨w.heap.size, 0, none⟩) L L) ((List.replicate L 0).set 2 50) := by
  refine ⟨by simp, .inr ⟨w.heap.size, L, _, by simp, Nat.zero_le _, heap_alloc_new _ _, by simp, by unfold maxLen; omega, by rw [Array.size_setIfInBounds, size_madeCells]; omega, ?_⟩⟩
  rw [Array.toList_setIfInBounds, madeCells_one]
  simp only [List.map_set, List.map_replicate]
  rw [List.take_of_length_le (by simp)]
/-- A number of the order: 3 + 5 q, q below n. -/
theorem ord_at (cs : List Int) {n j : Nat} (h : j < n) : ∃ an : Nat, (ord cs n).getD j 0 = (an : Int) ∧ 3 ≤ an ∧ an + 5 ≤ 3 + 5 * n := by
  have hm : (ord cs n).getD j 0 ∈ ord cs n := by
    rw [List.getD_eq_getElem?_getD, List.getElem?_eq_getElem (by rw [ord_len]; exact h)]
    exact List.getElem_mem _
  obtain ⟨q, h1, h2⟩ := (ord_mem cs n _).1 hm
  exact ⟨3 + 5 * q, by rw [h2]; simp, by omega, by omega⟩
theorem take_getD {xs : List Int} {m j : Nat} (h : j < m) : (xs.take m).getD j 0 = xs.getD j 0 := by
  rw [List.getD_eq_getElem?_getD, List.getD_eq_getElem?_getD, List.getElem?_take, if_pos h]

end Go.Proofs.Ytnpkhkfhlpopbaa
