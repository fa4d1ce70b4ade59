/- A range over a map that is known whole. -/
import Derived.Test.YtnpkhkfhlpopbaaListH
import Derived.Maps.RangeWalk
namespace Go.Proofs.Ytnpkhkfhlpopbaa
set_option linter.unusedSimpArgs false
set_option linter.unusedVariables false
open Go.RowKit
open Go.ChangeShapes Go.WideShapes Go.ChangeAt
open Go.ChangeMaps Go.MapKept Go.WideShapes

theorem vEs_mem : ∀ (l : List (Int × Value)) (e : MapEntry), e ∈ (vEs l).toList → (∃ p ∈ l, e.key = .int .i64 p.1 ∧ e.val = p.2) ∧ e.born < l.length
  | [], e, h => by simp [vEs] at h
  | p :: l, e, h => by
    have h' : e ∈ (vEs l).toList ∨ e = { key := .int .i64 p.1, val := p.2, born := l.length } := by simpa [vEs] using h
    rcases h' with h | rfl
    · obtain ⟨⟨q, hq, e1, e2⟩, e3⟩ := vEs_mem l e h
      exact ⟨⟨q, List.mem_cons_of_mem _ hq, e1, e2⟩, by rw [List.length_cons]; omega⟩
    · exact ⟨⟨p, List.mem_cons_self, rfl, rfl⟩, by rw [List.length_cons]; exact Nat.lt_succ_self _⟩
theorem vEs_nodup : ∀ l : List (Int × Value), ((vEs l).toList.map (·.born)).Nodup
  | [] => by simp [vEs]
  | p :: l => by
    have h := vEs_nodup l
    have e : (vEs (p :: l)).toList = (vEs l).toList ++ [{ key := .int .i64 p.1, val := p.2, born := l.length }] := by simp [vEs]
    rw [e, List.map_append, List.nodup_append]
    refine ⟨h, by simp, fun x hx y hy => ?_⟩
    obtain ⟨m, hm, rfl⟩ := List.mem_map.1 hx
    have := (vEs_mem l m hm).2
    simp at hy
    omega
theorem vEs_has : ∀ (l : List (Int × Value)) (p : Int × Value), p ∈ l → ∃ e ∈ (vEs l).toList, e.key = .int .i64 p.1 ∧ e.val = p.2
  | [], p, h => by cases h
  | q :: l, p, h => by
    have e : (vEs (q :: l)).toList = (vEs l).toList ++ [{ key := .int .i64 q.1, val := q.2, born := l.length }] := by simp [vEs]
    rw [e]
    rcases List.mem_cons.1 h with rfl | h
    · exact ⟨_, List.mem_append.2 (.inr (List.mem_singleton.2 rfl)), rfl, rfl⟩
    · obtain ⟨x, hx, r⟩ := vEs_has l p h
      exact ⟨x, List.mem_append.2 (.inl hx), r⟩
/-- A range over the map at M under way, from block r. -/
structure RngV (w : World) (M r : Nat) (l : List (Int × Value)) (seen : Array Nat) : Prop where
  mp : MapAt w M l
  it : ∃ c0, w.heap[r]? = some (.mapIter (some M) l.length seen c0) ∧ l.length ≤ c0
theorem RngV.lt {w : World} {M r : Nat} {l : List (Int × Value)} {seen : Array Nat} (h : RngV w M r l seen) : r < w.heap.size := by obtain ⟨c0, h, -⟩ := h.it; exact (Array.getElem?_eq_some_iff.1 h).1
theorem RngV.below {w w' : World} {M r : Nat} {l : List (Int × Value)} {seen : Array Nat} (h : RngV w M r l seen) (hb : Below w.heap.size w w') : RngV w' M r l seen := by
  have hr := h.lt
  obtain ⟨c0, h1, h2⟩ := h.it
  exact ⟨h.mp.below hb, c0, (hb.block r hr).trans h1, h2⟩
/-- What is still to come. -/
def rleft (M r : Nat) (w : World) : Nat := match w.heap[M]?, w.heap[r]? with
  | some (.map es _), some (.mapIter _ _ seen _) => (leftOf es seen).size
  | _, _ => 0
theorem RngV.left_eq {w : World} {M r : Nat} {l : List (Int × Value)} {seen : Array Nat} (h : RngV w M r l seen) : rleft M r w = (leftOf (vEs l) seen).size := by
  obtain ⟨c0, h1, -⟩ := h.it
  unfold rleft
  rw [show w.heap[M]? = _ from h.mp, h1]
section
variable {P : Program} {w : World} {M r : Nat} {l : List (Int × Value)} {seen : Array Nat}
theorem RngV.next (h : RngV w M r l seen) (ty : TypeId) :
    ((∀ x ∈ (vEs l).toList, seen.contains x.born = true) ∧ (Instr.next (.pointer (some ⟨r, 0, none⟩)) false ty).run P w = .ok (.tuple #[.bool false]) w) ∨
    ∃ e ∈ (vEs l).toList, seen.contains e.born = false ∧ ∃ w', (Instr.next (.pointer (some ⟨r, 0, none⟩)) false ty).run P w = .ok (.tuple #[.bool true, e.key, e.val]) w' ∧ RngV w' M r l (seen.push e.born) ∧
      (leftOf (vEs l) (seen.push e.born)).size < (leftOf (vEs l) seen).size ∧ w.grownBy w' (some r) ∧ w'.heap.size = w.heap.size ∧ (Instr.entry (.pointer (some ⟨r, 0, none⟩))).run P w' = .ok (.tuple #[e.key, e.val]) w' := by
  have hmp := h.mp
  obtain ⟨c0, hr, hc⟩ := h.it
  have hold : ∀ x ∈ (vEs l).toList, x.born < l.length := fun x hx => (vEs_mem l x hx).2
  have hne : r ≠ M := fun e => by rw [e, show w.heap[M]? = _ from hmp] at hr; cases hr
  rcases run_next_at (P := P) w ty r M l.length c0 seen (vEs l) l.length hr hmp hold hc with ⟨h0, hrun⟩ | ⟨e, he, w1, hal, hrun⟩
  · exact .inl ⟨fun x hx => all_seen (vEs l) seen h0 x hx, hrun⟩
  · obtain ⟨hem, hes⟩ := mem_left he
    have hr1 : w1.heap[r]? = some (.mapIter (some M) l.length seen c0) := by rcases hal with rfl | rfl <;> exact hr
    have hb1 : w1.heap[M]? = some (.map (vEs l) l.length) := by rcases hal with rfl | rfl <;> exact hmp
    have hset := heap_set (o' := .mapIter (some M) l.length (seen.push e.born) l.length) hr1
    have hb' : (setBlock w1 r (.mapIter (some M) l.length (seen.push e.born) l.length)).heap[M]? = some (.map (vEs l) l.length) := (hset.2 M (fun e1 => hne e1.symm)).trans hb1
    refine .inr ⟨e, hem, by simpa using hes, _, hrun, ⟨hb', l.length, hset.1, Nat.le_refl _⟩, left_shrinks (vEs l) seen e he, ?_, ?_, run_entry_at _ r M l.length seen (vEs l) l.length e hset.1 hb' hem (vEs_nodup l)⟩
    · rcases hal with rfl | rfl <;> exact ⟨rfl, rfl, rfl, by simp [setBlock], fun i _ hi => hset.2 i (fun e1 => hi (by rw [e1]))⟩
    · rcases hal with rfl | rfl <;> simp [setBlock]
variable (w : World) {ops : Array Oper} {rest : List Oper} {o : Oper} {a : Act} {Q : Exit → Act → World → Prop}
theorem wpList_range_V (hg : o.guard = none) (m : Operand) (t : TypeId) (hop : o.op = Op.range t m) (k e : TypeId) (ht : P.underlying t = some (.map k e)) (M : Nat) (l : List (Int × Value)) (hm : a.eval m = .map (some M)) (hmp : MapAt w M l)
    (hK : ∀ w', RngV w' M w.heap.size l #[] → Below w.heap.size w w' → w'.heap.size = w.heap.size + 1 → wpList P ops Q rest (a.put o.dst (.pointer (some ⟨w.heap.size, 0, none⟩))) w') :
    wpList P ops Q (o :: rest) a w := by
  refine wpList_plain hg fun K' hK' => ?_
  have hrun := run_range_map (P := P) w t k e M (vEs l) l.length ht hmp
  unfold Oper.wp
  simp [execOp, hop, hm, hrun, Result.andThen]
  have hB := (Below.refl w.heap.size w).alloc (Nat.le_refl _) (.mapIter (some M) l.length #[] l.length)
  exact hK' _ _ (hK _ ⟨hmp.below hB, l.length, heap_alloc_new _ _, Nat.le_refl _⟩ hB (by simp))
theorem wpList_next_V (hg : o.guard = none) (it : Operand) (hop : o.op = Op.next it false) (M r : Nat) (l : List (Int × Value)) (seen : Array Nat) (hit : a.eval it = .pointer (some ⟨r, 0, none⟩)) (h : RngV w M r l seen)
    (hDone : (∀ x ∈ (vEs l).toList, seen.contains x.born = true) → wpList P ops Q rest (a.put o.dst (.tuple #[.bool false])) w)
    (hMore : ∀ (e : MapEntry) (p : Int × Value) (w' : World), e ∈ (vEs l).toList → e.key = .int .i64 p.1 → e.val = p.2 → p ∈ l → seen.contains e.born = false → RngV w' M r l (seen.push e.born) → (leftOf (vEs l) (seen.push e.born)).size < (leftOf (vEs l) seen).size →
      w.grownBy w' (some r) → w'.heap.size = w.heap.size → (Instr.entry (.pointer (some ⟨r, 0, none⟩))).run P w' = .ok (.tuple #[.int .i64 p.1, p.2]) w' → wpList P ops Q rest (a.put o.dst (.tuple #[.bool true, .int .i64 p.1, p.2])) w') :
    wpList P ops Q (o :: rest) a w := by
  refine wpList_plain hg fun K' hK' => ?_
  unfold Oper.wp
  rcases h.next (P := P) o.type with ⟨h0, hrun⟩ | ⟨e, he, hs, w', hrun, hrg, hlt, hgr, hsz, hen⟩
  · simp [execOp, hop, hit, hrun, Result.andThen]
    exact hK' _ _ (hDone h0)
  · obtain ⟨⟨p, hp, e1, e2⟩, -⟩ := vEs_mem l e he
    rw [e1, e2] at hrun hen
    simp [execOp, hop, hit, hrun, Result.andThen]
    exact hK' _ _ (hMore e p w' he e1 e2 hp hs hrg hlt hgr hsz hen)
end

end Go.Proofs.Ytnpkhkfhlpopbaa
