/- A map from integers to integers that a call makes and fills with keys that are written out: what an insert and a look-up do. -/
import Derived.Test.YthdhilmmcabnlaaBase
import Derived.MapKept
import Derived.Maps.OwnOps
namespace Go.Proofs.Ythdhilmmcabnlaa
set_option linter.unusedSimpArgs false
set_option linter.unusedVariables false
open Go.RowKit Go.MapKept

/-- The entries, the newest first. -/
def mEs : List (Int × Int) → Array MapEntry
  | [] => #[]
  | p :: l => (mEs l).push { key := .int .i64 p.1, val := .int .i64 p.2, born := l.length }
/-- What stands at a key: the oldest entry's. -/
def getL : List (Int × Int) → Int → Option Int
  | [], _ => none
  | p :: l, k => match getL l k with
    | some v => some v
    | none => if p.1 = k then some p.2 else none
/-- The world with a new map that holds these entries. -/
def mapW (w : World) (l : List (Int × Int)) : World := w.alloc (.map (mEs l) l.length)

theorem findNow_app (d : TypeDesc) (k : Value) : ∀ (a b : List MapEntry) (i : Nat), Instr.findNow d k (a ++ b) i = (match Instr.findNow d k a i with | some none => Instr.findNow d k b (i + a.length) | r => r)
  | [], b, i => by simp [Instr.findNow]
  | e :: a, b, i => by
    simp only [List.cons_append, Instr.findNow, List.length_cons]
    cases h : Instr.sameNow d k e.key with
    | none => rfl
    | some r =>
      cases r
      · simp only [findNow_app d k a b (i + 1)]
        rw [show i + 1 + a.length = i + (a.length + 1) by omega]
      · rfl
theorem findNow_mEs (k : Int) : ∀ l : List (Int × Int), ∃ j, Instr.findNow (.int .i64) (.int .i64 k) (mEs l).toList 0 = some ((getL l k).map fun v => (j, Value.int .i64 v))
  | [] => ⟨0, rfl⟩
  | p :: l => by
    obtain ⟨j, hj⟩ := findNow_mEs k l
    have e : (mEs (p :: l)).toList = (mEs l).toList ++ [{ key := .int .i64 p.1, val := .int .i64 p.2, born := l.length }] := by simp [mEs]
    rw [e, findNow_app, hj]
    cases hg : getL l k with
    | some v => exact ⟨j, by simp [getL, hg]⟩
    | none =>
      refine ⟨0 + (mEs l).toList.length, ?_⟩
      by_cases hk : p.1 = k
      · have : (k == p.1) = true := by rw [hk]; simp
        simp [getL, hg, hk, Instr.findNow, Instr.sameNow]
      · have hk' : (k == p.1) = false := beq_eq_false_iff_ne.2 (fun e => hk e.symm)
        simp [getL, hg, hk, hk', Instr.findNow, Instr.sameNow]
theorem getL_none {k : Int} : ∀ {l : List (Int × Int)}, l.all (fun p => p.1 != k) = true → getL l k = none
  | [], _ => rfl
  | p :: l, h => by
    simp only [List.all_cons, Bool.and_eq_true, bne_iff_ne, ne_eq] at h
    simp only [getL, getL_none h.2, if_neg h.1]
theorem mapW_heap (w : World) (l : List (Int × Int)) : (mapW w l).heap[w.heap.size]? = some (.map (mEs l) l.length) := heap_alloc_new _ _
theorem mapW_set (w : World) (l l' : List (Int × Int)) : ({ mapW w l with heap := (mapW w l).heap.setIfInBounds w.heap.size (.map (mEs l') l'.length) } : World) = mapW w l' := by
  unfold mapW World.alloc
  simp only [World.mk.injEq, and_true]
  apply Array.ext
  · simp
  · intro i h1 h2
    have h3 : i < (w.heap.push (Obj.map (mEs l) l.length)).size := by simpa using h2
    rw [Array.getElem_setIfInBounds h3]
    split
    · subst_vars; simp
    · rw [Array.getElem_push, Array.getElem_push]
      split
      · rfl
      · simp at h2; omega
section
variable {P : Program} {mt kt et : TypeId} (hm : P.underlying mt = some (.map kt et)) (hk : P.underlying kt = some (.int .i64))
theorem run_makeMap_L (w : World) : (Instr.makeMap mt none).run P w = .ok (.map (some w.heap.size)) (mapW w []) := rfl
include hm hk
theorem run_insert_L (w : World) (l : List (Int × Int)) (k v : Int) (h : l.all (fun p => p.1 != k) = true) :
    (Instr.mapUpdate mt (.map (some w.heap.size)) (.int .i64 k) (.int .i64 v)).run P (mapW w l) = .ok () (mapW w ((k, v) :: l)) := by
  obtain ⟨j, hj⟩ := findNow_mEs k l
  rw [getL_none h] at hj
  have hf := run_findKey (P := P) (w := mapW w l) hk hj
  have hc : (Instr.checkKey false 10000 kt (.int .i64 k)).run P (mapW w l) = .ok () (mapW w l) := run_checkKey hk (k := .int .i64 k) rfl false 9999
  unfold Instr.mapUpdate
  simp only [Sem.run_bind, run_underlying hm, Result.andThen_ok, Go.MapKept.run_getObj_map (mapW_heap w l), hc, hf, Option.map_none, Go.MapKept.run_setObj_map _ (mapW_heap w l)]
  exact congrArg (Result.ok ()) (mapW_set w l ((k, v) :: l))
theorem run_lookup_L (he : ∀ w : World, (zeroValue et).run P w = .ok (.int .i64 0) w) (w : World) (l : List (Int × Int)) (k : Int) :
    (Instr.lookup mt (.map (some w.heap.size)) (.int .i64 k) false).run P (mapW w l) = .ok (.int .i64 ((getL l k).getD 0)) (mapW w l) := by
  obtain ⟨j, hj⟩ := findNow_mEs k l
  have hf := run_findKey (P := P) (w := mapW w l) hk hj
  have hc : (Instr.checkKey (mEs l).isEmpty 10000 kt (.int .i64 k)).run P (mapW w l) = .ok () (mapW w l) := run_checkKey hk (k := .int .i64 k) rfl (mEs l).isEmpty 9999
  unfold Instr.lookup
  simp only [Sem.run_bind, run_underlying hm, Result.andThen_ok, Go.MapKept.run_getObj_map (mapW_heap w l), Sem.run_pure, hc, hf]
  cases getL l k <;> simp [he, Result.andThen]
end
theorem mapW_below (w : World) (l : List (Int × Int)) : Below w.heap.size w (mapW w l) := (Below.refl _ _).alloc (Nat.le_refl _) _
theorem mapW_cell (w : World) (l : List (Int × Int)) {b : Nat} (h : b < w.heap.size) (j : Nat) : (mapW w l).cell? ⟨b, j, none⟩ = w.cell? ⟨b, j, none⟩ := (mapW_below w l).cell (p := ⟨b, j, none⟩) h
/-- A key that is written out, and that no entry has: found by its shape alone. -/
class NeI (a b : Int) : Prop where
  ne : a ≠ b
class Fresh (k : Int) (l : List (Int × Int)) : Prop where
  all : l.all (fun p => p.1 != k) = true
instance (k : Int) : Fresh k [] := ⟨rfl⟩
instance (k a v : Int) (l : List (Int × Int)) [h : NeI a k] [t : Fresh k l] : Fresh k ((a, v) :: l) := ⟨by
  have h1 := h.ne
  have h2 := t.all
  simp only [List.all_cons, Bool.and_eq_true, bne_iff_ne, ne_eq]
  exact ⟨h1, h2⟩⟩
instance : NeI 40 41 := ⟨by decide⟩
instance : NeI 40 42 := ⟨by decide⟩
instance : NeI 40 43 := ⟨by decide⟩
instance : NeI 41 40 := ⟨by decide⟩
instance : NeI 41 42 := ⟨by decide⟩
instance : NeI 41 43 := ⟨by decide⟩
instance : NeI 42 40 := ⟨by decide⟩
instance : NeI 42 41 := ⟨by decide⟩
instance : NeI 42 43 := ⟨by decide⟩
instance : NeI 43 40 := ⟨by decide⟩
instance : NeI 43 41 := ⟨by decide⟩
instance : NeI 43 42 := ⟨by decide⟩

end Go.Proofs.Ythdhilmmcabnlaa
