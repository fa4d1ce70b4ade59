/- A map whose keys are integers, that a call makes and fills with new keys: what an insert and a look-up do; its block is known whole. -/
import Derived.Test.YtnpkhkfhlpopbaaBase
import Derived.Test.YtnpkhkfhlpopbaaLaws
import Derived.MapKept
import Derived.Maps.OwnOps
namespace Go.Proofs.Ytnpkhkfhlpopbaa
set_option linter.unusedSimpArgs false
set_option linter.unusedVariables false
open Go.RowKit Go.MapKept

/-- The entries, the newest first. -/
def vEs : List (Int × Value) → Array MapEntry
  | [] => #[]
  | p :: l => (vEs l).push { key := .int .i64 p.1, val := p.2, born := l.length }
/-- What stands at a key: the oldest entry's. -/
def getV : List (Int × Value) → Int → Option Value
  | [], _ => none
  | p :: l, k => match getV l k with
    | some v => some v
    | none => if p.1 = k then some p.2 else none
/-- The map at b turned to these entries. -/
def mapSet (w : World) (b : Nat) (l : List (Int × Value)) : World := { w with heap := w.heap.setIfInBounds b (.map (vEs l) l.length) }
def MapAt (w : World) (b : Nat) (l : List (Int × Value)) : Prop := w.heap[b]? = some (.map (vEs l) l.length)

theorem findNow_app2 (d : TypeDesc) (k : Value) : ∀ (a b : List MapEntry) (i : Nat), Instr.findNow d k (a ++ b) i = (match Instr.findNow d k a i with | some none => Instr.findNow d k b (i + a.length) | r => r)
  | [], b, i => by simp [Instr.findNow]
  | e :: a, b, i => by
    simp only [List.cons_append, Instr.findNow, List.length_cons]
    cases h : Instr.sameNow d k e.key with
    | none => rfl
    | some r =>
      cases r
      · simp only [findNow_app2 d k a b (i + 1)]
        rw [show i + 1 + a.length = i + (a.length + 1) by omega]
      · rfl
theorem findNow_vEs (k : Int) : ∀ l : List (Int × Value), ∃ j, Instr.findNow (.int .i64) (.int .i64 k) (vEs l).toList 0 = some ((getV l k).map fun v => (j, v))
  | [] => ⟨0, rfl⟩
  | p :: l => by
    obtain ⟨j, hj⟩ := findNow_vEs k l
    have e : (vEs (p :: l)).toList = (vEs l).toList ++ [{ key := .int .i64 p.1, val := p.2, born := l.length }] := by simp [vEs]
    rw [e, findNow_app2, hj]
    cases hg : getV l k with
    | some v => exact ⟨j, by simp [getV, hg]⟩
    | none =>
      refine ⟨0 + (vEs l).toList.length, ?_⟩
      by_cases hk : p.1 = k
      · have : (k == p.1) = true := by rw [hk]; simp
        simp [getV, hg, hk, Instr.findNow, Instr.sameNow]
      · have hk' : (k == p.1) = false := beq_eq_false_iff_ne.2 (fun e => hk e.symm)
        simp [getV, hg, hk, hk', Instr.findNow, Instr.sameNow]
theorem mapSet_heap {w : World} {b : Nat} (h : b < w.heap.size) (l : List (Int × Value)) : MapAt (mapSet w b l) b l := by
  unfold MapAt mapSet
  simp [h]
theorem mapSet_size (w : World) (b : Nat) (l : List (Int × Value)) : (mapSet w b l).heap.size = w.heap.size := by unfold mapSet; simp
theorem mapSet_kept (w : World) (b : Nat) (l : List (Int × Value)) : Kept (fun k => k = b) w (mapSet w b l) :=
  ⟨rfl, rfl, rfl, by rw [mapSet_size]; exact Nat.le_refl _, fun k hk hn => by unfold mapSet; simp only []; rw [Array.getElem?_setIfInBounds]; rw [if_neg (fun e => hn e.symm)]⟩
section
variable {P : Program} {mt kt et : TypeId} (hm : P.underlying mt = some (.map kt et)) (hk : P.underlying kt = some (.int .i64))
theorem run_makeMap_V (w : World) : (Instr.makeMap mt none).run P w = .ok (.map (some w.heap.size)) (w.alloc (.map (vEs []) 0)) := rfl
include hm hk
theorem run_insert_V (w : World) (b : Nat) (l : List (Int × Value)) (k : Int) (v : Value) (hb : MapAt w b l) (h : getV l k = none) :
    (Instr.mapUpdate mt (.map (some b)) (.int .i64 k) v).run P w = .ok () (mapSet w b ((k, v) :: l)) := by
  obtain ⟨j, hj⟩ := findNow_vEs k l
  rw [h] at hj
  have hf := run_findKey (P := P) (w := w) hk hj
  have hc : (Instr.checkKey false 10000 kt (.int .i64 k)).run P w = .ok () w := run_checkKey hk (k := .int .i64 k) rfl false 9999
  unfold Instr.mapUpdate
  simp only [Sem.run_bind, run_underlying hm, Result.andThen_ok, Go.MapKept.run_getObj_map (show w.heap[b]? = some _ from hb), hc, hf, Option.map_none, Go.MapKept.run_setObj_map _ (show w.heap[b]? = some _ from hb)]
  rfl
theorem run_lookup_V {z : Value} (he : ∀ w : World, (zeroValue et).run P w = .ok z w) (w : World) (b : Nat) (l : List (Int × Value)) (k : Int) (hb : MapAt w b l) :
    (Instr.lookup mt (.map (some b)) (.int .i64 k) false).run P w = .ok ((getV l k).getD z) w := by
  obtain ⟨j, hj⟩ := findNow_vEs k l
  have hf := run_findKey (P := P) (w := w) hk hj
  have hc : (Instr.checkKey (vEs l).isEmpty 10000 kt (.int .i64 k)).run P w = .ok () w := run_checkKey hk (k := .int .i64 k) rfl (vEs l).isEmpty 9999
  unfold Instr.lookup
  simp only [Sem.run_bind, run_underlying hm, Result.andThen_ok, Go.MapKept.run_getObj_map (show w.heap[b]? = some _ from hb), Sem.run_pure, hc, hf]
  cases getV l k <;> simp [he, Result.andThen]
theorem run_lookup_Vok {z : Value} (he : ∀ w : World, (zeroValue et).run P w = .ok z w) (w : World) (b : Nat) (l : List (Int × Value)) (k : Int) (hb : MapAt w b l) :
    (Instr.lookup mt (.map (some b)) (.int .i64 k) true).run P w = .ok (.tuple #[(getV l k).getD z, .bool (getV l k).isSome]) w := by
  obtain ⟨j, hj⟩ := findNow_vEs k l
  have hf := run_findKey (P := P) (w := w) hk hj
  have hc : (Instr.checkKey (vEs l).isEmpty 10000 kt (.int .i64 k)).run P w = .ok () w := run_checkKey hk (k := .int .i64 k) rfl (vEs l).isEmpty 9999
  unfold Instr.lookup
  simp only [Sem.run_bind, run_underlying hm, Result.andThen_ok, Go.MapKept.run_getObj_map (show w.heap[b]? = some _ from hb), Sem.run_pure, hc, hf]
  cases getV l k <;> simp [he, Result.andThen]
end

end Go.Proofs.Ytnpkhkfhlpopbaa
