/- The chain of package list, as an iterator. -/
import Derived.Test.YtnpkhkfhlpopbaaListD
import Derived.RangeFuncNested
import Derived.RangeFuncBound
import Derived.RangeFuncCalls
import Derived.RangeFuncLeaves
import Derived.RangeFuncMany
import Derived.RangeFuncKeeps
import Derived.RangeFuncFrom
import Derived.Shelf.Abstract
import Derived.Shelf.RegionOpen
import Derived.WalkKit
import Derived.OwnWalkIn
import Derived.TacticsInMore
import Derived.LoopNIn
import Derived.LoopIn
import Derived.BigFrameIn
import Derived.Maps.AppendAt
namespace Go.Proofs.Ytnpkhkfhlpopbaa
set_option linter.unusedSimpArgs false
set_option linter.unusedVariables false
open Go.RowKit
open Go.ChangeShapes Go.WideShapes Go.ChangeAt Go.Shelf

attribute [local go_sem] Oper.semAt_some
def setE (acc : List Int) : List (Int × Value) := acc.map fun a => (a, .agg #[])
theorem getV_setE (a : Int) : ∀ acc : List Int, getV (setE acc) a = if a ∈ acc then some (.agg #[]) else none
  | [] => rfl
  | c :: acc => by
    have ih := getV_setE a acc
    simp only [setE, List.map_cons, getV] at ih ⊢
    rw [ih]
    by_cases h : a ∈ acc
    · simp [h]
    · by_cases h2 : c = a
      · subst h2; rw [if_neg h]; simp
      · have h3 : ¬ a = c := fun e => h2 e.symm
        have h4 : ¬ a ∈ c :: acc := by simp [h, h3]
        rw [if_neg h, if_neg h4]; simp [h2]
theorem setE_length (acc : List Int) : (setE acc).length = acc.length := by simp [setE]
/-- What comes: each place with 'it is a record, not met before'; the first bad one is the last. -/
def chnF (X : List Int) : Nat → List Int → Int → List (Int × Bool)
  | 0, _, _ => []
  | f + 1, acc, a => if a = 0 then [] else if nthIs X.length a = true ∧ a ∉ acc then (a, true) :: chnF X f (a :: acc) (recAt X a 3) else [(a, false)]
def chnL (X : List Int) : List (Int × Bool) := chnF X 1002 [] (cellAt X 1)
theorem nthIs_rng {n : Nat} {a : Int} (hn : n ≤ 1000) (h : nthIs n a = true) : 3 ≤ a ∧ a ≤ 1000 := by
  unfold nthIs at h
  have h := of_decide_eq_true h
  have := manyOf_rng hn
  omega
theorem unseen_cons {acc : List Int} {a : Int} (h0 : 0 ≤ a) (h1 : a ≤ 1000) (hn : a ∉ acc) : unseen (a :: acc) < unseen acc := by
  have := unseen_lt h0 h1 hn
  have e : unseen (acc ++ [a]) = unseen (a :: acc) := by
    unfold unseen
    exact congrArg List.length (List.filter_congr fun q _ => by
      have h : ((q : Int) ∉ acc ++ [a]) ↔ ((q : Int) ∉ a :: acc) := by rw [List.mem_append, List.mem_singleton, List.mem_cons]; exact not_congr or_comm
      exact decide_eq_decide.2 h)
  rw [← e]; exact this
theorem grown_of_below {w w' : World} (h : Below w.heap.size w w') : w.grownBy w' none := ⟨h.1, h.2, h.3, h.size, fun k hk _ => h.block k hk⟩
theorem grown_mapSet (w : World) (b : Nat) (l : List (Int × Value)) : w.grownBy (mapSet w b l) (some b) :=
  ⟨rfl, rfl, rfl, by rw [mapSet_size]; exact Nat.le_refl _, fun k hk hn => (mapSet_kept w b l).block k hk (fun e => hn (by rw [e]))⟩
/-- What a round of the chain keeps. -/
structure KpV (B : Nat) (ao : Option Addr) (cap M : Nat) (X : List Int) (W W' : World) : Prop where
  walks : KeepsWalks W W'
  view : VAt W B ao cap M X → VAt W' B ao cap M X
  recs : ∀ (k : Nat) (cs : Array Value), W.heap[k]? = some (.cells cs 73 (0, 0)) → W'.heap[k]? = some (.cells cs 73 (0, 0))
theorem unit_zero (w : World) : (zeroValue 104).run Try.prog w = .ok (.agg #[]) w := by kernel_rfl
def mleft (M : Nat) (w : World) : Nat := match w.heap[M]? with
  | some (.map _ k) => 1002 - k
  | _ => 0
theorem mleft_eq {w : World} {M : Nat} {l : List (Int × Value)} (h : MapAt w M l) : mleft M w = 1002 - l.length := by unfold MapAt at h; unfold mleft; rw [h]

set_option maxRecDepth 100000 in
set_option maxHeartbeats 4000000 in
theorem chain1_in (n : Nat) (hn : 1 ≤ n) (l B cap M : Nat) (ao : Option Addr) (X : List Int) (hl : X.length ≤ 1000) (J Jx : List (Int × Bool) → World → Prop) (W : World) (hJ : AbidesFrom W.heap.size J) (hV : VAt W B ao cap M X)
    (hY : ∀ pre x W1, J pre W1 → pre.length < (chnL X).length → YieldAt Fence.wide (n - 1) Try.prog l #[.int .i64 x.1, .bool x.2] W1 fun e W' =>
      (e = .returned (.bool true) ∧ J (pre ++ [x]) W' ∧ KpV B ao cap M X W1 W') ∨ (e = .returned (.bool false) ∧ Jx (pre ++ [x]) W')) (h0 : J [] W) :
    CallsIn Fence.wide n Try.prog 65 #[.func (.yield l) #[] #[], .pointer (some ⟨B, 0, none⟩)] W fun e W' => (∃ v, e = .returned v) ∧
      ((∃ ys, ys = chnL X ∧ J ys W') ∨ (∃ pre, pre <+: chnL X ∧ Jx pre W')) := by
  obtain ⟨⟨c0, c1⟩, zB⟩ := blk2v hV.bl
  have H := Lib.hid (And.intro hV h0)
  have HY := Lib.hid hY
  have HJ := Lib.hid hJ
  have qm := @run_makeMap_V Try.prog 103
  clear hV h0 hY hJ
  refine callsIn_of_wp Try.func65 rfl trivial ?_ rfl
  simp only [Try.ntmps65, List.size_toArray, List.length_cons, List.length_nil, Nat.reduceAdd, Nat.reduceSub, Array.replicate_succ, Array.replicate_zero, List.push_toArray, List.append_toArray, List.nil_append, List.cons_append]
  gi_wp2_with (refine ⟨trivial, ?_⟩; gi_at_call 43; refine (callsIn_wide.2 (at_f _ X _ 1 _ (H.out.1.sl.below (by go_grown)) hl (by omega) (by omega))).mono ?_; rintro e w1 ⟨rfl, hb1⟩)
  generalize hM : W.heap.size = G at hb1 ⊢
  have M1 : MapAt w1 G (setE []) := (hb1.block G (by simp; omega)).trans (by rw [← hM]; exact heap_alloc_new _ _)
  have B1 : Below W.heap.size W w1 := Below.trans (by go_grown) (hb1.mono (by simp))
  have J1 : J [] w1 := HJ.out [] W w1 none H.out.2 (grown_of_below B1) (fun r e => by cases e)
  have V1 := H.out.1.below B1
  have hBG : B < G := by omega
  have hMG : M < G := by have := H.out.1.mp.lt; omega
  have hsG : ∀ b off, ao = some ⟨b, off, none⟩ → 0 < X.length → b ≠ G := fun b off e hp => by
    obtain ⟨ao', cap', e1, hc⟩ := H.out.1.sl
    simp only [Value.slice.injEq] at e1
    obtain ⟨b', off', e2, e3, -⟩ := hc hp
    rw [← e1.1, e] at e2
    cases e2
    omega
  have HG := Lib.hid (And.intro hM hsG)
  have H1 := Lib.hid (And.intro M1 (And.intro J1 V1))
  clear M1 B1 J1 V1 hb1 H qm c0 c1 hsG hM zB
  generalize hA0 : cellAt X 1 = a0
  have HC := Lib.hid (show chnL X = chnF X 1002 [] a0 by rw [← hA0]; rfl)
  clear hA0
  gi_loopw [4] (fun p wr => ∃ (pre : List (Int × Bool)) (acc : List Int) (a : Int), p = .int .i64 a ∧ chnL X = pre ++ chnF X (1002 - acc.length) acc a ∧ unseen acc + acc.length ≤ 1001 ∧ MapAt wr G (setE acc) ∧ J pre wr ∧ VAt wr B ao cap M X) (fun _ wr => mleft G wr)
  case atStart => exact ⟨[], [], a0, rfl, by rw [HC.out]; rfl, by rw [unseen_nil]; exact Nat.le_refl _, H1.out⟩
  case round =>
    obtain ⟨pre, acc, a, rfl, hch, hun, hr⟩ := hrel
    obtain ⟨f, hf⟩ : ∃ f, 1002 - acc.length = f + 1 := ⟨1001 - acc.length, by omega⟩
    rw [hf] at hch
    have HR := Lib.hid (And.intro hch (And.intro hun hr))
    clear hch hun hr H1 HC
    have zG : G < wr.heap.size := HR.out.2.2.1.lt
    by_cases ha : a = 0
    · subst ha
      have e0 : chnL X = pre := by rw [HR.out.1]; simp [chnF]
      gi_wp2
      go_end0
      exact ⟨⟨_, rfl⟩, .inl ⟨pre, e0.symm, HR.out.2.2.2.1⟩⟩
    · have ha' : (a != 0) = true := by simp [ha]
      obtain ⟨t, ht⟩ : ∃ t, decide (a ∈ acc) = t := ⟨_, rfl⟩
      obtain ⟨is, his⟩ : ∃ t, nthIs X.length a = t := ⟨_, rfl⟩
      obtain ⟨⟨r0, r1⟩, zB⟩ := blk2v HR.out.2.2.2.2.bl
      obtain ⟨v0, v1, v2, v3, v4, hv, hv3⟩ : ∃ v0 v1 v2 v3 v4, recV X a = .agg #[.int .i64 v0, .int .i64 v1, .int .i64 v2, .int .i64 v3, .int .i64 v4] ∧ recAt X a 3 = v3 := ⟨_, _, _, _, _, rfl, rfl⟩
      have qs : (Instr.lookup 103 (.map (some G)) (.int .i64 a) true).run Try.prog wr = .ok (.tuple #[.agg #[], .bool t]) wr := by
        rw [run_lookup_Vok Try.underlying103 Try.underlying2 unit_zero wr G _ a HR.out.2.2.1, getV_setE, ← ht]
        by_cases h : a ∈ acc <;> simp [h]
      have qr : ∀ u : World, MapAt u M (recAll X) → (Instr.lookup 67 (.map (some M)) (.int .i64 a) true).run Try.prog u = .ok (.tuple #[.agg #[.int .i64 v0, .int .i64 v1, .int .i64 v2, .int .i64 v3, .int .i64 v4], .bool is]) u := fun u hu => by
        rw [run_lookup_Vok Try.underlying67 Try.underlying3 rec_zero u M _ a hu, getV_recD, hv, getV_all, his]
        cases is <;> simp
      have hm := HR.out.2.2.2.2.mp
      have hm1 : ∀ o, MapAt (wr.alloc o) M (recAll X) := fun o => hm.below ((Below.refl _ wr).alloc (Nat.le_refl _) o)
      rcases (show (is = false) ∨ (is = true ∧ t = true) ∨ (is = true ∧ t = false) by cases is <;> cases t <;> simp) with rfl | ⟨rfl, rfl⟩ | ⟨rfl, rfl⟩
      ·
        have e0 : chnL X = pre ++ [(a, false)] := by rw [HR.out.1]; simp only [chnF]; rw [if_neg ha, if_neg (fun h => by rw [his] at h; exact absurd h.1 (by decide))]
        gi_wp2
        generalize hWy : World.alloc (World.alloc _ _) _ = Wy
        have By : Below wr.heap.size wr Wy := by rw [← hWy]; go_grown
        have Ry : Wy.heap[wr.heap.size + 1]? = some (.cells #[.int .i64 v0, .int .i64 v1, .int .i64 v2, .int .i64 v3, .int .i64 v4] 73 (0, 0)) := by rw [← hWy]; exact alloc_at (by simp) _
        have HS := Lib.hid (And.intro (HJ.out pre wr Wy none HR.out.2.2.2.1 (grown_of_below By) (fun r e => by cases e)) (And.intro (HR.out.2.2.1.below By) (And.intro (HR.out.2.2.2.2.below By) Ry)))
        clear By Ry hWy
        obtain ⟨fn, tmps, assign, body, hy, hR⟩ := HY.out pre (a, false) Wy HS.out.1 (by rw [e0]; simp)
        dsimp only at hy
        rw [hy, Oper.uponIn_round]
        refine ⟨fun _ => hn, hR.mono ?_⟩
        rintro e W3 (⟨rfl, hJ3, hk3⟩ | ⟨rfl, hJx3⟩)
        · gi_wp2
          refine bodyPost_ret (results_none rfl _ _ _) rfl ?_
          exact ⟨⟨_, rfl⟩, .inl ⟨_, e0.symm, hJ3⟩⟩
        · gi_wp2
          refine bodyPost_ret (results_none rfl _ _ _) rfl ?_
          exact ⟨⟨_, rfl⟩, .inr ⟨_, by rw [e0]; exact List.prefix_refl _, hJx3⟩⟩
      ·
        have e0 : chnL X = pre ++ [(a, false)] := by rw [HR.out.1]; simp only [chnF]; rw [if_neg ha, if_neg (fun h => h.2 (of_decide_eq_true ht))]
        gi_wp2
        generalize hWy : World.alloc (World.alloc _ _) _ = Wy
        have By : Below wr.heap.size wr Wy := by rw [← hWy]; go_grown
        have Ry : Wy.heap[wr.heap.size + 1]? = some (.cells #[.int .i64 v0, .int .i64 v1, .int .i64 v2, .int .i64 v3, .int .i64 v4] 73 (0, 0)) := by rw [← hWy]; exact alloc_at (by simp) _
        have HS := Lib.hid (And.intro (HJ.out pre wr Wy none HR.out.2.2.2.1 (grown_of_below By) (fun r e => by cases e)) (And.intro (HR.out.2.2.1.below By) (And.intro (HR.out.2.2.2.2.below By) Ry)))
        clear By Ry hWy
        obtain ⟨fn, tmps, assign, body, hy, hR⟩ := HY.out pre (a, false) Wy HS.out.1 (by rw [e0]; simp)
        dsimp only at hy
        rw [hy, Oper.uponIn_round]
        refine ⟨fun _ => hn, hR.mono ?_⟩
        rintro e W3 (⟨rfl, hJ3, hk3⟩ | ⟨rfl, hJx3⟩)
        · gi_wp2
          refine bodyPost_ret (results_none rfl _ _ _) rfl ?_
          exact ⟨⟨_, rfl⟩, .inl ⟨_, e0.symm, hJ3⟩⟩
        · gi_wp2
          refine bodyPost_ret (results_none rfl _ _ _) rfl ?_
          exact ⟨⟨_, rfl⟩, .inr ⟨_, by rw [e0]; exact List.prefix_refl _, hJx3⟩⟩
      ·
        have hna : a ∉ acc := of_decide_eq_false ht
        have e0 : chnL X = (pre ++ [(a, true)]) ++ chnF X f (a :: acc) v3 := by rw [HR.out.1, ← hv3]; simp only [chnF]; rw [if_neg ha, if_pos ⟨his, hna⟩]; simp
        gi_wp2
        generalize hWy : World.alloc (World.alloc _ _) _ = Wy
        have By : Below wr.heap.size wr Wy := by rw [← hWy]; go_grown
        have Ry : Wy.heap[wr.heap.size + 1]? = some (.cells #[.int .i64 v0, .int .i64 v1, .int .i64 v2, .int .i64 v3, .int .i64 v4] 73 (0, 0)) := by rw [← hWy]; exact alloc_at (by simp) _
        have HS := Lib.hid (And.intro (HJ.out pre wr Wy none HR.out.2.2.2.1 (grown_of_below By) (fun r e => by cases e)) (And.intro (HR.out.2.2.1.below By) (And.intro (HR.out.2.2.2.2.below By) Ry)))
        clear By Ry hWy
        obtain ⟨fn, tmps, assign, body, hy, hR⟩ := HY.out pre (a, true) Wy HS.out.1 (by rw [e0]; simp)
        dsimp only at hy
        rw [hy, Oper.uponIn_round]
        refine ⟨fun _ => hn, hR.mono ?_⟩
        rintro e W3 (⟨rfl, hJ3, hk3⟩ | ⟨rfl, hJx3⟩)
        · have M3 : MapAt W3 G (setE acc) := hk3.walks.same G _ HS.out.2.1 rfl
          have R3 := hk3.recs _ _ HS.out.2.2.2
          have V3 := hk3.view HS.out.2.2.1
          have qi : (Instr.mapUpdate 103 (.map (some G)) (.int .i64 a) (.agg #[])).run Try.prog W3 = .ok () (mapSet W3 G (setE (a :: acc))) := run_insert_V Try.underlying103 Try.underlying2 W3 G _ _ _ M3 (by have := getV_setE a acc; rw [if_neg hna] at this; exact this)
          have Jx3 := HJ.out (pre ++ [(a, true)]) W3 (mapSet W3 G (setE (a :: acc))) (some G) hJ3 (grown_mapSet W3 G _) (fun r e => by cases e; exact ⟨by have := HG.out.1; omega, _, M3, rfl⟩)
          have K3 := mapSet_kept W3 G (setE (a :: acc))
          have M4 := mapSet_heap M3.lt (setE (a :: acc))
          have R4 := (K3.block (wr.heap.size + 1) (Array.getElem?_eq_some_iff.1 R3).1 (by omega)).trans R3
          have V4 := VAt.keptG V3 K3 (by omega) (by omega) HG.out.2
          generalize mapSet W3 G (setE (a :: acc)) = wx at qi Jx3 M4 R4 V4
          obtain ⟨⟨x0, x1, x2, x3, x4⟩, zR⟩ := blk5 R4
          have HX := Lib.hid (And.intro M4 (And.intro Jx3 V4))
          have hu2 : unseen (a :: acc) + (a :: acc).length ≤ 1001 := by
            have := unseen_cons (by have := nthIs_rng hl his; omega) (nthIs_rng hl his).2 hna
            have := HR.out.2.1
            rw [List.length_cons]; omega
          clear M3 R3 V3 K3 M4 R4 V4 Jx3 hJ3 hk3 x0 x1 x2 x4 hm hm1 qs qr
          gi_wp2
          go_roundw
          case rel => exact ⟨pre ++ [(a, true)], a :: acc, v3, rfl, by rw [e0, List.length_cons, show 1002 - (acc.length + 1) = f by omega], hu2, HX.out⟩
          case measure =>
            rw [mleft_eq HX.out.1, mleft_eq HR.out.2.2.1, setE_length, setE_length, List.length_cons]
            have := HR.out.2.1
            omega
        · gi_wp2
          refine bodyPost_ret (results_none rfl _ _ _) rfl ?_
          exact ⟨⟨_, rfl⟩, .inr ⟨_, by rw [e0]; exact List.prefix_append _ _, hJx3⟩⟩

theorem chain_f (B : Nat) (v m : Value) (w : World) : Calls Try.prog 55 #[.agg #[v, m]] w fun e w' => e = .returned (.func (.func 65) #[] #[.pointer (some ⟨w.heap.size, 0, none⟩)]) ∧ w' = w.alloc (.cells #[v, m] 69) := by
  go_enter Try.func55, Try.ntmps55
  go_wp2
  go_ret
  exact ⟨rfl, rfl⟩
theorem chain_stops (n : Nat) (hn : 1 ≤ n) (B cap M : Nat) (ao : Option Addr) (X : List Int) (hl : X.length ≤ 1000) (w : World) (hV : VAt w B ao cap M X) :
    SeqStopsK Fence.wide n Try.prog 65 #[.pointer (some ⟨B, 0, none⟩)] (fun x : Int × Bool => #[Value.int .i64 x.1, .bool x.2]) (KpV B ao cap M X) (fun ys => ys = chnL X) (fun pre => pre <+: chnL X) (chnL X).length w := fun l J Jx W hW hJ _ hY h0 =>
  chain1_in n hn l B cap M ao X hl J Jx W hJ (hV.below hW) hY h0

end Go.Proofs.Ytnpkhkfhlpopbaa
