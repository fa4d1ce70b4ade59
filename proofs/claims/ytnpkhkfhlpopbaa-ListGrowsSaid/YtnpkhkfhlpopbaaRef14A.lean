/- All records; who is stale: what the reference of layer 14 tells. -/
import Derived.Test.YtnpkhkfhlpopbaaTabP
import Derived.Deep.RegionHeld3
import Derived.Deep.RegionWith
import Derived.Deep.CutRange
import Derived.BigRegion
namespace Go.Proofs.Ytnpkhkfhlpopbaa
set_option linter.unusedSimpArgs false
set_option linter.unusedVariables false
open Go.RowKit
open Go.ChangeShapes Go.WideShapes Go.ChangeAt

theorem Try.infoInt3 : (Try.prog.info? 3).map (fun i => (i.zero, i.size, i.bytes)) = some (some (.int .i64 0), 1, 8) := by kernel_rfl
theorem set5h {w : World} {b : Nat} {cs : Array Value} {t : TypeId} {x0 x1 x2 x3 x4 : Value} (h : w.heap[b]? = some (.cells cs t (0, 0))) (hs : cs.size = 5) :
    (((((w.setCell ⟨b, 0, none⟩ x0).setCell ⟨b, 1, none⟩ x1).setCell ⟨b, 2, none⟩ x2).setCell ⟨b, 3, none⟩ x3).setCell ⟨b, 4, none⟩ x4).heap[b]? = some (.cells #[x0, x1, x2, x3, x4] t (0, 0)) := by
  have h1 := setFrom_heap b t [x0, x1, x2, x3, x4] w 0 cs h (by rw [hs]; rfl)
  rw [List.take_zero, List.nil_append] at h1
  exact h1
theorem kept_set5 (w : World) (b : Nat) (x0 x1 x2 x3 x4 : Value) :
    Kept (fun k => k = b) w (((((w.setCell ⟨b, 0, none⟩ x0).setCell ⟨b, 1, none⟩ x1).setCell ⟨b, 2, none⟩ x2).setCell ⟨b, 3, none⟩ x3).setCell ⟨b, 4, none⟩ x4) :=
  setFrom_kept b [x0, x1, x2, x3, x4] w 0
theorem blk5 {w : World} {b : Nat} {x0 x1 x2 x3 x4 : Value} {t : TypeId} (h : w.heap[b]? = some (.cells #[x0, x1, x2, x3, x4] t (0, 0))) : (w.cell? ⟨b, 0, none⟩ = some x0 ∧ w.cell? ⟨b, 1, none⟩ = some x1 ∧ w.cell? ⟨b, 2, none⟩ = some x2 ∧ w.cell? ⟨b, 3, none⟩ = some x3 ∧ w.cell? ⟨b, 4, none⟩ = some x4) ∧ b < w.heap.size :=
  ⟨⟨by simp [World.cell?, h], by simp [World.cell?, h], by simp [World.cell?, h], by simp [World.cell?, h], by simp [World.cell?, h]⟩, (Array.getElem?_eq_some_iff.1 h).1⟩
/-- A record, as it was told, lies in a block of its own. -/
def Lies (W : World) (y0 y1 y2 y3 y4 : Int) (v : Value) (wx : World) : Prop := ∃ r : Nat, v = .pointer (some ⟨r, 0, none⟩) ∧ W.heap.size ≤ r ∧ wx.heap[r]? = some (.cells #[.int .i64 y0, .int .i64 y1, .int .i64 y2, .int .i64 y3, .int .i64 y4] 73 (0, 0)) ∧ Below W.heap.size W wx
theorem lies_a {W w2 : World} {y0 y1 y2 y3 y4 : Int} (hz : W.heap.size ≤ w2.heap.size) (h : Below W.heap.size W (w2.alloc (.cells #[.int .i64 y0, .int .i64 y1, .int .i64 y2, .int .i64 y3, .int .i64 y4] 73 (0, 0)))) : Lies W y0 y1 y2 y3 y4 (.pointer (some ⟨w2.heap.size, 0, none⟩)) (w2.alloc (.cells #[.int .i64 y0, .int .i64 y1, .int .i64 y2, .int .i64 y3, .int .i64 y4] 73 (0, 0))) :=
  ⟨_, rfl, hz, heap_alloc_new _ _, h⟩
theorem lies_b {W w2 : World} {y0 y1 y2 y3 y4 x0 x1 x2 x3 x4 : Int} (hc : w2.heap[W.heap.size]? = some (.cells #[.int .i64 x0, .int .i64 x1, .int .i64 x2, .int .i64 x3, .int .i64 x4] 73 (0, 0))) (h : Below W.heap.size W (((((w2.setCell ⟨W.heap.size, 0, none⟩ (.int .i64 y0)).setCell ⟨W.heap.size, 1, none⟩ (.int .i64 y1)).setCell ⟨W.heap.size, 2, none⟩ (.int .i64 y2)).setCell ⟨W.heap.size, 3, none⟩ (.int .i64 y3)).setCell ⟨W.heap.size, 4, none⟩ (.int .i64 y4))) : Lies W y0 y1 y2 y3 y4 (.pointer (some ⟨W.heap.size, 0, none⟩)) (((((w2.setCell ⟨W.heap.size, 0, none⟩ (.int .i64 y0)).setCell ⟨W.heap.size, 1, none⟩ (.int .i64 y1)).setCell ⟨W.heap.size, 2, none⟩ (.int .i64 y2)).setCell ⟨W.heap.size, 3, none⟩ (.int .i64 y3)).setCell ⟨W.heap.size, 4, none⟩ (.int .i64 y4)) :=
  ⟨_, rfl, Nat.le_refl _, set5h hc rfl, h⟩
theorem alloc_drew_new (w : World) (o : Obj) : (w.alloc o).drew.heap[w.heap.size]? = some o := heap_alloc_new w o
theorem stb {W a : World} {x0 x1 x2 x3 x4 : Value} (h : Below W.heap.size W a) : Below W.heap.size W (((((a.setCell ⟨W.heap.size, 0, none⟩ x0).setCell ⟨W.heap.size, 1, none⟩ x1).setCell ⟨W.heap.size, 2, none⟩ x2).setCell ⟨W.heap.size, 3, none⟩ x3).setCell ⟨W.heap.size, 4, none⟩ x4) :=
  h.trans ((kept_set5 _ _ _ _ _ _ _).below h.size (fun k hk e => by omega))
theorem bmr {W a b : World} (h1 : Below W.heap.size W a) (h2 : Below a.heap.size a b) : Below W.heap.size W b := h1.trans (h2.mono h1.size)
theorem alr {W a : World} (h : Below W.heap.size W a) (o : Obj) : Below W.heap.size W (a.alloc o) := h.alloc h.size o
def recsK (i : Nat) : List Int := (List.range i).map fun k : Nat => 3 + 5 * (k : Int)
theorem recsK_len (i : Nat) : (recsK i).length = i := by unfold recsK; simp
theorem recsK_succ (i : Nat) : recsK (i + 1) = recsK i ++ [3 + 5 * (i : Int)] := by unfold recsK; rw [List.range_succ]; simp
set_option maxRecDepth 100000 in
set_option maxHeartbeats 4000000 in
theorem rRecords_f (w : World) (v : Value) (q : Option Nat) (N st : Int) (xs : List Int) (h : RVal w v q N xs st) (hl : xs.length ≤ 1000) :
    Calls Try.prog 46 #[v] w fun e w' => ∃ u, e = .returned u ∧ IRow w' u (recsL xs.length) ∧ Below w.heap.size w w' := by
  obtain ⟨i0, hi, hz0, hz1, hz2⟩ := info_parts Try.infoInt3
  obtain ⟨ao0, cap0, rfl, -, -⟩ := h.open
  have H := Lib.hid h
  obtain ⟨M, hM⟩ : ∃ M : Nat, manyOf xs.length = (M : Int) := ⟨(manyOf xs.length).toNat, by have := manyOf_rng hl; omega⟩
  have hM2 : M ≤ 199 := by have := manyOf_rng hl; omega
  have HM := Lib.hid hM
  clear h hM
  go_enter Try.func46, Try.ntmps46
  go_wp2
  go_loopw [3, 4] (fun l k wr => ∃ (i : Nat) (ao : Option Addr) (cap : Nat), i ≤ M ∧ l = .slice ao i cap ∧ k = .int .i64 i ∧ IRow wr (.slice ao i cap) (recsK i) ∧ wr.heap[w.heap.size]? = some (.cells #[.int .i64 N, .slice ao0 xs.length cap0, .int .i64 st] 35 (0, 0)) ∧ Below w.heap.size w wr ∧ (∀ b, (Value.slice ao i cap).ownBlock = some b → w.heap.size < b)) (fun _ k _ => M - (intOf k).toNat)
  case atStart => exact ⟨0, none, 0, Nat.zero_le _, rfl, rfl, IRow.nil _, heap_alloc_new _ _, by go_grown, fun b e => (by cases e)⟩
  case round =>
    obtain ⟨i, ao, cap, hiM, rfl, rfl, hRow, hA, hB, hO⟩ := hrel
    have z0 : w.heap.size < wr.heap.size := (Array.getElem?_eq_some_iff.1 hA).1
    obtain ⟨c0, c1, c2, -⟩ := blk3 hA
    have HR := Lib.hid (And.intro hRow (And.intro hA (And.intro hB hO)))
    have hi199 : (i : Int) ≤ 199 := by omega
    have hi0 : (0 : Int) ≤ (i : Int) := by omega
    have hm := rMany_f (H.out.below hB) hl
    rw [HM.out] at hm
    clear hRow hA hB hO
    go_wp2_with fail
    refine hm.mono ?_
    rintro e w2 ⟨rfl, hb2⟩
    have A2 := (hb2.block w.heap.size z0).trans HR.out.2.1
    have H2 := Lib.hid (And.intro hb2 A2)
    clear hm hb2 A2 c0 c1 c2
    by_cases hlt : i < M
    · have hlt' : (i : Int) < (M : Int) := by omega
      have U : ∀ u : World, Below w2.heap.size w2 u → u.ownsRow 0 3 1 (.slice ao i cap) i ((recsK i).map (Value.int .i64)) := fun u hu => by
        have := (HR.out.1.below H2.out.1).below hu
        unfold IRow at this
        rwa [recsK_len] at this
      have HU := Lib.hid U
      clear U
      go_wp2_with fail
      refine (rBase_in _ _ (by omega) (by omega)).mono ?_
      rintro e w' ⟨rfl, rfl⟩
      go_wp2_with (at_builtin; refine wpList_append_rows _ rfl _ _ 24 rfl 0 0 3 i0 (.int .i64 0) 1 8 Try.underlying24 hi hz0 hz1 hz2 rfl (by decide) _ _ _ rfl (HU.out _ (by go_grown)) _ 1 _ rfl (irow_lit (vs := [3 + 5 * (i : Int)]) (heap_alloc_new _ _) rfl (by omega)) (fun v hv => (by obtain ⟨q, _, rfl⟩ := List.mem_map.1 hv; rfl)) ?c3 ?c4 ?c5 ?_)
      try case c3 => unfold maxLen; omega
      try case c4 => omega
      try case c5 => exact Nat.zero_le _
      intro v5 w5 own5 gr5 _ loc5
      
      have R5 : IRow w5 v5 (recsK (i + 1)) := IRow.of own5 (by rw [recsK_len]) (by rw [recsK_succ]; simp)
      have hl5 : (recsK (i + 1)).length = i + 1 := recsK_len _
      obtain ⟨ao5, cap5, rfl⟩ := R5.shape
      rw [hl5] at R5
      try rw [hl5] at loc5
      try rw [hl5]
      have K5 : Kept (fun k => (Value.slice ao i cap).ownBlock = some k) w2 w5 := (((Kept.refl _ w2).alloc _)).grown gr5 (fun k e _ => e)
      have z2 : w.heap.size < w2.heap.size := (Array.getElem?_eq_some_iff.1 H2.out.2).1
      have A5 := (K5.block w.heap.size z2 (fun e => by have := HR.out.2.2.2 _ e; omega)).trans H2.out.2
      have O5 : ∀ b, (Value.slice ao5 (i + 1) cap5).ownBlock = some b → w.heap.size < b := fun b e => by
        rcases loc5 with h | h
        · exact HR.out.2.2.2 b (h ▸ e)
        · rw [e] at h; simp at h; omega
      have B5 : Below w.heap.size w w5 := HR.out.2.2.1.trans ((H2.out.1.mono HR.out.2.2.1.size).trans (K5.below (by omega) (fun k hk e => by have := HR.out.2.2.2 k e; omega)))
      have HZ := Lib.hid (And.intro R5 (And.intro A5 (And.intro B5 O5)))
      clear own5 gr5 loc5 R5 K5 A5 O5 B5 hl5
      go_wp2
      go_roundw
      case rel => exact ⟨i + 1, ao5, cap5, by omega, rfl, by go_num, HZ.out.1, HZ.out.2.1, HZ.out.2.2.1, HZ.out.2.2.2⟩
      case measure => simp [intOf]; omega
    · obtain rfl : i = M := by omega
      go_wp2
      go_ret
      exact ⟨_, rfl, by rw [show recsL xs.length = recsK i from by unfold recsL recsK; rw [HM.out, Int.toNat_natCast]]; exact HR.out.1.below H2.out.1, HR.out.2.2.1.trans (H2.out.1.mono HR.out.2.2.1.size)⟩

end Go.Proofs.Ytnpkhkfhlpopbaa
