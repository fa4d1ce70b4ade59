/- The closures of package list; who waits. -/
import Derived.Test.YtnpkhkfhlpopbaaListB
import Derived.Test.YtnpkhkfhlpopbaaWord
import Derived.Test.YtnpkhkfhlpopbaaBel
import Derived.Deep.RegionWith
namespace Go.Proofs.Ytnpkhkfhlpopbaa
set_option linter.unusedSimpArgs false
set_option linter.unusedVariables false
open Go.RowKit
open Go.ChangeShapes Go.WideShapes Go.ChangeAt

theorem getV_recD (X : List Int) (a : Int) : (getV (recAll X) a).getD (.agg #[.int .i64 0, .int .i64 0, .int .i64 0, .int .i64 0, .int .i64 0]) = recV X a := by
  rw [getV_all]
  cases h : nthIs X.length a
  · rw [if_neg (by simp)]
    simp only [Option.getD_none, recV, recAt, h, Bool.false_eq_true, if_false]
  · rw [if_pos rfl]; rfl
set_option maxHeartbeats 400000 in
theorem Waits_f (y0 y1 y2 y3 y4 : Int) (w : World) :
    Calls Try.prog 41 #[.agg #[.int .i64 y0, .int .i64 y1, .int .i64 y2, .int .i64 y3, .int .i64 y4]] w fun e w' => e = .returned (.bool (decide (0 < y0))) ∧ Below w.heap.size w w' := by
  go_enter Try.func41, Try.ntmps41
  go_wp2_with fail
  refine (wAsks_any y0 _).mono ?_
  rintro e w' ⟨rfl, rfl⟩
  go_wp2
  go_ret
  exact ⟨rfl, by go_grown⟩
/-- A view that lies in block B. -/
structure VAt (w : World) (B : Nat) (ao : Option Addr) (cap M : Nat) (X : List Int) : Prop where
  bl : w.heap[B]? = some (.cells #[.slice ao X.length cap, .map (some M)] 69 (0, 0))
  mp : MapAt w M (recAll X)
  sl : Sl w (.slice ao X.length cap) X
section
variable {w w' : World} {B : Nat} {ao : Option Addr} {cap M : Nat} {X : List Int}
theorem VAt.below (h : VAt w B ao cap M X) (hb : Below w.heap.size w w') : VAt w' B ao cap M X := ⟨(hb.block B (Array.getElem?_eq_some_iff.1 h.bl).1).trans h.bl, h.mp.below hb, h.sl.below hb⟩
theorem VAt.lt (h : VAt w B ao cap M X) : B < w.heap.size := (Array.getElem?_eq_some_iff.1 h.bl).1
theorem VAt.keptG {G : Nat} (h : VAt w B ao cap M X) (hk : Kept (fun k => k = G) w w') (h1 : B ≠ G) (h2 : M ≠ G) (h3 : ∀ b off, ao = some ⟨b, off, none⟩ → 0 < X.length → b ≠ G) : VAt w' B ao cap M X := by
  refine ⟨(hk.block B (Array.getElem?_eq_some_iff.1 h.bl).1 h1).trans h.bl, h.mp.kept hk h2, ?_⟩
  obtain ⟨ao', cap', e, hc⟩ := h.sl
  refine ⟨ao', cap', e, fun hp => ?_⟩
  obtain ⟨b, off, e1, e2, e3⟩ := hc hp
  simp only [Value.slice.injEq] at e
  have hb := h3 b off (e.1.trans e1) hp
  exact ⟨b, off, e1, Nat.lt_of_lt_of_le e2 hk.size, fun j hj => (hk.cell (p := ⟨b, off + j, none⟩) e2 hb).trans (e3 j hj)⟩
theorem VAt.kept {F : Nat → Prop} (h : VAt w B ao cap M X) (hk : Kept F w w') (h1 : ¬ F B) (h2 : ¬ F M) (h3 : ∀ b off, ao = some ⟨b, off, none⟩ → ¬ F b) : VAt w' B ao cap M X := by
  refine ⟨(hk.block B h.lt h1).trans h.bl, h.mp.kept hk h2, ?_⟩
  obtain ⟨ao', cap', e, hc⟩ := h.sl
  refine ⟨ao', cap', e, fun hp => ?_⟩
  obtain ⟨b, off, e1, e2, e3⟩ := hc hp
  simp only [Value.slice.injEq] at e
  have hb := h3 b off (e.1.trans e1)
  exact ⟨b, off, e1, Nat.lt_of_lt_of_le e2 hk.size, fun j hj => (hk.cell (p := ⟨b, off + j, none⟩) e2 hb).trans (e3 j hj)⟩
end
set_option maxRecDepth 100000 in
theorem Waiting1_f (w : World) (B M cap : Nat) (ao : Option Addr) (X : List Int) (a : Int) (h : VAt w B ao cap M X) :
    Calls Try.prog 40 #[.int .i64 a, .pointer (some ⟨B, 0, none⟩)] w fun e w' => e = .returned (.bool (!decide (0 < recAt X a 0))) ∧ Below w.heap.size w w' := by
  obtain ⟨⟨c0, c1⟩, zB⟩ := blk2v h.bl
  have qa : ∀ u : World, MapAt u M (recAll X) → (Instr.lookup 67 (.map (some M)) (.int .i64 a) false).run Try.prog u = .ok (recV X a) u := fun u hu => by rw [run_lookup_V Try.underlying67 Try.underlying3 rec_zero u M (recAll X) a hu, getV_recD]
  have hm := h.mp
  clear h
  go_enter Try.func40, Try.ntmps40
  go_wp2_with fail
  refine (Waits_f _ _ _ _ _ _).mono ?_
  rintro e w1 ⟨rfl, hb⟩
  go_wp2
  go_ret
  exact ⟨by first | rfl | (simp; done), hb⟩
set_option maxRecDepth 100000 in
set_option maxHeartbeats 1000000 in
theorem Waiting_f (W0 w : World) (b : Nat) (g : Option Nat) (N st : Int) (X : List Int) (h : MS W0 w b g N X st) :
    Calls Try.prog 21 #[.pointer (some ⟨b, 0, none⟩)] w fun e w' => ∃ v, e = .returned v ∧ Sl w' v ((recsL X.length).filter fun a => decide (0 < recAt X a 0)) ∧ Below w.heap.size w w' := by
  have H := Lib.hid h
  have hl := h.len
  clear h
  go_enter Try.func21, Try.ntmps21
  go_wp2_with fail
  refine (look_f W0 w b g N st X H.out).mono ?_
  rintro e w1 ⟨ao, cap, M, rfl, row1, map1, hb1⟩
  have H1 := Lib.hid (And.intro row1 (And.intro map1 hb1))
  clear row1 map1 hb1
  go_wp2_with fail
  generalize hB : w1.heap.size = B
  generalize hW2 : World.alloc _ _ = W2
  have A2 : W2.heap[B]? = some (.cells #[.slice ao X.length cap, .map (some M)] 69 (0, 0)) := by rw [← hW2]; exact alloc_at hB _
  have B2 : Below w1.heap.size w1 W2 := by rw [← hW2]; go_grown
  have V2 : VAt W2 B ao cap M X := ⟨A2, H1.out.2.1.below B2, H1.out.1.sl.below B2⟩
  have B02 : Below w.heap.size w W2 := H1.out.2.2.trans (B2.mono H1.out.2.2.size)
  have H2 := Lib.hid (And.intro V2 B02)
  have hBW : w.heap.size ≤ B := by have := H1.out.2.2.size; omega
  clear hW2 A2 B2 V2 B02 hB H1
  refine (Records_f W0 W2 b g N st X (H.out.below H2.out.2)).mono ?_
  rintro e w3 ⟨ro, rcap, rfl, rrow, rown, hb3⟩
  have V3 := H2.out.1.below hb3
  have B03 : Below w.heap.size w w3 := H2.out.2.trans (hb3.mono H2.out.2.size)
  have hrl : (recsL X.length).length ≤ 199 := by unfold recsL; rw [List.length_map, List.length_range]; have := manyOf_rng hl; omega
  by_cases h0 : (recsL X.length).length = 0
  · have e0 : recsL X.length = [] := List.eq_nil_of_length_eq_zero h0
    have HQ := Lib.hid (And.intro e0 B03)
    rw [h0] at rrow ⊢
    clear V3 rown hb3 B03 h0 e0 rrow
    go_wp2_with fail
    refine (DeleteFunc_nil_w _ ro rcap _).mono ?_
    rintro e w4 ⟨rfl, hb4⟩
    go_wp2
    go_ret
    exact ⟨_, rfl, by rw [HQ.out.1]; exact ⟨ro, rcap, rfl, fun hp => absurd hp (Nat.lt_irrefl 0)⟩, HQ.out.2.trans (hb4.mono HQ.out.2.size)⟩
  · obtain ⟨G, c9, e9, hR⟩ := rrow.rowO (by omega)
    obtain ⟨G2, c', cur, e10, -, hcs, hle, -⟩ := rrow.pos (by omega)
    simp only [Value.slice.injEq] at e9 e10
    obtain ⟨rfl, -, -⟩ := e9
    obtain ⟨-, -, rfl⟩ := e10
    have hG := rown G rfl
    have hBl := V3.lt
    have hMl := V3.mp.lt
    have h2B := H2.out.1.lt
    have h2M := H2.out.1.mp.lt
    have h2s : ∀ b off, ao = some ⟨b, off, none⟩ → 0 < X.length → b < W2.heap.size := fun b off e hp => by
      obtain ⟨ao', cap', e1, hc⟩ := H2.out.1.sl
      simp only [Value.slice.injEq] at e1
      obtain ⟨b', off', e2, e3, -⟩ := hc hp
      rw [← e1.1, e] at e2
      cases e2
      exact e3
    have HQ := Lib.hid (And.intro V3 (And.intro hR (And.intro B03 h2s)))
    clear V3 rown hb3 B03 rrow hR h2s
    go_wp2_with fail
    refine (DeleteFunc_w _ G 0 rcap (recsL X.length) (.pointer (some ⟨B, 0, none⟩)) (fun a => !decide (0 < recAt X a 0)) (fun u => VAt u B ao cap M X) (fun u x hu => Waiting1_f u B M cap ao X x hu) (fun u u' hu hb => hu.below hb) (fun u u' hu hk => VAt.keptG hu hk (by omega) (by omega) (fun b off e hp => by have := HQ.out.2.2.2 b off e hp; omega)) HQ.out.2.1 HQ.out.1 (by omega) hle (by omega)).mono ?_
    rintro e w4 ⟨i, rfl, hsl, hk⟩
    go_wp2
    go_ret
    refine ⟨_, rfl, ?_, HQ.out.2.2.1.trans (hk.below HQ.out.2.2.1.size (fun k h1 h2 => by omega))⟩
    have e : ((recsL X.length).filter fun x => !(!decide (0 < recAt X x 0))) = ((recsL X.length).filter fun a => decide (0 < recAt X a 0)) := by simp
    rw [← e]
    exact hsl

end Go.Proofs.Ytnpkhkfhlpopbaa
