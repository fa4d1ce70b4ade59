/- look of package list: a copy of the cells, and a map of all records. -/
import Derived.Test.YtnpkhkfhlpopbaaLookP
import Derived.Deep.RegionWith
import Derived.Deep.CutRange
import Derived.BigRegion
namespace Go.Proofs.Ytnpkhkfhlpopbaa
set_option linter.unusedSimpArgs false
set_option linter.unusedVariables false
open Go.RowKit
open Go.ChangeShapes Go.WideShapes Go.ChangeAt

theorem rec_zero (w : World) : (zeroValue 73).run Try.prog w = .ok (.agg #[.int .i64 0, .int .i64 0, .int .i64 0, .int .i64 0, .int .i64 0]) w := by kernel_rfl
set_option maxRecDepth 100000 in
set_option maxHeartbeats 4000000 in
theorem look_f (W0 w : World) (b : Nat) (g : Option Nat) (N st : Int) (X : List Int) (h : MS W0 w b g N X st) :
    Calls Try.prog 34 #[.pointer (some ⟨b, 0, none⟩)] w fun e w' => ∃ ao cap M, e = .returned (.agg #[.slice ao X.length cap, .map (some M)]) ∧ Row w' (.slice ao X.length cap) X ∧ MapAt w' M (recAll X) ∧ Below w.heap.size w w' := by
  have hl := h.len
  have hm := manyOf_rng hl
  obtain ⟨m, hmm⟩ : ∃ m, (manyOf X.length).toNat = m := ⟨_, rfl⟩
  have hmm2 : manyOf X.length = (m : Int) := by omega
  have hm9 : m ≤ 199 := by omega
  have HM := Lib.hid (And.intro hmm hmm2)
  have H := Lib.hid h
  have q1 := @run_makeMap_V Try.prog 67
  clear h hmm hmm2 hm
  go_enter Try.func34, Try.ntmps34
  go_wp2_with fail
  refine (Cells_ms (H.out.below (by go_grown))).mono ?_
  rintro e w1 ⟨ao, cap, rfl, m1, row1, hb1, own1⟩
  have HGW : ∀ k, (Value.slice ao X.length cap).ownBlock = some k → w.heap.size < k := fun k e => by have := own1 k e; simp at this; omega
  clear own1
  have B1 : Below w.heap.size w w1 := Below.trans (by go_grown) (hb1.mono (by simp))
  have R1 : w1.heap[w.heap.size]? = some (.cells #[.slice none 0 0, .map none] 69 (0, 0)) := (hb1.block w.heap.size (by simp)).trans (heap_alloc_new _ _)
  have zw1 : w.heap.size < w1.heap.size := (Array.getElem?_eq_some_iff.1 R1).1
  have H1 := Lib.hid (And.intro m1 (And.intro row1 (And.intro B1 R1)))
  clear m1 row1 B1 R1 hb1
  go_wp2_with fail
  generalize hM : w1.heap.size = M
  generalize hW2 : World.alloc _ _ = W2
  have A2 : MapAt W2 M (recEnts X 0) ∧ W2.heap[M + 1]? = some (.cells #[.slice ao X.length cap, .map (some M)] 69 (0, 0)) := by
    rw [← hW2]
    exact ⟨(Below.heap_alloc _ _ _ (by simp; omega)).trans (by rw [← hM]; exact heap_alloc_new _ _), by rw [← hM]; exact alloc_at (by simp) _⟩
  have B2 : Below w1.heap.size w1 W2 := by rw [← hW2]; go_grown
  have H2 := Lib.hid (And.intro (H1.out.1.below B2) (And.intro (H1.out.2.1.below B2) (And.intro (H1.out.2.2.1.trans (B2.mono H1.out.2.2.1.size)) (And.intro ((B2.block w.heap.size zw1).trans H1.out.2.2.2) A2))))
  have hMr : w1.heap.size ≤ M := by omega
  have hMf : ¬ Foot b g M := H1.out.1.past M (by omega)
  have HG := Lib.hid (fun k (e : (Value.slice ao X.length cap).ownBlock = some k) => HGW k e : ∀ k, (Value.slice ao X.length cap).ownBlock = some k → w.heap.size < k)
  have HF := Lib.hid (And.intro hMf (fun k (e : (Value.slice ao X.length cap).ownBlock = some k) => by have := H1.out.2.1.lt e; omega : ∀ k, (Value.slice ao X.length cap).ownBlock = some k → k ≠ M))
  clear hW2 B2 A2 q1 hM H1 hMf HGW
  refine (Many_ms H2.out.1).mono ?_
  rintro e w3 ⟨rfl, m3, hb3⟩
  rw [HM.out.2]
  have H3 := Lib.hid (And.intro m3 (And.intro (H2.out.2.1.below hb3) (And.intro (H2.out.2.2.1.trans (hb3.mono H2.out.2.2.1.size)) (And.intro ((hb3.block w.heap.size (Array.getElem?_eq_some_iff.1 H2.out.2.2.2.1).1).trans H2.out.2.2.2.1) (And.intro (H2.out.2.2.2.2.1.below hb3) ((hb3.block (M + 1) (Array.getElem?_eq_some_iff.1 H2.out.2.2.2.2.2).1).trans H2.out.2.2.2.2.2))))))
  clear H2 m3 hb3
  go_wp2_with fail
  go_loopw [12] (fun k wr => ∃ i : Nat, i ≤ m ∧ k = .int .i64 i ∧ MS W0 wr b g N X st ∧ Row wr (.slice ao X.length cap) X ∧ Below w.heap.size w wr ∧ wr.heap[w.heap.size]? = some (.cells #[.slice none 0 0, .map none] 69 (0, 0)) ∧ MapAt wr M (recEnts X i) ∧ wr.heap[M + 1]? = some (.cells #[.slice ao X.length cap, .map (some M)] 69 (0, 0))) (fun k _ => m - (intOf k).toNat)
  case atStart => exact ⟨0, Nat.zero_le _, rfl, H3.out⟩
  case round =>
    obtain ⟨i, hi, rfl, hr⟩ := hrel
    have zi : (0 : Int) ≤ (i : Int) := by omega
    have hi' : (i : Int) ≤ (m : Int) := by omega
    have HR := Lib.hid hr
    clear hr
    have zM := HR.out.2.2.2.2.1.lt
    have zM1 : M + 1 < wr.heap.size := (Array.getElem?_eq_some_iff.1 HR.out.2.2.2.2.2).1
    have zw : w.heap.size < wr.heap.size := (Array.getElem?_eq_some_iff.1 HR.out.2.2.2.1).1
    obtain ⟨⟨v0, v1⟩, -⟩ := blk2v HR.out.2.2.2.2.2
    by_cases hlt : i < m
    · have hlt' : (i : Int) < (m : Int) := by omega
      go_wp2_with fail
      refine (Base_f _ _).mono ?_
      rintro e w' ⟨rfl, rfl⟩
      rw [if_neg (by omega)]
      go_upto_region 6 with fail
      have qi : ∀ u : World, MapAt u M (recEnts X i) → (Instr.mapUpdate 67 (.map (some M)) (.int .i64 (3 + 5 * (i : Int))) (recV X (3 + 5 * (i : Int)))).run Try.prog u = .ok () (mapSet u M (recEnts X (i + 1))) := fun u hu => run_insert_V Try.underlying67 Try.underlying3 u M _ _ _ hu (by rw [getV_rec, if_neg (by omega)])
      have cv := fun (u : World) (hu : Below wr.heap.size wr u) => (hu.cell (p := ⟨M + 1, 1, none⟩) zM1).trans v1
      go_region_with (go_at_call 54; refine Go.Calls.mono (See_f (HR.out.1.below (show Below wr.heap.size wr _ from (Below.refl _ _).drew)) _ (by omega)) ?_; rintro e u ⟨rfl, mu, hbu⟩; have Bu : Below wr.heap.size wr u := (Below.refl _ _).drew.trans hbu; have hu := HR.out.2.2.2.2.1.below Bu; have cu := cv u Bu; have HU := Lib.hid (And.intro mu Bu); clear mu hbu Bu)
      all_goals
        have K := (keptF (F := fun k => k = M) HU.out.2).trans (mapSet_kept u M (recEnts X (i + 1)))
        have mx := HU.out.1.kept (mapSet_kept u M (recEnts X (i + 1))) (HU.out.1.B.trans ((mapSet_kept u M (recEnts X (i + 1))).below HU.out.1.B.size (fun k hk e => by have := H.out.B.size; omega))) (fun e => HF.out.1 (.inl e.symm)) (fun k e e2 => HF.out.1 (.inr (by rw [e, e2])))
        have HX := Lib.hid (And.intro mx (And.intro (HR.out.2.1.kept K (fun k e => HF.out.2 k e)) (And.intro (HR.out.2.2.1.trans (K.below HR.out.2.2.1.size (fun k hk e => by omega))) (And.intro ((K.block w.heap.size zw (by omega)).trans HR.out.2.2.2.1) (And.intro (mapSet_heap hu.lt (recEnts X (i + 1))) ((K.block (M + 1) zM1 (by omega)).trans HR.out.2.2.2.2.2))))))
        clear mx K v0 v1 qi cv cu hu
        generalize mapSet u M (recEnts X (i + 1)) = wx at HX ⊢
        go_wp2_with fail
        go_roundw
        case rel => exact ⟨i + 1, by omega, by go_num, HX.out⟩
        case measure => simp [intOf]; omega
    · obtain rfl : i = m := by omega
      have rf0 : wr.frozen? ⟨w.heap.size, 0, none⟩ = false := by simp [World.frozen?, HR.out.2.2.2.1]
      have rf1 : wr.frozen? ⟨w.heap.size, 1, none⟩ = false := by simp [World.frozen?, HR.out.2.2.2.1]
      obtain ⟨⟨x0, x1⟩, -⟩ := blk2v HR.out.2.2.2.1
      go_wp2
      have KW := ((Kept.refl (fun k => k = w.heap.size) wr).setCell (p := ⟨w.heap.size, 0, none⟩) (fun _ => rfl) (.slice ao X.length cap)).setCell (p := ⟨w.heap.size, 1, none⟩) (fun _ => rfl) (.map (some M))
      have hne : M ≠ w.heap.size := by omega
      refine bodyPost_ret (v := .agg #[.slice ao X.length cap, .map (some M)]) (by simp [results, Try.results34, go_sem, x0, x1, zw]) rfl ⟨ao, cap, M, rfl, ?_, ?_, ?_⟩
      · exact HR.out.2.1.kept KW (fun k e e2 => by have := HG.out k e; omega)
      · unfold recAll; rw [HM.out.1]; exact HR.out.2.2.2.2.1.kept KW hne
      · exact HR.out.2.2.1.trans (KW.below HR.out.2.2.1.size (fun k hk e => by omega))

end Go.Proofs.Ytnpkhkfhlpopbaa
