/- Cells of which one is another; what is told of cells. -/
import Derived.Test.YtnpkhkfhlpopbaaListK
import Derived.Test.YtnpkhkfhlpopbaaListQ
namespace Go.Proofs.Ytnpkhkfhlpopbaa
set_option linter.unusedSimpArgs false
set_option linter.unusedVariables false
open Go.RowKit
open Go.ChangeShapes Go.WideShapes Go.ChangeAt

set_option maxRecDepth 100000 in
set_option maxHeartbeats 1000000 in
theorem with14_f (w : World) (l : Value) (X : List Int) (p : Int) (a : Nat) (y : Int) (h : Row w l X) (ha : a < X.length) (hl : X.length ≤ 1000) (hp : p = (a : Int)) :
    Calls Try.prog 10 #[l, .int .i64 p, .int .i64 y] w fun e w' => ∃ ao cap, e = .returned (.slice ao X.length cap) ∧ Row w' (.slice ao X.length cap) (X.set a y) ∧ Below w.heap.size w w' := by
  subst hp
  obtain ⟨i0, hi, hz0, hz1, hz2⟩ := info_parts Try.info64
  have hone : ∀ u ∈ X.map (Value.int .i64), u.oneCell' = true := fun u hu => by
    obtain ⟨x, _, rfl⟩ := List.mem_map.1 hu
    rfl
  obtain ⟨ao, cap, rfl⟩ := h.shape
  go_enter Try.func10, Try.ntmps10
  go_wp2_with (at_builtin; refine wpList_append_rows _ rfl _ _ 23 rfl w.heap.size 0 2 i0 (.int .i64 0) 1 8 Try.underlying23 hi hz0 hz1 hz2 rfl (by decide) _ _ _ rfl (World.ownsRow_nil _ _ _ _) _ _ _ rfl h hone ?c3 ?c4 ?c5 ?_)
  case c3 => unfold maxLen; omega
  case c4 => omega
  case c5 => exact Nat.le_refl _
  intro v' w1 hown' hgrow _ hloc
  obtain ⟨ao', cap', rfl⟩ := ownsRow_shape hown'
  have R : Row w1 (.slice ao' X.length cap') X := Row.of hown' rfl rfl
  have B1 : Below w.heap.size w w1 := (Below.refl _ _).grown hgrow (Nat.le_refl _) (fun k hk => by cases hk)
  obtain ⟨g, c', cur, hs, hg, -, -, hc, hf⟩ := R.pos (by omega)
  cases hs
  have hgl := (World.ownsRow.lt hown' g rfl).1
  have hca := hc a ha
  have hfa := hf a
  have hX9 : (X.length : Int) ≤ 1000 := by omega
  have ha9 : (a : Int) < (X.length : Int) := by omega
  have ha0 : (0 : Int) ≤ (a : Int) := by omega
  have HR := Lib.hid (And.intro R (And.intro B1 hgl))
  clear hown' hgrow hloc R B1 hc hf hg hgl h hone
  go_wp2
  go_ret
  exact ⟨_, _, rfl, HR.out.1.set rfl a ha y, HR.out.2.1.setCell HR.out.2.2 _⟩
set_option maxRecDepth 100000 in
set_option maxHeartbeats 1000000 in
theorem sound14_f (w : World) (l : Value) (X : List Int) (s : Int) (hs : soundF X = s) (h : Sl w l X) (hn : X.length ≤ 1000) :
    Calls Try.prog 12 #[l] w fun e w' => e = .returned (.int .u16 s) ∧ Below w.heap.size w w' := by
  have H0 := Lib.hid h
  obtain ⟨ao0, cap0, rfl, -⟩ := h
  go_enter Try.func12, Try.ntmps12
  go_wp2_with fail
  refine (Memory13_f _ X _ H0.out hn).mono ?_
  rintro e w1 ⟨v, b, g, q, rfl, h, -⟩
  obtain ⟨ao1, cap1, rfl, -, -⟩ := h.rv.open
  have H := Lib.hid h.ms
  clear h
  go_wp2_with fail
  generalize hW1 : World.alloc _ _ = W1
  have B1 : Below w1.heap.size w1 W1 := by rw [← hW1]; go_grown
  have m1 := H.out.below B1
  have H1 := Lib.hid m1
  clear B1 m1 hW1 H
  refine (Sound_f _ W1 _ _ _ _ _ H1.out).mono ?_
  rintro e w2 ⟨rfl, hb⟩
  have HB := Lib.hid (H1.out.B.trans (hb.mono H1.out.B.size))
  clear hb
  rw [hs]
  go_wp2
  go_ret
  exact ⟨rfl, HB.out⟩

end Go.Proofs.Ytnpkhkfhlpopbaa
