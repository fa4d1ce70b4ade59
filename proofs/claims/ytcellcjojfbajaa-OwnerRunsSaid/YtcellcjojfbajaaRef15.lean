/- What a step of the reference of layer 15 does, as a function: the same as package owner's. -/
import Derived.Test.YtcellcjojfbajaaOw
import Derived.Test.YtcellcjojfbajaaRef15B
import Derived.Test.YtcellcjojfbajaaRef15C
import Derived.Test.YtcellcjojfbajaaRef15D
import Derived.Test.YtcellcjojfbajaaRef15E
namespace Go.Proofs.Ytcellcjojfbajaa
set_option linter.unusedSimpArgs false
set_option linter.unusedVariables false
open Go.RowKit
open Go.ChangeShapes Go.WideShapes Go.ChangeAt

set_option maxHeartbeats 4000000 in
theorem rStep15_f (w : World) (v : Value) (q : Option Nat) (N st : Int) (xs : List Int) (t : Th) (bo : Option Addr) (bn bc : Nat) (h : RVal w v q N xs st) (hn : xs.length ≤ 1000000) (s0 : 0 ≤ st) (s1 : st < 1000000) (n0 : 0 ≤ N) (n1 : N ≤ 1000) (n2 : (xs.length : Int) ≤ N) (hr : -9223372036854775808 ≤ t.i2 ∧ t.i2 ≤ 9223372036854775807) :
    Calls Try.prog 21 #[v, thV t (.slice bo bn bc)] w fun e w' => ∃ v' q', e = .returned (.tuple #[v', thV (owT N xs t) (.slice bo bn bc), .agg #[.int .u8 (owK xs t), .int .i32 (owV xs t)], .bool (decide (t.i1 = 14))]) ∧ RVal w' v' q' N (owX N xs t) (st + owC N xs t) ∧ (q' = q ∨ ∀ k, q' = some k → w.heap.size ≤ k) ∧ Below w.heap.size w w' := by
  obtain ⟨i0, i1, i2, i3, i4, i5, i6, i7, i8, i9, i10, i11⟩ := t
  obtain ⟨r1, r2⟩ := hr
  by_cases h1 : i1 = 1
  · subst h1
    cases hok : allocOk xs N 5
    · have := rStep15_p w v q N st xs i0 1 i2 i3 i4 i5 i6 i7 i8 i9 i10 i11 i0 1 i2 i3 i4 i5 i6 i7 i8 i9 i10 i11 _ bo bn bc h _ (by omega) (by omega) (fun u hb => rPub1b u v q N st xs i0 i2 i3 i4 i5 i6 i7 i8 i9 i10 i11 bo bn bc (h.below hb) hn s0 s1 r1 r2 n0 n1 n2 hok)
      simpa [thV, owT, owX, owC, owA, owK, owV, hok] using this
    · have := rStep15_p w v q N st xs i0 1 i2 i3 i4 i5 i6 i7 i8 i9 i10 i11 i0 2 xs.length i3 i4 i5 i6 i7 i8 i9 i10 i11 _ bo bn bc h _ (by omega) (by omega) (fun u hb => rPub1a u v q N st xs i0 i2 i3 i4 i5 i6 i7 i8 i9 i10 i11 bo bn bc (h.below hb) hn s0 s1 r1 r2 n0 n1 n2 hok)
      simpa [thV, owT, owX, owC, owA, owK, owV, hok] using this
  by_cases h2 : i1 = 2
  · subst h2
    have := rStep15_p w v q N st xs i0 2 i2 i3 i4 i5 i6 i7 i8 i9 i10 i11 i0 _ i2 i3 i4 i5 i6 i7 i8 i9 i10 i11 _ bo bn bc h _ (by omega) (by omega) (fun u hb => rPub2 u v q N st xs i0 i2 i3 i4 i5 i6 i7 i8 i9 i10 i11 bo bn bc (h.below hb) hn s0 s1 r1 r2 _ rfl)
    simpa [thV, owT, owX, owC, owA, owK, owV] using this
  by_cases h3 : i1 = 3
  · subst h3
    have := rStep15_p w v q N st xs i0 3 i2 i3 i4 i5 i6 i7 i8 i9 i10 i11 i0 _ i2 i3 i4 _ i6 i7 i8 i9 i10 i11 _ bo bn bc h _ (by omega) (by omega) (fun u hb => rPub3 u v q N st xs i0 i2 i3 i4 i5 i6 i7 i8 i9 i10 i11 bo bn bc (h.below hb) hn s0 s1 r1 r2 _ rfl _ rfl)
    simpa [thV, owT, owX, owC, owA, owK, owV] using this
  by_cases h4 : i1 = 4
  · subst h4
    have := rStep15_p w v q N st xs i0 4 i2 i3 i4 i5 i6 i7 i8 i9 i10 i11 i0 _ i2 i3 i4 i5 i6 i7 i8 i9 i10 i11 _ bo bn bc h _ (by omega) (by omega) (fun u hb => rPub4 u v q N st xs i0 i2 i3 i4 i5 i6 i7 i8 i9 i10 i11 bo bn bc (h.below hb) hn s0 s1 r1 r2 )
    simpa [thV, owT, owX, owC, owA, owK, owV] using this
  by_cases h5 : i1 = 5
  · subst h5
    have := rStep15_p w v q N st xs i0 5 i2 i3 i4 i5 i6 i7 i8 i9 i10 i11 i0 _ i2 i3 i4 _ i6 i7 i8 i9 i10 i11 _ bo bn bc h _ (by omega) (by omega) (fun u hb => rPub5 u v q N st xs i0 i2 i3 i4 i5 i6 i7 i8 i9 i10 i11 bo bn bc (h.below hb) hn s0 s1 r1 r2 _ rfl _ rfl)
    simpa [thV, owT, owX, owC, owA, owK, owV] using this
  by_cases h6 : i1 = 6
  · subst h6
    have := rStep15_l w v q N st xs i0 6 i2 i3 i4 i5 i6 i7 i8 i9 i10 i11 i0 _ i2 i3 i4 i5 i6 i7 i8 i9 i10 i11 _ bo bn bc h _ (by omega) (by omega) (fun u hb => rLink6 u v q N st xs i0 i2 i3 i4 i5 i6 i7 i8 i9 i10 i11 bo bn bc (h.below hb) hn s0 s1 r1 r2 _ rfl)
    simpa [thV, owT, owX, owC, owA, owK, owV] using this
  by_cases h7 : i1 = 7
  · subst h7
    have := rStep15_l w v q N st xs i0 7 i2 i3 i4 i5 i6 i7 i8 i9 i10 i11 i0 _ i2 i3 i4 _ i6 i7 i8 i9 i10 i11 _ bo bn bc h _ (by omega) (by omega) (fun u hb => rLink7 u v q N st xs i0 i2 i3 i4 i5 i6 i7 i8 i9 i10 i11 bo bn bc (h.below hb) hn s0 s1 r1 r2 _ rfl)
    simpa [thV, owT, owX, owC, owA, owK, owV] using this
  by_cases h8 : i1 = 8
  · subst h8
    have := rStep15_l w v q N st xs i0 8 i2 i3 i4 i5 i6 i7 i8 i9 i10 i11 i0 _ i2 i3 i4 i5 i6 i7 i8 i9 i10 i11 _ bo bn bc h _ (by omega) (by omega) (fun u hb => rLink8 u v q N st xs i0 i2 i3 i4 i5 i6 i7 i8 i9 i10 i11 bo bn bc (h.below hb) hn s0 s1 r1 r2 )
    simpa [thV, owT, owX, owC, owA, owK, owV] using this
  by_cases h9 : i1 = 9
  · subst h9
    have := rStep15_l w v q N st xs i0 9 i2 i3 i4 i5 i6 i7 i8 i9 i10 i11 i0 _ i2 i3 i4 _ i6 i7 i8 i9 i10 i11 _ bo bn bc h _ (by omega) (by omega) (fun u hb => rLink9 u v q N st xs i0 i2 i3 i4 i5 i6 i7 i8 i9 i10 i11 bo bn bc (h.below hb) hn s0 s1 r1 r2 _ rfl)
    simpa [thV, owT, owX, owC, owA, owK, owV] using this
  by_cases h10 : i1 = 10
  · subst h10
    have := rStep15_l w v q N st xs i0 10 i2 i3 i4 i5 i6 i7 i8 i9 i10 i11 i0 _ i2 i3 i4 i5 i6 i7 i8 i9 i10 i11 _ bo bn bc h _ (by omega) (by omega) (fun u hb => rLink10 u v q N st xs i0 i2 i3 i4 i5 i6 i7 i8 i9 i10 i11 bo bn bc (h.below hb) hn s0 s1 r1 r2 )
    simpa [thV, owT, owX, owC, owA, owK, owV] using this
  by_cases h11 : i1 = 11
  · subst h11
    have := rStep11 w v q N st xs i0 i2 i3 i4 i5 i6 i7 i8 i9 i10 i11 bo bn bc h hn s0 s1 r1 r2 _ rfl _ rfl
    simpa [thV, owT, owX, owC, owA, owK, owV] using this
  by_cases h12 : i1 = 12
  · subst h12
    have := rStep12 w v q N st xs i0 i2 i3 i4 i5 i6 i7 i8 i9 i10 i11 bo bn bc h hn s0 s1 r1 r2 _ rfl _ rfl
    simpa [thV, owT, owX, owC, owA, owK, owV] using this
  by_cases h13 : i1 = 13
  · subst h13
    cases hs : swapIs xs 0 0
    · have := rStep13b w v q N st xs i0 i2 i3 i4 i5 i6 i7 i8 i9 i10 i11 bo bn bc h hn s0 s1 r1 r2 hs
      simpa [thV, owT, owX, owC, owA, owK, owV, hs] using this
    · have := rStep13a w v q N st xs i0 i2 i3 i4 i5 i6 i7 i8 i9 i10 i11 bo bn bc h hn s0 s1 r1 r2 hs
      simpa [thV, owT, owX, owC, owA, owK, owV, hs] using this
  by_cases h14 : i1 = 14
  · subst h14
    have := rStep15_14 w v q N st xs i0 i2 i3 i4 i5 i6 i7 i8 i9 i10 i11 bo bn bc h hn s0 s1 r1 r2 _ rfl
    simpa [thV, owT, owX, owC, owA, owK, owV] using this
  by_cases h15 : i1 = 15
  · subst h15
    have := rStep15 w v q N st xs i0 i2 i3 i4 i5 i6 i7 i8 i9 i10 i11 bo bn bc h hn s0 s1 r1 r2 _ rfl _ rfl
    simpa [thV, owT, owX, owC, owA, owK, owV] using this
  by_cases h16 : i1 = 16
  · subst h16
    have := rStep16 w v q N st xs i0 i2 i3 i4 i5 i6 i7 i8 i9 i10 i11 bo bn bc h hn s0 s1 r1 r2
    simpa [thV, owT, owX, owC, owA, owK, owV] using this
  have hno : ¬ (2 ≤ i1 ∧ i1 ≤ 16) := by omega
  by_cases hlt : i1 < 1
  · have := rStep15_noa w v q N st xs i0 i1 i2 i3 i4 i5 i6 i7 i8 i9 i10 i11 bo bn bc h hlt
    simpa [thV, owT, owX, owC, owA, owK, owV, h1, h2, h3, h4, h5, h6, h7, h8, h9, h10, h11, h12, h13, h14, h15, h16, hno] using this
  · have := rStep15_nob w v q N st xs i0 i1 i2 i3 i4 i5 i6 i7 i8 i9 i10 i11 bo bn bc h (by omega) (by omega)
    simpa [thV, owT, owX, owC, owA, owK, owV, h1, h2, h3, h4, h5, h6, h7, h8, h9, h10, h11, h12, h13, h14, h15, h16, hno] using this

end Go.Proofs.Ytcellcjojfbajaa
