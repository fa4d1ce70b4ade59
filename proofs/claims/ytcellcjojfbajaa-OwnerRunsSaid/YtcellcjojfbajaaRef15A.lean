/- Three structs that are written one behind the other, in any order; the reference of layer 15: one of two. -/
import Derived.Test.YtcellcjojfbajaaThr4
import Derived.Test.YtcellcjojfbajaaOwD
import Derived.Test.YtcellcjojfbajaaFun
namespace Go.Proofs.Ytcellcjojfbajaa
set_option linter.unusedSimpArgs false
set_option linter.unusedVariables false
open Go.RowKit
open Go.RowKit Go.ChangeShapes Go.WideShapes Go.ChangeAt

theorem setFrom_block {b b' : Nat} {l : List Value} {w : World} {k : Nat} (hb : b' < w.heap.size) (ne : b' ≠ b) : (setFrom w b k l).heap[b']? = w.heap[b']? := (setFrom_kept b l w k).block b' hb ne
theorem setFrom_own {b : Nat} {l : List Value} {w : World} {cs : Array Value} {t : TypeId} (h : w.heap[b]? = some (.cells cs t (0, 0))) (hs : cs.size = l.length) : (setFrom w b 0 l).heap[b]? = some (.cells l.toArray t (0, 0)) := by
  have := setFrom_heap b t l w 0 cs h (by omega)
  simpa using this
theorem set3F {W : World} {a b c : Nat} {la lb lc : List Value} {ca cb cc : Array Value} {ta tb tc : TypeId} (ha : W.heap[a]? = some (.cells ca ta (0, 0))) (hb : W.heap[b]? = some (.cells cb tb (0, 0))) (hc : W.heap[c]? = some (.cells cc tc (0, 0))) (sa : ca.size = la.length) (sb : cb.size = lb.length) (sc : cc.size = lc.length) (n1 : a ≠ b) (n2 : a ≠ c) (n3 : b ≠ c) :
    (setFrom (setFrom (setFrom W a 0 la) b 0 lb) c 0 lc).heap[a]? = some (.cells la.toArray ta (0, 0)) ∧ (setFrom (setFrom (setFrom W a 0 la) b 0 lb) c 0 lc).heap[b]? = some (.cells lb.toArray tb (0, 0)) ∧ (setFrom (setFrom (setFrom W a 0 la) b 0 lb) c 0 lc).heap[c]? = some (.cells lc.toArray tc (0, 0)) ∧ Kept (fun k => k = a ∨ k = b ∨ k = c) W (setFrom (setFrom (setFrom W a 0 la) b 0 lb) c 0 lc) := by
  have za := (Array.getElem?_eq_some_iff.1 ha).1
  have zb := (Array.getElem?_eq_some_iff.1 hb).1
  have zc := (Array.getElem?_eq_some_iff.1 hc).1
  have k1 := setFrom_kept a la W 0
  have k2 := setFrom_kept b lb (setFrom W a 0 la) 0
  have k3 := setFrom_kept c lc (setFrom (setFrom W a 0 la) b 0 lb) 0
  have a1 := setFrom_own ha sa
  have b1 : (setFrom W a 0 la).heap[b]? = _ := (setFrom_block zb n1.symm).trans hb
  have c1 : (setFrom W a 0 la).heap[c]? = _ := (setFrom_block zc n2.symm).trans hc
  have b2 := setFrom_own b1 sb
  have a2 : (setFrom (setFrom W a 0 la) b 0 lb).heap[a]? = _ := (setFrom_block (Array.getElem?_eq_some_iff.1 a1).1 n1).trans a1
  have c2 : (setFrom (setFrom W a 0 la) b 0 lb).heap[c]? = _ := (setFrom_block (Array.getElem?_eq_some_iff.1 c1).1 n3.symm).trans c1
  exact ⟨(setFrom_block (Array.getElem?_eq_some_iff.1 a2).1 n2).trans a2, (setFrom_block (Array.getElem?_eq_some_iff.1 b2).1 n3).trans b2, setFrom_own c2 sc,
    ((k1.mono (fun _ _ e => .inl e)).trans (k2.mono (fun _ _ e => .inr (.inl e)))).trans (k3.mono (fun _ _ e => .inr (.inr e)))⟩

theorem res3_xyz {W : World} {r2 r3 r4 : Nat} {t2 t3 t4 : TypeId} {u0 u1 u2 v0 v1 v2 v3 v4 v5 v6 v7 v8 v9 v10 v11 v12 t0 t1 y0 y1 y2 x0 x1 x2 x3 x4 x5 x6 x7 x8 x9 x10 x11 x12 z0 z1 : Value} (h2 : W.heap[r2]? = some (.cells #[u0, u1, u2] t2 (0, 0))) (h3 : W.heap[r3]? = some (.cells #[v0, v1, v2, v3, v4, v5, v6, v7, v8, v9, v10, v11, v12] t3 (0, 0))) (h4 : W.heap[r4]? = some (.cells #[t0, t1] t4 (0, 0))) (n1 : r2 ≠ r3) (n2 : r2 ≠ r4) (n3 : r3 ≠ r4) :
    ∀ w5, ((((((((((((((((((W.setCell ⟨r2, 0, none⟩ y0).setCell ⟨r2, 1, none⟩ y1).setCell ⟨r2, 2, none⟩ y2).setCell ⟨r3, 0, none⟩ x0).setCell ⟨r3, 1, none⟩ x1).setCell ⟨r3, 2, none⟩ x2).setCell ⟨r3, 3, none⟩ x3).setCell ⟨r3, 4, none⟩ x4).setCell ⟨r3, 5, none⟩ x5).setCell ⟨r3, 6, none⟩ x6).setCell ⟨r3, 7, none⟩ x7).setCell ⟨r3, 8, none⟩ x8).setCell ⟨r3, 9, none⟩ x9).setCell ⟨r3, 10, none⟩ x10).setCell ⟨r3, 11, none⟩ x11).setCell ⟨r3, 12, none⟩ x12).setCell ⟨r4, 0, none⟩ z0).setCell ⟨r4, 1, none⟩ z1) = w5 → w5.heap[r2]? = some (.cells #[y0, y1, y2] t2 (0, 0)) ∧ w5.heap[r3]? = some (.cells #[x0, x1, x2, x3, x4, x5, x6, x7, x8, x9, x10, x11, x12] t3 (0, 0)) ∧ w5.heap[r4]? = some (.cells #[z0, z1] t4 (0, 0)) ∧ Kept (fun k => k = r2 ∨ k = r3 ∨ k = r4) W w5 := by
  rintro w5 rfl
  have E := set3F (la := [y0, y1, y2]) (lb := [x0, x1, x2, x3, x4, x5, x6, x7, x8, x9, x10, x11, x12]) (lc := [z0, z1]) h2 h3 h4 rfl rfl rfl (n1) (n2) (n3)
  exact ⟨E.1, E.2.1, E.2.2.1, E.2.2.2.mono (fun k _ e => by omega)⟩

theorem res3_xzy {W : World} {r2 r3 r4 : Nat} {t2 t3 t4 : TypeId} {u0 u1 u2 v0 v1 v2 v3 v4 v5 v6 v7 v8 v9 v10 v11 v12 t0 t1 y0 y1 y2 x0 x1 x2 x3 x4 x5 x6 x7 x8 x9 x10 x11 x12 z0 z1 : Value} (h2 : W.heap[r2]? = some (.cells #[u0, u1, u2] t2 (0, 0))) (h3 : W.heap[r3]? = some (.cells #[v0, v1, v2, v3, v4, v5, v6, v7, v8, v9, v10, v11, v12] t3 (0, 0))) (h4 : W.heap[r4]? = some (.cells #[t0, t1] t4 (0, 0))) (n1 : r2 ≠ r3) (n2 : r2 ≠ r4) (n3 : r3 ≠ r4) :
    ∀ w5, ((((((((((((((((((W.setCell ⟨r2, 0, none⟩ y0).setCell ⟨r2, 1, none⟩ y1).setCell ⟨r2, 2, none⟩ y2).setCell ⟨r4, 0, none⟩ z0).setCell ⟨r4, 1, none⟩ z1).setCell ⟨r3, 0, none⟩ x0).setCell ⟨r3, 1, none⟩ x1).setCell ⟨r3, 2, none⟩ x2).setCell ⟨r3, 3, none⟩ x3).setCell ⟨r3, 4, none⟩ x4).setCell ⟨r3, 5, none⟩ x5).setCell ⟨r3, 6, none⟩ x6).setCell ⟨r3, 7, none⟩ x7).setCell ⟨r3, 8, none⟩ x8).setCell ⟨r3, 9, none⟩ x9).setCell ⟨r3, 10, none⟩ x10).setCell ⟨r3, 11, none⟩ x11).setCell ⟨r3, 12, none⟩ x12) = w5 → w5.heap[r2]? = some (.cells #[y0, y1, y2] t2 (0, 0)) ∧ w5.heap[r3]? = some (.cells #[x0, x1, x2, x3, x4, x5, x6, x7, x8, x9, x10, x11, x12] t3 (0, 0)) ∧ w5.heap[r4]? = some (.cells #[z0, z1] t4 (0, 0)) ∧ Kept (fun k => k = r2 ∨ k = r3 ∨ k = r4) W w5 := by
  rintro w5 rfl
  have E := set3F (la := [y0, y1, y2]) (lb := [z0, z1]) (lc := [x0, x1, x2, x3, x4, x5, x6, x7, x8, x9, x10, x11, x12]) h2 h4 h3 rfl rfl rfl (n2) (n1) (n3.symm)
  exact ⟨E.1, E.2.2.1, E.2.1, E.2.2.2.mono (fun k _ e => by omega)⟩

theorem res3_yxz {W : World} {r2 r3 r4 : Nat} {t2 t3 t4 : TypeId} {u0 u1 u2 v0 v1 v2 v3 v4 v5 v6 v7 v8 v9 v10 v11 v12 t0 t1 y0 y1 y2 x0 x1 x2 x3 x4 x5 x6 x7 x8 x9 x10 x11 x12 z0 z1 : Value} (h2 : W.heap[r2]? = some (.cells #[u0, u1, u2] t2 (0, 0))) (h3 : W.heap[r3]? = some (.cells #[v0, v1, v2, v3, v4, v5, v6, v7, v8, v9, v10, v11, v12] t3 (0, 0))) (h4 : W.heap[r4]? = some (.cells #[t0, t1] t4 (0, 0))) (n1 : r2 ≠ r3) (n2 : r2 ≠ r4) (n3 : r3 ≠ r4) :
    ∀ w5, ((((((((((((((((((W.setCell ⟨r3, 0, none⟩ x0).setCell ⟨r3, 1, none⟩ x1).setCell ⟨r3, 2, none⟩ x2).setCell ⟨r3, 3, none⟩ x3).setCell ⟨r3, 4, none⟩ x4).setCell ⟨r3, 5, none⟩ x5).setCell ⟨r3, 6, none⟩ x6).setCell ⟨r3, 7, none⟩ x7).setCell ⟨r3, 8, none⟩ x8).setCell ⟨r3, 9, none⟩ x9).setCell ⟨r3, 10, none⟩ x10).setCell ⟨r3, 11, none⟩ x11).setCell ⟨r3, 12, none⟩ x12).setCell ⟨r2, 0, none⟩ y0).setCell ⟨r2, 1, none⟩ y1).setCell ⟨r2, 2, none⟩ y2).setCell ⟨r4, 0, none⟩ z0).setCell ⟨r4, 1, none⟩ z1) = w5 → w5.heap[r2]? = some (.cells #[y0, y1, y2] t2 (0, 0)) ∧ w5.heap[r3]? = some (.cells #[x0, x1, x2, x3, x4, x5, x6, x7, x8, x9, x10, x11, x12] t3 (0, 0)) ∧ w5.heap[r4]? = some (.cells #[z0, z1] t4 (0, 0)) ∧ Kept (fun k => k = r2 ∨ k = r3 ∨ k = r4) W w5 := by
  rintro w5 rfl
  have E := set3F (la := [x0, x1, x2, x3, x4, x5, x6, x7, x8, x9, x10, x11, x12]) (lb := [y0, y1, y2]) (lc := [z0, z1]) h3 h2 h4 rfl rfl rfl (n1.symm) (n3) (n2)
  exact ⟨E.2.1, E.1, E.2.2.1, E.2.2.2.mono (fun k _ e => by omega)⟩

theorem res3_yzx {W : World} {r2 r3 r4 : Nat} {t2 t3 t4 : TypeId} {u0 u1 u2 v0 v1 v2 v3 v4 v5 v6 v7 v8 v9 v10 v11 v12 t0 t1 y0 y1 y2 x0 x1 x2 x3 x4 x5 x6 x7 x8 x9 x10 x11 x12 z0 z1 : Value} (h2 : W.heap[r2]? = some (.cells #[u0, u1, u2] t2 (0, 0))) (h3 : W.heap[r3]? = some (.cells #[v0, v1, v2, v3, v4, v5, v6, v7, v8, v9, v10, v11, v12] t3 (0, 0))) (h4 : W.heap[r4]? = some (.cells #[t0, t1] t4 (0, 0))) (n1 : r2 ≠ r3) (n2 : r2 ≠ r4) (n3 : r3 ≠ r4) :
    ∀ w5, ((((((((((((((((((W.setCell ⟨r3, 0, none⟩ x0).setCell ⟨r3, 1, none⟩ x1).setCell ⟨r3, 2, none⟩ x2).setCell ⟨r3, 3, none⟩ x3).setCell ⟨r3, 4, none⟩ x4).setCell ⟨r3, 5, none⟩ x5).setCell ⟨r3, 6, none⟩ x6).setCell ⟨r3, 7, none⟩ x7).setCell ⟨r3, 8, none⟩ x8).setCell ⟨r3, 9, none⟩ x9).setCell ⟨r3, 10, none⟩ x10).setCell ⟨r3, 11, none⟩ x11).setCell ⟨r3, 12, none⟩ x12).setCell ⟨r4, 0, none⟩ z0).setCell ⟨r4, 1, none⟩ z1).setCell ⟨r2, 0, none⟩ y0).setCell ⟨r2, 1, none⟩ y1).setCell ⟨r2, 2, none⟩ y2) = w5 → w5.heap[r2]? = some (.cells #[y0, y1, y2] t2 (0, 0)) ∧ w5.heap[r3]? = some (.cells #[x0, x1, x2, x3, x4, x5, x6, x7, x8, x9, x10, x11, x12] t3 (0, 0)) ∧ w5.heap[r4]? = some (.cells #[z0, z1] t4 (0, 0)) ∧ Kept (fun k => k = r2 ∨ k = r3 ∨ k = r4) W w5 := by
  rintro w5 rfl
  have E := set3F (la := [x0, x1, x2, x3, x4, x5, x6, x7, x8, x9, x10, x11, x12]) (lb := [z0, z1]) (lc := [y0, y1, y2]) h3 h4 h2 rfl rfl rfl (n3) (n1.symm) (n2.symm)
  exact ⟨E.2.2.1, E.1, E.2.1, E.2.2.2.mono (fun k _ e => by omega)⟩

theorem res3_zxy {W : World} {r2 r3 r4 : Nat} {t2 t3 t4 : TypeId} {u0 u1 u2 v0 v1 v2 v3 v4 v5 v6 v7 v8 v9 v10 v11 v12 t0 t1 y0 y1 y2 x0 x1 x2 x3 x4 x5 x6 x7 x8 x9 x10 x11 x12 z0 z1 : Value} (h2 : W.heap[r2]? = some (.cells #[u0, u1, u2] t2 (0, 0))) (h3 : W.heap[r3]? = some (.cells #[v0, v1, v2, v3, v4, v5, v6, v7, v8, v9, v10, v11, v12] t3 (0, 0))) (h4 : W.heap[r4]? = some (.cells #[t0, t1] t4 (0, 0))) (n1 : r2 ≠ r3) (n2 : r2 ≠ r4) (n3 : r3 ≠ r4) :
    ∀ w5, ((((((((((((((((((W.setCell ⟨r4, 0, none⟩ z0).setCell ⟨r4, 1, none⟩ z1).setCell ⟨r2, 0, none⟩ y0).setCell ⟨r2, 1, none⟩ y1).setCell ⟨r2, 2, none⟩ y2).setCell ⟨r3, 0, none⟩ x0).setCell ⟨r3, 1, none⟩ x1).setCell ⟨r3, 2, none⟩ x2).setCell ⟨r3, 3, none⟩ x3).setCell ⟨r3, 4, none⟩ x4).setCell ⟨r3, 5, none⟩ x5).setCell ⟨r3, 6, none⟩ x6).setCell ⟨r3, 7, none⟩ x7).setCell ⟨r3, 8, none⟩ x8).setCell ⟨r3, 9, none⟩ x9).setCell ⟨r3, 10, none⟩ x10).setCell ⟨r3, 11, none⟩ x11).setCell ⟨r3, 12, none⟩ x12) = w5 → w5.heap[r2]? = some (.cells #[y0, y1, y2] t2 (0, 0)) ∧ w5.heap[r3]? = some (.cells #[x0, x1, x2, x3, x4, x5, x6, x7, x8, x9, x10, x11, x12] t3 (0, 0)) ∧ w5.heap[r4]? = some (.cells #[z0, z1] t4 (0, 0)) ∧ Kept (fun k => k = r2 ∨ k = r3 ∨ k = r4) W w5 := by
  rintro w5 rfl
  have E := set3F (la := [z0, z1]) (lb := [y0, y1, y2]) (lc := [x0, x1, x2, x3, x4, x5, x6, x7, x8, x9, x10, x11, x12]) h4 h2 h3 rfl rfl rfl (n2.symm) (n3.symm) (n1)
  exact ⟨E.2.1, E.2.2.1, E.1, E.2.2.2.mono (fun k _ e => by omega)⟩

theorem res3_zyx {W : World} {r2 r3 r4 : Nat} {t2 t3 t4 : TypeId} {u0 u1 u2 v0 v1 v2 v3 v4 v5 v6 v7 v8 v9 v10 v11 v12 t0 t1 y0 y1 y2 x0 x1 x2 x3 x4 x5 x6 x7 x8 x9 x10 x11 x12 z0 z1 : Value} (h2 : W.heap[r2]? = some (.cells #[u0, u1, u2] t2 (0, 0))) (h3 : W.heap[r3]? = some (.cells #[v0, v1, v2, v3, v4, v5, v6, v7, v8, v9, v10, v11, v12] t3 (0, 0))) (h4 : W.heap[r4]? = some (.cells #[t0, t1] t4 (0, 0))) (n1 : r2 ≠ r3) (n2 : r2 ≠ r4) (n3 : r3 ≠ r4) :
    ∀ w5, ((((((((((((((((((W.setCell ⟨r4, 0, none⟩ z0).setCell ⟨r4, 1, none⟩ z1).setCell ⟨r3, 0, none⟩ x0).setCell ⟨r3, 1, none⟩ x1).setCell ⟨r3, 2, none⟩ x2).setCell ⟨r3, 3, none⟩ x3).setCell ⟨r3, 4, none⟩ x4).setCell ⟨r3, 5, none⟩ x5).setCell ⟨r3, 6, none⟩ x6).setCell ⟨r3, 7, none⟩ x7).setCell ⟨r3, 8, none⟩ x8).setCell ⟨r3, 9, none⟩ x9).setCell ⟨r3, 10, none⟩ x10).setCell ⟨r3, 11, none⟩ x11).setCell ⟨r3, 12, none⟩ x12).setCell ⟨r2, 0, none⟩ y0).setCell ⟨r2, 1, none⟩ y1).setCell ⟨r2, 2, none⟩ y2) = w5 → w5.heap[r2]? = some (.cells #[y0, y1, y2] t2 (0, 0)) ∧ w5.heap[r3]? = some (.cells #[x0, x1, x2, x3, x4, x5, x6, x7, x8, x9, x10, x11, x12] t3 (0, 0)) ∧ w5.heap[r4]? = some (.cells #[z0, z1] t4 (0, 0)) ∧ Kept (fun k => k = r2 ∨ k = r3 ∨ k = r4) W w5 := by
  rintro w5 rfl
  have E := set3F (la := [z0, z1]) (lb := [x0, x1, x2, x3, x4, x5, x6, x7, x8, x9, x10, x11, x12]) (lc := [y0, y1, y2]) h4 h3 h2 rfl rfl rfl (n3.symm) (n2.symm) (n1.symm)
  exact ⟨E.2.2.1, E.2.1, E.1, E.2.2.2.mono (fun k _ e => by omega)⟩

theorem rFirst_p (is : Bool) (a b p : Int) (w : World) (hp : (if is = true then a else b) = p) : Calls Try.prog 47 #[.bool is, .int .i64 a, .int .i64 b] w fun e w' => e = .returned (.int .i64 p) ∧ w = w' := by
  subst hp
  cases is
  all_goals
    go_enter Try.func47, Try.ntmps47
    go_wp2
    go_ret
    exact ⟨rfl, rfl⟩

end Go.Proofs.Ytcellcjojfbajaa
