/- OwnerRuns: a thread that asks, step by step, at a memory in which others write now and then, goes as the chapter says: the law returns true for every input. -/
import Derived.Test.YtcellcjojfbajaaOwR
import Derived.Test.YtcellcjojfbajaaFrame
import Derived.Test.YtcellcjojfbajaaSlices
import Derived.SizedLaws
namespace Go.Proofs.Ytcellcjojfbajaa
set_option linter.unusedSimpArgs false
set_option linter.unusedVariables false
open Go.RowKit
open Go.RowKit Go.ChangeShapes Go.WideShapes Go.ChangeAt

/-- As law_lifted, with the reach's bound on what came in. -/
theorem law_liftedS {H : Type} {enc : TypeId × Value → H} {C : Checked} {os : Os} {f : FuncId} {fn : Func} {s : ChangeSpec} {T : TypeId} (own : ownKnob C.prog.godebug = none) (started : os.Started) (noInit : C.prog.inits.idxOf? f = none) (hfn : C.prog.funcs[f]? = some fn)
    (witness : ∃ (w : World) (tape : Tape) (i : Input), w.os = os ∧ (w.forCall tape i).Shaped C.prog ∧ i.vars = [] ∧ Input.okWide C.prog (w.forCall tape i) .any w.heap.size f i ∧
      s.pre6 enc C.prog fn [] false (w.forCall tape i).memory i.args ∧ ({} : Assume).holds C.prog (lone (Frame.enter C.prog f i.args .normal) [] (w.forCall tape i)))
    (hl : laidOutB C.prog = true) (hr : ∀ t ∈ fn.params.toList, C.prog.readableRec t = true ∧ t < C.prog.types.size) (hres : fn.resultTypes = #[T]) (hT : C.prog.underlying T = some .bool) (hvars : s.vars = [])
    (hspec : ∀ ds : List (DataW H), ds.length = fn.params.toList.length → s.fn H (ds ++ []) = { results := [.lit (.bool true)], args := ds })
    (contract : ∀ (W : World) (base : Nat) (args : Array Value) (ds : List (DataW H)) (p : List MemPlace), (∀ (j : Nat) t v, fn.params[j]? = some t → args[j]? = some v → Value.okWide C.prog W .any base t v) →
      DataW.TrodAll enc C.prog W 0 (fun _ => true) true fn.params.toList args.toList ds p → (DataW.weightsEach C.prog (fn.params.toList ++ s.plain.varTypes C.prog) (ds ++ [])).all (· ≤ reachBytes) = true → Calls C.prog f args W fun e W' => e = .returned (.bool true) ∧ Below W.heap.size W W') :
    ReturnsInHanded {} C os f .any (s.pre6 enc C.prog fn [] false) (s.post enc C.prog fn false true false false) := by
  refine returnsInHanded_of_change_sized own started noInit hfn witness ?_
  intro W base args ds gs before hval hW _ hsz _
  obtain ⟨p, q, hA, hV, e, hz, hn⟩ := hW
  have hV0 := hV
  rw [hvars] at hV0
  obtain ⟨rfl, rfl⟩ := trodVars_none hV0
  refine (contract W base args ds p hval hA hsz).mono fun e' W' ⟨he, hb⟩ => ?_
  exact ⟨_, he, law_post hl hr hres hT hvars hspec ⟨p, [], hA, hV, e, hz, hn⟩ hb⟩
set_option maxRecDepth 100000 in
theorem open_inslice2 {H : Type} {enc : TypeId × Value → H} {k : IntKind} {T E : TypeId} (hT : Try.prog.underlying T = some (.slice E)) (hE : Try.prog.underlying E = some (.int k)) (hC : Try.prog.cellsOf E = 1)
    {W : World} {base : Nat} {v : Value} {d : DataW H} {p : List MemPlace} (hv : Value.okWide Try.prog W .any base T v) (h : DataW.Trod enc Try.prog W 0 (fun _ => true) true T v d p) :
    ∃ xs, InSlice k W v xs ∧ (xs.length = 0 ∨ ∃ elems spare, d = .slice elems spare ∧ elems.length = xs.length) := by
  have h0 := h
  have hv0 := hv
  obtain ⟨xs, hx⟩ := open_inslice hT hE hC hv h
  refine ⟨xs, hx, ?_⟩
  obtain ⟨a0, len, cap, rfl⟩ := okWide_slice hT hv
  obtain ⟨ao, cap', e, -⟩ := hx
  simp only [Value.slice.injEq] at e
  obtain ⟨-, rfl, -⟩ := e
  obtain ⟨fuel, hf⟩ := h
  rcases open_ints hT hE hC hf with ⟨hcs, hy⟩ | ⟨a, len', cap', zs, hcs, _, hl, hm, hz, hy, _, _⟩
  · simp only [Value.cells, List.cons.injEq, Value.slice.injEq, and_true] at hcs
    exact .inl hcs.2.1
  · simp only [Value.cells, List.cons.injEq, Value.slice.injEq, and_true] at hcs
    obtain ⟨-, e2, e3⟩ := hcs
    rw [if_pos rfl] at hz
    simp only [Prod.mk.injEq] at hy
    refine .inr ⟨_, _, hy.1, ?_⟩
    unfold lits
    rw [List.length_map, List.length_take]
    omega

set_option maxRecDepth 100000 in
set_option maxHeartbeats 2000000 in
theorem ownerRuns_l (c d : Value) (cs ds : List Int) (ok ov : Int) (w : World) (hc : InSlice .u8 w c cs) (hd : InSlice .u8 w d ds) (o1 : 0 ≤ ok) (o2 : ok ≤ 255) (o3 : -2147483648 ≤ ov) (o4 : ov ≤ 2147483647) (hm : cs.length ≤ 140737488351232) (hm2 : ds.length ≤ 140737488351232) (h : 200 < cs.length + ds.length) : Calls Try.prog 5 #[c, .agg #[.int .u8 ok, .int .i32 ov], d] w fun e w' => e = .returned (.bool true) ∧ Below w.heap.size w w' := by
  obtain ⟨ao, cap, rfl, -, -, -⟩ := hc
  obtain ⟨bo', cap', rfl, -, -, -⟩ := hd
  have h' : (200 : Int) < (cs.length : Int) + (ds.length : Int) := by omega
  have hb : decide ((200 : Int) < (cs.length : Int) + (ds.length : Int)) = true := decide_eq_true h'
  have hi1 : (cs.length : Int) ≤ 4611686018427387900 := by omega
  have hi2 : (ds.length : Int) ≤ 4611686018427387900 := by omega
  have hz1 : (0 : Int) ≤ (cs.length : Int) + (ds.length : Int) := by omega
  go_enter Try.func5, Try.ntmps5
  go_wp2_with fail
  refine (known15_any _).mono ?_
  rintro e w1 ⟨rfl, hb⟩
  have B1 : Below w.heap.size w w1 := Below.trans (by go_grown) (hb.mono (by simp; try omega))
  go_wp2
  go_ret
  exact ⟨by first | rfl | (simp; done), B1⟩
theorem ownerRuns_any (c d : Value) (cs ds : List Int) (ok ov : Int) (w : World) (hc : InSlice .u8 w c cs) (hd : InSlice .u8 w d ds) (o1 : 0 ≤ ok) (o2 : ok ≤ 255) (o3 : -2147483648 ≤ ov) (o4 : ov ≤ 2147483647) (hm : cs.length ≤ 140737488351232) (hm2 : ds.length ≤ 140737488351232) : Calls Try.prog 5 #[c, .agg #[.int .u8 ok, .int .i32 ov], d] w fun e w' => e = .returned (.bool true) ∧ Below w.heap.size w w' := by
  by_cases h : cs.length + ds.length ≤ 200
  · exact ownerRuns_d c d cs ds ok ov w hc hd o1 o2 o3 o4 h
  · exact ownerRuns_l c d cs ds ok ov w hc hd o1 o2 o3 o4 hm hm2 (by omega)

theorem Try.resTypes5 : Try.f5.resultTypes = #[4] := by kernel_rfl
theorem ownerRuns_rdbytes : Try.prog.readableRec 44 = true ∧ 44 < Try.prog.types.size := ⟨by kernel_rfl, of_decide_eq_true (by kernel_rfl)⟩
theorem ownerRuns_rdop : Try.prog.readableRec 23 = true ∧ 23 < Try.prog.types.size := ⟨by kernel_rfl, of_decide_eq_true (by kernel_rfl)⟩
set_option maxRecDepth 100000 in
theorem ownerRuns_lifted (os : Os) (started : os.Started) (H : Type) (enc : TypeId × Value → H) :
    ReturnsInHanded {} Try.checked os 5 .any (Rows.ownerRunsSpec.pre6 enc Try.prog Try.f5 Rows.ownerRunsRow.domain false) (Rows.ownerRunsSpec.post enc Try.prog Try.f5 false true false false) := by
  refine law_liftedS (C := Try.checked) (T := 4) Try.own started (by kernel_rfl) Try.func5
    (ChangeSpec.witness6 (enc := enc) (C := Try.checked) false ⟨#[], #[.slice none 0 0, .agg #[.int .u8 0, .int .i32 0], .slice none 0 0], []⟩ 8 (by kernel_rfl) (by kernel_rfl) (by kernel_rfl) (by kernel_rfl))
    Try.laidOut (fun t ht => ?_) Try.resTypes5 Try.underlying4 rfl (fun ds hd => ?_) ?_
  · rw [Try.params5] at ht
    exact (show ∀ t ∈ [44, 23, 44], Try.prog.readableRec t = true ∧ t < Try.prog.types.size from List.forall_mem_cons.2 ⟨ownerRuns_rdbytes, List.forall_mem_cons.2 ⟨ownerRuns_rdop, List.forall_mem_cons.2 ⟨ownerRuns_rdbytes, fun _ h => by cases h⟩⟩⟩) t ht
  · rw [Try.params5] at hd
    match ds, hd with
    | [e0, e1, e2], _ => rfl
  · intro W base args ds p hval0 hA0 hsz0
    have hval : ∀ (j : Nat) t v, Try.f5.params[j]? = some t → args[j]? = some v → Value.okWide Try.prog W .any base t v := hval0
    have hA : DataW.TrodAll enc Try.prog W 0 (fun _ => true) true Try.f5.params.toList args.toList ds p := hA0
    have hsz : (DataW.weightsEach Try.prog (Try.f5.params.toList ++ Rows.ownerRunsSpec.plain.varTypes Try.prog) (ds ++ [])).all (· ≤ reachBytes) = true := hsz0
    rw [Try.params5] at hA hval hsz
    obtain ⟨v0, vs0, d0, ds0, p0, q0, hargs, rfl, rfl, h0, r0⟩ := trodAll_cons hA
    obtain ⟨v1, vs1, d1, ds1, p1, q1, rfl, rfl, rfl, h1, r1⟩ := trodAll_cons r0
    obtain ⟨v2, vs2, d2, ds2, p2, q2, rfl, rfl, rfl, h2, r2⟩ := trodAll_cons r1
    obtain ⟨rfl, rfl, rfl⟩ := trodAll_nil r2
    obtain rfl : args = #[v0, v1, v2] := by cases args; simp_all
    obtain ⟨c, sc, lc⟩ := open_inslice2 (k := .u8) Try.underlying44 Try.underlying5 (by kernel_rfl) (hval 0 44 v0 rfl rfl) h0
    obtain ⟨ok, ov, rfl, o1, o2, o3, o4⟩ := open_op (hval 1 23 v1 rfl rfl) h1
    obtain ⟨d, sd, ld⟩ := open_inslice2 (k := .u8) Try.underlying44 Try.underlying5 (by kernel_rfl) (hval 2 44 v2 rfl rfl) h2
    have big0 : ∀ c : List Int, (c.length = 0 ∨ ∃ elems spare, d0 = .slice elems spare ∧ elems.length = c.length) → c.length ≤ 140737488351232 := fun c lc => by
      rcases lc with h | ⟨elems, spare, e, hl⟩
      · omega
      · have := sized_slice hsz (j := 0) (t := 44) (e := 5) (elems := elems) (spare := spare) rfl (by rw [e]; rfl) Try.underlying44
        rw [show Try.prog.bytesOf 5 = 1 from by kernel_rfl] at this
        simp only [reachBytes] at this
        omega
    have big2 : ∀ c : List Int, (c.length = 0 ∨ ∃ elems spare, d2 = .slice elems spare ∧ elems.length = c.length) → c.length ≤ 140737488351232 := fun c lc => by
      rcases lc with h | ⟨elems, spare, e, hl⟩
      · omega
      · have := sized_slice hsz (j := 2) (t := 44) (e := 5) (elems := elems) (spare := spare) rfl (by rw [e]; rfl) Try.underlying44
        rw [show Try.prog.bytesOf 5 = 1 from by kernel_rfl] at this
        simp only [reachBytes] at this
        omega
    exact ownerRuns_any v0 v2 c d ok ov W sc sd o1 o2 o3 o4 (big0 c lc) (big2 d ld)

/-- OwnerRuns: for every input the call returns true. -/
theorem ownerRuns_said : Rows.OwnerRunsSaid :=
  OpenClaim.holds_of_wide 5 Try.f5 rfl rfl rfl rfl rfl rfl rfl ⟨rfl, rfl, rfl, rfl, rfl⟩ rfl rfl rfl rfl rfl (by as_aux_lemma => kernel_rfl) Try.func5 (by as_aux_lemma => kernel_rfl)
    (of_decide_eq_true (by as_aux_lemma => kernel_rfl)) (by unfold Func.isWrapper; first | (rw [if_pos (by decide +kernel)]; kernel_rfl) | (rw [if_neg (by decide +kernel)]; exact ⟨rfl, rfl⟩))
    (fun os started H enc _ => ownerRuns_lifted os started H enc)
#print axioms ownerRuns_said

end Go.Proofs.Ytcellcjojfbajaa
