/- Sound of package list. -/
import Derived.Test.YtnpkhkfhlpopbaaListI
namespace Go.Proofs.Ytnpkhkfhlpopbaa
set_option linter.unusedSimpArgs false
set_option linter.unusedVariables false
open Go.RowKit
open Go.ChangeShapes Go.WideShapes Go.ChangeAt
open Go.ChangeMaps Go.MapKept Go.WideShapes

theorem recEnts_mem (X : List Int) : ∀ (i : Nat) (p : Int × Value), p ∈ recEnts X i ↔ ∃ k : Nat, k < i ∧ p = (3 + 5 * (k : Int), recV X (3 + 5 * (k : Int)))
  | 0, p => by simp [recEnts]
  | i + 1, p => by
    rw [show recEnts X (i + 1) = (3 + 5 * (i : Int), recV X (3 + 5 * (i : Int))) :: recEnts X i from rfl, List.mem_cons, recEnts_mem X i]
    constructor
    · rintro (rfl | ⟨k, hk, rfl⟩)
      · exact ⟨i, by omega, rfl⟩
      · exact ⟨k, by omega, rfl⟩
    · rintro ⟨k, hk, rfl⟩
      rcases Nat.lt_or_ge k i with h | h
      · exact .inr ⟨k, h, rfl⟩
      · obtain rfl : k = i := by omega
        exact .inl rfl
theorem recAll_mem (X : List Int) (p : Int × Value) : p ∈ recAll X ↔ ∃ a ∈ recsL X.length, p = (a, recV X a) := by
  unfold recAll recsL
  rw [recEnts_mem]
  constructor
  · rintro ⟨k, hk, rfl⟩
    exact ⟨_, List.mem_map.2 ⟨k, List.mem_range.2 hk, rfl⟩, rfl⟩
  · rintro ⟨a, ha, rfl⟩
    obtain ⟨k, hk, rfl⟩ := List.mem_map.1 ha
    exact ⟨k, List.mem_range.1 hk, rfl⟩
def bad1 (X LS : List Int) (a : Int) : Bool := decide (recAt X a 1 = 0 ∧ a ∈ LS)
def bad2 (X LS : List Int) (a : Int) : Bool := decide (recAt X a 1 = 1 ∧ recAt X a 0 ≠ -1 ∧ a ∉ LS)
/-- What a range has met. -/
structure Met (X LS : List Int) (seen : Array Nat) (K : List Int) (wst : Int) : Prop where
  all : ∀ e ∈ (vEs (recAll X)).toList, seen.contains e.born = true → ∃ a ∈ K, e.key = .int .i64 a
  sub : ∀ a ∈ K, a ∈ recsL X.length
  no1 : K.any (bad1 X LS) = false
  two : wst = if K.any (bad2 X LS) = true then 31 else 0
theorem Met.nil (X LS : List Int) : Met X LS #[] [] 0 := ⟨fun e _ h => by simp at h, fun a h => (by cases h), rfl, rfl⟩
theorem Met.step {X LS : List Int} {seen : Array Nat} {K : List Int} {wst : Int} (h : Met X LS seen K wst) {e : MapEntry} {a : Int} (he : e ∈ (vEs (recAll X)).toList) (ek : e.key = .int .i64 a) (ha : a ∈ recsL X.length) (h1 : bad1 X LS a = false) :
    Met X LS (seen.push e.born) (a :: K) (if bad2 X LS a = true then 31 else wst) := by
  refine ⟨fun x hx hs => ?_, fun c hc => ?_, ?_, ?_⟩
  · by_cases hb : x.born = e.born
    · obtain rfl := born_inj (vEs_nodup (recAll X)) hx he hb
      exact ⟨a, List.mem_cons_self, ek⟩
    · have : seen.contains x.born = true := by
        rw [contains_push] at hs
        have hf : (x.born == e.born) = false := beq_eq_false_iff_ne.2 hb
        have hf2 : (e.born == x.born) = false := beq_eq_false_iff_ne.2 (fun h => hb h.symm)
        first | (simpa [hf] using hs) | (simpa [hf2] using hs)
      obtain ⟨c, hc, r⟩ := h.all x hx this
      exact ⟨c, List.mem_cons_of_mem _ hc, r⟩
  · rcases List.mem_cons.1 hc with rfl | hc
    · exact ha
    · exact h.sub c hc
  · rw [List.any_cons, h1, h.no1]; rfl
  · rw [h.two, List.any_cons]
    cases bad2 X LS a <;> simp
theorem any_both {K L : List Int} (p : Int → Bool) (h1 : ∀ a ∈ K, a ∈ L) (h2 : ∀ a ∈ L, a ∈ K) : K.any p = L.any p := by
  rw [Bool.eq_iff_iff, List.any_eq_true, List.any_eq_true]
  exact ⟨fun ⟨a, h, r⟩ => ⟨a, h1 a h, r⟩, fun ⟨a, h, r⟩ => ⟨a, h2 a h, r⟩⟩
theorem Met.done {X LS : List Int} {seen : Array Nat} {K : List Int} {wst : Int} (h : Met X LS seen K wst) (hall : ∀ x ∈ (vEs (recAll X)).toList, seen.contains x.born = true) (h1 : (reachL X).1 = LS) (h2 : (reachL X).2 = true) : soundF X = wst := by
  have hK : ∀ a ∈ recsL X.length, a ∈ K := fun a ha => by
    obtain ⟨e, he, e1, -⟩ := vEs_has (recAll X) (a, recV X a) ((recAll_mem X _).2 ⟨a, ha, rfl⟩)
    obtain ⟨c, hc, e2⟩ := h.all e he (hall e he)
    rw [e1] at e2
    cases e2
    exact hc
  unfold soundF
  rw [h1, h2, if_neg (by decide)]
  have e1 := any_both (bad1 X LS) h.sub hK
  have e2 := any_both (bad2 X LS) h.sub hK
  rw [h.no1] at e1
  have e1' : ((recsL X.length).any fun a => decide (recAt X a 1 = 0 ∧ a ∈ LS)) = false := e1.symm
  rw [e1', if_neg (by decide), h.two, e2]
  rfl
theorem Met.bad {X LS : List Int} {a : Int} (ha : a ∈ recsL X.length) (hb : bad1 X LS a = true) (h1 : (reachL X).1 = LS) (h2 : (reachL X).2 = true) : soundF X = 33 := by
  unfold soundF
  rw [h1, h2, if_neg (by decide)]
  exact if_pos (List.any_eq_true.2 ⟨a, ha, hb⟩)

set_option maxRecDepth 100000 in
set_option maxHeartbeats 2000000 in
theorem Sound_f (W0 w : World) (b : Nat) (g : Option Nat) (N st : Int) (X : List Int) (h : MS W0 w b g N X st) :
    Calls Try.prog 17 #[.pointer (some ⟨b, 0, none⟩)] w fun e w' => e = .returned (.int .u16 (soundF X)) ∧ Below w.heap.size w w' := by
  have H := Lib.hid h
  have hl := h.len
  have hlen := reachL_len X hl
  have hre := reachC_eq X hl
  clear h
  go_enter Try.func17, Try.ntmps17
  go_wp2_with fail
  refine (look_f W0 _ b g N st X H.out).mono ?_
  rintro e w1 ⟨ao, cap, M, rfl, row1, map1, hb1⟩
  have H1 := Lib.hid (And.intro hb1 (And.intro row1.sl map1))
  clear hb1 row1 map1
  go_wp2_with fail
  generalize hB : w1.heap.size = B
  generalize hW2 : World.alloc _ _ = W2
  have A2 : W2.heap[B]? = some (.cells #[.slice ao X.length cap, .map (some M)] 69 (0, 0)) := by rw [← hW2]; exact alloc_at hB _
  have B2 : Below w1.heap.size w1 W2 := by rw [← hW2]; go_grown
  have HV := Lib.hid (And.intro (H1.out.1.trans (B2.mono H1.out.1.size)) (show VAt W2 B ao cap M X from ⟨A2, H1.out.2.2.below B2, H1.out.2.1.below B2⟩))
  clear hW2 A2 B2
  refine (reachV_f W2 ao cap M X hl HV.out.2.sl HV.out.2.mp).mono ?_
  rintro e w3 ⟨u, rfl, hi, ho, hb3⟩
  have B3 := HV.out.1.trans (hb3.mono HV.out.1.size)
  have V3 := HV.out.2.below hb3
  rw [hre] at hi ⊢
  obtain ⟨LS, hLS⟩ : ∃ LS, (reachL X).1 = LS := ⟨_, rfl⟩
  rw [hLS] at hi hlen
  obtain ⟨lo, lcap, rfl⟩ := hi.shape
  obtain ⟨⟨c0, c1⟩, zB⟩ := blk2v V3.bl
  have HW := Lib.hid (And.intro B3 (And.intro V3 (And.intro hi (And.intro hLS hlen))))
  cases hok : (reachL X).2
  · have hs : soundF X = 30 := by unfold soundF; rw [hok, if_pos rfl]
    clear B3 V3 hi hLS hlen hb3 ho hre
    go_wp2
    go_ret
    exact ⟨by rw [hs]; rfl, HW.out.1⟩
  have HO := Lib.hid hok
  have hm3 := Lib.hid V3.mp
  clear B3 V3 hi hLS hlen hb3 ho hre hok
  go_wp2_with (at_range; refine wpList_range_V _ rfl _ 67 rfl 3 73 Try.underlying67 M (recAll X) rfl hm3.out ?_; intro w4 hr4 hb4 hs4)
  go_frame
  generalize hR : w3.heap.size = R at hr4 hb4 hs4 ⊢
  clear hs4 hm3 c0 c1 zB
  go_loopw [6] (fun v wr => ∃ (seen : Array Nat) (K : List Int) (wst : Int), v = .int .u16 wst ∧ RngV wr M R (recAll X) seen ∧ Met X LS seen K wst ∧ Below R w3 wr) (fun _ wr => rleft M R wr)
  case atStart => exact ⟨#[], [], 0, rfl, hr4, Met.nil X LS, hb4⟩
  case round =>
    obtain ⟨seen, K, wst, rfl, hrg, hmet, hB3⟩ := hrel
    have hwr := hrg.left_eq
    have HR := Lib.hid (And.intro hmet hB3)
    have BW := HW.out.1
    have hwR : w.heap.size ≤ R := by rw [← hR]; exact BW.size
    rcases hrg.next (P := Try.prog) 0 with ⟨hall, hnx⟩ | ⟨e, he, hes, w5, hnx, hrg5, hlt5, hg5, hs5, hen⟩
    · have HD := Lib.hid (hmet.done hall HW.out.2.2.2.1 HO.out)
      clear hrg hwr hall hmet hB3 BW hr4 hb4
      go_wp2
      go_ret
      exact ⟨by rw [HD.out]; rfl, HW.out.1.trans (HR.out.2.mono hwR)⟩
    · obtain ⟨⟨p, hp, e1, e2⟩, -⟩ := vEs_mem _ e he
      obtain ⟨a, ha, rfl⟩ := (recAll_mem X p).1 hp
      dsimp only at e1 e2
      obtain ⟨v0, v1, v2, v3, v4, hv, hv0, hv1⟩ : ∃ v0 v1 v2 v3 v4, recV X a = .agg #[.int .i64 v0, .int .i64 v1, .int .i64 v2, .int .i64 v3, .int .i64 v4] ∧ recAt X a 0 = v0 ∧ recAt X a 1 = v1 := ⟨_, _, _, _, _, rfl, rfl, rfl⟩
      rw [e1, e2, hv] at hnx hen
      have B5 : Below R w3 w5 := hB3.grown hg5 (Nat.le_trans (by omega) hB3.size) (fun k e => by cases e; exact Nat.le_refl _)
      have HE := Lib.hid (And.intro he (And.intro e1 (And.intro ha (And.intro hrg5 (And.intro hlt5 (And.intro B5 hwr))))))
      clear hrg hmet hB3 BW hr4 hb4 hes hrg5 hlt5 hg5 hs5 e1 e2 hv hp ha B5 he hwr
      go_wp2_with fail
      generalize hC : w5.heap.size = C
      generalize hW6 : World.alloc _ _ = W6
      have A6 : W6.heap[C]? = some (.cells #[.int .i64 v0, .int .i64 v1, .int .i64 v2, .int .i64 v3, .int .i64 v4] 73 (0, 0)) := by rw [← hW6]; exact alloc_at hC _
      have B6 : Below w5.heap.size w5 W6 := by rw [← hW6]; go_grown
      have B36 : Below R w3 W6 := HE.out.2.2.2.2.2.1.trans (B6.mono (Nat.le_trans (by omega) HE.out.2.2.2.2.2.1.size))
      have r6 := HE.out.2.2.2.1.below B6
      obtain ⟨⟨x0, x1, x2, x3, x4⟩, zC⟩ := blk5 A6
      have hms : rleft M R W6 < rleft M R wr := by rw [r6.left_eq, HE.out.2.2.2.2.2.2]; exact HE.out.2.2.2.2.1
      have HS := Lib.hid (And.intro r6 (And.intro B36 hms))
      clear hW6 A6 B6 B36 r6 x2 x3 x4 hnx hen
      refine (Contains_any _ LS a W6 (HW.out.2.2.1.slx.below (by rw [hR]; exact HS.out.2.1)) (by have := HW.out.2.2.2.2; omega)).mono ?_
      rintro e7 w7 ⟨rfl, rfl⟩
      obtain ⟨inn, hin⟩ : ∃ t, decide (a ∈ LS) = t := ⟨_, rfl⟩
      rw [hin]
      have hb1 : bad1 X LS a = (decide (v1 = 0) && inn) := by unfold bad1; rw [hv1, ← hin, Bool.decide_and]
      have hb2 : bad2 X LS a = (decide (v1 = 1) && (decide (v0 ≠ -1) && !inn)) := by unfold bad2; rw [hv1, hv0, ← hin, Bool.decide_and, Bool.decide_and, decide_not (p := a ∈ LS)]
      have HB := Lib.hid (And.intro hb1 hb2)
      clear hb1 hb2 hin hv0 hv1 hms
      cases inn
      · by_cases g1 : v1 = 1
        · have q1 : (v1 == 1) = true := beq_iff_eq.2 g1
          by_cases g0 : v0 = -1
          · have q0 : (v0 != -1) = false := by simp [g0]
            have HG := Lib.hid (And.intro g1 g0)
            clear g1 g0
            go_wp2
            go_roundw
            case rel => exact ⟨_, _, _, rfl, HS.out.1, by have h := Met.step HR.out.1 HE.out.1 HE.out.2.1 HE.out.2.2.1 (by rw [HB.out.1, Bool.and_false]); rw [HB.out.2, show decide (v0 ≠ -1) = false from decide_eq_false (fun h => h HG.out.2)] at h; simpa using h, HS.out.2.1⟩
            case measure => exact HS.out.2.2
          · have q0 : (v0 != -1) = true := by simp [g0]
            have HG := Lib.hid (And.intro g1 g0)
            clear g1 g0
            go_wp2
            go_roundw
            case rel => exact ⟨_, _, _, rfl, HS.out.1, by have h := Met.step HR.out.1 HE.out.1 HE.out.2.1 HE.out.2.2.1 (by rw [HB.out.1, Bool.and_false]); rw [HB.out.2, decide_eq_true HG.out.1, decide_eq_true HG.out.2] at h; simpa using h, HS.out.2.1⟩
            case measure => exact HS.out.2.2
        · have q1 : (v1 == 1) = false := by simp [g1]
          have HG := Lib.hid g1
          clear g1
          go_wp2
          go_roundw
          case rel => exact ⟨_, _, _, rfl, HS.out.1, by have h := Met.step HR.out.1 HE.out.1 HE.out.2.1 HE.out.2.2.1 (by rw [HB.out.1, Bool.and_false]); rw [HB.out.2, decide_eq_false HG.out] at h; simpa using h, HS.out.2.1⟩
          case measure => exact HS.out.2.2
      · by_cases g1 : v1 = 0
        · have q1 : (v1 == 0) = true := beq_iff_eq.2 g1
          have HG := Lib.hid g1
          clear g1
          go_wp2
          go_ret
          exact ⟨by rw [Met.bad HE.out.2.2.1 (by rw [HB.out.1, decide_eq_true HG.out]; rfl) HW.out.2.2.2.1 HO.out]; rfl, HW.out.1.trans (HS.out.2.1.mono hwR)⟩
        · have q1 : (v1 == 0) = false := by simp [g1]
          have HG := Lib.hid g1
          clear g1
          go_wp2
          go_roundw
          case rel => exact ⟨_, _, _, rfl, HS.out.1, by have h := Met.step HR.out.1 HE.out.1 HE.out.2.1 HE.out.2.2.1 (by rw [HB.out.1, decide_eq_false HG.out]; rfl); rw [HB.out.2] at h; simpa using h, HS.out.2.1⟩
          case measure => exact HS.out.2.2

end Go.Proofs.Ytnpkhkfhlpopbaa
