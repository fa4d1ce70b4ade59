/- ListGrows. -/
import Derived.Test.YtnpkhkfhlpopbaaListK
import Derived.Test.YtnpkhkfhlpopbaaListT
import Derived.Test.YtnpkhkfhlpopbaaChainA
import Derived.Test.YtnpkhkfhlpopbaaFrame
import Derived.Test.YtnpkhkfhlpopbaaBel
namespace Go.Proofs.Ytnpkhkfhlpopbaa
set_option linter.unusedSimpArgs false
set_option linter.unusedVariables false
open Go.RowKit
open Go.ChangeShapes Go.WideShapes Go.ChangeAt Go.Deep

theorem Try.infoIntG : (Try.prog.info? 3).map (fun i => (i.zero, i.size, i.bytes)) = some (some (.int .i64 0), 1, 8) := by kernel_rfl
theorem Store_k {W0 w : World} {b : Nat} {g : Option Nat} {N st : Int} {xs : List Int} (h : MS W0 w b g N xs st) (p : Int) (a : Nat) (y : Int) (hp : p = (a : Int)) (h1 : a < xs.length) (s1 : st < 1000000) :
    Calls Try.prog 14 #[.pointer (some ⟨b, 0, none⟩), .int .i64 p, .int .i64 y] w fun e w' => e = .returned (.int .u16 0) ∧ MS W0 w' b g N (xs.set a y) (st + 1) ∧ Kept (Foot b g) w w' := by
  subst hp
  have := Store_ms h (a : Int) y (by omega) (by omega) s1
  rwa [Int.toNat_natCast] at this
theorem Load_k {W0 w : World} {b : Nat} {g : Option Nat} {N st : Int} {xs : List Int} (h : MS W0 w b g N xs st) (p : Int) (a : Nat) (hp : p = (a : Int)) (h1 : a < xs.length) (s1 : st < 1000000) :
    Calls Try.prog 18 #[.pointer (some ⟨b, 0, none⟩), .int .i64 p] w fun e w' => e = .returned (.tuple #[.int .i64 (xs.getD a 0), .int .u16 0]) ∧ MS W0 w' b g N xs (st + 1) ∧ Kept (Foot b g) w w' := by
  subst hp
  have := Load_ms h (a : Int) (by omega) (by omega) s1
  rwa [Int.toNat_natCast] at this
theorem Reach_g {W0 w : World} {b : Nat} {g : Option Nat} {N st : Int} {X : List Int} (h : MS W0 w b g N X st) (AL : List Int) (hR : reachL X = (AL, true)) : Calls Try.prog 15 #[.pointer (some ⟨b, 0, none⟩)] w fun e w' => ∃ u, e = .returned (.tuple #[u, .bool true]) ∧ IRow w' u AL ∧ (∀ k, u.ownBlock = some k → w.heap.size ≤ k) ∧ Below w.heap.size w w' :=
  (Reach_f W0 w b g N st X h).mono fun e w' ⟨u, h1, h2, h3, h4⟩ => ⟨u, by rw [h1, hR], by rw [hR] at h2; exact h2, h3, h4⟩
theorem Sound_g {W0 w : World} {b : Nat} {g : Option Nat} {N st : Int} {X : List Int} (h : MS W0 w b g N X st) (hs : soundF X = 0) : Calls Try.prog 17 #[.pointer (some ⟨b, 0, none⟩)] w fun e w' => e = .returned (.int .u16 0) ∧ Below w.heap.size w w' :=
  (Sound_f W0 w b g N st X h).mono fun e w' ⟨h1, h2⟩ => ⟨by rw [h1, hs], h2⟩
theorem Ints_g (u v : Value) (xs : List Int) (w : World) (hu : Sl w u xs) (hv : Sl w v xs) (n1 : xs.length ≤ 1000000) : Calls Try.prog 16 #[u, v] w fun e w' => e = .returned (.bool true) ∧ Below w.heap.size w w' :=
  (Ints_any u v xs xs w hu hv n1).mono fun e w' ⟨h1, n, h2⟩ => ⟨by rw [h1, decide_eq_true rfl], h2 ▸ below_drewN (Below.refl _ _) n⟩
theorem IRow.cellAt {w : World} {g n cap j : Nat} {xs : List Int} (h : IRow w (.slice (some ⟨g, 0, none⟩) n cap) xs) (hj : j < xs.length) : w.cell? ⟨g, j, none⟩ = some (.int .i64 (xs.getD j 0)) := by
  obtain ⟨g', cap', cur, e, hg, -, -, hc, -⟩ := h.pos (by omega)
  cases e
  exact hc j hj
theorem IRow.capOk {w : World} {g n cap : Nat} {xs : List Int} (h : IRow w (.slice (some ⟨g, 0, none⟩) n cap) xs) (hp : 0 < xs.length) : n = xs.length ∧ xs.length ≤ cap := by
  obtain ⟨g', cap', cur, e, hg, -, h2, hc, -⟩ := h.pos hp
  cases e
  exact ⟨rfl, h2⟩
theorem bmrg {W a b : World} (h1 : Below W.heap.size W a) (h2 : Below a.heap.size a b) : Below W.heap.size W b := h1.trans (h2.mono h1.size)
set_option maxRecDepth 100000 in
set_option maxHeartbeats 16000000 in
theorem listGrows_any (c : Value) (cs : List Int) (many at_ : Int) (w : World) (hc : InSlice .u8 w c cs) (hk : 0 ≤ many ∧ many ≤ 255) (ha : 0 ≤ at_ ∧ at_ ≤ 255) : Calls Try.prog 4 #[c, .int .u8 many, .int .u8 at_] w fun e w' => e = .returned (.bool true) ∧ Below w.heap.size w w' := by
  obtain ⟨n, hn⟩ : ∃ n, nOf cs = n := ⟨_, rfl⟩
  have hn9 := nOf_rng cs
  rw [hn] at hn9
  obtain ⟨M, hM⟩ : ∃ M : Nat, many % 9 = (M : Int) := ⟨(many % 9).toNat, by omega⟩
  obtain ⟨m, hm⟩ : ∃ m, min M n = m := ⟨_, rfl⟩
  have hmn : m ≤ n := by omega
  obtain ⟨O, hO⟩ : ∃ O, (ord cs n).take m = O := ⟨_, rfl⟩
  obtain ⟨X, hX⟩ : ∃ X, layN cs O ((List.replicate (3 + 5 * n) 0).set 2 50) m = X := ⟨_, rfl⟩
  have hOl : O.length = m := by rw [← hO, List.length_take, ord_len]; omega
  obtain ⟨i0, hi, hz0, hz1, hz2⟩ := info_parts Try.infoIntG
  have hP := per_ord cs n
  have hXO : layN cs ((ord cs n).take m) ((List.replicate (3 + 5 * n) 0).set 2 50) m = X := by rw [hO]; exact hX
  have hG0 := grown_lay cs hmn hXO
  have hG1 := fun i hi hno => grown_push (i := i) cs hmn hXO hi hno
  rw [hO] at hG0 hG1
  have hXl := hG0.len
  generalize ordA cs n = A at hP hG0 hG1
  obtain ⟨hd, hhd⟩ : ∃ hd, X.getD 1 0 = hd := ⟨_, rfl⟩
  rw [hhd] at hG1
  have HN := Lib.hid (And.intro hn (And.intro hm (And.intro hO hX)))
  have HC := Lib.hid hc
  have HO := Lib.hid (And.intro hOl hhd)
  have HG := Lib.hid (And.intro hG0 (And.intro hG1 (And.intro hXl hP)))
  obtain ⟨bo, cap, rfl, -, -, -⟩ := hc
  have ym9 : (m : Int) ≤ 9 := by omega
  have yX9 : (X.length : Int) ≤ 50 := by omega
  have yX3 : (3 : Int) ≤ (X.length : Int) := by omega
  have y1X : (1 : Int) < (X.length : Int) := by omega
  have z1X : 1 < X.length := by omega
  clear hn hm hO hX hG0 hG1 hOl hXl hXO hhd hP
  go_enter Try.func4, Try.ntmps4
  go_wp2_with fail
  refine (Chain_f _ cs (M : Int) _ n M HC.out (by omega) (by omega) HN.out.1 rfl).mono ?_
  rintro e w1 ⟨v1, v2, rfl, R1, I1, hb1, o1⟩
  rw [HN.out.2.1, HN.out.2.2.1, HN.out.2.2.2] at R1
  rw [HN.out.2.1, HN.out.2.2.1] at I1
  obtain ⟨xo, xc, rfl⟩ := R1.shape
  obtain ⟨oo, oc, rfl⟩ := I1.shape
  obtain ⟨lg, lc2, cur2, hs, hg2, -, -, hc2, -⟩ := R1.pos (by omega)
  cases hs
  have H1 := Lib.hid (And.intro R1 (And.intro I1 hb1))
  have hOm : O.length = m := HO.out.1
  rw [hOm]
  clear R1 I1 hb1 o1 hc2 hg2
  go_wp2_with fail
  refine (Memory13_f _ X w1 H1.out.1.sl (by omega)).mono ?_
  rintro e w3 ⟨mv, b, g, q, rfl, h1, -⟩
  obtain ⟨ao1, cap1, rfl, -, -⟩ := h1.rv.open
  have H3 := Lib.hid h1.ms
  clear h1
  go_wp2_with fail
  generalize hW3 : World.alloc _ _ = W3
  have B3 : Below w3.heap.size w3 W3 := by rw [← hW3]; go_grown
  have m3 := H3.out.below B3
  have HM3 := Lib.hid m3
  clear hW3 B3 m3 H3
  go_loopw [11, 12] (fun al k wr => ∃ (i kk : Nat) (X1 L0 : List Int) (st : Int), i ≤ n ∧ kk = 3 + 5 * i ∧ k = .int .i64 kk ∧ IRow wr al L0 ∧ (∀ t, al.ownBlock = some t → w1.heap.size ≤ t ∧ ¬ Foot b g t) ∧ MS w1 wr b g X.length X1 st ∧ Grown A n X1 (L0 ++ O) ∧ st ≤ 100 ∧ ((al = .slice none 0 0 ∧ L0 = [] ∧ X1 = X ∧ st ≤ 60) ∨ L0.length = 1)) (fun _ k _ => 3 + 5 * n - (intOf k).toNat)
  case atStart => exact ⟨0, 3, X, [], _, Nat.zero_le _, rfl, rfl, IRow.nil _, fun t e => (by cases e), HM3.out, HG.out.1, by omega, .inl ⟨rfl, rfl, rfl, by omega⟩⟩
  case round =>
    obtain ⟨i, kk, X1, L0, st, hin, hkk, rfl, hAl, hOw, hMS, hGr, hst, hmode⟩ := hrel
    obtain ⟨ao, acap, rfl⟩ := hAl.shape
    have HR := Lib.hid (And.intro hAl (And.intro hOw (And.intro hMS (And.intro hGr (And.intro hst hmode)))))
    have HK := Lib.hid (And.intro hin hkk)
    have yk0 : (0 : Int) ≤ (kk : Int) := by omega
    have yk9 : (kk : Int) ≤ 100 := by omega
    have hXl := HG.out.2.2.1
    clear hAl hOw hMS hGr hst hmode
    by_cases hlt : i < n
    · have yk : (kk : Int) < (X.length : Int) := by omega
      have zk : kk < X.length := by omega
      have hk5 : IntKind.i64.wrap ((kk : Int) + 5) = (kk : Int) + 5 := IntWalk.i64_in _ (by omega)
      clear hXl hkk hin
      go_wp2_with fail
      go_loopw [13, 14] (fun is jv wq => ∃ j : Nat, j ≤ m ∧ jv = .int .i64 j ∧ is = .bool (decide ((kk : Int) ∈ O.take j)) ∧ Below wr.heap.size wr wq) (fun _ jv _ => m - (intOf jv).toNat)
      case atStart => exact ⟨0, Nat.zero_le _, rfl, by simp, Below.refl _ _⟩
      case round =>
        obtain ⟨j, hj, rfl, rfl, hB⟩ := hrel
        have HB := Lib.hid hB
        have yj0 : (0 : Int) ≤ (j : Int) := by omega
        by_cases hjm : j < m
        · have hjm' : (j : Int) < (m : Int) := by omega
          obtain ⟨og, oc2, cur, hs, hg, -, -, hc, -⟩ := (H1.out.2.1.below (HR.out.2.2.1.below hB).B).pos (by omega)
          cases hs
          have c1 := hc j (by omega)
          have ht := take_one (l := O) (i := j) (by omega)
          obtain ⟨x, hx⟩ : ∃ x, O.getD j 0 = x := ⟨_, rfl⟩
          rw [hx] at c1 ht
          obtain ⟨bb, hbb⟩ : ∃ bb, decide ((kk : Int) ∈ O.take j) = bb := ⟨_, rfl⟩
          rw [hbb]
          have HT := Lib.hid (And.intro ht hbb)
          clear hg hc hx ht hbb hB
          cases bb
          · by_cases hxk : x = (kk : Int)
            · subst hxk
              go_wp2_with fail
              go_roundw
              case rel => exact ⟨j + 1, by omega, by go_num, by rw [HT.out.1, decide_eq_true (by simp)], HB.out⟩
              case measure => simp [intOf]; omega
            · have hxb : (x == (kk : Int)) = false := beq_eq_false_iff_ne.2 hxk
              go_wp2_with fail
              go_roundw
              case rel => exact ⟨j + 1, by omega, by go_num, by rw [HT.out.1, decide_eq_false (fun hh => (List.mem_append.1 hh).elim (of_decide_eq_false HT.out.2) (fun h => hxk (List.mem_singleton.1 h).symm))], HB.out⟩
              case measure => simp [intOf]; omega
          · go_wp2_with fail
            go_roundw
            case rel => exact ⟨j + 1, by omega, by go_num, by rw [HT.out.1, decide_eq_true (List.mem_append.2 (.inl (of_decide_eq_true HT.out.2)))], HB.out⟩
            case measure => simp [intOf]; omega
        · obtain rfl : j = m := by omega
          have hOt : O.take j = O := List.take_of_length_le (by omega)
          rw [hOt]
          obtain ⟨bb, hbb⟩ : ∃ bb, decide ((kk : Int) ∈ O) = bb := ⟨_, rfl⟩
          rw [hbb]
          have HT := Lib.hid hbb
          clear hbb hOt hB
          cases bb
          · rcases HR.out.2.2.2.2.2 with hm1 | hm1
            · obtain ⟨e1, e2, e3, e4⟩ := hm1
              have hl0 : L0.length = 0 := by rw [e2]; rfl
              rw [hl0] at e1
              have HE := Lib.hid (And.intro e2 (And.intro e3 e4))
              rw [hl0]
              cases e1
              have hk3 : IntKind.i64.wrap ((kk : Int) + 3) = (kk : Int) + 3 := IntWalk.i64_in _ (by omega)
              have hk1 : IntKind.i64.wrap ((kk : Int) + 1) = (kk : Int) + 1 := IntWalk.i64_in _ (by omega)
              have hno : (kk : Int) ∉ O := of_decide_eq_false HT.out
              have hm0 := HR.out.2.2.1.below HB.out
              rw [e3] at hm0
              obtain ⟨lg', lc2, cur2, hs, hg2, -, -, hc2, -⟩ := (H1.out.1.below hm0.B).pos (by omega)
              cases hs
              have l1 := hc2 1 (by omega)
              rw [HO.out.2] at l1
              have HM := Lib.hid hm0
              have HQ := Lib.hid (HG.out.2.1 i hlt (by have := HK.out.2; rw [← this]; exact hno))
              have zX : kk + 5 ≤ X.length := by have := HK.out.2; have := HG.out.2.2.1; omega
              clear hm0 e2 e3 hg2 hc2 hl0 hno
              go_wp2_with fail
              refine (Store_k HM.out _ (kk + 3) _ (by omega) (by omega) (by omega)).mono ?_
              rintro e u1 ⟨rfl, m1, k1⟩
              have M1 := Lib.hid m1
              clear m1 k1 l1
              go_wp2_with fail
              refine (Store_k M1.out _ (kk + 1) _ (by omega) (by rw [List.length_set]; omega) (by omega)).mono ?_
              rintro e u2 ⟨rfl, m2, k2⟩
              have M2 := Lib.hid m2
              clear m2 k2
              go_wp2_with fail
              refine (Store_k M2.out _ 1 _ (by omega) (by rw [List.length_set, List.length_set]; omega) (by omega)).mono ?_
              rintro e u3 ⟨rfl, m3, k3⟩
              have M3 := Lib.hid m3
              clear m3 k3
              go_wp2_with (at_builtin; refine wpList_append_rows _ rfl _ _ 24 rfl 0 0 3 i0 (.int .i64 0) 1 8 Try.underlying24 hi hz0 hz1 hz2 rfl (by decide) _ _ _ rfl (World.ownsRow_nil _ 0 3 1) _ 1 _ rfl (irow_lit (vs := [(kk : Int)]) (heap_alloc_new _ _) rfl (by omega)) (fun v hv => (by obtain ⟨q, _, rfl⟩ := List.mem_map.1 hv; rfl)) ?d3 ?d4 ?d5 ?_)
              try case d3 => unfold maxLen; omega
              try case d4 => omega
              try case d5 => exact Nat.zero_le _
              intro v2 u4 own2 gr2 _ loc2
              have R2 : IRow u4 v2 [(kk : Int)] := IRow.of own2 (by simp) (by simp)
              have B2 : Below u3.heap.size u3 u4 := ((Below.refl _ u3).alloc (Nat.le_refl _) _).grown gr2 (by simp) (fun k hk => by cases hk)
              have O2 : ∀ t, v2.ownBlock = some t → w1.heap.size ≤ t ∧ ¬ Foot b g t := fun t e => by
                have h3 := M3.out.B.size
                rcases loc2 with h | h
                · rw [h] at e; cases e
                · rw [e] at h
                  have ht : t = u3.heap.size + 1 := by simpa using h
                  exact ⟨by omega, M3.out.past t (by omega)⟩
              have H4 := Lib.hid (And.intro R2 (And.intro B2 (And.intro O2 (M3.out.below B2))))
              clear own2 gr2 loc2 R2 B2 O2
              go_wp2
              go_roundw
              case rel => exact ⟨i + 1, kk + 5, _, [(kk : Int)], _, by omega, by have := HK.out.2; omega, by go_num, H4.out.1, H4.out.2.2.1, H4.out.2.2.2, by have h := HQ.out; rw [← HK.out.2] at h; exact h, by omega, .inr rfl⟩
              case measure => have := HK.out.2; simp [intOf]; omega
            · have hm2 : (L0.length : Int) = 1 := by omega
              go_wp2_with fail
              go_roundw
              case rel => exact ⟨i + 1, kk + 5, X1, L0, st, by omega, by have := HK.out.2; omega, by go_num, HR.out.1.below HB.out, HR.out.2.1, HR.out.2.2.1.below HB.out, HR.out.2.2.2.1, HR.out.2.2.2.2.1, HR.out.2.2.2.2.2⟩
              case measure => have := HK.out.2; simp [intOf]; omega
          · go_wp2_with fail
            go_roundw
            case rel => exact ⟨i + 1, kk + 5, X1, L0, st, by omega, by have := HK.out.2; omega, by go_num, HR.out.1.below HB.out, HR.out.2.1, HR.out.2.2.1.below HB.out, HR.out.2.2.2.1, HR.out.2.2.2.2.1, HR.out.2.2.2.2.2⟩
            case measure => have := HK.out.2; simp [intOf]; omega
    · obtain rfl : i = n := by omega
      have I := H1.out.2.1.below HR.out.2.2.1.B
      rw [hOm] at I
      have hl0 : L0.length ≤ 1 := by
        rcases HR.out.2.2.2.2.2 with h | h
        · rw [h.2.1]; simp
        · omega
      have yke : (X.length : Int) ≤ (kk : Int) := by omega
      have zke : ¬ kk < X.length := by omega
      clear hXl hkk
      go_wp2_with (at_builtin; refine wpList_append_rows _ rfl _ _ 24 rfl 0 0 3 i0 (.int .i64 0) 1 8 Try.underlying24 hi hz0 hz1 hz2 rfl (by decide) _ _ _ rfl HR.out.1 _ O.length _ rfl I (fun v hv => (by obtain ⟨q, _, rfl⟩ := List.mem_map.1 hv; rfl)) ?d3 ?d4 ?d5 ?_)
      try case d3 => unfold maxLen; omega
      try case d4 => omega
      try case d5 => exact Nat.zero_le _
      intro v5 w5 own5 gr5 _ loc5
      have R5 : IRow w5 v5 (L0 ++ O) := IRow.of own5 (by rw [List.length_append]; omega) (by simp)
      obtain ⟨ao5, cap5, rfl⟩ := R5.shape
      have K5 : Kept (fun t => (Value.slice ao L0.length acap).ownBlock = some t) wr w5 := (Kept.refl _ wr).grown gr5 (fun k e _ => e)
      have B5 : Below w1.heap.size w1 w5 := HR.out.2.2.1.B.trans (K5.below HR.out.2.2.1.B.size (fun k hk e => by have := (HR.out.2.1 k e).1; omega))
      have M5 := HR.out.2.2.1.kept K5 B5 (fun e => (HR.out.2.1 b e).2 (.inl rfl)) (fun k hk e => (HR.out.2.1 k e).2 (.inr hk.symm))
      have F5 : ∀ t, (Value.slice ao5 (L0 ++ O).length cap5).ownBlock = some t → ¬ Foot b g t := fun t e => by
        rcases loc5 with h | h
        · exact (HR.out.2.1 t (h ▸ e)).2
        · rw [e] at h; cases h; exact HR.out.2.2.1.past _ (Nat.le_refl _)
      obtain ⟨AL, hAL⟩ : ∃ AL, L0 ++ O = AL := ⟨_, rfl⟩
      obtain ⟨T, hT⟩ : ∃ T, AL.length = T := ⟨_, rfl⟩
      have hGr := HR.out.2.2.2.1
      rw [hAL] at R5 F5 hGr
      rw [hAL]
      have htold := hGr.told HG.out.2.2.2 (by omega)
      have hsh := hGr.short
      rw [hT] at R5 F5 hsh
      rw [hT]
      have HT := Lib.hid hT
      have H5 := Lib.hid (And.intro R5 (And.intro M5 F5))
      have HL := Lib.hid (And.intro htold (And.intro hGr HR.out.2.2.2.2.1))
      have yT9 : (T : Int) ≤ 9 := by omega
      clear own5 gr5 loc5 R5 K5 B5 M5 F5 hAL hT hGr htold I HR HK hl0 yke zke
      go_wp2_with fail
      refine (Reach_g H5.out.2.1 AL HL.out.1.1).mono ?_
      rintro e w6 ⟨u6, rfl, hy, -, hb6⟩
      obtain ⟨yo, yc, rfl⟩ := hy.shape
      rw [HT.out] at hy
      rw [HT.out]
      have H6 := Lib.hid (And.intro (H5.out.1.below hb6) (And.intro (H5.out.2.1.below hb6) hy.slx))
      clear hy hb6
      go_wp2_with fail
      refine (Ints_g _ _ AL _ H6.out.2.2 H6.out.1.slx (by have := HT.out; omega)).mono ?_
      rintro e w7 ⟨rfl, hb7⟩
      have H7 := Lib.hid (And.intro (H6.out.1.below hb7) (H6.out.2.1.below hb7))
      clear hb7
      go_wp2_with fail
      refine (Sound_g H7.out.2 HL.out.1.2).mono ?_
      rintro e w8 ⟨rfl, hb8⟩
      have H8 := Lib.hid (And.intro (H7.out.1.below hb8) (H7.out.2.below hb8))
      clear hb8
      by_cases h2 : T < 2
      · have h2' : (T : Int) < 2 := by omega
        go_wp2_with fail
        refine (known14_any _).mono ?_
        rintro e w9 ⟨rfl, hb9⟩
        go_wp2
        go_ret
        exact ⟨rfl, H1.out.2.2.trans ((H8.out.2.B.trans (hb9.mono H8.out.2.B.size)).mono H1.out.2.2.size)⟩
      · have h2' : ¬ (T : Int) < 2 := by omega
        obtain ⟨d, hd⟩ : ∃ d, T = d + 1 := ⟨T - 1, by omega⟩
        have hd1 : IntKind.i64.wrap ((T : Int) - 1) = (d : Int) := by rw [show (T : Int) - 1 = d by omega]; exact IntWalk.i64_in _ (by omega)
        have hd0 : ¬ (d : Int) = 0 := by omega
        have hd00 : ¬ d = 0 := by omega
        obtain ⟨k0, hkd⟩ : ∃ k0 : Nat, at_ % (d : Int) = (k0 : Int) := ⟨(at_ % (d : Int)).toNat, by have := Int.emod_nonneg at_ (show (d : Int) ≠ 0 by omega); omega⟩
        have hkm : k0 < d := by have h3 := Int.emod_lt_of_pos at_ (show (0 : Int) < (d : Int) by omega); omega
        obtain ⟨k1, hk1⟩ : ∃ k1, k1 = k0 + 1 := ⟨_, rfl⟩
        obtain ⟨k2, hk2⟩ : ∃ k2, k2 = k1 + 1 := ⟨_, rfl⟩
        have x1 : IntKind.i64.wrap (1 + (k0 : Int)) = (k1 : Int) := by rw [show 1 + (k0 : Int) = k1 by omega]; exact IntWalk.i64_in _ (by omega)
        have x2 : IntKind.i64.wrap ((k1 : Int) - 1) = (k0 : Int) := by rw [show (k1 : Int) - 1 = k0 by omega]; exact IntWalk.i64_in _ (by omega)
        have x3 : IntKind.i64.wrap ((k1 : Int) + 1) = (k2 : Int) := by rw [show (k1 : Int) + 1 = k2 by omega]; exact IntWalk.i64_in _ (by omega)
        have hg := HL.out.2.1
        have hTl := HT.out
        obtain ⟨r, hr, hr3, hr5⟩ := hg.at HG.out.2.2.2 (j := k1) (by omega)
        obtain ⟨p, hp, hp3, hp5⟩ := hg.at HG.out.2.2.2 (j := k0) (by omega)
        have hdrop := hg.drop HG.out.2.2.2 (k := k0) (p := p) (r := r) (by omega) hp (by rw [← hk1]; exact hr)
        rw [show k0 + 1 + 1 = k2 by omega, ← hk1] at hdrop
        obtain ⟨nx, hnx⟩ : ∃ nx, X1.getD (r + 3) 0 = nx := ⟨_, rfl⟩
        rw [hnx] at hdrop
        have hX1 : X1.length = X.length := by rw [hg.len, HG.out.2.2.1]
        have yr3 : IntKind.i64.wrap ((r : Int) + 3) = (r : Int) + 3 := IntWalk.i64_in _ (by omega)
        have yr1 : IntKind.i64.wrap ((r : Int) + 1) = (r : Int) + 1 := IntWalk.i64_in _ (by omega)
        have yp3 : IntKind.i64.wrap ((p : Int) + 3) = (p : Int) + 3 := IntWalk.i64_in _ (by omega)
        obtain ⟨ag, agc, cur5, e5, -, -, hcp, -, -⟩ := H8.out.1.pos (by omega)
        rw [hTl] at e5 hcp
        cases e5
        have hAg : ∀ t, (Value.slice (some ⟨ag, 0, none⟩) T cap5).ownBlock = some t → ¬ Foot b g t := fun t e => H5.out.2.2 t e
        have c1 := H8.out.1.cellAt (j := k1) (by omega)
        rw [hr] at c1
        have y10 : (0 : Int) ≤ (k1 : Int) := by omega
        have y1T : (k1 : Int) < (T : Int) := by omega
        have z1T : k1 < T := by omega
        have y00 : (0 : Int) ≤ (k0 : Int) := by omega
        have y0T : (k0 : Int) < (T : Int) := by omega
        have z0T : k0 < T := by omega
        have y2T : (k2 : Int) ≤ (T : Int) := by omega
        have yTc : (T : Int) ≤ (cap5 : Int) := by omega
        have y1c : (k1 : Int) ≤ (cap5 : Int) := by omega
        have y2c : (k2 : Int) ≤ (cap5 : Int) := by omega
        have HV := Lib.hid (And.intro hr (And.intro hp (And.intro hnx (And.intro hX1 (And.intro True.intro (And.intro hAg (And.intro hk1 (And.intro hk2 (And.intro hd (And.intro hTl hcp))))))))))
        have HQ := Lib.hid (And.intro hr5 hp5)
        obtain ⟨LS, hLS⟩ : ∃ LS, AL.take k1 ++ AL.drop k2 = LS := ⟨_, rfl⟩
        rw [hLS] at hdrop
        have HLS := Lib.hid hLS
        have hSl := hdrop.1.short
        have HS9 := Lib.hid (show LS.length ≤ 1000000 by omega)
        have HD := Lib.hid (And.intro (hdrop.1.told HG.out.2.2.2 (by omega)) (hdrop.2.told HG.out.2.2.2 (by omega)))
        clear hr hp hnx hX1 hdrop hLS hSl hAg hk1 hk2 hd hTl hcp hg hr3 hr5 hp3 hp5 hkm h2
        go_wp2_with fail
        refine (Load_k H8.out.2 _ (r + 3) (by omega) (by have := HQ.out.1; omega) (by have := HL.out.2.2; omega)).mono ?_
        rintro e u1 ⟨rfl, m1, q1⟩
        rw [HV.out.2.2.1]
        have A1 := H8.out.1.kept q1 HV.out.2.2.2.2.2.1
        have c1 := A1.cellAt (j := k1) (by have := HV.out.2.2.2.2.2.2.2.2.2.1; omega)
        rw [HV.out.1] at c1
        have U1 := Lib.hid (And.intro m1 A1)
        clear m1 A1 q1
        go_wp2_with fail
        refine (Store_k U1.out.1 _ r _ (by rfl) (by have := HQ.out.1; omega) (by have := HL.out.2.2; omega)).mono ?_
        rintro e u2 ⟨rfl, m2, q2⟩
        have A2 := U1.out.2.kept q2 HV.out.2.2.2.2.2.1
        have c0 := A2.cellAt (j := k0) (by have := HV.out.2.2.2.2.2.2.2.2.2.1; omega)
        rw [HV.out.2.1] at c0
        have U2 := Lib.hid (And.intro m2 A2)
        clear m2 A2 q2 c1
        go_wp2_with fail
        refine (Store_k U2.out.1 _ (p + 3) _ (by omega) (by rw [List.length_set]; have := HQ.out.2; omega) (by have := HL.out.2.2; omega)).mono ?_
        rintro e u3 ⟨rfl, m3, q3⟩
        have A3 := U2.out.2.kept q3 HV.out.2.2.2.2.2.1
        have U3 := Lib.hid (And.intro m3 A3)
        clear m3 A3 q3 c0
        have A := U3.out.2.take (A := k1) (by have := HV.out.2.2.2.2.2.2.2.2.2.1; omega)
        unfold IRow at A
        rw [List.length_take, Nat.min_eq_left (by have := HV.out.2.2.2.2.2.2.2.2.2.1; omega)] at A
        go_wp2_with (at_builtin; refine wpList_append_rows _ rfl _ _ 24 rfl 0 0 3 i0 (.int .i64 0) 1 8 Try.underlying24 hi hz0 hz1 hz2 rfl (by decide) _ _ _ rfl (World.ownsRow_nil _ 0 3 1) _ k1 _ rfl A (fun v hv => (by obtain ⟨q, _, rfl⟩ := List.mem_map.1 hv; rfl)) ?d3 ?d4 ?d5 ?_)
        try case d3 => unfold maxLen; omega
        try case d4 => omega
        try case d5 => exact Nat.zero_le _
        intro v6 u4 own6 gr6 _ loc6
        have hTl := HV.out.2.2.2.2.2.2.2.2.2.1
        have R6 : IRow u4 v6 (AL.take k1) := IRow.of own6 (by rw [List.length_take]; omega) (by simp)
        obtain ⟨ao6, cap6, rfl⟩ := R6.shape
        have hl6 : (AL.take k1).length = k1 := by rw [List.length_take]; omega
        rw [hl6] at R6
        try rw [hl6] at loc6
        try rw [hl6]
        have B6 : Below u3.heap.size u3 u4 := (Below.refl _ _).grown gr6 (Nat.le_refl _) (fun k hk => by cases hk)
        have O6 : ∀ t, (Value.slice ao6 k1 cap6).ownBlock = some t → u3.heap.size ≤ t := fun t e => by
          rcases loc6 with h | h
          · rw [h] at e; cases e
          · rw [h] at e; cases e; exact Nat.le_refl _
        have HA := Lib.hid (And.intro R6 (And.intro B6 O6))
        have HA2 := Lib.hid hl6
        clear own6 gr6 loc6 R6 B6 O6 hl6 A hTl
        by_cases hfull : k2 = T ∧ cap5 = T
        · obtain ⟨f1, f2⟩ := hfull
          subst f1
          subst f2
          go_wp2_with (at_builtin; refine wpList_append_own_at _ rfl _ _ 24 rfl 0 3 i0 (.int .i64 0) 1 8 Try.underlying24 hi hz0 hz1 hz2 rfl (by decide) _ _ _ rfl HA.out.1 ⟨ag, 0, none⟩ 0 0 ((AL.drop cap5).map (Value.int .i64)) rfl (by rw [List.length_map, List.length_drop]; have := HV.out.2.2.2.2.2.2.2.2.2.1; omega) (fun j u hj => (by rw [List.drop_of_length_le (by have := HV.out.2.2.2.2.2.2.2.2.2.1; omega)] at hj; cases hj)) (fun v hv => (by obtain ⟨q, _, rfl⟩ := List.mem_map.1 hv; rfl)) ?e3 ?e4 ?e5 ?_)
          try case e3 => have := HA2.out; unfold maxLen; omega
          try case e4 => have := HA2.out; omega
          try case e5 => exact Nat.zero_le _
          intro v7 u5 own7 gr7 _ loc7
          have R7 : IRow u5 v7 LS := by
            rw [← HLS.out]
            exact IRow.of own7 (by rw [List.length_append, List.length_take, List.length_drop]; have := HV.out.2.2.2.2.2.2.2.2.2.1; omega) (by simp)
          obtain ⟨ao7, cap7, rfl⟩ := R7.shape
          have B7 : Below u3.heap.size u3 u5 := HA.out.2.1.grown gr7 HA.out.2.1.size (fun k hk => HA.out.2.2 k hk)
          have m5 := U3.out.1.below B7
          have F7 : ∀ t, (Value.slice ao7 LS.length cap7).ownBlock = some t → ¬ Foot b g t := fun t e => by
            rcases loc7 with h | h
            · exact U3.out.1.past t (HA.out.2.2 t (h ▸ e))
            · rw [e] at h; cases h; exact U3.out.1.past _ HA.out.2.1.size
          have U5 := Lib.hid (And.intro m5 (And.intro (U3.out.2.below B7) (And.intro R7 F7)))
          clear own7 gr7 loc7 R7 B7 m5 F7
          go_wp2_with fail
          refine (Reach_g U5.out.1 LS HD.out.1.1).mono ?_
          rintro e u6 ⟨y6, rfl, hy, oy, hb6⟩
          obtain ⟨yo6, yc6, rfl⟩ := hy.shape
          have U6 := Lib.hid (And.intro (U5.out.1.below hb6) (And.intro (U5.out.2.1.below hb6) (And.intro (U5.out.2.2.1.below hb6) (And.intro hy (show ∀ t, (Value.slice yo6 LS.length yc6).ownBlock = some t → ¬ Foot b g t from fun t e => U5.out.1.past t (oy t e))))))
          clear hy oy hb6
          go_wp2_with fail
          refine (Sound_g U6.out.1 HD.out.1.2).mono ?_
          rintro e u7 ⟨rfl, hb7⟩
          have A7 := U6.out.2.1.below hb7
          have c1 := A7.cellAt (j := k1) (by have := HV.out.2.2.2.2.2.2.2.2.2.1; omega)
          rw [HV.out.1] at c1
          have U7 := Lib.hid (And.intro (U6.out.1.below hb7) (And.intro (U6.out.2.2.1.below hb7) (U6.out.2.2.2.1.below hb7)))
          clear A7 hb7
          go_wp2_with fail
          refine (Store_k U7.out.1 _ (r + 1) _ (by omega) (by rw [List.length_set, List.length_set]; have := HQ.out.1; omega) (by have := HL.out.2.2; omega)).mono ?_
          rintro e u8 ⟨rfl, m8, q8⟩
          have U8 := Lib.hid (And.intro m8 (And.intro (U7.out.2.1.kept q8 U5.out.2.2.2) (U7.out.2.2.kept q8 U6.out.2.2.2.2)))
          clear m8 q8 c1
          go_wp2_with fail
          refine (known14_any _).mono ?_
          rintro e u9 ⟨rfl, hb9⟩
          have U9 := Lib.hid (And.intro (U8.out.1.below hb9) (And.intro (U8.out.2.1.below hb9) (U8.out.2.2.below hb9)))
          clear hb9
          go_wp2_with fail
          refine (Ints_g _ _ LS _ U9.out.2.2.slx U9.out.2.1.slx HS9.out).mono ?_
          rintro e u10 ⟨rfl, hb10⟩
          have U10 := Lib.hid (U9.out.1.below hb10)
          clear hb10
          go_wp2_with fail
          refine (Sound_g U10.out HD.out.2.2).mono ?_
          rintro e u11 ⟨rfl, hb11⟩
          have BZ := H1.out.2.2.trans ((U10.out.below hb11).B.mono H1.out.2.2.size)
          clear hb11
          go_wp2
          go_ret
          exact ⟨by first | rfl | (simp; done), BZ⟩
        · have hac : (k2 : Int) < (cap5 : Int) := by omega
          have zac : k2 < cap5 := by omega
          have hne : ¬ cap5 = k2 := by omega
          have z2c : k2 ≤ cap5 := by omega
          have z2T : k2 ≤ T := by omega
          have zTc : T ≤ cap5 := by omega
          go_wp2_with (at_builtin; refine wpList_append_own_at _ rfl _ _ 24 rfl 0 3 i0 (.int .i64 0) 1 8 Try.underlying24 hi hz0 hz1 hz2 rfl (by decide) _ _ _ rfl HA.out.1 ⟨ag, k2, none⟩ (T - k2) (cap5 - k2) ((AL.drop k2).map (Value.int .i64)) rfl (by rw [List.length_map, List.length_drop]; have := HV.out.2.2.2.2.2.2.2.2.2.1; omega) (fun j u hj => (U3.out.2.below HA.out.2.1).cellsFrom k2 j u hj) (fun v hv => (by obtain ⟨q, _, rfl⟩ := List.mem_map.1 hv; rfl)) ?e3 ?e4 ?e5 ?_)
          try case e3 => have := HA2.out; unfold maxLen; omega
          try case e4 => have := HA2.out; omega
          try case e5 => exact Nat.zero_le _
          intro v7 u5 own7 gr7 _ loc7
          have R7 : IRow u5 v7 LS := by
            rw [← HLS.out]
            exact IRow.of own7 (by rw [List.length_append, List.length_take, List.length_drop]; have := HV.out.2.2.2.2.2.2.2.2.2.1; omega) (by simp)
          obtain ⟨ao7, cap7, rfl⟩ := R7.shape
          have B7 : Below u3.heap.size u3 u5 := HA.out.2.1.grown gr7 HA.out.2.1.size (fun k hk => HA.out.2.2 k hk)
          have m5 := U3.out.1.below B7
          have F7 : ∀ t, (Value.slice ao7 LS.length cap7).ownBlock = some t → ¬ Foot b g t := fun t e => by
            rcases loc7 with h | h
            · exact U3.out.1.past t (HA.out.2.2 t (h ▸ e))
            · rw [e] at h; cases h; exact U3.out.1.past _ HA.out.2.1.size
          have U5 := Lib.hid (And.intro m5 (And.intro (U3.out.2.below B7) (And.intro R7 F7)))
          clear own7 gr7 loc7 R7 B7 m5 F7
          go_wp2_with fail
          refine (Reach_g U5.out.1 LS HD.out.1.1).mono ?_
          rintro e u6 ⟨y6, rfl, hy, oy, hb6⟩
          obtain ⟨yo6, yc6, rfl⟩ := hy.shape
          have U6 := Lib.hid (And.intro (U5.out.1.below hb6) (And.intro (U5.out.2.1.below hb6) (And.intro (U5.out.2.2.1.below hb6) (And.intro hy (show ∀ t, (Value.slice yo6 LS.length yc6).ownBlock = some t → ¬ Foot b g t from fun t e => U5.out.1.past t (oy t e))))))
          clear hy oy hb6
          go_wp2_with fail
          refine (Sound_g U6.out.1 HD.out.1.2).mono ?_
          rintro e u7 ⟨rfl, hb7⟩
          have A7 := U6.out.2.1.below hb7
          have c1 := A7.cellAt (j := k1) (by have := HV.out.2.2.2.2.2.2.2.2.2.1; omega)
          rw [HV.out.1] at c1
          have U7 := Lib.hid (And.intro (U6.out.1.below hb7) (And.intro (U6.out.2.2.1.below hb7) (U6.out.2.2.2.1.below hb7)))
          clear A7 hb7
          go_wp2_with fail
          refine (Store_k U7.out.1 _ (r + 1) _ (by omega) (by rw [List.length_set, List.length_set]; have := HQ.out.1; omega) (by have := HL.out.2.2; omega)).mono ?_
          rintro e u8 ⟨rfl, m8, q8⟩
          have U8 := Lib.hid (And.intro m8 (And.intro (U7.out.2.1.kept q8 U5.out.2.2.2) (U7.out.2.2.kept q8 U6.out.2.2.2.2)))
          clear m8 q8 c1
          go_wp2_with fail
          refine (known14_any _).mono ?_
          rintro e u9 ⟨rfl, hb9⟩
          have U9 := Lib.hid (And.intro (U8.out.1.below hb9) (And.intro (U8.out.2.1.below hb9) (U8.out.2.2.below hb9)))
          clear hb9
          go_wp2_with fail
          refine (Ints_g _ _ LS _ U9.out.2.2.slx U9.out.2.1.slx HS9.out).mono ?_
          rintro e u10 ⟨rfl, hb10⟩
          have U10 := Lib.hid (U9.out.1.below hb10)
          clear hb10
          go_wp2_with fail
          refine (Sound_g U10.out HD.out.2.2).mono ?_
          rintro e u11 ⟨rfl, hb11⟩
          have BZ := H1.out.2.2.trans ((U10.out.below hb11).B.mono H1.out.2.2.size)
          clear hb11
          go_wp2
          go_ret
          exact ⟨by first | rfl | (simp; done), BZ⟩

theorem Try.resTypes4 : Try.f4.resultTypes = #[4] := by kernel_rfl
theorem listGrows_rdbytes : Try.prog.readableRec 22 = true ∧ 22 < Try.prog.types.size := ⟨by kernel_rfl, of_decide_eq_true (by kernel_rfl)⟩
theorem listGrows_rdu8 : Try.prog.readableRec 5 = true ∧ 5 < Try.prog.types.size := ⟨by kernel_rfl, of_decide_eq_true (by kernel_rfl)⟩
set_option maxRecDepth 100000 in
theorem listGrows_lifted (os : Os) (started : os.Started) (H : Type) (enc : TypeId × Value → H) :
    ReturnsInHanded {} Try.checked os 4 .any (Rows.listGrowsSpec.pre6 enc Try.prog Try.f4 Rows.listGrowsRow.domain false) (Rows.listGrowsSpec.post enc Try.prog Try.f4 false true false false) := by
  refine law_lifted (C := Try.checked) (T := 4) Try.own started (by kernel_rfl) Try.func4
    (ChangeSpec.witness6 (enc := enc) (C := Try.checked) false ⟨#[], #[.slice none 0 0, .int .u8 0, .int .u8 0], []⟩ 8 (by kernel_rfl) (by kernel_rfl) (by kernel_rfl) (by kernel_rfl))
    Try.laidOut (fun t ht => ?_) Try.resTypes4 Try.underlying4 rfl (fun ds hd => ?_) ?_
  · rw [Try.params4] at ht
    exact (show ∀ t ∈ [22, 5, 5], Try.prog.readableRec t = true ∧ t < Try.prog.types.size from List.forall_mem_cons.2 ⟨listGrows_rdbytes, List.forall_mem_cons.2 ⟨listGrows_rdu8, List.forall_mem_cons.2 ⟨listGrows_rdu8, fun _ h => by cases h⟩⟩⟩) t ht
  · rw [Try.params4] at hd
    match ds, hd with
    | [e0, e1, e2], _ => rfl
  · intro W base args ds p hval0 hA0
    have hval : ∀ (j : Nat) t v, Try.f4.params[j]? = some t → args[j]? = some v → Value.okWide Try.prog W .any base t v := hval0
    have hA : DataW.TrodAll enc Try.prog W 0 (fun _ => true) true Try.f4.params.toList args.toList ds p := hA0
    rw [Try.params4] at hA hval
    obtain ⟨v0, vs0, d0, ds0, p0, q0, hargs, rfl, rfl, h0, r0⟩ := trodAll_cons hA
    obtain ⟨v1, vs1, d1, ds1, p1, q1, rfl, rfl, rfl, h1, r1⟩ := trodAll_cons r0
    obtain ⟨v2, vs2, d2, ds2, p2, q2, rfl, rfl, rfl, h2, r2⟩ := trodAll_cons r1
    obtain ⟨rfl, rfl, rfl⟩ := trodAll_nil r2
    obtain rfl : args = #[v0, v1, v2] := by cases args; simp_all
    obtain ⟨c, sc⟩ := open_inslice (k := .u8) Try.underlying22 Try.underlying5 (by kernel_rfl) (hval 0 22 v0 rfl rfl) h0
    obtain ⟨m, rfl, _, _, wm⟩ := open_int Try.underlying5 (hval 1 5 v1 rfl rfl) h1
    have bm := bounds_u8 wm
    obtain ⟨a, rfl, _, _, wa⟩ := open_int Try.underlying5 (hval 2 5 v2 rfl rfl) h2
    have ba := bounds_u8 wa
    exact listGrows_any v0 c m a W sc bm ba

/-- ListGrows: for every input the call returns true. -/
theorem listGrows_said : Rows.ListGrowsSaid :=
  OpenClaim.holds_of_wide 4 Try.f4 rfl rfl rfl rfl rfl rfl rfl ⟨rfl, rfl, rfl, rfl, rfl⟩ rfl rfl rfl rfl rfl (by as_aux_lemma => kernel_rfl) Try.func4 (by as_aux_lemma => kernel_rfl)
    (of_decide_eq_true (by as_aux_lemma => kernel_rfl)) (by unfold Func.isWrapper; first | (rw [if_pos (by decide +kernel)]; kernel_rfl) | (rw [if_neg (by decide +kernel)]; exact ⟨rfl, rfl⟩))
    (fun os started H enc _ => listGrows_lifted os started H enc)
#print axioms listGrows_said

end Go.Proofs.Ytnpkhkfhlpopbaa
