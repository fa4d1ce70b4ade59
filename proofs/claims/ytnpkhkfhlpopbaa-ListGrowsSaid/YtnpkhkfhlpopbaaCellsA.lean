/- The contracts of package cells: each call at a memory answers as its cells say, and turns no block but its own. -/
import Derived.Test.YtnpkhkfhlpopbaaMem
namespace Go.Proofs.Ytnpkhkfhlpopbaa
set_option linter.unusedSimpArgs false
set_option linter.unusedVariables false
open Go.RowKit

/-- What a step count may be. -/
def StOk (st : Int) : Prop := 0 ≤ st ∧ st < 4611686018427387904

set_option maxHeartbeats 400000 in
theorem count_ok (b eb : Nat) (n st : Int) (v : Value) (u : FrameMode) (w : World) (hb : w.heap[b]? = some (.cells #[.int .i64 n, v, .int .i64 st] 88 (0, 0))) (he : w.cell? ⟨eb, 0, none⟩ = some (.int .u16 0)) (h0 : 0 ≤ st) (h1 : st < 4611686018427387904) :
    CallsD Try.prog 33 #[.pointer (some ⟨b, 0, none⟩), .pointer (some ⟨eb, 0, none⟩)] u w fun e u' w' => u' = u ∧ (e = .returned (.tuple #[]) ∧ w' = w.setCell ⟨b, 2, none⟩ (.int .i64 (st + 1))) := by
  obtain ⟨c0, c1, c2, f0, f1, f2, hl⟩ := blk3 hb
  clear hb
  go_enter_d Try.func33, Try.ntmps33
  go_wp2
  go_end0
  exact ⟨rfl, rfl⟩

set_option maxHeartbeats 400000 in
theorem count_no (b eb : Nat) (k : Int) (u : FrameMode) (w : World) (he : w.cell? ⟨eb, 0, none⟩ = some (.int .u16 k)) (hk : (k == 0) = false) :
    CallsD Try.prog 33 #[.pointer (some ⟨b, 0, none⟩), .pointer (some ⟨eb, 0, none⟩)] u w fun e u' w' => u' = u ∧ (e = .returned (.tuple #[]) ∧ w' = w) := by
  go_enter_d Try.func33, Try.ntmps33
  go_wp2
  go_end0
  exact ⟨rfl, rfl⟩

set_option maxHeartbeats 400000 in
theorem at_yes (b k len cap : Nat) (a : Int) (w : World) (c1 : w.cell? ⟨b, 1, none⟩ = some (.slice (some ⟨k, 0, none⟩) len cap)) (h0 : 0 ≤ a) (h1 : a < (len : Int)) :
    Calls Try.prog 32 #[.pointer (some ⟨b, 0, none⟩), .int .i64 a] w fun e w' => e = .returned (.pointer (some ⟨k, a.toNat, none⟩)) ∧ w = w' := by
  go_enter Try.func32, Try.ntmps32
  go_wp2
  go_ret
  exact ⟨by simp, rfl⟩

set_option maxHeartbeats 400000 in
theorem at_no (b len cap : Nat) (ao : Option Addr) (a : Int) (w : World) (c1 : w.cell? ⟨b, 1, none⟩ = some (.slice ao len cap)) (h : a < 0 ∨ (len : Int) ≤ a) :
    Calls Try.prog 32 #[.pointer (some ⟨b, 0, none⟩), .int .i64 a] w fun e w' => e = .returned (.pointer none) ∧ w = w' := by
  by_cases h0 : a < 0
  · go_enter Try.func32, Try.ntmps32
    go_wp2
    go_ret
    exact ⟨rfl, rfl⟩
  · have h1 : (len : Int) ≤ a := by omega
    go_enter Try.func32, Try.ntmps32
    go_wp2
    go_ret
    exact ⟨rfl, rfl⟩

set_option maxHeartbeats 400000 in
theorem at_nil (a : Int) (w : World) :
    Calls Try.prog 32 #[.pointer none, .int .i64 a] w fun e w' => e = .returned (.pointer none) ∧ w = w' := by
  go_enter Try.func32, Try.ntmps32
  go_wp2
  go_ret
  exact ⟨rfl, rfl⟩

theorem Try.info64 : (Try.prog.info? 2).map (fun i => (i.zero, i.size, i.bytes)) = some (some (.int .i64 0), 1, 8) := by kernel_rfl

/-- The limit of a size. -/
def capOf (n : Int) : Int := max 0 (min n 1000)

set_option maxHeartbeats 400000 in
theorem New_any (n : Int) (w : World) :
    Calls Try.prog 27 #[.int .i64 n] w fun e w' => e = .returned (.pointer (some ⟨w.heap.size, 0, none⟩)) ∧ MemIs w' w.heap.size none (capOf n) [] 0 ∧ Below w.heap.size w w' := by
  go_enter Try.func27, Try.ntmps27
  go_wp2
  all_goals
    go_ret
    refine ⟨rfl, ⟨.slice none 0 0, ?_, rfl, Row.nil _⟩, by go_grown⟩
    first
      | (rw [show capOf n = 1000 from by unfold capOf; omega]; exact heap_alloc_new w _)
      | (rw [show capOf n = n from by unfold capOf; omega]; exact heap_alloc_new w _)
      | (rw [show capOf n = 0 from by unfold capOf; omega]; exact heap_alloc_new w _)

set_option maxHeartbeats 400000 in
theorem clone64_any (v : Value) (xs : List Int) (w : World) (hr : Row w v xs) (hn : xs.length ≤ 1000000) :
    Calls Try.prog 63 #[v] w fun e w' => ∃ v', e = .returned v' ∧ Row w' v' xs ∧ Below w.heap.size w w' ∧ (∀ g, v'.ownBlock = some g → w.heap.size ≤ g) := by
  obtain ⟨i0, hi, hz0, hz1, hz2⟩ := info_parts Try.info64
  have hone : ∀ u ∈ xs.map (Value.int .i64), u.oneCell' = true := fun u hu => by
    obtain ⟨x, _, rfl⟩ := List.mem_map.1 hu
    rfl
  have qT : ∀ (w : World) (a : Option Addr) (n c n' c' : Nat), (binOp .eql 23 (.slice a n c) (.slice none n' c')).run Try.prog w = .ok (.bool a.isNone) w := fun w a n c n' c' => Lib.run_eql_slice_nil w _ _ a n c n' c' Try.underlying23
  rcases hr.2 with ⟨rfl, h0⟩ | ⟨g, cap, cur, rfl, hrest⟩
  · have hx : xs = [] := List.eq_nil_of_length_eq_zero h0
    subst hx
    go_enter Try.func63, Try.ntmps63
    go_wp2
    go_ret
    exact ⟨_, rfl, Row.nil _, by go_grown, fun g hg => by cases hg⟩
  · have hre : ∀ o, (w.alloc o).ownsRow 0 2 1 (.slice (some ⟨g, 0, none⟩) xs.length cap) xs.length (xs.map (Value.int .i64)) := fun o => Row.alloc hr o
    have hmade : (w.alloc (.cells #[] 2)).ownsRow w.heap.size 2 1 (.slice (some ⟨w.heap.size, 0, none⟩) 0 0) 0 [] := World.ownsRow_made w #[] 0 (Nat.le_refl _) (by unfold maxLen; omega) rfl
    go_enter Try.func63, Try.ntmps63
    go_wp2_with (at_builtin; refine wpList_append_rows _ rfl _ _ 23 rfl w.heap.size 0 2 i0 (.int .i64 0) 1 8 Try.underlying23 hi hz0 hz1 hz2 rfl (by decide) _ _ _ rfl hmade _ _ _ rfl (hre _) hone ?c3 ?c4 ?c5 ?_)
    case c3 => unfold maxLen; omega
    case c4 => omega
    case c5 => simp
    intro v' w1 hown' hgrow _ _
    go_wp2
    go_ret
    refine ⟨v', rfl, Row.of hown' (by simp) (by simp), ?_, fun g hg => (World.ownsRow.lt hown' g hg).1⟩
    exact ((Below.refl _ w).alloc (Nat.le_refl _) _).grown hgrow (by simp) (fun k hk => by simp [Value.ownBlock] at hk; omega)

set_option maxHeartbeats 400000 in
theorem Steps_any (b : Nat) (g : Option Nat) (n st : Int) (xs : List Int) (w : World) (h : MemIs w b g n xs st) :
    Calls Try.prog 45 #[.pointer (some ⟨b, 0, none⟩)] w fun e w' => e = .returned (.int .i64 st) ∧ w = w' := by
  obtain ⟨ao, cap, hb, _, _⟩ := h.open
  obtain ⟨c0, c1, c2, f0, f1, f2, hl⟩ := blk3 hb
  clear hb
  go_enter Try.func45, Try.ntmps45
  go_wp2
  go_ret
  exact ⟨rfl, rfl⟩

set_option maxHeartbeats 400000 in
theorem Steps_nil (w : World) : Calls Try.prog 45 #[.pointer none] w fun e w' => e = .returned (.int .i64 0) ∧ w = w' := by
  go_enter Try.func45, Try.ntmps45
  go_wp2
  go_ret
  exact ⟨rfl, rfl⟩

set_option maxHeartbeats 400000 in
theorem Cells_any (b : Nat) (g : Option Nat) (n st : Int) (xs : List Int) (w : World) (h : MemIs w b g n xs st) (hn : xs.length ≤ 1000000) :
    Calls Try.prog 51 #[.pointer (some ⟨b, 0, none⟩)] w fun e w' => ∃ v', e = .returned v' ∧ Row w' v' xs ∧ Below w.heap.size w w' ∧ (∀ g, v'.ownBlock = some g → w.heap.size ≤ g) := by
  obtain ⟨ao, cap, hb, _, hr⟩ := h.open
  obtain ⟨c0, c1, c2, f0, f1, f2, hl⟩ := blk3 hb
  clear hb
  go_enter Try.func51, Try.ntmps51
  go_wp2_with fail
  refine (clone64_any _ xs _ hr hn).mono ?_
  rintro e w1 ⟨v', rfl, h1, h2, h3⟩
  go_wp2
  go_ret
  exact ⟨v', rfl, h1, h2, h3⟩

set_option maxHeartbeats 400000 in
theorem Cells_nil (w : World) : Calls Try.prog 51 #[.pointer none] w fun e w' => e = .returned (.slice none 0 0) ∧ w = w' := by
  go_enter Try.func51, Try.ntmps51
  go_wp2
  go_ret
  exact ⟨rfl, rfl⟩

set_option maxHeartbeats 400000 in
theorem Top_any (b : Nat) (g : Option Nat) (n st : Int) (xs : List Int) (w : World) (h : MemIs w b g n xs st) (hn : xs.length ≤ 1000000) :
    Calls Try.prog 38 #[.pointer (some ⟨b, 0, none⟩)] w fun e w' => e = .returned (.int .i64 xs.length) ∧ Below w.heap.size w w' := by
  go_enter Try.func38, Try.ntmps38
  go_wp2_with fail
  refine (Cells_any b g n st xs _ h hn).mono ?_
  rintro e w1 ⟨v', rfl, h1, h2, h3⟩
  obtain ⟨ao, cap, rfl⟩ := h1.shape
  go_wp2
  go_ret
  exact ⟨rfl, h2⟩

set_option maxHeartbeats 400000 in
theorem Top_nil (w : World) : Calls Try.prog 38 #[.pointer none] w fun e w' => e = .returned (.int .i64 0) ∧ w = w' := by
  go_enter Try.func38, Try.ntmps38
  go_wp2_with fail
  refine (Cells_nil _).mono ?_
  rintro e w1 ⟨rfl, rfl⟩
  go_wp2
  go_ret
  exact ⟨rfl, rfl⟩

set_option maxHeartbeats 1000000 in
theorem Load_yes (b : Nat) (g : Option Nat) (n st a : Int) (xs : List Int) (w : World) (h : MemIs w b g n xs st) (h0 : 0 ≤ a) (h1 : a < xs.length) (s0 : 0 ≤ st) (s1 : st < 4611686018427387904) :
    Calls Try.prog 18 #[.pointer (some ⟨b, 0, none⟩), .int .i64 a] w fun e w' => e = .returned (.tuple #[.int .i64 (xs.getD a.toNat 0), .int .u16 0]) ∧ MemIs w' b g n xs (st + 1) ∧ Kept (fun k => k = b) w w' := by
  obtain ⟨k, cap, rfl, hb, hk, hne, hc, hf⟩ := h.open_pos (by omega)
  obtain ⟨c0, c1, c2, f0, f1, f2, hl⟩ := blk3 hb
  have hca := hc a.toNat (by omega)
  obtain ⟨x, hx⟩ : ∃ x, xs.getD a.toNat 0 = x := ⟨_, rfl⟩
  rw [hx] at hca ⊢
  clear hx
  have hb' : (w.alloc (.cells #[.int .u16 0] 29)).heap[b]? = some (.cells #[.int .i64 n, .slice (some ⟨k, 0, none⟩) xs.length cap, .int .i64 st] 88 (0, 0)) := (Below.heap_alloc _ _ _ hl).trans hb
  clear hb hc hf
  go_enter_defers Try.func18, Try.ntmps18
  go_wp2_with fail
  refine (at_yes b k xs.length cap a _ (by go_simp) h0 h1).mono ?_
  rintro e w' ⟨rfl, rfl⟩
  go_wp2
  refine leaves_cons (f := 33) (args := #[.pointer (some ⟨b, 0, none⟩), .pointer (some ⟨w.heap.size, 0, none⟩)]) (by simp) (by simp [go_sem]) ?_
  refine (count_ok b w.heap.size n st _ .returning _ hb' (by go_simp) s0 s1).mono ?_
  rintro e u' w'' ⟨rfl, rfl, rfl⟩
  refine ⟨_, by simp [results, Try.results18, go_sem, hl]; try rfl, ⟨rfl, ?_, ?_⟩⟩
  · exact (h.alloc _).setSteps _
  · exact ((Kept.refl (fun k => k = b) w).alloc _).setCell (p := ⟨b, 2, none⟩) (fun _ => rfl) _

set_option maxHeartbeats 1000000 in
theorem Load_no (b : Nat) (g : Option Nat) (n st a : Int) (xs : List Int) (w : World) (h : MemIs w b g n xs st) (ha : a < 0 ∨ (xs.length : Int) ≤ a) :
    Calls Try.prog 18 #[.pointer (some ⟨b, 0, none⟩), .int .i64 a] w fun e w' => e = .returned (.tuple #[.int .i64 0, .int .u16 10]) ∧ Below w.heap.size w w' := by
  obtain ⟨ao, cap, hb, _, _⟩ := h.open
  obtain ⟨c0, c1, c2, f0, f1, f2, hl⟩ := blk3 hb
  clear hb
  go_enter_defers Try.func18, Try.ntmps18
  go_wp2_with fail
  refine (at_no b xs.length cap ao a _ (by go_simp) ha).mono ?_
  rintro e w' ⟨rfl, rfl⟩
  go_wp2
  refine ⟨_, by simp [results, Try.results18, go_sem]; try rfl, ⟨rfl, by go_grown⟩⟩

set_option maxHeartbeats 1000000 in
theorem Load_nil (a : Int) (w : World) :
    Calls Try.prog 18 #[.pointer none, .int .i64 a] w fun e w' => e = .returned (.tuple #[.int .i64 0, .int .u16 10]) ∧ Below w.heap.size w w' := by
  go_enter_defers Try.func18, Try.ntmps18
  go_wp2_with fail
  refine (at_nil a _).mono ?_
  rintro e w' ⟨rfl, rfl⟩
  go_wp2
  refine ⟨_, by simp [results, Try.results18, go_sem]; try rfl, ⟨rfl, by go_grown⟩⟩

set_option maxHeartbeats 1000000 in
theorem Store_no (b : Nat) (g : Option Nat) (n st a y : Int) (xs : List Int) (w : World) (h : MemIs w b g n xs st) (ha : a < 0 ∨ (xs.length : Int) ≤ a) :
    Calls Try.prog 14 #[.pointer (some ⟨b, 0, none⟩), .int .i64 a, .int .i64 y] w fun e w' => e = .returned (.int .u16 10) ∧ Below w.heap.size w w' := by
  obtain ⟨ao, cap, hb, _, _⟩ := h.open
  obtain ⟨c0, c1, c2, f0, f1, f2, hl⟩ := blk3 hb
  clear hb
  go_enter_defers Try.func14, Try.ntmps14
  go_wp2_with fail
  refine (at_no b xs.length cap ao a _ (by go_simp) ha).mono ?_
  rintro e w' ⟨rfl, rfl⟩
  go_wp2
  refine ⟨_, by simp [results, Try.results14, go_sem]; try rfl, ⟨rfl, by go_grown⟩⟩

set_option maxHeartbeats 1000000 in
theorem Store_nil (a y : Int) (w : World) :
    Calls Try.prog 14 #[.pointer none, .int .i64 a, .int .i64 y] w fun e w' => e = .returned (.int .u16 10) ∧ Below w.heap.size w w' := by
  go_enter_defers Try.func14, Try.ntmps14
  go_wp2_with fail
  refine (at_nil a _).mono ?_
  rintro e w' ⟨rfl, rfl⟩
  go_wp2
  refine ⟨_, by simp [results, Try.results14, go_sem]; try rfl, ⟨rfl, by go_grown⟩⟩

set_option maxHeartbeats 1000000 in
theorem Store_yes (b : Nat) (g : Option Nat) (n st a y : Int) (xs : List Int) (w : World) (h : MemIs w b g n xs st) (h0 : 0 ≤ a) (h1 : a < xs.length) (s0 : 0 ≤ st) (s1 : st < 4611686018427387904) :
    Calls Try.prog 14 #[.pointer (some ⟨b, 0, none⟩), .int .i64 a, .int .i64 y] w fun e w' => e = .returned (.int .u16 0) ∧ MemIs w' b g n (xs.set a.toNat y) (st + 1) ∧ Kept (fun k => k = b ∨ some k = g) w w' := by
  obtain ⟨k, cap, rfl, hb, hk, hne, hc, hf⟩ := h.open_pos (by omega)
  obtain ⟨c0, c1, c2, f0, f1, f2, hl⟩ := blk3 hb
  have hca := hc a.toNat (by omega)
  have hfa := hf a.toNat
  obtain ⟨x, hx⟩ : ∃ x, xs.getD a.toNat 0 = x := ⟨_, rfl⟩
  rw [hx] at hca
  clear hx
  have hb' : ((w.setCell ⟨k, a.toNat, none⟩ (.int .i64 y)).alloc (.cells #[.int .u16 0] 29)).heap[b]? = some (.cells #[.int .i64 n, .slice (some ⟨k, 0, none⟩) xs.length cap, .int .i64 st] 88 (0, 0)) :=
    (Below.heap_alloc _ _ _ (by simpa using hl)).trans ((Below.heap_setCell _ _ _ _ hne).trans hb)
  have he' : ((w.setCell ⟨k, a.toNat, none⟩ (.int .i64 y)).alloc (.cells #[.int .u16 0] 29)).cell? ⟨w.heap.size, 0, none⟩ = some (.int .u16 0) := by go_simp
  clear hb hc hf
  go_enter_defers Try.func14, Try.ntmps14
  go_wp2_with fail
  refine (at_yes b k xs.length cap a _ (by go_simp) h0 h1).mono ?_
  rintro e w' ⟨rfl, rfl⟩
  go_wp2
  refine leaves_cons (f := 33) (args := #[.pointer (some ⟨b, 0, none⟩), .pointer (some ⟨w.heap.size, 0, none⟩)]) (by simp) (by simp [go_sem]) ?_
  refine (count_ok b w.heap.size n st _ .returning _ hb' he' s0 s1).mono ?_
  rintro e u' w'' ⟨rfl, rfl, rfl⟩
  refine ⟨_, by simp [results, Try.results14, go_sem, hl, he']; try rfl, ⟨rfl, ?_, ?_⟩⟩
  · exact ((h.setCell _ (by omega) _).alloc _).setSteps _
  · exact (((Kept.refl (fun j => j = b ∨ some j = some k) w).setCell (p := ⟨k, a.toNat, none⟩) (fun _ => .inr rfl) _).alloc _).setCell (p := ⟨b, 2, none⟩) (fun _ => .inl rfl) _

end Go.Proofs.Ytnpkhkfhlpopbaa
