/- part 4 -/
import Derived.Deep.Cut
import Derived.Deep.OwnRows
import Derived.Laws.EntriesVeiled
import Derived.Test.YtihljjgmkaeohaaGreatPnAC
set_option linter.all false
set_option maxHeartbeats 16000000
set_option maxRecDepth 100000
namespace Go.Proofs.YtihljjgmkaeohaaGreat
section
open Go.RowKit Go.ChangeShapes Go.WideShapes Go.ChangeAt
theorem Zbd (w:World) (x:Nat):
 Calls Tryz.prog 81 #[.pointer (some ⟨x,0,none⟩)] w fun e w'=>e= .returned (.agg #[.nilFunc,.func (.func 91) #[.pointer (some ⟨x,0,none⟩)] #[],.func (.func 92) #[.pointer (some ⟨x,0,none⟩)] #[],.func (.func 93) #[.pointer (some ⟨x,0,none⟩)] #[],.func (.func 94) #[.pointer (some ⟨x,0,none⟩)] #[],.func (.func 95) #[.pointer (some ⟨x,0,none⟩)] #[],.func (.func 96) #[.pointer (some ⟨x,0,none⟩)] #[],.func (.func 97) #[.pointer (some ⟨x,0,none⟩)] #[],.func (.func 98) #[.pointer (some ⟨x,0,none⟩)] #[],.func (.func 99) #[.pointer (some ⟨x,0,none⟩)] #[],.func (.func 100) #[.pointer (some ⟨x,0,none⟩)] #[],.func (.func 101) #[.pointer (some ⟨x,0,none⟩)] #[],.func (.func 102) #[.pointer (some ⟨x,0,none⟩)] #[],.func (.func 103) #[.pointer (some ⟨x,0,none⟩)] #[],.func (.func 104) #[.pointer (some ⟨x,0,none⟩)] #[],.func (.func 105) #[.pointer (some ⟨x,0,none⟩)] #[],.func (.func 106) #[.pointer (some ⟨x,0,none⟩)] #[]])/\Below w.heap.size w w':=by
 have q1:∀(a:Addr) (fn:Fn) (xs ys:Array Value) (u:World),(store a (.func fn xs ys)).run Tryz.prog u=stored Tryz.prog u a (.func fn xs ys) .plain:=fun a fn xs ys u=>run_store Tryz.prog u a _ .plain rfl
 have q2:∀(a:Addr) (u:World),(store a .nilFunc).run Tryz.prog u=stored Tryz.prog u a .nilFunc .plain:=fun a u=>run_store Tryz.prog u a _ .plain rfl
 go_enter Tryz.func81,Tryz.ntmps81
 go_wp2
 refine bodyPost_ret (v:=.agg #[.nilFunc,.func (.func 91) #[.pointer (some ⟨x,0,none⟩)] #[],.func (.func 92) #[.pointer (some ⟨x,0,none⟩)] #[],.func (.func 93) #[.pointer (some ⟨x,0,none⟩)] #[],.func (.func 94) #[.pointer (some ⟨x,0,none⟩)] #[],.func (.func 95) #[.pointer (some ⟨x,0,none⟩)] #[],.func (.func 96) #[.pointer (some ⟨x,0,none⟩)] #[],.func (.func 97) #[.pointer (some ⟨x,0,none⟩)] #[],.func (.func 98) #[.pointer (some ⟨x,0,none⟩)] #[],.func (.func 99) #[.pointer (some ⟨x,0,none⟩)] #[],.func (.func 100) #[.pointer (some ⟨x,0,none⟩)] #[],.func (.func 101) #[.pointer (some ⟨x,0,none⟩)] #[],.func (.func 102) #[.pointer (some ⟨x,0,none⟩)] #[],.func (.func 103) #[.pointer (some ⟨x,0,none⟩)] #[],.func (.func 104) #[.pointer (some ⟨x,0,none⟩)] #[],.func (.func 105) #[.pointer (some ⟨x,0,none⟩)] #[],.func (.func 106) #[.pointer (some ⟨x,0,none⟩)] #[]]) (by simp[results,Tryz.results81,go_sem]) rfl ⟨rfl,?_⟩
 go_grown
theorem MS.past {W0 u:World} {b:Nat} {g:Option Nat} {N st:Int} {X:List Int} (h:MS W0 u b g N X st):∀k,u.heap.size<=k->¬Z18 b g k:=fun k hk=>by
 rintro(e|e)
 ·have:=h.mem.lt;omega
 ·subst e;have:=h.mem.row_lt;omega
theorem Z3b {W:World} {q:Nat} {cs:Array Value} {tq:TypeId} {y0 y1:Value} (h:W.heap[q]?=some (.cells cs tq (0,0))) (hs:cs.size=2):((W.setCell ⟨q,0,none⟩ y0).setCell ⟨q,1,none⟩ y1).heap[q]?=some (.cells #[y0,y1] tq (0,0)):=by
 have h1:=Z2x q tq [y0,y1] W 0 cs h (by rw[hs];rfl)
 rw[List.take_zero,List.nil_append]at h1
 exact h1
theorem Z0l (W:World) (q:Nat) (y0 y1:Value):Z01 (fun k=>k=q) W ((W.setCell ⟨q,0,none⟩ y0).setCell ⟨q,1,none⟩ y1):=Z1c q [y0,y1] W 0
section
variable {W:World} {r q:Nat} {cs ds:Array Value} {t tq:TypeId} {x0 x1 x2 x3 x4 x5 x6 x7 x8 x9 x10 x11 x12 y0 y1:Value}
theorem Zok (h:W.heap[r]?=some (.cells cs t (0,0))) (hs:cs.size=13) (hq:W.heap[q]?=some (.cells ds tq (0,0))) (hd:ds.size=2) (ne:r≠q):
 ((((((((((((((((W.setCell ⟨r,0,none⟩ x0).setCell ⟨r,1,none⟩ x1).setCell ⟨r,2,none⟩ x2).setCell ⟨r,3,none⟩ x3).setCell ⟨r,4,none⟩ x4).setCell ⟨r,5,none⟩ x5).setCell ⟨r,6,none⟩ x6).setCell ⟨r,7,none⟩ x7).setCell ⟨r,8,none⟩ x8).setCell ⟨r,9,none⟩ x9).setCell ⟨r,10,none⟩ x10).setCell ⟨r,11,none⟩ x11).setCell ⟨r,12,none⟩ x12).setCell ⟨q,0,none⟩ y0).setCell ⟨q,1,none⟩ y1).heap[r]?=some (.cells #[x0,x1,x2,x3,x4,x5,x6,x7,x8,x9,x10,x11,x12] t (0,0))/\(((((((((((((((W.setCell ⟨r,0,none⟩ x0).setCell ⟨r,1,none⟩ x1).setCell ⟨r,2,none⟩ x2).setCell ⟨r,3,none⟩ x3).setCell ⟨r,4,none⟩ x4).setCell ⟨r,5,none⟩ x5).setCell ⟨r,6,none⟩ x6).setCell ⟨r,7,none⟩ x7).setCell ⟨r,8,none⟩ x8).setCell ⟨r,9,none⟩ x9).setCell ⟨r,10,none⟩ x10).setCell ⟨r,11,none⟩ x11).setCell ⟨r,12,none⟩ x12).setCell ⟨q,0,none⟩ y0).setCell ⟨q,1,none⟩ y1).heap[q]?=some (.cells #[y0,y1] tq (0,0)))/\Z01 (fun k=>k=r\/k=q) W (((((((((((((((W.setCell ⟨r,0,none⟩ x0).setCell ⟨r,1,none⟩ x1).setCell ⟨r,2,none⟩ x2).setCell ⟨r,3,none⟩ x3).setCell ⟨r,4,none⟩ x4).setCell ⟨r,5,none⟩ x5).setCell ⟨r,6,none⟩ x6).setCell ⟨r,7,none⟩ x7).setCell ⟨r,8,none⟩ x8).setCell ⟨r,9,none⟩ x9).setCell ⟨r,10,none⟩ x10).setCell ⟨r,11,none⟩ x11).setCell ⟨r,12,none⟩ x12).setCell ⟨q,0,none⟩ y0).setCell ⟨q,1,none⟩ y1):=by
 have k1:Z01 (fun k=>k=r) W (((((((((((((W.setCell ⟨r,0,none⟩ x0).setCell ⟨r,1,none⟩ x1).setCell ⟨r,2,none⟩ x2).setCell ⟨r,3,none⟩ x3).setCell ⟨r,4,none⟩ x4).setCell ⟨r,5,none⟩ x5).setCell ⟨r,6,none⟩ x6).setCell ⟨r,7,none⟩ x7).setCell ⟨r,8,none⟩ x8).setCell ⟨r,9,none⟩ x9).setCell ⟨r,10,none⟩ x10).setCell ⟨r,11,none⟩ x11).setCell ⟨r,12,none⟩ x12):=Z26 _ _ _ _ _ _ _ _ _ _ _ _ _ _ _
 have h1:(((((((((((((W.setCell ⟨r,0,none⟩ x0).setCell ⟨r,1,none⟩ x1).setCell ⟨r,2,none⟩ x2).setCell ⟨r,3,none⟩ x3).setCell ⟨r,4,none⟩ x4).setCell ⟨r,5,none⟩ x5).setCell ⟨r,6,none⟩ x6).setCell ⟨r,7,none⟩ x7).setCell ⟨r,8,none⟩ x8).setCell ⟨r,9,none⟩ x9).setCell ⟨r,10,none⟩ x10).setCell ⟨r,11,none⟩ x11).setCell ⟨r,12,none⟩ x12).heap[r]?=some (.cells #[x0,x1,x2,x3,x4,x5,x6,x7,x8,x9,x10,x11,x12] t (0,0)):=Zbb h hs
 have q1:=(k1.block q (Gl hq) (fun e=>ne e.symm)).trans hq
 generalize (((((((((((((W.setCell ⟨r,0,none⟩ x0).setCell ⟨r,1,none⟩ x1).setCell ⟨r,2,none⟩ x2).setCell ⟨r,3,none⟩ x3).setCell ⟨r,4,none⟩ x4).setCell ⟨r,5,none⟩ x5).setCell ⟨r,6,none⟩ x6).setCell ⟨r,7,none⟩ x7).setCell ⟨r,8,none⟩ x8).setCell ⟨r,9,none⟩ x9).setCell ⟨r,10,none⟩ x10).setCell ⟨r,11,none⟩ x11).setCell ⟨r,12,none⟩ x12)=W1 at k1 h1 q1 |-
 have k2:=Z0l W1 q y0 y1
 exact⟨⟨(k2.block r (Gl h1) ne).trans h1,Z3b q1 hd⟩,(k1.mono (fun _ _ e=>.inl e)).trans (k2.mono (fun _ _ e=>.inr e))⟩
theorem Zol (h:W.heap[r]?=some (.cells cs t (0,0))) (hs:cs.size=13) (hq:W.heap[q]?=some (.cells ds tq (0,0))) (hd:ds.size=2) (ne:r≠q):
 ((((((((((((((((W.setCell ⟨q,0,none⟩ y0).setCell ⟨q,1,none⟩ y1).setCell ⟨r,0,none⟩ x0).setCell ⟨r,1,none⟩ x1).setCell ⟨r,2,none⟩ x2).setCell ⟨r,3,none⟩ x3).setCell ⟨r,4,none⟩ x4).setCell ⟨r,5,none⟩ x5).setCell ⟨r,6,none⟩ x6).setCell ⟨r,7,none⟩ x7).setCell ⟨r,8,none⟩ x8).setCell ⟨r,9,none⟩ x9).setCell ⟨r,10,none⟩ x10).setCell ⟨r,11,none⟩ x11).setCell ⟨r,12,none⟩ x12).heap[r]?=some (.cells #[x0,x1,x2,x3,x4,x5,x6,x7,x8,x9,x10,x11,x12] t (0,0))/\(((((((((((((((W.setCell ⟨q,0,none⟩ y0).setCell ⟨q,1,none⟩ y1).setCell ⟨r,0,none⟩ x0).setCell ⟨r,1,none⟩ x1).setCell ⟨r,2,none⟩ x2).setCell ⟨r,3,none⟩ x3).setCell ⟨r,4,none⟩ x4).setCell ⟨r,5,none⟩ x5).setCell ⟨r,6,none⟩ x6).setCell ⟨r,7,none⟩ x7).setCell ⟨r,8,none⟩ x8).setCell ⟨r,9,none⟩ x9).setCell ⟨r,10,none⟩ x10).setCell ⟨r,11,none⟩ x11).setCell ⟨r,12,none⟩ x12).heap[q]?=some (.cells #[y0,y1] tq (0,0)))/\Z01 (fun k=>k=r\/k=q) W (((((((((((((((W.setCell ⟨q,0,none⟩ y0).setCell ⟨q,1,none⟩ y1).setCell ⟨r,0,none⟩ x0).setCell ⟨r,1,none⟩ x1).setCell ⟨r,2,none⟩ x2).setCell ⟨r,3,none⟩ x3).setCell ⟨r,4,none⟩ x4).setCell ⟨r,5,none⟩ x5).setCell ⟨r,6,none⟩ x6).setCell ⟨r,7,none⟩ x7).setCell ⟨r,8,none⟩ x8).setCell ⟨r,9,none⟩ x9).setCell ⟨r,10,none⟩ x10).setCell ⟨r,11,none⟩ x11).setCell ⟨r,12,none⟩ x12):=by
 have k2:=Z0l W q y0 y1
 have q1:((W.setCell ⟨q,0,none⟩ y0).setCell ⟨q,1,none⟩ y1).heap[q]?=_:=Z3b hq hd
 have h1:=(k2.block r (Gl h) ne).trans h
 generalize ((W.setCell ⟨q,0,none⟩ y0).setCell ⟨q,1,none⟩ y1)=W1 at k2 h1 q1 |-
 have k1:Z01 (fun k=>k=r) W1 (((((((((((((W1.setCell ⟨r,0,none⟩ x0).setCell ⟨r,1,none⟩ x1).setCell ⟨r,2,none⟩ x2).setCell ⟨r,3,none⟩ x3).setCell ⟨r,4,none⟩ x4).setCell ⟨r,5,none⟩ x5).setCell ⟨r,6,none⟩ x6).setCell ⟨r,7,none⟩ x7).setCell ⟨r,8,none⟩ x8).setCell ⟨r,9,none⟩ x9).setCell ⟨r,10,none⟩ x10).setCell ⟨r,11,none⟩ x11).setCell ⟨r,12,none⟩ x12):=Z26 _ _ _ _ _ _ _ _ _ _ _ _ _ _ _
 have h2:(((((((((((((W1.setCell ⟨r,0,none⟩ x0).setCell ⟨r,1,none⟩ x1).setCell ⟨r,2,none⟩ x2).setCell ⟨r,3,none⟩ x3).setCell ⟨r,4,none⟩ x4).setCell ⟨r,5,none⟩ x5).setCell ⟨r,6,none⟩ x6).setCell ⟨r,7,none⟩ x7).setCell ⟨r,8,none⟩ x8).setCell ⟨r,9,none⟩ x9).setCell ⟨r,10,none⟩ x10).setCell ⟨r,11,none⟩ x11).setCell ⟨r,12,none⟩ x12).heap[r]?=some (.cells #[x0,x1,x2,x3,x4,x5,x6,x7,x8,x9,x10,x11,x12] t (0,0)):=Zbb h1 hs
 exact⟨⟨h2,(k1.block q (Gl q1) (fun e=>ne e.symm)).trans q1⟩,(k2.mono (fun _ _ e=>.inr e)).trans (k1.mono (fun _ _ e=>.inl e))⟩
end
theorem Z0x (w:World) (A B C:Obj):(((w.alloc A).alloc B).alloc C).heap[w.heap.size]?=some A/\(((w.alloc A).alloc B).alloc C).heap[w.heap.size+1]?=some B/\(((w.alloc A).alloc B).alloc C).heap[w.heap.size+2]?=some C:=by
 refine⟨(Below.heap_alloc _ _ _ (by simp;try omega)).trans (Z5o _ _ _),(Below.heap_alloc _ _ _ (by simp;try omega)).trans (Z5p _ _ _),?_⟩
 have:=Han ((w.alloc A).alloc B) C
 simpa using this
section
variable (w:World) (i0 i1 i2 i3 i4 i5 i6 i7 i8 i9 i10 i11:Int) (bo:Option Addr) (bn bc:Nat)
theorem Zm3 (h:i1<1):
 Calls Tryz.prog 62 #[.agg #[.int .i64 i0,.int .i64 i1,.int .i64 i2,.int .i64 i3,.int .i64 i4,.int .i64 i5,.int .i64 i6,.int .i64 i7,.int .i64 i8,.int .i64 i9,.int .i64 i10,.int .i64 i11,.slice bo bn bc]] w fun e w'=>e= .returned (.bool false)/\Below w.heap.size w w':=by
 go_enter Tryz.func62,Tryz.ntmps62
 go_wp2
 go_ret
 exact⟨by first|rfl|(simp;done)|(simp;omega),by go_grown⟩
theorem Zfh (h:1<=i1) (h2:i1<=16):
 Calls Tryz.prog 62 #[.agg #[.int .i64 i0,.int .i64 i1,.int .i64 i2,.int .i64 i3,.int .i64 i4,.int .i64 i5,.int .i64 i6,.int .i64 i7,.int .i64 i8,.int .i64 i9,.int .i64 i10,.int .i64 i11,.slice bo bn bc]] w fun e w'=>e= .returned (.bool true)/\Below w.heap.size w w':=by
 go_enter Tryz.func62,Tryz.ntmps62
 go_wp2
 go_ret
 exact⟨by first|rfl|(simp;done)|(simp;omega),by go_grown⟩
theorem Zm4 (h:1<=i1) (h2:16<i1):
 Calls Tryz.prog 62 #[.agg #[.int .i64 i0,.int .i64 i1,.int .i64 i2,.int .i64 i3,.int .i64 i4,.int .i64 i5,.int .i64 i6,.int .i64 i7,.int .i64 i8,.int .i64 i9,.int .i64 i10,.int .i64 i11,.slice bo bn bc]] w fun e w'=>e= .returned (.bool false)/\Below w.heap.size w w':=by
 go_enter Tryz.func62,Tryz.ntmps62
 go_wp2
 go_ret
 exact⟨by first|rfl|(simp;done)|(simp;omega),by go_grown⟩
end
theorem Z0g {w:World} {b:Nat} {x0 x1:Value} {t:TypeId} (h:w.heap[b]?=some (.cells #[x0,x1] t (0,0))):(w.cell? ⟨b,0,none⟩=some x0/\w.cell? ⟨b,1,none⟩=some x1)/\b<w.heap.size:=by
 refine⟨⟨?_,?_⟩,(Gl h)⟩<;>simp[World.cell?,h]
def Z46 (x:Nat):Value:=.agg #[.nilFunc,.func (.func 91) #[.pointer (some ⟨x,0,none⟩)] #[],.func (.func 92) #[.pointer (some ⟨x,0,none⟩)] #[],.func (.func 93) #[.pointer (some ⟨x,0,none⟩)] #[],.func (.func 94) #[.pointer (some ⟨x,0,none⟩)] #[],.func (.func 95) #[.pointer (some ⟨x,0,none⟩)] #[],.func (.func 96) #[.pointer (some ⟨x,0,none⟩)] #[],.func (.func 97) #[.pointer (some ⟨x,0,none⟩)] #[],.func (.func 98) #[.pointer (some ⟨x,0,none⟩)] #[],.func (.func 99) #[.pointer (some ⟨x,0,none⟩)] #[],.func (.func 100) #[.pointer (some ⟨x,0,none⟩)] #[],.func (.func 101) #[.pointer (some ⟨x,0,none⟩)] #[],.func (.func 102) #[.pointer (some ⟨x,0,none⟩)] #[],.func (.func 103) #[.pointer (some ⟨x,0,none⟩)] #[],.func (.func 104) #[.pointer (some ⟨x,0,none⟩)] #[],.func (.func 105) #[.pointer (some ⟨x,0,none⟩)] #[],.func (.func 106) #[.pointer (some ⟨x,0,none⟩)] #[]]
theorem Zom (x:Nat) (w:World):(Instr.index 172 (Z46 x) (.int .i64 1)).run Tryz.prog w= .ok (.func (.func 91) #[.pointer (some ⟨x,0,none⟩)] #[]) w:=by kernel_rfl
theorem Zon (x:Nat) (w:World):(Instr.index 172 (Z46 x) (.int .i64 2)).run Tryz.prog w= .ok (.func (.func 92) #[.pointer (some ⟨x,0,none⟩)] #[]) w:=by kernel_rfl
theorem Zoo (x:Nat) (w:World):(Instr.index 172 (Z46 x) (.int .i64 3)).run Tryz.prog w= .ok (.func (.func 93) #[.pointer (some ⟨x,0,none⟩)] #[]) w:=by kernel_rfl
theorem Zop (x:Nat) (w:World):(Instr.index 172 (Z46 x) (.int .i64 4)).run Tryz.prog w= .ok (.func (.func 94) #[.pointer (some ⟨x,0,none⟩)] #[]) w:=by kernel_rfl
theorem Zoq (x:Nat) (w:World):(Instr.index 172 (Z46 x) (.int .i64 5)).run Tryz.prog w= .ok (.func (.func 95) #[.pointer (some ⟨x,0,none⟩)] #[]) w:=by kernel_rfl
theorem Zor (x:Nat) (w:World):(Instr.index 172 (Z46 x) (.int .i64 6)).run Tryz.prog w= .ok (.func (.func 96) #[.pointer (some ⟨x,0,none⟩)] #[]) w:=by kernel_rfl
theorem Zos (x:Nat) (w:World):(Instr.index 172 (Z46 x) (.int .i64 7)).run Tryz.prog w= .ok (.func (.func 97) #[.pointer (some ⟨x,0,none⟩)] #[]) w:=by kernel_rfl
theorem Zot (x:Nat) (w:World):(Instr.index 172 (Z46 x) (.int .i64 8)).run Tryz.prog w= .ok (.func (.func 98) #[.pointer (some ⟨x,0,none⟩)] #[]) w:=by kernel_rfl
theorem Zou (x:Nat) (w:World):(Instr.index 172 (Z46 x) (.int .i64 9)).run Tryz.prog w= .ok (.func (.func 99) #[.pointer (some ⟨x,0,none⟩)] #[]) w:=by kernel_rfl
theorem Zm5 (x:Nat) (w:World):(Instr.index 172 (Z46 x) (.int .i64 10)).run Tryz.prog w= .ok (.func (.func 100) #[.pointer (some ⟨x,0,none⟩)] #[]) w:=by kernel_rfl
theorem Zm6 (x:Nat) (w:World):(Instr.index 172 (Z46 x) (.int .i64 11)).run Tryz.prog w= .ok (.func (.func 101) #[.pointer (some ⟨x,0,none⟩)] #[]) w:=by kernel_rfl
theorem Zm7 (x:Nat) (w:World):(Instr.index 172 (Z46 x) (.int .i64 12)).run Tryz.prog w= .ok (.func (.func 102) #[.pointer (some ⟨x,0,none⟩)] #[]) w:=by kernel_rfl
theorem Zm8 (x:Nat) (w:World):(Instr.index 172 (Z46 x) (.int .i64 13)).run Tryz.prog w= .ok (.func (.func 103) #[.pointer (some ⟨x,0,none⟩)] #[]) w:=by kernel_rfl
theorem Zm9 (x:Nat) (w:World):(Instr.index 172 (Z46 x) (.int .i64 14)).run Tryz.prog w= .ok (.func (.func 104) #[.pointer (some ⟨x,0,none⟩)] #[]) w:=by kernel_rfl
theorem Zma (x:Nat) (w:World):(Instr.index 172 (Z46 x) (.int .i64 15)).run Tryz.prog w= .ok (.func (.func 105) #[.pointer (some ⟨x,0,none⟩)] #[]) w:=by kernel_rfl
theorem Zmb (x:Nat) (w:World):(Instr.index 172 (Z46 x) (.int .i64 16)).run Tryz.prog w= .ok (.func (.func 106) #[.pointer (some ⟨x,0,none⟩)] #[]) w:=by kernel_rfl
end
section
open Go.RowKit Go.ChangeShapes Go.WideShapes Go.ChangeAt Go.Deep
theorem IRw.nil (w:World) (F:Nat->Int):IRw w (.slice none 0 0) 0 F:=World.ownsRow_nil w 0 160 3
theorem IRw.zero {w:World} {base:Nat} {v:Value} {n:Nat} {F:Nat->Int} (h:w.ownsRow base 160 3 v n (Zb2 n F)):IRw w v n F:=by
 refine⟨h.1,?_⟩
 rcases h.2 with h|⟨g,cap,cur,e,hb,hr⟩
 ·exact .inl h
 ·exact .inr ⟨g,cap,cur,e,Nat.zero_le _,hr⟩
theorem Z1d (v:Value) (n:Nat) (F:Nat->Int) (w:World) (hr:Its w v n F) (hn:n<=1000000):
 Calls Tryz.prog 74 #[v] w fun e w'=>∃v',e= .returned v'/\IRw w' v' n F/\Below w.heap.size w w'/\(∀k,v'.ownBlock=some k->w.heap.size<=k/\k<w'.heap.size):=by
 obtain⟨i0,hi,hz0,hz1,hz2⟩:=info_parts Tryz.infoItem
 have qT:∀(w:World) (a:Option Addr) (n c n' c':Nat),(binOp .eql 84 (.slice a n c) (.slice none n' c')).run Tryz.prog w= .ok (.bool a.isNone) w:=fun w a n c n' c'=>Lib.run_eql_slice_nil w _ _ a n c n' c' Tryz.underlying84
 obtain⟨ao,cap,rfl,hc⟩:=hr
 rcases ao with _|a
 ·have h0:n=0:=by
   rcases Nat.eq_zero_or_pos n with h|h
   ·exact h
   ·obtain⟨b,off,e,_⟩:=hc h
    cases e
  subst h0
  clear hc
  go_enter Tryz.func74,Tryz.ntmps74
  go_wp2
  go_ret
  exact⟨_,rfl,IRw.nil _ _,by go_grown,fun k hk=>by cases hk⟩
 ·have hone:∀u ∈ Zb2 n F,u.oneCell'=true:=fun u hu=>by
   obtain⟨j,hj⟩:=List.getElem?_of_mem hu
   obtain⟨_,rfl⟩:=Zc8 hj
   rfl
  have hre:∀o,∀(j:Nat) (u:Value),(Zb2 n F)[j]?=some u->(w.alloc o).cell? (a.add j)=some u:=fun o j u hj=>by
   obtain⟨hj1,rfl⟩:=Zc8 hj
   obtain⟨b,off,e,hb,hcc⟩:=hc (by omega)
   cases e
   rw[Z2t,World.cell?_of_block (Below.heap_alloc w o b hb)]
   exact hcc j hj1
  have hmade:(w.alloc (.cells #[] 160)).ownsRow w.heap.size 160 3 (.slice (some ⟨w.heap.size,0,none⟩) 0 0) 0 []:=World.ownsRow_made w #[] 0 (Nat.le_refl _) (by unfold maxLen;omega) rfl
  clear hc
  go_enter Tryz.func74,Tryz.ntmps74
  go_wp2_with (at_builtin;refine wpList_append_own_at _ rfl _ _ 84 rfl w.heap.size 160 i0 (.agg #[.int .i64 0,.int .i64 0,.int .i64 0]) 3 24 Tryz.underlying84 hi hz0 hz1 hz2 rfl (by decide) _ _ _ rfl hmade _ _ _ _ rfl (Z3z n F) (hre _) hone ?c3 ?c4 ?c5 ?_)
  case c3=>unfold maxLen;omega
  case c4=>omega
  case c5=>simp
  intro v' w1 hown' hgrow _ _
  go_wp2
  go_ret
  refine⟨v',rfl,IRw.zero (by simpa using hown'),?_,fun k hk=>World.ownsRow.lt hown' k hk⟩
  exact((Brf _ w).alloc (Nat.le_refl _) _).grown hgrow (by simp) (fun k hk=>by simp[Value.ownBlock]at hk;omega)
theorem Z05 (w:World) (A B:Obj):((w.alloc A).alloc B).heap[w.heap.size]?=some A/\((w.alloc A).alloc B).heap[w.heap.size+1]?=some B:=
 ⟨(Below.heap_alloc _ _ _ (by simp)).trans (Han _ _),by have:=Han (w.alloc A) B;simpa using this⟩
end
section
open Go.RowKit
@[ext] structure Th where
 i0:Int
 i1:Int
 i2:Int
 i3:Int
 i4:Int
 i5:Int
 i6:Int
 i7:Int
 i8:Int
 i9:Int
 i10:Int
 i11:Int
def thV (t:Th) (bt:Value):Value:=.agg #[.int .i64 t.i0,.int .i64 t.i1,.int .i64 t.i2,.int .i64 t.i3,.int .i64 t.i4,.int .i64 t.i5,.int .i64 t.i6,.int .i64 t.i7,.int .i64 t.i8,.int .i64 t.i9,.int .i64 t.i10,.int .i64 t.i11,bt]
end
section
open Go.RowKit Go.ChangeShapes Go.WideShapes Go.ChangeAt Go.Deep
structure Z9o where
 st:Int
 xs:List Int
 t:Th
 n:Nat
 F:Nat->Int
 nd:Nat
 Fd:Nat->Int
theorem Zmc (f:Nat) (W0 w:World) (b:Nat) (g:Option Nat) (N st:Int) (xs:List Int) (i0 i1 i2 i3 i4 i5 i6 i7 i8 i9 i10 i11:Int) (bt:Value) (ob:Nat) (ps:Int) (n:Nat) (F:Nat->Int) (G:Nat->Prop) (Post:Z9o->Value->Value->World->Prop) (h:MS W0 w b g N xs st) (hI:Its w bt n F) (hn:n<=1000000) (s0:0<=st) (hG:∀k,G k->k<w.heap.size/\W0.heap.size<=k) (hP:∀r v d u u',Post r v d u->Z01 (fun k=>k=w.heap.size+1) u u'->Post r v d u') (hk1:20<=i1) (hk2:i1<=39)
 (ent:∀(args:Array Value) (u:World),Sem.run Tryz.prog (callFunc f args) u= .ok (.enter f args) u) (hget:∀x,Z3i (Z55 x) i1=some (.func (.func f) #[.pointer (some ⟨x,0,none⟩)] #[])) (hM:∀(u:World) (x:Nat) (bt:Value),Below w.heap.size w u->w.heap.size+1<x->CT W0 u x g N st xs i0 i1 i2 i3 i4 i5 i6 i7 i8 i9 i10 i11 bt b (.pointer (some ⟨ob,0,none⟩)) ps (.slice none 0 0)->IRw u bt n F->(∀t,bt.ownBlock=some t->w.heap.size+1<t/\t<x)->Calls Tryz.prog f #[.pointer (some ⟨x,0,none⟩)] u fun e u'=>e= .returned (.tuple #[])/\∃(r:Z9o) (bt' dn':Value),CT W0 u' x g N r.st r.xs r.t.i0 r.t.i1 r.t.i2 r.t.i3 r.t.i4 r.t.i5 r.t.i6 r.t.i7 r.t.i8 r.t.i9 r.t.i10 r.t.i11 bt' b (.pointer (some ⟨ob,0,none⟩)) ps dn'/\IRw u' bt' r.n r.F/\IRw u' dn' r.nd r.Fd/\(∀t,bt'.ownBlock=some t\/dn'.ownBlock=some t->w.heap.size+1<t)/\Post r bt' dn' u'/\Z01 (fun k=>FX b g x k\/bt.ownBlock=some k\/G k) u u'):
 Calls Tryz.prog 77 #[.pointer (some ⟨b,0,none⟩),(.pointer (some ⟨ob,0,none⟩)),.int .i64 ps,.agg #[.int .i64 i0,.int .i64 i1,.int .i64 i2,.int .i64 i3,.int .i64 i4,.int .i64 i5,.int .i64 i6,.int .i64 i7,.int .i64 i8,.int .i64 i9,.int .i64 i10,.int .i64 i11,bt]] w fun e w'=>∃(r:Z9o) (bt' dn':Value),e= .returned (.tuple #[thV r.t bt',dn'])/\MS W0 w' b g N r.xs r.st/\IRw w' bt' r.n r.F/\IRw w' dn' r.nd r.Fd/\(∀t,bt'.ownBlock=some t\/dn'.ownBlock=some t->w.heap.size<=t)/\Post r bt' dn' w'/\Z01 (fun k=>Z18 b g k\/G k) w w':=by
 have HF:=hi7 h hI h.past hM hG hP hget
 obtain⟨ao,cap,hbt,-⟩:=id hI
 subst hbt
 clear h hI hM hG hP hget
 go_enter Tryz.func77,Tryz.ntmps77
 go_wp2_with fail
 refine(Z1d (.slice ao n cap) n F _ (HF.out.2.1.below (by go_grown)) hn).mono ?_
 rintro e w1 ⟨bt',rfl,hI1,hb1,ho1⟩
 obtain⟨ao',cap',hbt'⟩:=Z03 hI1
 subst hbt'
 have z1:w.heap.size+1<w1.heap.size:=by have:=hb1.size;first|omega|(simp at this;omega)
 have B5:w1.heap[w.heap.size]?=some (.cells #[.int .i64 i0,.int .i64 i1,.int .i64 i2,.int .i64 i3,.int .i64 i4,.int .i64 i5,.int .i64 i6,.int .i64 i7,.int .i64 i8,.int .i64 i9,.int .i64 i10,.int .i64 i11,.slice ao n cap] 86 (0,0)):=(hb1.block w.heap.size (by first|omega|(simp;omega)|(simp;done))).trans (Z05 _ _ _).1
 have B6:w1.heap[w.heap.size+1]?=some (.cells #[.int .i64 0,.int .i64 0,.int .i64 0,.int .i64 0,.int .i64 0,.int .i64 0,.int .i64 0,.int .i64 0,.int .i64 0,.int .i64 0,.int .i64 0,.int .i64 0,.slice none 0 0] 86 (0,0)):=(hb1.block (w.heap.size+1) (by first|omega|(simp;omega)|(simp;done))).trans (Z05 _ _ _).2
 have BW:Below w.heap.size w w1:=Below.trans (by go_grown) (hb1.mono (by first|omega|(simp;omega)|(simp;done)))
 obtain⟨⟨c0,c1,c2,c3,c4,c5,c6,c7,c8,c9,c10,c11,c12⟩,z0⟩:=Z1r B5
 have f12:=Z06 B5 12
 have ho2:∀k,(Value.slice ao' n cap').ownBlock=some k->w.heap.size+2<=k/\k<w1.heap.size:=fun k hk=>⟨by have:=(ho1 k hk).1;simp at this;omega,(ho1 k hk).2⟩
 have H1:=hi5 hI1 BW ho2 B5 B6
 clear hb1 hI1 BW ho1 ho2 B5 B6
 go_wp2_with fail
 generalize hw2:World.setCell _ _ _=w2
 have K2:Z01 (fun k=>k=w.heap.size) w1 w2:=by rw[<-hw2];exact(Z01.refl (fun k=>k=w.heap.size) w1).setCell (p:=⟨w.heap.size,12,none⟩) (fun _=>rfl) _
 have D5:w2.heap[w.heap.size]?=some (.cells #[.int .i64 i0,.int .i64 i1,.int .i64 i2,.int .i64 i3,.int .i64 i4,.int .i64 i5,.int .i64 i6,.int .i64 i7,.int .i64 i8,.int .i64 i9,.int .i64 i10,.int .i64 i11,.slice ao' n cap'] 86 (0,0)):=by rw[<-hw2];rw[Z00 H1.out.2.2.2.1];rfl
 have D6:=(K2.block (w.heap.size+1) (by omega) (by omega)).trans H1.out.2.2.2.2
 have hz:W0.heap.size<=w.heap.size:=HF.out.1.B.size
 have zw1:=H1.out.2.1.size
 have M2:MS W0 w2 b g N xs st:=(HF.out.1.below H1.out.2.1).kept K2 ((HF.out.1.B.trans (H1.out.2.1.mono HF.out.1.B.size)).trans (K2.below (by omega) (fun k hk e=>by omega))) (fun e=>by have:=HF.out.1.mem.lt;omega) (fun k e e2=>HF.out.2.2.1 k (by omega) (.inr e.symm))
 have I2:IRw w2 (.slice ao' n cap') n F:=Z04 H1.out.1 K2 (fun k hk e=>by have:=H1.out.2.2.1 k hk;omega)
 have KW:Below w.heap.size w w2:=H1.out.2.1.trans (K2.below (by omega) (fun k hk e=>by omega))
 have z2:w.heap.size+1<w2.heap.size:=Nlt z1 K2.size
 have o2:∀k,(Value.slice ao' n cap').ownBlock=some k->w.heap.size+2<=k/\k<w2.heap.size:=fun k hk=>⟨(H1.out.2.2.1 k hk).1,Nlt (H1.out.2.2.1 k hk).2 K2.size⟩
 have H2:=hi6 M2 I2 KW o2 D5 D6
 clear hw2 K2 D5 D6 M2 I2 KW o2 H1 c0 c1 c2 c3 c4 c5 c6 c7 c8 c9 c10 c11 c12 f12 z1 z0
 refine(Z9m w2 i0 i1 i2 i3 i4 i5 i6 i7 i8 i9 i10 i11 ao' n cap' hk1 hk2).mono ?_
 rintro e w3 ⟨rfl,hb3⟩
 have D5:=(hb3.block w.heap.size (by omega)).trans H2.out.2.2.2.2.1
 have z3:w.heap.size+1<w3.heap.size:=Nlt z2 hb3.size
 obtain⟨⟨c0,c1,c2,c3,c4,c5,c6,c7,c8,c9,c10,c11,c12⟩,-⟩:=Z1r D5
 have HB:=hi2 hb3 D5
 clear hb3 D5
 go_upto_region 5 with fail
 generalize hx:w3.heap.size=x
 generalize hw4:World.alloc _ _=w4
 have B4:Below w3.heap.size w3 w4:=by rw[<-hw4];go_grown
 have B24:Below w2.heap.size w2 w4:=HB.out.1.trans (B4.mono HB.out.1.size)
 have hxw:w.heap.size+1<x:=by omega
 have o4:CT W0 w4 x g N st xs i0 i1 i2 i3 i4 i5 i6 i7 i8 i9 i10 i11 (.slice ao' n cap') b (.pointer (some ⟨ob,0,none⟩)) ps (.slice none 0 0):=⟨H2.out.1.below B24,by rw[<-hw4,<-hx];exact Han _ _,by omega,HF.out.2.2.1 x (by omega),s0⟩
 have p1:w4.cell? ⟨w.heap.size,1,none⟩=some (.int .i64 i1):=(B4.cell (p:=⟨w.heap.size,1,none⟩) (show w.heap.size<w3.heap.size by omega)).trans c1
 have zx4:x<w4.heap.size:=o4.lt
 have z4:w.heap.size+1<w4.heap.size:=by omega
 have hx2:∀k,k<w2.heap.size->k<x:=fun k hk=>Nlt hk (hx ▸ HB.out.1.size)
 have H4:=hi4 o4 B24 hx2 (H2.out.2.2.1.trans (B24.mono H2.out.2.2.1.size))
 clear hx hw4 B4 B24 o4 hx2 c0 c1 c2 c3 c4 c5 c6 c7 c8 c9 c10 c11 c12
 go_cut [30]from 25 to 30 (fun _ wx=>∃(r:Z9o) (bt' dn':Value),CT W0 wx x g N r.st r.xs r.t.i0 r.t.i1 r.t.i2 r.t.i3 r.t.i4 r.t.i5 r.t.i6 r.t.i7 r.t.i8 r.t.i9 r.t.i10 r.t.i11 bt' b (.pointer (some ⟨ob,0,none⟩)) ps dn'/\IRw wx bt' r.n r.F/\IRw wx dn' r.nd r.Fd/\(∀t,bt'.ownBlock=some t\/dn'.ownBlock=some t->w.heap.size+1<t)/\Post r bt' dn' wx/\Z01 (fun k=>FX b g x k\/(Value.slice ao' n cap').ownBlock=some k\/G k) w4 wx)
 case first=>
  have hM:=HF.out.2.2.2.1
  have HM:=Hd hM
  have cP:=fun(u:World) (hu:Below w4.heap.size w4 u)=>(hu.cell (p:=⟨w.heap.size,1,none⟩) (show w.heap.size<w4.heap.size by omega)).trans p1
  have CP:=Hd cP
  clear hM cP
  go_region_with (first|(go_at_call 82;refine Go.Calls.mono (Zb7 _ _) ?_;rintro e w5 ⟨rfl,hw5⟩;have B5:Below w4.heap.size w4 w5:=(hw5 ▸ (Brf _ _).drew.trans (Z1u w4.drew _));have p5:=CP.out w5 B5;have q3:(Instr.lookup 177 (.map (some w4.heap.size)) (.int .i64 i1) false).run Tryz.prog w5= .ok (.func (.func f) #[.pointer (some ⟨x,0,none⟩)] #[]) w5:=Z2w Tryz.underlying177 Tryz.underlying3 w4.heap.size w5 (Z55 x) _ i1 _ (hw5 ▸ Z2p _ _) (HF.out.2.2.2.2.2.2 x);have H5:=Hd B5;clear B5 hw5)|(with_reducible show Calls Tryz.prog f _ _ _;refine Go.Calls.mono (HM.out _ x (.slice ao' n cap') (H4.out.2.2.2.trans (H5.out.mono H4.out.2.2.2.size)) hxw (H4.out.1.below H5.out) ((H2.out.2.1.below H4.out.2.1).below H5.out) (fun t ht=>⟨by have:=(H2.out.2.2.2.1 t ht).1;omega,H4.out.2.2.1 t (H2.out.2.2.2.1 t ht).2⟩)) ?_;rintro e w6 ⟨rfl,hh6⟩;have H6:=Hd hh6;clear hh6))
  all_goals
   go_wp2_with fail
   go_meet
   case rel=>
    obtain⟨r,bt6,dn6,a1,a2,a3,a4,a5,a6⟩:=H6.out
    exact⟨r,bt6,dn6,a1,a2,a3,a4,a5,(Z0b H5.out).trans a6⟩
 case rest=>
  obtain⟨⟨st',xs',⟨y0,y1,y2,y3,y4,y5,y6,y7,y8,y9,y10,y11⟩,n',F',nd,Fd⟩,bt6,dn6,o6,i6b,i6d,ob6,p6,k6⟩:=hcut
  dsimp only at o6 i6b i6d
  have nF:¬(FX b g x (w.heap.size+1)\/(Value.slice ao' n cap').ownBlock=some (w.heap.size+1)\/G (w.heap.size+1)):=fun e=>by
   rcases e with(e|e)|e|e
   ·exact HF.out.2.2.1 _ (by omega) e
   ·omega
   ·have:=H2.out.2.2.2.1 _ e;omega
   ·have:=(HF.out.2.2.2.2.1 _ e).1;omega
  have C6:=(k6.block (w.heap.size+1) (by omega) nF).trans ((H4.out.2.1.block (w.heap.size+1) (by omega)).trans H2.out.2.2.2.2.2)
  have K6:Z01 (fun k=>Z18 b g k\/G k) w wc:=(Z0b (F:=fun k=>Z18 b g k\/G k) H4.out.2.2.2).step k6 (fun i hi e=>by
   rcases e with(e|e)|e|e
   ·exact .inl e
   ·omega
   ·have:=H2.out.2.2.2.1 _ e;omega
   ·exact .inr e)
  have zc:w.heap.size+1<wc.heap.size:=(Gl C6)
  obtain⟨aob,capb,rfl⟩:=Z03 i6b
  obtain⟨aod,capd,rfl⟩:=Z03 i6d
  obtain⟨⟨e0,e1,e2,e3,e4,e5,e6,e7,e8,e9,e10,e11,e12,e13,e14,e15,e16⟩,-,ex⟩:=o6.open
  obtain⟨⟨c0,c1,c2,c3,c4,c5,c6,c7,c8,c9,c10,c11,c12⟩,-⟩:=Z1r C6
  have fc0:=Z06 C6 0;have fc1:=Z06 C6 1;have fc2:=Z06 C6 2;have fc3:=Z06 C6 3;have fc4:=Z06 C6 4;have fc5:=Z06 C6 5;have fc6:=Z06 C6 6;have fc7:=Z06 C6 7;have fc8:=Z06 C6 8;have fc9:=Z06 C6 9;have fc10:=Z06 C6 10;have fc11:=Z06 C6 11;have fc12:=Z06 C6 12
  have H6:=hi7 o6 C6 i6b i6d ob6 p6 K6
  clear o6 k6 C6 i6b i6d ob6 p6 K6 nF p1
  go_wp2_with fail
  go_region
  all_goals
   go_wp2_with fail
   generalize hw7:World.setCell _ _ _=w7
   have E1:w7.heap[w.heap.size+1]?=some (.cells #[.int .i64 y0,.int .i64 y1,.int .i64 y2,.int .i64 y3,.int .i64 y4,.int .i64 y5,.int .i64 y6,.int .i64 y7,.int .i64 y8,.int .i64 y9,.int .i64 y10,.int .i64 y11,.slice aob n' capb] 86 (0,0)):=by rw[<-hw7];exact Zbb H6.out.2.1 rfl
   have KE:Z01 (fun k=>k=w.heap.size+1) wc w7:=by rw[<-hw7];exact Z26 _ _ _ _ _ _ _ _ _ _ _ _ _ _ _
   obtain⟨⟨r0,r1,r2,r3,r4,r5,r6,r7,r8,r9,r10,r11,r12⟩,-⟩:=Z1r E1
   first|replace KE:=KE.drew|skip
   have hb:=HF.out.1.mem.lt
   have hW:=HF.out.1.B.size
   have hg:∀k,g=some k->k<w.heap.size:=fun k e=>by have h:=HF.out.1;subst e;exact h.mem.row_lt
   refine bodyPost_ret (v:=.tuple #[.agg #[.int .i64 y0,.int .i64 y1,.int .i64 y2,.int .i64 y3,.int .i64 y4,.int .i64 y5,.int .i64 y6,.int .i64 y7,.int .i64 y8,.int .i64 y9,.int .i64 y10,.int .i64 y11,.slice aob n' capb],.slice aod nd capd]) (by simp[results,Tryz.results77,go_sem,r0,r1,r2,r3,r4,r5,r6,r7,r8,r9,r10,r11,r12]) rfl ⟨⟨st',xs',⟨y0,y1,y2,y3,y4,y5,y6,y7,y8,y9,y10,y11⟩,n',F',nd,Fd⟩,_,_,rfl,?_,?_,?_,?_,?_,?_⟩
   ·exact H6.out.1.ms.kept KE (H6.out.1.ms.B.trans (KE.below H6.out.1.ms.B.size (fun k hk e=>by omega))) (fun e=>by omega) (fun k e e2=>by have:=hg k e;omega)
   ·exact Z04 H6.out.2.2.1 KE (fun k hk e=>by have:=H6.out.2.2.2.2.1 k (.inl hk);omega)
   ·exact Z04 H6.out.2.2.2.1 KE (fun k hk e=>by have:=H6.out.2.2.2.2.1 k (.inr hk);omega)
   ·exact fun t ht=>by have:=H6.out.2.2.2.2.1 t ht;omega
   ·exact HF.out.2.2.2.2.2.1 _ _ _ _ _ H6.out.2.2.2.2.2.1 KE
   ·exact H6.out.2.2.2.2.2.2.step KE (fun i hi e=>by omega)
def R32 (w:World) (v:Value) (xs:List Int):Prop:=w.ownsRow 0 21 1 v xs.length (xs.map (Value.int .i32))
theorem R32.kept {S:Nat->Prop} {w w':World} {v:Value} {xs:List Int} (h:R32 w v xs) (hk:Z01 S w w') (hs:∀g,v.ownBlock=some g->¬S g):R32 w' v xs:=Z04 h hk hs
section
variable {w:World} {v:Value} {xs:List Int}
theorem R32.lt (h:R32 w v xs) {g:Nat} (hg:v.ownBlock=some g):g<w.heap.size:=(World.ownsRow.lt h g hg).2
theorem R32.alloc (h:R32 w v xs) (o:Obj):R32 (w.alloc o) v xs:=World.ownsRow.alloc h o
end
theorem R32.nil (w:World):R32 w (.slice none 0 0) []:=World.ownsRow_nil w 0 21 1
theorem R32.below {w w':World} {v:Value} {xs:List Int} (h:R32 w v xs) (hb:Below w.heap.size w w'):R32 w' v xs:=
 h.kept (Z01.of_below (S:=fun _=>False) hb (fun k h1 h2=>by omega)) (fun _ _ h=>h)
theorem R32.of {w:World} {base:Nat} {v:Value} {n:Nat} {ys:List Value} {xs:List Int} (h:w.ownsRow base 21 1 v n ys) (hn:n=xs.length) (hy:ys=xs.map (Value.int .i32)):R32 w v xs:=by
 subst hn;subst hy
 refine⟨h.1,?_⟩
 rcases h.2 with h2|⟨g,cap,cur,h2,_,r⟩
 ·exact .inl h2
 ·exact .inr ⟨g,cap,cur,h2,Nat.zero_le _,r⟩
section
variable {w:World} {v:Value} {xs:List Int}
theorem R32.shape (h:R32 w v xs):∃ao cap,v= .slice ao xs.length cap:=by
 rcases h.2 with⟨rfl,h0⟩|⟨g,cap,cur,rfl,_⟩
 ·exact⟨none,0,by rw[h0]⟩
 ·exact⟨_,cap,rfl⟩
theorem R32.pos (h:R32 w v xs) (hp:0<xs.length):∃g cap cur,v= .slice (some ⟨g,0,none⟩) xs.length cap/\w.heap[g]?=some (.cells cur 21 (0,0))/\cur.size=cap/\xs.length<=cap/\
 (∀j,j<xs.length->w.cell? ⟨g,j,none⟩=some (.int .i32 (xs.getD j 0)))/\(∀j,w.frozen? ⟨g,j,none⟩=false):=by
 rcases h.2 with⟨rfl,h0⟩|⟨g,cap,cur,rfl,_,hg,hn,_,hc,ht⟩
 ·omega
 ·refine⟨g,cap,cur,rfl,hg,by simpa using hc,hn,fun j hj=>?_,fun j=>by simp[World.frozen?,hg]⟩
  have h1:(xs.map (Value.int .i32))[j]?=some (.int .i32 (xs.getD j 0)):=by
   simp[List.getElem?_map,Lge hj]
  have h2:=World.ownsRow.cells h (g:=g) rfl j _ h1
  have ha:(⟨g,0,none⟩:Addr).add j=⟨g,j,none⟩:=by unfold Addr.add;split<;>simp_all
  rw[ha]at h2
  exact h2
end
theorem Z3c {w:World} {g:Nat} {vs:List Int} {n:Nat} (h:w.heap[g]?=some (.cells (vs.map (Value.int .i32)).toArray 21 (0,0))) (hl:vs.length=n) (hn:n<=100):R32 w (.slice (some ⟨g,0,none⟩) n n) vs:=by
 subst hl
 refine⟨by simp,.inr ⟨g,vs.length,_,rfl,Nat.zero_le _,h,Nat.le_refl _,by unfold maxLen;omega,by simp,List.take_of_length_le (by simp)⟩⟩
theorem R32.take {w:World} {g:Nat} {cap n A:Nat} {xs:List Int} (h:R32 w (.slice (some ⟨g,0,none⟩) n cap) xs) (hA:A<=xs.length):R32 w (.slice (some ⟨g,0,none⟩) A cap) (xs.take A):=by
 have hl:(xs.take A).length=A:=by rw[List.length_take];omega
 rcases h.2 with⟨e,_⟩|⟨g',cap',cur,e,hb,hg,hn,hm,hc,ht⟩
 ·cases e
 ·cases e
  refine⟨by simp,.inr ⟨g,cap,cur,by rw[hl],hb,hg,by omega,hm,hc,?_⟩⟩
  rw[hl,Nat.mul_one,List.map_take,<-ht,Nat.mul_one,List.take_take,Nat.min_eq_left hA]
theorem R32.cellsFrom {w:World} {g cap n:Nat} {xs:List Int} (h:R32 w (.slice (some ⟨g,0,none⟩) n cap) xs) (A j:Nat) (u:Value) (hj:((xs.drop A).map (Value.int .i32))[j]?=some u):w.cell? ((⟨g,A,none⟩:Addr).add j)=some u:=by
 have ha:(⟨g,A,none⟩:Addr).add j=⟨g,A+j,none⟩:=by unfold Addr.add;split<;>simp_all
 have hb:(⟨g,0,none⟩:Addr).add (A+j)=⟨g,A+j,none⟩:=by unfold Addr.add;split<;>simp_all
 rw[ha,<-hb]
 refine World.ownsRow.cells h (g:=g) rfl (A+j) u ?_
 rw[List.map_drop,List.getElem?_drop]at hj
 exact hj
theorem Tryz.info32:(Tryz.prog.info? 21).map (fun i=>(i.zero,i.size,i.bytes))=some (some (.int .i32 0),1,4):=by kernel_rfl
theorem R32.cellAt {w:World} {g n cap j:Nat} {xs:List Int} (h:R32 w (.slice (some ⟨g,0,none⟩) n cap) xs) (hj:j<xs.length):w.cell? ⟨g,j,none⟩=some (.int .i32 (xs.getD j 0)):=by
 obtain⟨g',cap',cur,e,hg,-,-,hc,-⟩:=h.pos (by omega)
 cases e
 exact hc j hj
theorem Z6e (v:Value) (xs:List Int) (w:World) (hr:R32 w v xs) (hn:xs.length<=1000000):
 Calls Tryz.prog 71 #[v] w fun e w'=>∃v',e= .returned v'/\R32 w' v' xs/\Below w.heap.size w w'/\(∀k,v'.ownBlock=some k->w.heap.size<=k):=by
 obtain⟨i0,hi,hz0,hz1,hz2⟩:=info_parts Tryz.info32
 have qT:∀(w:World) (a:Option Addr) (n c n' c':Nat),(binOp .eql 31 (.slice a n c) (.slice none n' c')).run Tryz.prog w= .ok (.bool a.isNone) w:=fun w a n c n' c'=>Lib.run_eql_slice_nil w _ _ a n c n' c' Tryz.underlying31
 obtain⟨ao,cap,rfl⟩:=hr.shape
 have hone:∀u ∈ xs.map (Value.int .i32),u.oneCell'=true:=fun u hu=>by
  obtain⟨x,_,rfl⟩:=List.mem_map.1 hu
  rfl
 rcases ao with _|a
 ·have h0:xs.length=0:=by
   rcases Nat.eq_zero_or_pos xs.length with h|h
   ·exact h
   ·obtain⟨g,cap',cur,e,_⟩:=hr.pos h
    cases e
  have e0:=Lnl h0
  subst e0
  go_enter Tryz.func71,Tryz.ntmps71
  go_wp2
  go_ret
  exact⟨_,rfl,R32.nil _,by go_grown,fun k hk=>by cases hk⟩
 ·have hmade:(w.alloc (.cells #[] 21)).ownsRow w.heap.size 21 1 (.slice (some ⟨w.heap.size,0,none⟩) 0 0) 0 []:=World.ownsRow_made w #[] 0 (Nat.le_refl _) (by unfold maxLen;omega) rfl
  have hre:=hr.alloc (.cells #[] 21)
  go_enter Tryz.func71,Tryz.ntmps71
  go_wp2_with (at_builtin;refine Z0c _ rfl _ _ 31 rfl w.heap.size 0 21 i0 (.int .i32 0) 1 4 Tryz.underlying31 hi hz0 hz1 hz2 rfl (by decide) _ _ _ rfl hmade _ xs.length _ rfl hre hone ?c3 ?c4 ?c5 ?_)
  case c3=>unfold maxLen;omega
  case c4=>omega
  case c5=>simp
  intro v' w1 hown' hgrow _ _
  go_wp2
  go_ret
  refine⟨v',rfl,R32.of (base:=w.heap.size) hown' (by simp) (by simp),?_,fun k hk=>(World.ownsRow.lt hown' k hk).1⟩
  exact((Brf _ w).alloc (Nat.le_refl _) _).grown hgrow (by simp) (fun k hk=>by simp[Value.ownBlock]at hk;omega)
structure Z2c (w:World) (s:Nat) (v:Value) (xs:List Int) (most:Int):Prop where
 blk:w.heap[s]?=some (.cells #[v,.int .i64 most] 144 (0,0))
 row:R32 w v xs
 ne:∀t,v.ownBlock=some t->t≠s
section
variable {w w':World} {s:Nat} {v:Value} {xs:List Int} {most:Int}
theorem Z2c.lt (h:Z2c w s v xs most):s<w.heap.size:=(Gl h.blk)
theorem Z2c.kept {S:Nat->Prop} (h:Z2c w s v xs most) (hk:Z01 S w w') (h1:¬S s) (h2:∀t,v.ownBlock=some t->¬S t):Z2c w' s v xs most:=⟨(hk.block s h.lt h1).trans h.blk,h.row.kept hk h2,h.ne⟩
theorem Z2c.below (h:Z2c w s v xs most) (hb:Below w.heap.size w w'):Z2c w' s v xs most:=⟨(hb.block s h.lt).trans h.blk,h.row.below hb,h.ne⟩
theorem Z2c.cells (h:Z2c w s v xs most):w.cell? ⟨s,0,none⟩=some v/\w.cell? ⟨s,1,none⟩=some (.int .i64 most)/\(∀j,w.frozen? ⟨s,j,none⟩=false)/\s<w.heap.size:=by
 have hb:=h.blk
 refine⟨by simp[World.cell?,hb],by simp[World.cell?,hb],fun j=>by simp[World.frozen?,hb],h.lt⟩
abbrev Z0r (s:Nat) (v:Value):Nat->Prop:=fun k=>k=s\/v.ownBlock=some k
end
section
variable (w:World) (s:Nat) (v:Value) (xs:List Int) (most:Int)
theorem Z86 (h:Z2c w s v xs most):
 Calls Tryz.prog 177 #[.pointer (some ⟨s,0,none⟩)] w fun e w'=>e= .returned (.int .i64 xs.length)/\w=w':=by
 obtain⟨c0,c1,-,hs⟩:=h.cells
 obtain⟨ao,cap,rfl⟩:=h.row.shape
 clear h
 go_enter Tryz.func177,Tryz.ntmps177
 go_wp2
 go_ret
 exact⟨rfl,rfl⟩
theorem Zfi (h:Z2c w s v xs most):
 Calls Tryz.prog 184 #[.pointer (some ⟨s,0,none⟩)] w fun e w'=>e= .returned (.int .i64 most)/\w=w':=by
 obtain⟨c0,c1,-,hs⟩:=h.cells
 clear h
 go_enter Tryz.func184,Tryz.ntmps184
 go_wp2
 go_ret
 exact⟨rfl,rfl⟩
end
section
variable (w:World) (s:Nat) (v:Value)
theorem Zfj (most:Int) (h:Z2c w s v [] most):
 Calls Tryz.prog 190 #[.pointer (some ⟨s,0,none⟩)] w fun e w'=>e= .returned (.tuple #[.int .i32 0,.bool false])/\w=w':=by
 have H:=Hd h
 clear h
 go_enter Tryz.func190,Tryz.ntmps190
 go_wp2_with fail
 refine(Z86 w s v [] most H.out).mono ?_
 rintro e w' ⟨rfl,rfl⟩
 go_wp2
 refine bodyPost_ret (v:=.tuple #[.int .i32 0,.bool false]) (by simp[results,Tryz.results190,go_sem]) rfl ⟨rfl,rfl⟩
theorem Z9p (xs:List Int) (y:Int) (most:Int) (h:Z2c w s v (xs++ [y]) most) (hn:xs.length<=1000000):
 Calls Tryz.prog 190 #[.pointer (some ⟨s,0,none⟩)] w fun e w'=>e= .returned (.tuple #[.int .i32 y,.bool true])/\∃v',Z2c w' s v' xs most/\v'.ownBlock=v.ownBlock/\Z01 (fun k=>k=s) w w':=by
 obtain⟨c0,c1,hf,hs⟩:=h.cells
 obtain⟨g,cap,cur,rfl,hg,hcs,hle,hc,-⟩:=h.row.pos (by simp)
 have hlen:(xs++ [y]).length=xs.length+1:=by simp
 have cy:=hc xs.length (by simp)
 have hgd:(xs++ [y]).getD xs.length 0=y:=by simp
 rw[hgd]at cy
 have f0:=hf 0
 obtain⟨n,hn'⟩:∃n,xs.length=n:=⟨_,rfl⟩
 rw[hlen,hn']at c0 hle
 rw[hn']at cy
 have H:=hi2 h hn'
 have zc:(n:Int)<=(cap:Int):=by omega
 have z0:(0:Int)<=(n:Int):=by omega
 have zw:IntKind.i64.wrap (n:Int)=(n:Int):=I6n _ (by omega)
 have zcn:n<=cap:=by omega
 clear h hc hg hf hgd hlen
 go_enter Tryz.func190,Tryz.ntmps190
 go_wp2_with fail
 refine(Z86 w s _ (xs++ [y]) most H.out.1).mono ?_
 rintro e w' ⟨rfl,rfl⟩
 rw[show(xs++ [y]).length=n+1 from by rw[Lla,H.out.2];rfl]
 clear hn'
 go_wp2
 refine bodyPost_ret (v:=.tuple #[.int .i32 y,.bool true]) (by simp[results,Tryz.results190,go_sem]) rfl ?_
 refine⟨rfl,.slice (some ⟨g,0,none⟩) n cap,⟨?_,?_,?_⟩,rfl,?_⟩
 ·rw[Z00 H.out.1.blk];rfl
 ·have h1:=H.out.1.row.take (A:=n) (by rw[Lla,H.out.2];omega)
  rw[List.take_append_of_le_length (by rw[H.out.2];exact Nat.le_refl _),show xs.take n=xs from by rw[<-H.out.2,List.take_length]]at h1
  exact h1.kept (Z02 w ⟨s,0,none⟩ _) (fun t e=>by have:=H.out.1.ne t e;simpa using this)
 ·exact H.out.1.ne
 ·exact(Z01.refl (fun k=>k=s) w).setCell (p:=⟨s,0,none⟩) (fun _=>rfl) _
theorem Zda (xs:List Int) (most y:Int) (h:Z2c w s v xs most) (hm:most<=(xs.length:Int)):
 Calls Tryz.prog 186 #[.pointer (some ⟨s,0,none⟩),.int .i32 y] w fun e w'=>e= .returned (.bool false)/\Below w.heap.size w w':=by
 obtain⟨c0,c1,-,hs⟩:=h.cells
 obtain⟨ao,cap,rfl⟩:=h.row.shape
 have hd:decide (most<=(xs.length:Int))=true:=decide_eq_true hm
 clear h
 go_enter Tryz.func186,Tryz.ntmps186
 go_wp2_with fail
 go_quiet (fail)
 go_wp2
 go_ret
 exact⟨rfl,by first|exact below_drewN (Brf _ _) _|exact(Brf _ _).drew⟩
theorem Z7m (xs:List Int) (most y:Int) (h:Z2c w s v xs most) (hm:(xs.length:Int)<most) (hn:xs.length<=1000000):
 Calls Tryz.prog 186 #[.pointer (some ⟨s,0,none⟩),.int .i32 y] w fun e w'=>e= .returned (.bool true)/\∃v',Z2c w' s v' (xs++ [y]) most/\(v'.ownBlock=v.ownBlock\/∀t,v'.ownBlock=some t->w.heap.size<=t)/\Z01 (Z0r s v) w w':=by
 obtain⟨i0,hi,hz0,hz1,hz2⟩:=info_parts Tryz.info32
 obtain⟨c0,c1,hf,hs⟩:=h.cells
 obtain⟨ao,cap,rfl⟩:=h.row.shape
 have hd:decide (most<=(xs.length:Int))=false:=decide_eq_false (by omega)
 have f0:=hf 0
 have H:=Hd h
 clear h hf
 go_enter Tryz.func186,Tryz.ntmps186
 go_wp2_with fail
 go_quiet (fail)
 have h1:=H.out.below (below_drewN (Brf _ _) nq)
 have HU:=Hd (fun(u:World) (hu:Below (w.drewN nq).heap.size (w.drewN nq) u)=>h1.row.below hu)
 have H1:=Hd h1
 clear h1
 go_wp2_with (at_builtin;refine Z0c _ rfl _ _ 31 rfl 0 0 21 i0 (.int .i32 0) 1 4 Tryz.underlying31 hi hz0 hz1 hz2 rfl (by decide) _ _ _ rfl (HU.out _ (by go_grown)) _ 1 _ rfl (Z3c (vs:= [y]) (Han _ _) rfl (by omega)) (fun v hv=>(by obtain⟨q,_,rfl⟩:=List.mem_map.1 hv;rfl)) ?c3 ?c4 ?c5 ?_)
 try case c3=>unfold maxLen;omega
 try case c4=>omega
 try case c5=>exact Nat.zero_le _
 intro v5 w5 own5 gr5 _ loc5
 have R5:R32 w5 v5 (xs++ [y]):=R32.of own5 (by simp) (by simp)
 obtain⟨ao5,cap5,rfl⟩:=R5.shape
 have hl5:(xs++ [y]).length=xs.length+1:=by simp
 rw[hl5]at R5
 try rw[hl5]at loc5
 try rw[hl5]
 have K5:Z01 (fun k=>(Value.slice ao xs.length cap).ownBlock=some k) (w.drewN nq) w5:=(((Z01.refl _ (w.drewN nq)).alloc _)).grown gr5 (fun k e _=>e)
 have B5:=(K5.block s H1.out.lt (fun e=>H1.out.ne _ e rfl)).trans H1.out.blk
 have c05:w5.cell? ⟨s,0,none⟩=some (.slice ao xs.length cap):=by simp[World.cell?,B5]
 have f05:w5.frozen? ⟨s,0,none⟩=false:=by simp[World.frozen?,B5]
 have L5:(Value.slice ao5 (xs.length+1) cap5).ownBlock=(Value.slice ao xs.length cap).ownBlock\/∀t,(Value.slice ao5 (xs.length+1) cap5).ownBlock=some t->w.heap.size<=t:=by
  rcases loc5 with h|h
  ·exact .inl h
  ·exact .inr (fun t e=>by rw[e]at h;simp at h;omega)
 have zs:s<w.heap.size:=hs
 have H5:=hi4 R5 K5 B5 L5
 clear own5 gr5 loc5 R5 K5 B5 L5 hl5
 go_wp2
 go_ret
 refine⟨rfl,_,⟨?_,?_,?_⟩,H5.out.2.2.2,?_⟩
 ·rw[Z00 H5.out.2.2.1];rfl
 ·refine H5.out.1.kept (Z02 w5 ⟨s,0,none⟩ _) (fun t e=>?_)
  have h3:t≠s:=by
   rcases H5.out.2.2.2 with h|h
   ·exact H.out.ne t (h ▸ e)
   ·have:=h t e;omega
  simpa using h3
 ·exact fun t e=>by
   rcases H5.out.2.2.2 with h|h
   ·exact H.out.ne t (h ▸ e)
   ·have:=h t e;omega
 ·exact((Z0b (F:=Z0r s (.slice ao xs.length cap)) (below_drewN (Brf _ _) nq)).trans (H5.out.2.1.mono (fun _ _ e=>.inr e))).setCell (p:=⟨s,0,none⟩) (fun _=>.inl rfl) _
end
section
variable (w:World) (s:Nat) (v:Value) (xs:List Int) (most y:Int)
theorem Zdb (h:Z2c w s v xs most) (hm:most<=(xs.length:Int)):
 Calls Tryz.prog 195 #[.pointer (some ⟨s,0,none⟩),.int .i32 y] w fun e w'=>e= .returned (.agg #[.int .u8 3,.int .i32 0])/\Below w.heap.size w w':=by
 have H:=Hd h
 clear h
 go_enter Tryz.func195,Tryz.ntmps195
 go_wp2_with fail
 refine(Zda _ s v xs most y (H.out.below (by go_grown)) hm).mono ?_
 rintro e w1 ⟨rfl,hb⟩
 have HB1:=Hd (show w1.heap[w.heap.size]?=some (.cells #[.int .u8 0,.int .i32 0] 43 (0,0))from(hb.block w.heap.size (by simp)).trans (Han _ _))
 have BW:Below w.heap.size w w1:=Below.trans (by go_grown) (hb.mono (by simp))
 obtain⟨⟨e0,e1⟩,zB⟩:=Z0g HB1.out
 have f0:=Z06 HB1.out 0
 have f1:=Z06 HB1.out 1
 clear hb
 go_wp2
 generalize hw7:World.setCell _ _ _=w7
 have E2:w7.heap[w.heap.size]?=some (.cells #[.int .u8 3,.int .i32 0] 43 (0,0)):=by rw[<-hw7];exact Z3b HB1.out rfl
 have KE:Z01 (fun k=>k=w.heap.size) w1 w7:=by rw[<-hw7];exact Z0l _ _ _ _
 obtain⟨⟨r0,r1⟩,-⟩:=Z0g E2
 refine bodyPost_ret (v:=.agg #[.int .u8 3,.int .i32 0]) (by simp[results,Tryz.results195,go_sem,r0,r1]) rfl ?_
 exact⟨rfl,BW.trans (KE.below BW.size (fun k hk e=>by omega))⟩
theorem Zdc (h:Z2c w s v xs most) (hm:(xs.length:Int)<most) (hn:xs.length<=1000000):
 Calls Tryz.prog 195 #[.pointer (some ⟨s,0,none⟩),.int .i32 y] w fun e w'=>e= .returned (.agg #[.int .u8 1,.int .i32 0])/\∃v',Z2c w' s v' (xs++ [y]) most/\(v'.ownBlock=v.ownBlock\/∀t,v'.ownBlock=some t->w.heap.size<=t)/\Z01 (Z0r s v) w w':=by
 have H:=Hd h
 clear h
 go_enter Tryz.func195,Tryz.ntmps195
 go_wp2_with fail
 refine(Z7m _ s v xs most y (H.out.below (by go_grown)) hm hn).mono ?_
 rintro e w1 ⟨rfl,v',h1,ho,hk⟩
 have hs:=H.out.lt
 have hov:∀t,v.ownBlock=some t->t<w.heap.size:=fun t e=>H.out.row.lt e
 have HB1:=Hd (show w1.heap[w.heap.size]?=some (.cells #[.int .u8 0,.int .i32 0] 43 (0,0))from(hk.block w.heap.size (by simp) (fun e=>by
  rcases e with e|e
  ·omega
  ·have:=hov _ e;omega)).trans (Han _ _))
 have KW:Z01 (Z0r s v) w w1:=(Z0b (F:=Z0r s v) (show Below w.heap.size w (w.alloc _) by go_grown)).trans hk
 have ho':v'.ownBlock=v.ownBlock\/∀t,v'.ownBlock=some t->w.heap.size<t:=by
  rcases ho with h|h
  ·exact .inl h
  ·exact .inr (fun t e=>by have:=h t e;simp at this;omega)
 obtain⟨⟨e0,e1⟩,zB⟩:=Z0g HB1.out
 have f0:=Z06 HB1.out 0
 have f1:=Z06 HB1.out 1
 have H1:=hi3 h1 ho' KW
 clear h1 ho ho' hk KW
 go_wp2
 generalize hw7:World.setCell _ _ _=w7
 have E2:w7.heap[w.heap.size]?=some (.cells #[.int .u8 1,.int .i32 0] 43 (0,0)):=by rw[<-hw7];exact Z3b HB1.out rfl
 have KE:Z01 (fun k=>k=w.heap.size) w1 w7:=by rw[<-hw7];exact Z0l _ _ _ _
 obtain⟨⟨r0,r1⟩,-⟩:=Z0g E2
 refine bodyPost_ret (v:=.agg #[.int .u8 1,.int .i32 0]) (by simp[results,Tryz.results195,go_sem,r0,r1]) rfl ?_
 refine⟨rfl,v',H1.out.1.kept KE (fun e=>by omega) (fun t e hh=>?_),?_,H1.out.2.2.step KE (fun i hi e=>by omega)⟩
 ·subst hh
  rcases H1.out.2.1 with h|h
  ·have:=hov _ (h ▸ e);omega
  ·have:=h _ e;omega
 ·rcases H1.out.2.1 with h|h
  ·exact .inl h
  ·exact .inr (fun t e=>by have:=h t e;omega)
end
section
variable (w:World) (s:Nat) (v:Value)
theorem Zfk (most y:Int) (h:Z2c w s v [] most):
 Calls Tryz.prog 196 #[.pointer (some ⟨s,0,none⟩),.int .i32 y] w fun e w'=>e= .returned (.agg #[.int .u8 4,.int .i32 0])/\Below w.heap.size w w':=by
 have H:=Hd h
 clear h
 go_enter Tryz.func196,Tryz.ntmps196
 go_wp2_with fail
 refine(Zfj _ s v most (H.out.below (by go_grown))).mono ?_
 rintro e w1 ⟨rfl,rfl⟩
 generalize hW1:World.alloc _ _=w1
 have HB1:=Hd (show w1.heap[w.heap.size]?=some (.cells #[.int .u8 0,.int .i32 0] 43 (0,0))from(by rw[<-hW1];exact Han _ _))
 have BW:Below w.heap.size w w1:=by rw[<-hW1];go_grown
 obtain⟨⟨e0,e1⟩,zB⟩:=Z0g HB1.out
 have f0:=Z06 HB1.out 0
 have f1:=Z06 HB1.out 1
 clear hW1
 go_wp2
 generalize hw7:World.setCell _ _ _=w7
 have E2:w7.heap[w.heap.size]?=some (.cells #[.int .u8 4,.int .i32 0] 43 (0,0)):=by rw[<-hw7];exact Z3b HB1.out rfl
 have KE:Z01 (fun k=>k=w.heap.size) w1 w7:=by rw[<-hw7];exact Z0l _ _ _ _
 obtain⟨⟨r0,r1⟩,-⟩:=Z0g E2
 refine bodyPost_ret (v:=.agg #[.int .u8 4,.int .i32 0]) (by simp[results,Tryz.results196,go_sem,r0,r1]) rfl ?_
 exact⟨rfl,BW.trans (KE.below BW.size (fun k hk e=>by omega))⟩
theorem Zfl (xs:List Int) (z most y:Int) (h:Z2c w s v (xs++ [z]) most) (hn:xs.length<=1000000):
 Calls Tryz.prog 196 #[.pointer (some ⟨s,0,none⟩),.int .i32 y] w fun e w'=>e= .returned (.agg #[.int .u8 2,.int .i32 z])/\∃v',Z2c w' s v' xs most/\(v'.ownBlock=v.ownBlock\/∀t,v'.ownBlock=some t->w.heap.size<=t)/\Z01 (Z0r s v) w w':=by
 have H:=Hd h
 clear h
 go_enter Tryz.func196,Tryz.ntmps196
 go_wp2_with fail
 refine(Z9p _ s v xs z most (H.out.below (by go_grown)) hn).mono ?_
 rintro e w1 ⟨rfl,v',h1,ho,hk⟩
 have hs:=H.out.lt
 have hov:∀t,v.ownBlock=some t->t<w.heap.size:=fun t e=>H.out.row.lt e
 have HB1:=Hd (show w1.heap[w.heap.size]?=some (.cells #[.int .u8 0,.int .i32 0] 43 (0,0))from(hk.block w.heap.size (by simp) (fun e=>by omega)).trans (Han _ _))
 have KW:Z01 (Z0r s v) w w1:=(Z0b (F:=Z0r s v) (show Below w.heap.size w (w.alloc _) by go_grown)).trans (hk.mono (fun _ _ e=>.inl e))
 obtain⟨⟨e0,e1⟩,zB⟩:=Z0g HB1.out
 have f0:=Z06 HB1.out 0
 have f1:=Z06 HB1.out 1
 have H1:=hi3 h1 ho KW
 clear h1 ho hk KW
 go_wp2
 generalize hw7:World.setCell _ _ _=w7
 have E2:w7.heap[w.heap.size]?=some (.cells #[.int .u8 2,.int .i32 z] 43 (0,0)):=by rw[<-hw7];exact Z3b HB1.out rfl
 have KE:Z01 (fun k=>k=w.heap.size) w1 w7:=by rw[<-hw7];exact Z0l _ _ _ _
 obtain⟨⟨r0,r1⟩,-⟩:=Z0g E2
 refine bodyPost_ret (v:=.agg #[.int .u8 2,.int .i32 z]) (by simp[results,Tryz.results196,go_sem,r0,r1]) rfl ?_
 exact⟨rfl,v',H1.out.1.kept KE (fun e=>by omega) (fun t e hh=>by subst hh;have:=hov _ (H1.out.2.1 ▸ e);omega),.inl H1.out.2.1,H1.out.2.2.step KE (fun i hi e=>by omega)⟩
end
end
end Go.Proofs.YtihljjgmkaeohaaGreat
