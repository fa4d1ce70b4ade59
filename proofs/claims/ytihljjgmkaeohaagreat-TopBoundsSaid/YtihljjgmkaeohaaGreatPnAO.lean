/- part 15 -/
import Derived.Test.YtihljjgmkaeohaaGreatPnAN
set_option linter.all false
set_option maxHeartbeats 16000000
set_option maxRecDepth 100000
namespace Go.Proofs.YtihljjgmkaeohaaGreat
section
open Go.RowKit Go.ChangeShapes Go.WideShapes Go.ChangeAt Go.Deep
def Z07 (most:Int) (xs:List Int) (o:Int×Int):List Int×(Int×Int):=
 if o.1=1 then(if most<=(xs.length:Int)then(xs,(3,0))else(o.2::xs,(1,0)))
 else if o.1=2 then(if most<=(xs.length:Int)then(xs,(3,0))else(xs++ [o.2],(1,0)))
 else if o.1=3 then(if xs.length=0 then(xs,(4,0))else(xs.tail,(2,xs.getD 0 0)))
 else if o.1=4 then(if xs.length=0 then(xs,(4,0))else(xs.dropLast,(2,xs.getD (xs.length-1) 0)))
 else(xs,(5,0))
def RgS (w:World) (r:Nat) (v:Value) (xs:List Int) (most:Int):Prop:=∃cs f,RgP w r v cs f xs/\(cs.length:Int)=most
section
variable {w w':World} {r:Nat} {v:Value} {xs:List Int} {most:Int}
theorem RgS.lt (h:RgS w r v xs most):r<w.heap.size:=by obtain⟨cs,f,h,-⟩:=h;exact h.lt
theorem RgS.vlt (h:RgS w r v xs most):∀t,v.ownBlock=some t->t<w.heap.size:=by obtain⟨cs,f,h,-⟩:=h;exact fun t e=>h.row.lt e
theorem RgS.kept {S:Nat->Prop} (h:RgS w r v xs most) (hk:Z01 S w w') (h1:¬S r) (h2:∀t,v.ownBlock=some t->¬S t):RgS w' r v xs most:=by obtain⟨cs,f,h,e⟩:=h;exact⟨cs,f,h.kept hk h1 h2,e⟩
theorem RgS.below (h:RgS w r v xs most) (hb:Below w.heap.size w w'):RgS w' r v xs most:=by obtain⟨cs,f,h,e⟩:=h;exact⟨cs,f,h.below hb,e⟩
theorem RgS.le (h:RgS w r v xs most):(xs.length:Int)<=most:=by obtain⟨cs,f,h,e⟩:=h;have:=h.hm;omega
end
theorem Z9z (w:World):Calls Tryz.prog 214 #[.bool true] w fun e w'=>e= .returned (.agg #[.int .u8 1,.int .i32 0])/\Below w.heap.size w w':=by
 go_enter Tryz.func214,Tryz.ntmps214
 go_wp2
 refine bodyPost_ret (v:=.agg #[.int .u8 1,.int .i32 0]) (by simp[results,Tryz.results214,go_sem]) rfl ⟨rfl,by go_grown⟩
theorem Za0 (w:World):Calls Tryz.prog 214 #[.bool false] w fun e w'=>e= .returned (.agg #[.int .u8 3,.int .i32 0])/\Below w.heap.size w w':=by
 go_enter Tryz.func214,Tryz.ntmps214
 go_wp2
 refine bodyPost_ret (v:=.agg #[.int .u8 3,.int .i32 0]) (by simp[results,Tryz.results214,go_sem]) rfl ⟨rfl,by go_grown⟩
theorem Za1 (w:World) (y:Int):Calls Tryz.prog 215 #[.int .i32 y,.bool true] w fun e w'=>e= .returned (.agg #[.int .u8 2,.int .i32 y])/\Below w.heap.size w w':=by
 go_enter Tryz.func215,Tryz.ntmps215
 go_wp2
 refine bodyPost_ret (v:=.agg #[.int .u8 2,.int .i32 y]) (by simp[results,Tryz.results215,go_sem]) rfl ⟨rfl,by go_grown⟩
theorem Za2 (w:World) (y:Int):Calls Tryz.prog 215 #[.int .i32 y,.bool false] w fun e w'=>e= .returned (.agg #[.int .u8 4,.int .i32 0])/\Below w.heap.size w w':=by
 go_enter Tryz.func215,Tryz.ntmps215
 go_wp2
 refine bodyPost_ret (v:=.agg #[.int .u8 4,.int .i32 0]) (by simp[results,Tryz.results215,go_sem]) rfl ⟨rfl,by go_grown⟩
section
variable (w:World) (r:Nat) (v:Value) (cs:List Int) (f:Nat)
theorem Z78 (xs:List Int) (y z:Int) (h:RgP w r v cs f xs) (hm:xs.length=cs.length):
 Calls Tryz.prog 206 #[.pointer (some ⟨r,0,none⟩),.agg #[.int .u8 1,.int .i32 y]] w fun e w'=>e= .returned (.agg #[.int .u8 3,.int .i32 0])/\Below w.heap.size w w':=by
 have H:=Hd h
 clear h
 go_enter Tryz.func206,Tryz.ntmps206
 go_wp2_with fail
 generalize hW:World.alloc _ _=W
 have B1:Below w.heap.size w W:=by rw[<-hW];go_grown
 have b1:W.heap[w.heap.size+1]?=some (.cells #[.int .u8 0,.int .i32 0] 43 (0,0)):=by rw[<-hW];exact(Z05 _ _ _).2
 have HB:=hi2 B1 b1
 have hz:w.heap.size+1<W.heap.size:=(Gl b1)
 clear hW B1 b1
 refine(Zbl W r v cs f xs y (H.out.below HB.out.1) hm).mono ?_
 rintro e w3 ⟨rfl,B3⟩
 have b3:=(B3.block (w.heap.size+1) hz).trans HB.out.2
 go_wp2_with fail
 refine(Za0 w3).mono ?_
 rintro e w4 ⟨rfl,B4⟩
 have HB1:=Hd (show w4.heap[w.heap.size+1]?=some (.cells #[.int .u8 0,.int .i32 0] 43 (0,0))from(B4.block (w.heap.size+1) (Gl b3)).trans b3)
 have HB4:=Hd B4
 clear b3 B4
 obtain⟨⟨e0,e1⟩,zB⟩:=Z0g HB1.out
 have f0:=Z06 HB1.out 0
 have f1:=Z06 HB1.out 1
 go_wp2
 generalize hw7:World.setCell _ _ _=w7
 have E2:w7.heap[w.heap.size+1]?=some (.cells #[.int .u8 3,.int .i32 0] 43 (0,0)):=by rw[<-hw7];exact Z3b HB1.out rfl
 have KE:Z01 (fun k=>k=w.heap.size+1) w4 w7:=by rw[<-hw7];exact Z0l _ _ _ _
 obtain⟨⟨r0,r1⟩,-⟩:=Z0g E2
 refine bodyPost_ret (v:=.agg #[.int .u8 3,.int .i32 0]) (by simp[results,Tryz.results206,go_sem,r0,r1]) rfl ?_
 have BB:=(HB.out.1.trans (B3.mono HB.out.1.size)).trans (HB4.out.mono (HB.out.1.trans (B3.mono HB.out.1.size)).size)
 exact⟨rfl,BB.trans (KE.below BB.size (fun k hk e=>by omega))⟩
theorem Z79 (xs:List Int) (y z:Int) (h:RgP w r v cs f xs) (hm:xs.length=cs.length):
 Calls Tryz.prog 206 #[.pointer (some ⟨r,0,none⟩),.agg #[.int .u8 2,.int .i32 y]] w fun e w'=>e= .returned (.agg #[.int .u8 3,.int .i32 0])/\Below w.heap.size w w':=by
 have H:=Hd h
 clear h
 go_enter Tryz.func206,Tryz.ntmps206
 go_wp2_with fail
 generalize hW:World.alloc _ _=W
 have B1:Below w.heap.size w W:=by rw[<-hW];go_grown
 have b1:W.heap[w.heap.size+1]?=some (.cells #[.int .u8 0,.int .i32 0] 43 (0,0)):=by rw[<-hW];exact(Z05 _ _ _).2
 have HB:=hi2 B1 b1
 have hz:w.heap.size+1<W.heap.size:=(Gl b1)
 clear hW B1 b1
 refine(Zbm W r v cs f xs y (H.out.below HB.out.1) hm).mono ?_
 rintro e w3 ⟨rfl,B3⟩
 have b3:=(B3.block (w.heap.size+1) hz).trans HB.out.2
 go_wp2_with fail
 refine(Za0 w3).mono ?_
 rintro e w4 ⟨rfl,B4⟩
 have HB1:=Hd (show w4.heap[w.heap.size+1]?=some (.cells #[.int .u8 0,.int .i32 0] 43 (0,0))from(B4.block (w.heap.size+1) (Gl b3)).trans b3)
 have HB4:=Hd B4
 clear b3 B4
 obtain⟨⟨e0,e1⟩,zB⟩:=Z0g HB1.out
 have f0:=Z06 HB1.out 0
 have f1:=Z06 HB1.out 1
 go_wp2
 generalize hw7:World.setCell _ _ _=w7
 have E2:w7.heap[w.heap.size+1]?=some (.cells #[.int .u8 3,.int .i32 0] 43 (0,0)):=by rw[<-hw7];exact Z3b HB1.out rfl
 have KE:Z01 (fun k=>k=w.heap.size+1) w4 w7:=by rw[<-hw7];exact Z0l _ _ _ _
 obtain⟨⟨r0,r1⟩,-⟩:=Z0g E2
 refine bodyPost_ret (v:=.agg #[.int .u8 3,.int .i32 0]) (by simp[results,Tryz.results206,go_sem,r0,r1]) rfl ?_
 have BB:=(HB.out.1.trans (B3.mono HB.out.1.size)).trans (HB4.out.mono (HB.out.1.trans (B3.mono HB.out.1.size)).size)
 exact⟨rfl,BB.trans (KE.below BB.size (fun k hk e=>by omega))⟩
theorem Z7a (xs:List Int) (y z:Int) (h:RgP w r v cs f xs) (hm:xs.length<cs.length):
 Calls Tryz.prog 206 #[.pointer (some ⟨r,0,none⟩),.agg #[.int .u8 1,.int .i32 y]] w fun e w'=>e= .returned (.agg #[.int .u8 1,.int .i32 0])/\(∃cs' f',RgP w' r v cs' f' (y::xs)/\cs'.length=cs.length)/\Z01 (RgF r v) w w':=by
 have H:=Hd h
 clear h
 go_enter Tryz.func206,Tryz.ntmps206
 go_wp2_with fail
 generalize hW:World.alloc _ _=W
 have B1:Below w.heap.size w W:=by rw[<-hW];go_grown
 have b1:W.heap[w.heap.size+1]?=some (.cells #[.int .u8 0,.int .i32 0] 43 (0,0)):=by rw[<-hW];exact(Z05 _ _ _).2
 have HB:=hi2 B1 b1
 have hz:w.heap.size+1<W.heap.size:=(Gl b1)
 clear hW B1 b1
 refine(Z6j W r v cs f xs y (H.out.below HB.out.1) hm).mono ?_
 rintro e w3 ⟨rfl,R3,K3⟩
 have b3:=(K3.block (w.heap.size+1) hz (fun e=>by
  rcases e with e|e
  ·have:=H.out.lt;omega
  ·have:=H.out.row.lt e;omega)).trans HB.out.2
 have H3:=hi2 R3 K3
 clear R3 K3
 go_wp2_with fail
 refine(Z9z w3).mono ?_
 rintro e w4 ⟨rfl,B4⟩
 have HB1:=Hd (show w4.heap[w.heap.size+1]?=some (.cells #[.int .u8 0,.int .i32 0] 43 (0,0))from(B4.block (w.heap.size+1) (Gl b3)).trans b3)
 have HB4:=Hd B4
 clear b3 B4
 obtain⟨⟨e0,e1⟩,zB⟩:=Z0g HB1.out
 have f0:=Z06 HB1.out 0
 have f1:=Z06 HB1.out 1
 go_wp2
 generalize hw7:World.setCell _ _ _=w7
 have E2:w7.heap[w.heap.size+1]?=some (.cells #[.int .u8 1,.int .i32 0] 43 (0,0)):=by rw[<-hw7];exact Z3b HB1.out rfl
 have KE:Z01 (fun k=>k=w.heap.size+1) w4 w7:=by rw[<-hw7];exact Z0l _ _ _ _
 obtain⟨⟨r0,r1⟩,-⟩:=Z0g E2
 refine bodyPost_ret (v:=.agg #[.int .u8 1,.int .i32 0]) (by simp[results,Tryz.results206,go_sem,r0,r1]) rfl ?_
 obtain⟨⟨cs',f',hR,hl⟩,hK⟩:=H3.out
 refine⟨rfl,⟨cs',f',(hR.below HB4.out).kept KE (fun e=>by have:=H.out.lt;omega) (fun t e hh=>by have:=H.out.row.lt e;omega),hl⟩,?_⟩
 exact(((Z0b HB.out.1).trans hK).trans (Z0b HB4.out)).step KE (fun i hi e=>by omega)
theorem Z7b (xs:List Int) (y z:Int) (h:RgP w r v cs f xs) (hm:xs.length<cs.length):
 Calls Tryz.prog 206 #[.pointer (some ⟨r,0,none⟩),.agg #[.int .u8 2,.int .i32 y]] w fun e w'=>e= .returned (.agg #[.int .u8 1,.int .i32 0])/\(∃cs' f',RgP w' r v cs' f' (xs++ [y])/\cs'.length=cs.length)/\Z01 (RgF r v) w w':=by
 have H:=Hd h
 clear h
 go_enter Tryz.func206,Tryz.ntmps206
 go_wp2_with fail
 generalize hW:World.alloc _ _=W
 have B1:Below w.heap.size w W:=by rw[<-hW];go_grown
 have b1:W.heap[w.heap.size+1]?=some (.cells #[.int .u8 0,.int .i32 0] 43 (0,0)):=by rw[<-hW];exact(Z05 _ _ _).2
 have HB:=hi2 B1 b1
 have hz:w.heap.size+1<W.heap.size:=(Gl b1)
 clear hW B1 b1
 refine(Z6k W r v cs f xs y (H.out.below HB.out.1) hm).mono ?_
 rintro e w3 ⟨rfl,R3,K3⟩
 have b3:=(K3.block (w.heap.size+1) hz (fun e=>by
  rcases e with e|e
  ·have:=H.out.lt;omega
  ·have:=H.out.row.lt e;omega)).trans HB.out.2
 have H3:=hi2 R3 K3
 clear R3 K3
 go_wp2_with fail
 refine(Z9z w3).mono ?_
 rintro e w4 ⟨rfl,B4⟩
 have HB1:=Hd (show w4.heap[w.heap.size+1]?=some (.cells #[.int .u8 0,.int .i32 0] 43 (0,0))from(B4.block (w.heap.size+1) (Gl b3)).trans b3)
 have HB4:=Hd B4
 clear b3 B4
 obtain⟨⟨e0,e1⟩,zB⟩:=Z0g HB1.out
 have f0:=Z06 HB1.out 0
 have f1:=Z06 HB1.out 1
 go_wp2
 generalize hw7:World.setCell _ _ _=w7
 have E2:w7.heap[w.heap.size+1]?=some (.cells #[.int .u8 1,.int .i32 0] 43 (0,0)):=by rw[<-hw7];exact Z3b HB1.out rfl
 have KE:Z01 (fun k=>k=w.heap.size+1) w4 w7:=by rw[<-hw7];exact Z0l _ _ _ _
 obtain⟨⟨r0,r1⟩,-⟩:=Z0g E2
 refine bodyPost_ret (v:=.agg #[.int .u8 1,.int .i32 0]) (by simp[results,Tryz.results206,go_sem,r0,r1]) rfl ?_
 obtain⟨⟨cs',f',hR,hl⟩,hK⟩:=H3.out
 refine⟨rfl,⟨cs',f',(hR.below HB4.out).kept KE (fun e=>by have:=H.out.lt;omega) (fun t e hh=>by have:=H.out.row.lt e;omega),hl⟩,?_⟩
 exact(((Z0b HB.out.1).trans hK).trans (Z0b HB4.out)).step KE (fun i hi e=>by omega)
theorem Z8k (xs:List Int) (y z:Int) (h:RgP w r v cs f []):
 Calls Tryz.prog 206 #[.pointer (some ⟨r,0,none⟩),.agg #[.int .u8 3,.int .i32 y]] w fun e w'=>e= .returned (.agg #[.int .u8 4,.int .i32 0])/\Below w.heap.size w w':=by
 have H:=Hd h
 clear h
 go_enter Tryz.func206,Tryz.ntmps206
 go_wp2_with fail
 generalize hW:World.alloc _ _=W
 have B1:Below w.heap.size w W:=by rw[<-hW];go_grown
 have b1:W.heap[w.heap.size+1]?=some (.cells #[.int .u8 0,.int .i32 0] 43 (0,0)):=by rw[<-hW];exact(Z05 _ _ _).2
 have HB:=hi2 B1 b1
 have hz:w.heap.size+1<W.heap.size:=(Gl b1)
 clear hW B1 b1
 refine(Zdk W r v cs f (H.out.below HB.out.1)).mono ?_
 rintro e w3 ⟨rfl,rfl⟩
 have b3:=HB.out.2
 go_wp2_with fail
 refine(Za2 W 0).mono ?_
 rintro e w4 ⟨rfl,B4⟩
 have HB1:=Hd (show w4.heap[w.heap.size+1]?=some (.cells #[.int .u8 0,.int .i32 0] 43 (0,0))from(B4.block (w.heap.size+1) (Gl b3)).trans b3)
 have HB4:=Hd B4
 clear b3 B4
 obtain⟨⟨e0,e1⟩,zB⟩:=Z0g HB1.out
 have f0:=Z06 HB1.out 0
 have f1:=Z06 HB1.out 1
 go_wp2
 generalize hw7:World.setCell _ _ _=w7
 have E2:w7.heap[w.heap.size+1]?=some (.cells #[.int .u8 4,.int .i32 0] 43 (0,0)):=by rw[<-hw7];exact Z3b HB1.out rfl
 have KE:Z01 (fun k=>k=w.heap.size+1) w4 w7:=by rw[<-hw7];exact Z0l _ _ _ _
 obtain⟨⟨r0,r1⟩,-⟩:=Z0g E2
 refine bodyPost_ret (v:=.agg #[.int .u8 4,.int .i32 0]) (by simp[results,Tryz.results206,go_sem,r0,r1]) rfl ?_
 have BB:=HB.out.1.trans (HB4.out.mono HB.out.1.size)
 exact⟨rfl,BB.trans (KE.below BB.size (fun k hk e=>by omega))⟩
theorem Z8l (xs:List Int) (y z:Int) (h:RgP w r v cs f []):
 Calls Tryz.prog 206 #[.pointer (some ⟨r,0,none⟩),.agg #[.int .u8 4,.int .i32 y]] w fun e w'=>e= .returned (.agg #[.int .u8 4,.int .i32 0])/\Below w.heap.size w w':=by
 have H:=Hd h
 clear h
 go_enter Tryz.func206,Tryz.ntmps206
 go_wp2_with fail
 generalize hW:World.alloc _ _=W
 have B1:Below w.heap.size w W:=by rw[<-hW];go_grown
 have b1:W.heap[w.heap.size+1]?=some (.cells #[.int .u8 0,.int .i32 0] 43 (0,0)):=by rw[<-hW];exact(Z05 _ _ _).2
 have HB:=hi2 B1 b1
 have hz:w.heap.size+1<W.heap.size:=(Gl b1)
 clear hW B1 b1
 refine(Zdl W r v cs f (H.out.below HB.out.1)).mono ?_
 rintro e w3 ⟨rfl,rfl⟩
 have b3:=HB.out.2
 go_wp2_with fail
 refine(Za2 W 0).mono ?_
 rintro e w4 ⟨rfl,B4⟩
 have HB1:=Hd (show w4.heap[w.heap.size+1]?=some (.cells #[.int .u8 0,.int .i32 0] 43 (0,0))from(B4.block (w.heap.size+1) (Gl b3)).trans b3)
 have HB4:=Hd B4
 clear b3 B4
 obtain⟨⟨e0,e1⟩,zB⟩:=Z0g HB1.out
 have f0:=Z06 HB1.out 0
 have f1:=Z06 HB1.out 1
 go_wp2
 generalize hw7:World.setCell _ _ _=w7
 have E2:w7.heap[w.heap.size+1]?=some (.cells #[.int .u8 4,.int .i32 0] 43 (0,0)):=by rw[<-hw7];exact Z3b HB1.out rfl
 have KE:Z01 (fun k=>k=w.heap.size+1) w4 w7:=by rw[<-hw7];exact Z0l _ _ _ _
 obtain⟨⟨r0,r1⟩,-⟩:=Z0g E2
 refine bodyPost_ret (v:=.agg #[.int .u8 4,.int .i32 0]) (by simp[results,Tryz.results206,go_sem,r0,r1]) rfl ?_
 have BB:=HB.out.1.trans (HB4.out.mono HB.out.1.size)
 exact⟨rfl,BB.trans (KE.below BB.size (fun k hk e=>by omega))⟩
theorem Z8m (xs:List Int) (y z:Int) (h:RgP w r v cs f (z::xs)):
 Calls Tryz.prog 206 #[.pointer (some ⟨r,0,none⟩),.agg #[.int .u8 3,.int .i32 y]] w fun e w'=>e= .returned (.agg #[.int .u8 2,.int .i32 z])/\(∃cs' f',RgP w' r v cs' f' xs/\cs'.length=cs.length)/\Z01 (RgF r v) w w':=by
 have H:=Hd h
 clear h
 go_enter Tryz.func206,Tryz.ntmps206
 go_wp2_with fail
 generalize hW:World.alloc _ _=W
 have B1:Below w.heap.size w W:=by rw[<-hW];go_grown
 have b1:W.heap[w.heap.size+1]?=some (.cells #[.int .u8 0,.int .i32 0] 43 (0,0)):=by rw[<-hW];exact(Z05 _ _ _).2
 have HB:=hi2 B1 b1
 have hz:w.heap.size+1<W.heap.size:=(Gl b1)
 clear hW B1 b1
 refine(Z7r W r v cs f z xs (H.out.below HB.out.1)).mono ?_
 rintro e w3 ⟨rfl,R3,K3⟩
 have b3:=(K3.block (w.heap.size+1) hz (fun e=>by
  rcases e with e|e
  ·have:=H.out.lt;omega
  ·have:=H.out.row.lt e;omega)).trans HB.out.2
 have H3:=hi2 R3 K3
 clear R3 K3
 go_wp2_with fail
 refine(Za1 w3 z).mono ?_
 rintro e w4 ⟨rfl,B4⟩
 have HB1:=Hd (show w4.heap[w.heap.size+1]?=some (.cells #[.int .u8 0,.int .i32 0] 43 (0,0))from(B4.block (w.heap.size+1) (Gl b3)).trans b3)
 have HB4:=Hd B4
 clear b3 B4
 obtain⟨⟨e0,e1⟩,zB⟩:=Z0g HB1.out
 have f0:=Z06 HB1.out 0
 have f1:=Z06 HB1.out 1
 go_wp2
 generalize hw7:World.setCell _ _ _=w7
 have E2:w7.heap[w.heap.size+1]?=some (.cells #[.int .u8 2,.int .i32 z] 43 (0,0)):=by rw[<-hw7];exact Z3b HB1.out rfl
 have KE:Z01 (fun k=>k=w.heap.size+1) w4 w7:=by rw[<-hw7];exact Z0l _ _ _ _
 obtain⟨⟨r0,r1⟩,-⟩:=Z0g E2
 refine bodyPost_ret (v:=.agg #[.int .u8 2,.int .i32 z]) (by simp[results,Tryz.results206,go_sem,r0,r1]) rfl ?_
 obtain⟨⟨cs',f',hR,hl⟩,hK⟩:=H3.out
 refine⟨rfl,⟨cs',f',(hR.below HB4.out).kept KE (fun e=>by have:=H.out.lt;omega) (fun t e hh=>by have:=H.out.row.lt e;omega),hl⟩,?_⟩
 exact(((Z0b HB.out.1).trans hK).trans (Z0b HB4.out)).step KE (fun i hi e=>by omega)
theorem Z8n (xs:List Int) (y z:Int) (h:RgP w r v cs f (xs++ [z])):
 Calls Tryz.prog 206 #[.pointer (some ⟨r,0,none⟩),.agg #[.int .u8 4,.int .i32 y]] w fun e w'=>e= .returned (.agg #[.int .u8 2,.int .i32 z])/\(∃cs' f',RgP w' r v cs' f' xs/\cs'.length=cs.length)/\Z01 (RgF r v) w w':=by
 have H:=Hd h
 clear h
 go_enter Tryz.func206,Tryz.ntmps206
 go_wp2_with fail
 generalize hW:World.alloc _ _=W
 have B1:Below w.heap.size w W:=by rw[<-hW];go_grown
 have b1:W.heap[w.heap.size+1]?=some (.cells #[.int .u8 0,.int .i32 0] 43 (0,0)):=by rw[<-hW];exact(Z05 _ _ _).2
 have HB:=hi2 B1 b1
 have hz:w.heap.size+1<W.heap.size:=(Gl b1)
 clear hW B1 b1
 refine(Z7s W r v cs f z xs (H.out.below HB.out.1)).mono ?_
 rintro e w3 ⟨rfl,R3,K3⟩
 have b3:=(K3.block (w.heap.size+1) hz (fun e=>by
  rcases e with e|e
  ·have:=H.out.lt;omega
  ·have:=H.out.row.lt e;omega)).trans HB.out.2
 have H3:=hi2 R3 K3
 clear R3 K3
 go_wp2_with fail
 refine(Za1 w3 z).mono ?_
 rintro e w4 ⟨rfl,B4⟩
 have HB1:=Hd (show w4.heap[w.heap.size+1]?=some (.cells #[.int .u8 0,.int .i32 0] 43 (0,0))from(B4.block (w.heap.size+1) (Gl b3)).trans b3)
 have HB4:=Hd B4
 clear b3 B4
 obtain⟨⟨e0,e1⟩,zB⟩:=Z0g HB1.out
 have f0:=Z06 HB1.out 0
 have f1:=Z06 HB1.out 1
 go_wp2
 generalize hw7:World.setCell _ _ _=w7
 have E2:w7.heap[w.heap.size+1]?=some (.cells #[.int .u8 2,.int .i32 z] 43 (0,0)):=by rw[<-hw7];exact Z3b HB1.out rfl
 have KE:Z01 (fun k=>k=w.heap.size+1) w4 w7:=by rw[<-hw7];exact Z0l _ _ _ _
 obtain⟨⟨r0,r1⟩,-⟩:=Z0g E2
 refine bodyPost_ret (v:=.agg #[.int .u8 2,.int .i32 z]) (by simp[results,Tryz.results206,go_sem,r0,r1]) rfl ?_
 obtain⟨⟨cs',f',hR,hl⟩,hK⟩:=H3.out
 refine⟨rfl,⟨cs',f',(hR.below HB4.out).kept KE (fun e=>by have:=H.out.lt;omega) (fun t e hh=>by have:=H.out.row.lt e;omega),hl⟩,?_⟩
 exact(((Z0b HB.out.1).trans hK).trans (Z0b HB4.out)).step KE (fun i hi e=>by omega)
theorem Zms (xs:List Int) (k y z:Int) (h:RgP w r v cs f xs) (h1:¬k=1) (h2:¬k=2) (h3:¬k=3) (h4:¬k=4):
 Calls Tryz.prog 206 #[.pointer (some ⟨r,0,none⟩),.agg #[.int .u8 k,.int .i32 y]] w fun e w'=>e= .returned (.agg #[.int .u8 5,.int .i32 0])/\Below w.heap.size w w':=by
 have H:=Hd h
 clear h
 go_enter Tryz.func206,Tryz.ntmps206
 go_wp2_with fail
 refine bodyPost_ret (v:=.agg #[.int .u8 5,.int .i32 0]) (by simp[results,Tryz.results206,go_sem]) rfl ⟨rfl,by go_grown⟩
end
theorem Zch {xs:List Int} (h:xs.length≠0):xs=xs.dropLast++ [xs.getD (xs.length-1) 0]:=by
 have h2:xs≠[]:=fun e=>h (by rw[e];rfl)
 have h3:=(List.dropLast_concat_getLast h2).symm
 rw[List.getLast_eq_getElem h2]at h3
 rw[Lgd,Lge (by omega)]
 exact h3
theorem Zl1 {xs:List Int} (h:xs.length≠0):xs=xs.getD 0 0::xs.tail:=by
 cases xs with
 |nil=>exact absurd rfl h
 |cons a l=>rfl
theorem Zqj (w:World) (r:Nat) (v:Value) (xs:List Int) (most k y:Int) (h:RgS w r v xs most) (h0:0<=k) (h1:k<=255) (hn:xs.length<=1000000):
 Calls Tryz.prog 206 #[.pointer (some ⟨r,0,none⟩),.agg #[.int .u8 k,.int .i32 y]] w fun e w'=>e= .returned (.agg #[.int .u8 (Z07 most xs (k,y)).2.1,.int .i32 (Z07 most xs (k,y)).2.2])/\∃v',RgS w' r v' (Z07 most xs (k,y)).1 most/\Z39 w v v'/\Z01 (Z0r r v) w w':=by
 obtain⟨cs,f,hR,hm⟩:=h
 have hle:=hR.hm
 by_cases hk1:k=1
 ·subst hk1
  by_cases hx:most<=(xs.length:Int)
  ·have e:Z07 most xs (1,y)=(xs,(3,0)):=by unfold Z07;rw[if_pos rfl,if_pos hx]
   rw[e]
   exact(Z78 w r v cs f xs y 0 hR (by omega)).mono fun e w' ⟨e1,e2⟩=>⟨e1,v,⟨cs,f,hR.below e2,hm⟩,.inl rfl,Z0b e2⟩
  ·have e:Z07 most xs (1,y)=(y::xs,(1,0)):=by unfold Z07;rw[if_pos rfl,if_neg hx]
   rw[e]
   exact(Z7a w r v cs f xs y 0 hR (by omega)).mono fun e w' ⟨e1,⟨cs',f',e2,e3⟩,e4⟩=>⟨e1,v,⟨cs',f',e2,by rw[e3];exact hm⟩,.inl rfl,e4⟩
 by_cases hk2:k=2
 ·subst hk2
  by_cases hx:most<=(xs.length:Int)
  ·have e:Z07 most xs (2,y)=(xs,(3,0)):=by unfold Z07;rw[if_neg hk1,if_pos rfl,if_pos hx]
   rw[e]
   exact(Z79 w r v cs f xs y 0 hR (by omega)).mono fun e w' ⟨e1,e2⟩=>⟨e1,v,⟨cs,f,hR.below e2,hm⟩,.inl rfl,Z0b e2⟩
  ·have e:Z07 most xs (2,y)=(xs++ [y],(1,0)):=by unfold Z07;rw[if_neg hk1,if_pos rfl,if_neg hx]
   rw[e]
   exact(Z7b w r v cs f xs y 0 hR (by omega)).mono fun e w' ⟨e1,⟨cs',f',e2,e3⟩,e4⟩=>⟨e1,v,⟨cs',f',e2,by rw[e3];exact hm⟩,.inl rfl,e4⟩
 by_cases hk3:k=3
 ·subst hk3
  by_cases hx:xs.length=0
  ·have e:Z07 most xs (3,y)=(xs,(4,0)):=by unfold Z07;rw[if_neg hk1,if_neg hk2,if_pos rfl,if_pos hx]
   rw[e]
   have hx0:=Lnl hx
   subst hx0
   exact(Z8k w r v cs f [] y 0 hR).mono fun e w' ⟨e1,e2⟩=>⟨e1,v,⟨cs,f,hR.below e2,hm⟩,.inl rfl,Z0b e2⟩
  ·have e:Z07 most xs (3,y)=(xs.tail,(2,xs.getD 0 0)):=by unfold Z07;rw[if_neg hk1,if_neg hk2,if_pos rfl,if_neg hx]
   rw[e]
   have hc:=Zl1 hx
   generalize xs.getD 0 0=z at hc
   rw[hc]at hR
   exact(Z8m w r v cs f xs.tail y z hR).mono fun e w' ⟨e1,⟨cs',f',e2,e3⟩,e4⟩=>⟨e1,v,⟨cs',f',e2,by rw[e3];exact hm⟩,.inl rfl,e4⟩
 by_cases hk4:k=4
 ·subst hk4
  by_cases hx:xs.length=0
  ·have e:Z07 most xs (4,y)=(xs,(4,0)):=by unfold Z07;rw[if_neg hk1,if_neg hk2,if_neg hk3,if_pos rfl,if_pos hx]
   rw[e]
   have hx0:=Lnl hx
   subst hx0
   exact(Z8l w r v cs f [] y 0 hR).mono fun e w' ⟨e1,e2⟩=>⟨e1,v,⟨cs,f,hR.below e2,hm⟩,.inl rfl,Z0b e2⟩
  ·have e:Z07 most xs (4,y)=(xs.dropLast,(2,xs.getD (xs.length-1) 0)):=by unfold Z07;rw[if_neg hk1,if_neg hk2,if_neg hk3,if_pos rfl,if_neg hx]
   rw[e]
   have hc:=Zch hx
   generalize xs.getD (xs.length-1) 0=z at hc
   rw[hc]at hR
   exact(Z8n w r v cs f xs.dropLast y z hR).mono fun e w' ⟨e1,⟨cs',f',e2,e3⟩,e4⟩=>⟨e1,v,⟨cs',f',e2,by rw[e3];exact hm⟩,.inl rfl,e4⟩
 have e:Z07 most xs (k,y)=(xs,(5,0)):=by unfold Z07;rw[if_neg hk1,if_neg hk2,if_neg hk3,if_neg hk4]
 rw[e]
 exact(Zms w r v cs f xs k y 0 hR hk1 hk2 hk3 hk4).mono fun e w' ⟨e1,e2⟩=>⟨e1,v,⟨cs,f,hR.below e2,hm⟩,.inl rfl,Z0b e2⟩
theorem Z4w (most:Int):∀(l:List (Int×Int)) (xs:List Int),(Z09 (Z07 most) xs l).1.length<=xs.length+l.length
 | [],xs=>by simp[Z09]
 |o::l,xs=>by
  have h1:=Z4w most l (Z07 most xs o).1
  have h2:(Z07 most xs o).1.length<=xs.length+1:=by
   unfold Z07
   split
   ·split<;>simp
   ·split
    ·split<;>simp
    ·split
     ·split<;>simp;omega
     ·split
      ·split<;>simp;omega
      ·simp
  simp only[Z09,Llc]
  omega
theorem Zmt (w:World) (s:Nat) (v:Value) (xs:List Int) (most:Int) (ov:Value) (L:List (Int×Int)) (h:RgS w s v xs most) (hp:P2 w 47 ov L) (ho:∀t,ov.ownBlock=some t->¬Z0r s v t) (hk:∀p ∈ L,0<=p.1/\p.1<=255) (hl:xs.length+L.length<=1000000):
 Calls Tryz.prog 182 #[.func (.func 206) #[.pointer (some ⟨s,0,none⟩)] #[],ov] w fun e w'=>∃u,e= .returned u/\P2 w' 43 u (Z09 (Z07 most) xs L).2/\(∀t,u.ownBlock=some t->w.heap.size<=t)/\∃v',RgS w' s v' (Z09 (Z07 most) xs L).1 most/\Z39 w v v'/\Z01 (Z0r s v) w w':=by
 have hs:=h.lt
 have hov:∀t,v.ownBlock=some t->t<w.heap.size:=fun t e=>h.vlt t e
 obtain⟨oo,oc,rfl⟩:=hp.shape
 obtain⟨n,hn⟩:∃n,L.length=n:=⟨_,rfl⟩
 have H:=hi6 h hp ho hk hl hn
 have hn9:(n:Int)<=1000000:=by omega
 have hn0:n*2<=2000000:=by omega
 rw[hn]
 obtain⟨i0,hi,hz0,hz1,hz2⟩:=info_parts Tryz.infoRes
 have hmk:=Z1f 212 43 i0 Tryz.underlying212 hi hz0 hz1 hz2 n (by omega)
 clear h hp ho hk hl hn hi hz0 hz1 hz2
 go_enter Tryz.func182,Tryz.ntmps182
 go_wp2_with fail
 generalize hB:w.heap.size=B
 generalize hW1:World.alloc _ _=w1
 have T1:P2 w1 43 (.slice (some ⟨B,0,none⟩) n n) (List.replicate n (0,0)):=by rw[<-hW1,<-hB];exact Z3p _ _ _ (by omega)
 have B1:Below w.heap.size w w1:=by rw[<-hW1];go_grown
 have hs2:s<B:=by omega
 have hov2:∀t,v.ownBlock=some t->t<B:=fun t e=>by have:=hov t e;omega
 have H1:=hi3 T1 B1 hB
 clear hW1 T1 B1 hB hmk hs hov
 go_loopw [13] (fun k wr=>∃(i:Nat) (v':Value),i<=n/\k= .int .i64 i/\P2 wr 43 (.slice (some ⟨B,0,none⟩) n n) ((Z09 (Z07 most) xs (L.take i)).2++List.replicate (n-i) (0,0))/\RgS wr s v' (Z09 (Z07 most) xs (L.take i)).1 most/\Z39 w v v'/\(∀t,v'.ownBlock=some t->t≠B)/\Z01 (Z0r s v) w wr) (fun k _=>n-(intOf k).toNat)
 case atStart=>exact⟨0,v,Nat.zero_le _,rfl,by simpa [Z09]using H1.out.1,by simpa [Z09]using H.out.1.below H1.out.2.1,.inl rfl,fun t e=>by have:=hov2 t e;omega,Z0b H1.out.2.1⟩
 case round=>
  obtain⟨i,v',hin,rfl,hT,hS,hO,hne,hK⟩:=hrel
  have yi:(0:Int)<=(i:Int):=by omega
  have HR:=hi5 hT hS hO hne hK
  by_cases hlt:i<n
  ·have hlt':(i:Int)<(n:Int):=by omega
   have pO:=H.out.2.1.kept hK H.out.2.2.1
   obtain⟨og,oc2,hs,-,hgl,hc,-⟩:=pO.pos (by have:=H.out.2.2.2.2.2;omega)
   rw[H.out.2.2.2.2.2]at hs
   cases hs
   obtain⟨c1,c2⟩:=hc i (by have:=H.out.2.2.2.2.2;omega)
   have hkb:=H.out.2.2.2.1 (L.getD i (0,0)) (by
    rw[Lgd,Lge (by have:=H.out.2.2.2.2.2;omega)]
    exact List.getElem_mem _)
   have hsn:=Z34 (l:=L) (i:=i) (by have:=H.out.2.2.2.2.2;omega)
   obtain⟨⟨k,y⟩,hky⟩:∃p,L.getD i (0,0)=p:=⟨_,rfl⟩
   rw[hky]at c1 c2 hkb hsn
   rw[show 2*i=i*2 by omega]at c1 c2
   have zB:B<wr.heap.size:=hT.lt rfl
   have HK:=hi2 hkb hsn
   clear hT hS hO hne hK pO hc hkb hsn hky
   go_wp2_with fail
   generalize hW2:World.alloc _ _=W2
   have B2:Below wr.heap.size wr W2:=by rw[<-hW2];go_grown
   have hlen:=Z4w most (L.take i) xs
   have hl2:(Z09 (Z07 most) xs (L.take i)).1.length<=1000000:=by
    rw[List.length_take]at hlen
    have h1:=H.out.2.2.2.2.1
    have h2:=H.out.2.2.2.2.2
    omega
   have HB2:=Hd B2
   clear hW2 B2 hlen
   refine(Zqj W2 s v' _ most k y (HR.out.2.1.below HB2.out) HK.out.1.1 HK.out.1.2 hl2).mono ?_
   rintro e w3 ⟨rfl,v3,hS3,hO3,hK3⟩
   have hFB:¬Z0r s v' B:=fun e=>by
    rcases e with e|e
    ·omega
    ·exact HR.out.2.2.2.1 B e rfl
   have T3:=(HR.out.1.below HB2.out).kept hK3 (fun t e=>by cases e;exact hFB)
   obtain⟨c,hcc⟩:∃c,(Z07 most (Z09 (Z07 most) xs (L.take i)).1 (k,y)).2=c:=⟨_,rfl⟩
   obtain⟨ca,cb⟩:=c
   rw[hcc]
   have hRl:(Z09 (Z07 most) xs (L.take i)).2.length=i:=by rw[Z1i,List.length_take];have:=H.out.2.2.2.2.2;omega
   obtain⟨tg,tc,hs,-,htl,ht,htf⟩:=T3.pos (by rw[Lla,Llr];omega)
   have e1:tg=B:=by injection hs with h1;injection h1 with h1;injection h1 with h1;exact h1.symm
   subst e1
   obtain⟨t1,t2⟩:=ht i (by rw[Lla,Llr];omega)
   rw[show 2*i=i*2 by omega]at t1 t2
   have tf1:=htf (i*2)
   have tf2:=htf (i*2+1)
   have H3:=hi6 T3 hS3 hO3 hK3 hcc hFB
   clear T3 hS3 hO3 hK3 hcc hs ht htf c1 c2 hFB
   go_wp2
   go_roundw
   case rel=>
    have KT:Z01 (fun k=>k=tg) w3 ((w3.setCell ⟨tg,i*2,none⟩ (.int .u8 ca)).setCell ⟨tg,i*2+1,none⟩ (.int .i32 cb)):=((Z01.refl (fun k=>k=tg) w3).setCell (p:=⟨tg,i*2,none⟩) (fun _=>rfl) _).setCell (p:=⟨tg,i*2+1,none⟩) (fun _=>rfl) _
    have hst:Z09 (Z07 most) xs (L.take (i+1))=((Z07 most (Z09 (Z07 most) xs (L.take i)).1 (k,y)).1,(Z09 (Z07 most) xs (L.take i)).2++ [(ca,cb)]):=by rw[HK.out.2,Z1t,H3.out.2.2.2.2.1]
    have hne3:∀t,v3.ownBlock=some t->t≠tg:=fun t e=>by
     rcases H3.out.2.2.1 with h|h
     ·exact HR.out.2.2.2.1 t (h ▸ e)
     ·have:=h t e;have:=HB2.out.size;omega
    refine⟨i+1,v3,by omega,by go_num,?_,?_,HR.out.2.2.1.trans H3.out.2.2.1 (Nat.le_trans HR.out.2.2.2.2.size HB2.out.size),hne3,?_⟩
    ·have h1:=H3.out.1.set rfl i (by rw[Lla,Llr];omega) ca cb
     rw[Z4q _ hRl hlt,show 2*i=i*2 by omega]at h1
     rw[hst]
     exact h1
    ·rw[hst]
     exact H3.out.2.1.kept KT (fun e=>by omega) (fun t e hh=>hne3 t e hh)
    ·exact(Z8a (HR.out.2.2.2.2.trans (Z0b HB2.out)) HR.out.2.2.1 H3.out.2.2.2.1).step KT (fun j hj e=>by have:=H1.out.2.2;omega)
   case measure=>simp[intOf];omega
  ·obtain rfl:i=n:=by omega
   have hL:L.take i=L:=List.take_of_length_le (by have:=H.out.2.2.2.2.2;omega)
   rw[hL]at hT hS
   rw[Nat.sub_self,List.replicate_zero,List.append_nil]at hT
   have HZ:=hi4 hT hS hO hK
   clear hT hS hO hne hK HR
   go_wp2
   go_ret
   exact⟨_,rfl,HZ.out.1,fun t e=>by have h1:B=t:=Option.some.inj e;have:=H1.out.2.2;omega,v',HZ.out.2⟩
end
section
open Go.RowKit Go.ChangeShapes Go.WideShapes Go.ChangeAt Go.Shelf
attribute [local go_sem] Oper.semAt_some
theorem Zph (v:Option Addr) (w:World):Calls Tryz.prog 199 #[.pointer v] w fun e w'=>e= .returned (.func (.func 200) #[] #[.pointer (some ⟨w.heap.size,0,none⟩)])/\w'=w.alloc (.cells #[.pointer v] 260):=by
 go_enter Tryz.func199,Tryz.ntmps199
 go_wp2
 go_ret
 exact⟨rfl,rfl⟩
theorem Zdv (n:Nat) (hn:1<=n) (B s r:Nat) (v:Value) (cs:List Int) (f:Nat) (xs:List Int) (w:World) (hB:Boxed w B 260 (.pointer (some ⟨r,0,none⟩))) (hR:RgP w r v cs f xs) (hrs:r<s) (hvs:∀t,v.ownBlock=some t->t<s):
 SeqStopsK Fence.wide n Tryz.prog 200 #[.pointer (some ⟨B,0,none⟩)] (fun x:Int=> #[Value.int .i32 x]) (KpC s B B 260 260) (fun ys=>ys=xs) (fun pre=>pre <+:xs) xs.length w:=fun l J Jx W hW hJ _ hY h0=>
 Zk2 n hn l B B s r v cs f xs 260 J Jx W hJ ((hW.block B hB.lt).trans hB) (hR.below hW) hrs hvs hY h0
theorem Zbu {P:Program} (s t:TypeId) (i:TypeInfo) (hs:P.underlying s=some (.slice t)) (hi:P.info? t=some i) (hz:i.zero=some (.int .i32 0)) (hsz:i.size=1) (hby:i.bytes=4) (n:Nat) (hn:n<=1000000) (w:World):
 (Instr.makeSlice s (.int .i64 0) (.int .i64 (n:Int))).run P w= .ok (.slice (some ⟨w.heap.size,0,none⟩) 0 n) (w.alloc (.cells (madeCells #[.int .i32 0] n) t)):=by
 have:=run_makeSlice (P:=P) w s t i (.int .i32 0) hs hi hz .i64 .i64 (0:Int) (n:Int) (by omega) (by omega) (by rw[hsz,Int.toNat_natCast];omega) (by rw[hby];omega) (by omega)
 rw[hsz,Int.toNat_natCast,Nat.mul_one]at this
 exact this
theorem Z5q (w:World) (A B C:Obj):(((w.alloc A).alloc B).alloc C).heap[w.heap.size]?=some A/\(((w.alloc A).alloc B).alloc C).heap[w.heap.size+1]?=some B/\(((w.alloc A).alloc B).alloc C).heap[w.heap.size+1+1]?=some C:=
 ⟨(Below.heap_alloc _ _ _ (by simp;omega)).trans (Z05 _ _ _).1,(Below.heap_alloc _ _ _ (by simp)).trans (Z05 _ _ _).2,by have:=Han ((w.alloc A).alloc B) C;simpa using this⟩
theorem Zk3 (w:World) (r:Nat) (v:Value) (xs:List Int) (most:Int) (h:RgS w r v xs most):
 Calls Tryz.prog 197 #[.pointer (some ⟨r,0,none⟩)] w fun e w'=>∃u,e= .returned u/\R32 w' u xs/\(∀k,u.ownBlock=some k->w.heap.size<=k)/\Below w.heap.size w w':=by
 obtain⟨cs,f,hR,-⟩:=h
 obtain⟨i0,hi,hz0,hz1,hz2⟩:=info_parts Tryz.info32
 obtain⟨m,hm⟩:∃m,xs.length=m:=⟨_,rfl⟩
 have hm9:m<=1000:=by have:=hR.hm;have:=hR.h9;omega
 have hmk:=Zbu 31 21 i0 Tryz.underlying31 hi hz0 hz1 hz2 m (by omega)
 obtain⟨r0,r1,r2,rf,zr⟩:=hR.cells
 rw[hm]at r2
 have hvt:∀t,v.ownBlock=some t->t<w.heap.size:=fun t e=>hR.row.lt e
 have H:=hi3 hR hvt hm
 clear hR hvt hm r0 r1
 refine(callsIn_wide (n:=5)).1 ?_
 refine callsIn_of_wp_marks Tryz.func197 rfl trivial ?_ rfl
 simp only[Tryz.ntmps197,List.size_toArray,Llc,List.length_nil,Nat.reduceAdd,Nat.reduceSub,Array.replicate_succ,Array.replicate_zero,List.push_toArray,List.append_toArray,List.nil_append,List.cons_append]
 gi_wp2_with (refine⟨trivial,?_⟩;gi_at_call 199;refine(callsIn_wide.2 (Zph _ _)).mono ?_;rintro e w1 ⟨rfl,rfl⟩)
 obtain⟨s,hsz⟩:∃s,w.heap.size=s:=⟨_,rfl⟩
 have HA:=Z5q w (Obj.cells (madeCells #[Value.int IntKind.i32 0] m) 21) (Obj.cells #[Value.slice (some {block:=w.heap.size,off:=0}) 0 m] 31) (Obj.cells #[Value.pointer (some {block:=r,off:=0})] 260)
 generalize hW0:World.alloc (World.alloc (World.alloc _ _) _) _=W0 at HA |-
 have B0:Below w.heap.size w W0:=by rw[<-hW0];go_grown
 have z0:W0.heap.size=s+1+1+1:=by rw[<-hW0,<-hsz];simp
 rw[hsz]at HA B0 |-
 have N1:Boxed W0 (s+1) 31 (.slice (some ⟨s,0,none⟩) 0 m):=HA.2.1
 have N2:Boxed W0 (s+1+1) 260 (.pointer (some ⟨r,0,none⟩)):=HA.2.2
 have O0:W0.ownsRow s 21 1 (.slice (some ⟨s,0,none⟩) 0 m) 0 []:=⟨by simp,.inr ⟨s,m,_,rfl,Nat.le_refl _,HA.1,Nat.zero_le _,by unfold maxLen;omega,by rw[size_madeCells];simp,by simp⟩⟩
 have R0:=H.out.1.below (hsz ▸ B0)
 clear hW0 HA hmk r2 rf
 refine wpIn_rangeFunc_ownF rfl (by omega) (gf:=200) (lb:= #[.pointer (some ⟨s+1+1,0,none⟩)]) rfl trivial (enters_of Tryz.func200 (by kernel_rfl) rfl)
  (Zdv (5-1) (by omega) _ s r v cs f xs W0 N2 R0 (by omega) (fun t e=>by have:=H.out.2.1 t e;omega)) Zpf (fun W l o o' hl h hc hw=>Zpg (w:=W0) (by omega) W l o o' hl h hc hw) (Brf _ _) (fun _=>rfl)
  (fun pre W=>(∃u,Boxed W (s+1) 31 u/\W.ownsRow s 21 1 u pre.length (pre.map (Value.int .i32))/\True)/\Boxed W (s+1+1) 260 (.pointer (some ⟨r,0,none⟩))/\Below s w W)
  (fun c pre W=>False)
  (OwnFrom.and (Own.from (holdsRow_own s (s+1) 31 21 1 (fun pre:List Int=>pre.length) (fun pre=>pre.map (Value.int .i32)) (fun _ _=>True)) _) (OwnFrom.and (Own.from (boxed_own _ _ (fun _=>.pointer (some ⟨r,0,none⟩))) _) (ownFrom_below (by omega) (by omega))))
  (fun c=>ownFrom_pure _ _)
  ⟨⟨_,N1,O0,trivial⟩,N2,B0⟩
  (fun x=>{tmps:= #[.pointer (some ⟨r,0,none⟩),undef,.slice none 0 0,.pointer (some ⟨s+1,0,none⟩),.int .i32 x,.pointer (some ⟨r,0,none⟩),.bool false,.pointer (some ⟨r,0,none⟩),.pointer (some ⟨r,0,none⟩),.pointer (some ⟨r,0,none⟩),.pointer (some ⟨r,2,none⟩),.int .i64 (m:Int),.slice (some ⟨s,0,none⟩) 0 m,.pointer (some ⟨r,0,none⟩),.pointer (some ⟨r,0,none⟩),.pointer (some ⟨r,0,none⟩),.func (.func 200) #[] #[.pointer (some ⟨s+1+1,0,none⟩)],.int .i32 x,undef,undef,undef,undef,undef],defers:= []}) ?assign ?body ?done ?stop
 case assign=>
  intro l x W K hK
  gi_wp2
  exact hK
 case body=>
  rintro l pre a W ⟨⟨u,hu,hrow,-⟩,hn2,hB⟩ hlt
  have hpl:pre.length<1001:=by have:=H.out.2.2;omega
  clear N1 N2 B0 O0 R0 hlt
  have hc:=hu.cell
  have hlt:=hu.lt
  have hpm:pre.length+1<=maxLen:=by unfold maxLen;omega
  gi_wp2_with (gi_at_builtin;refine wpListIn_append_own _ rfl _ _ 31 rfl s 21 i0 (.int .i32 0) 1 4 Tryz.underlying31 hi hz0 hz1 hz2 rfl (by decide) _ _ _ rfl (hrow.alloc _) ⟨W.heap.size,0,none⟩ 1 1 [.int .i32 a] rfl rfl (cell_one_new _ _ _) (by simp[Value.oneCell']) hpm (by omega) (by simp;omega) ?_;intro v' w1 hown' hgrow _;obtain⟨g',cap',rfl⟩:=ownsRow_succ hown';obtain⟨hv1,hv2,hr2,hk2,hb2⟩:=hu.appended (n₀:=s) (by decide) hrow (by omega) (by omega) hown' hgrow;have hc1:=hv1.cell;have hf1:=hv1.frozen)
  refine⟨hk2,⟨?_,hb2,fun q hq=>((hq.alloc _).kept hgrow (hq.not_row (by decide) hrow)).other (by omega) _,fun q hq=>((hq.alloc _).kept hgrow (hq.not_row (by decide) hrow)).other (by omega) _⟩,⟨_,hv2,by simpa using hr2,trivial⟩,((hn2.alloc _).kept hgrow (hn2.not_row (by decide) hrow)).other (by omega) _,hB.trans hb2⟩
  exact⟨hk2.size,fun k o hk ho=>hk2.same k o hk (Obj.not_cells_of_walk ho)⟩
 case done=>
  rintro D ys W hD rfl ⟨⟨u,hu,hrow,-⟩,hn2,hB⟩ hK
  obtain⟨ao',cap',rfl⟩:=Z03 hrow
  have hc:=hu.cell
  clear N1 N2 B0 O0 R0
  gi_wp2
  refine⟨by simp,.inl ⟨_,_,rfl,run_takeDeferred hK,?_⟩⟩
  have r3:=ownsRow_putObj hrow (.deferred none) hK rfl
  refine⟨.slice ao' ys.length cap',by simp[results,Tryz.f197,go_sem],_,rfl,R32.of r3 (by simp) (by simp),fun k e=>by rw[hsz];exact(World.ownsRow.lt hrow k e).1,?_⟩
  rw[hsz]
  exact hB.trans (belowK_b (w:=W0) (by omega) W D _ _ (by omega) hK rfl rfl)
 case stop=>
  rintro D c pre W hD hpre hf hK
  exact hf.elim
end
end Go.Proofs.YtihljjgmkaeohaaGreat
