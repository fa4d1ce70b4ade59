/- part 5 -/
import Derived.Test.YtihljjgmkaeohaaGreatPnAD
set_option linter.all false
set_option maxHeartbeats 16000000
set_option maxRecDepth 100000
namespace Go.Proofs.YtihljjgmkaeohaaGreat
section
open Go.RowKit Go.ChangeShapes Go.WideShapes Go.ChangeAt Go.Deep
theorem Z1l (f:Nat) (W0 w:World) (b:Nat) (g:Option Nat) (N st st':Int) (xs xs':List Int) (i0 i1 i2 i3 i4 i5 i6 i7 i8 i9 i10 i11 y0 y1 y2 y3 y4 y5 y6 y7 y8 y9 y10 y11 rc rv:Int) (td:Bool) (bt:Value) (n:Nat) (F:Nat->Int) (h:MS W0 w b g N xs st) (hI:Its w bt n F) (hn:n<=1000000) (s0:0<=st) (hk1:1<=i1) (hk2:i1<=16) (ent:∀(args:Array Value) (u:World),Sem.run Tryz.prog (callFunc f args) u= .ok (.enter f args) u) (hidx:∀(x:Nat) (w:World),(Instr.index 172 (.agg #[.nilFunc,.func (.func 91) #[.pointer (some ⟨x,0,none⟩)] #[],.func (.func 92) #[.pointer (some ⟨x,0,none⟩)] #[],.func (.func 93) #[.pointer (some ⟨x,0,none⟩)] #[],.func (.func 94) #[.pointer (some ⟨x,0,none⟩)] #[],.func (.func 95) #[.pointer (some ⟨x,0,none⟩)] #[],.func (.func 96) #[.pointer (some ⟨x,0,none⟩)] #[],.func (.func 97) #[.pointer (some ⟨x,0,none⟩)] #[],.func (.func 98) #[.pointer (some ⟨x,0,none⟩)] #[],.func (.func 99) #[.pointer (some ⟨x,0,none⟩)] #[],.func (.func 100) #[.pointer (some ⟨x,0,none⟩)] #[],.func (.func 101) #[.pointer (some ⟨x,0,none⟩)] #[],.func (.func 102) #[.pointer (some ⟨x,0,none⟩)] #[],.func (.func 103) #[.pointer (some ⟨x,0,none⟩)] #[],.func (.func 104) #[.pointer (some ⟨x,0,none⟩)] #[],.func (.func 105) #[.pointer (some ⟨x,0,none⟩)] #[],.func (.func 106) #[.pointer (some ⟨x,0,none⟩)] #[]]) (.int .i64 i1)).run Tryz.prog w= .ok (.func (.func f) #[.pointer (some ⟨x,0,none⟩)] #[]) w) (hM:∀(u:World) (x:Nat) (bt:Value),OT W0 u x g N st xs i0 i1 i2 i3 i4 i5 i6 i7 i8 i9 i10 i11 bt b 0 0 false->Calls Tryz.prog f #[.pointer (some ⟨x,0,none⟩)] u fun e u'=>e= .returned (.tuple #[])/\∃g',OT W0 u' x g' N st' xs' y0 y1 y2 y3 y4 y5 y6 y7 y8 y9 y10 y11 bt b rc rv td/\Z01 (FX b g x) u u'/\(g'=g\/∃k,g'=some k/\u.heap.size<=k)):
 Calls Tryz.prog 76 #[.pointer (some ⟨b,0,none⟩),.agg #[.int .i64 i0,.int .i64 i1,.int .i64 i2,.int .i64 i3,.int .i64 i4,.int .i64 i5,.int .i64 i6,.int .i64 i7,.int .i64 i8,.int .i64 i9,.int .i64 i10,.int .i64 i11,bt]] w fun e w'=>∃bt' g',e= .returned (.tuple #[(.agg #[.int .i64 y0,.int .i64 y1,.int .i64 y2,.int .i64 y3,.int .i64 y4,.int .i64 y5,.int .i64 y6,.int .i64 y7,.int .i64 y8,.int .i64 y9,.int .i64 y10,.int .i64 y11,bt']),.agg #[.int .u8 rc,.int .i32 rv],.bool td])/\MS W0 w' b g' N xs' st'/\IRw w' bt' n F/\(∀t,bt'.ownBlock=some t->w.heap.size<=t/\¬g'=some t)/\Z01 (Z18 b g) w w'/\(g'=g\/∃k,g'=some k/\w.heap.size<=k):=by
 have HF:=hi4 h hI h.past hM
 obtain⟨ao,cap,hbt,-⟩:=id hI
 subst hbt
 have HX:=Hd hidx
 clear h hI hM hidx
 go_enter Tryz.func76,Tryz.ntmps76
 go_wp2_with fail
 refine(Z1d (.slice ao n cap) n F _ (HF.out.2.1.below (by go_grown)) hn).mono ?_
 rintro e w1 ⟨bt',rfl,hI1,hb1,ho1⟩
 obtain⟨ao',cap',hbt'⟩:=Z03 hI1
 subst hbt'
 have z1:w.heap.size+2<w1.heap.size:=by have:=hb1.size;first|omega|(simp at this;omega)
 have B5:w1.heap[w.heap.size]?=some (.cells #[.int .i64 i0,.int .i64 i1,.int .i64 i2,.int .i64 i3,.int .i64 i4,.int .i64 i5,.int .i64 i6,.int .i64 i7,.int .i64 i8,.int .i64 i9,.int .i64 i10,.int .i64 i11,.slice ao n cap] 86 (0,0)):=(hb1.block w.heap.size (by first|omega|(simp;omega)|(simp;done))).trans (Z0x _ _ _ _).1
 have B6:w1.heap[w.heap.size+1]?=some (.cells #[.int .i64 0,.int .i64 0,.int .i64 0,.int .i64 0,.int .i64 0,.int .i64 0,.int .i64 0,.int .i64 0,.int .i64 0,.int .i64 0,.int .i64 0,.int .i64 0,.slice none 0 0] 86 (0,0)):=(hb1.block (w.heap.size+1) (by first|omega|(simp;omega)|(simp;done))).trans (Z0x _ _ _ _).2.1
 have B7:w1.heap[w.heap.size+2]?=some (.cells #[.int .u8 0,.int .i32 0] 43 (0,0)):=(hb1.block (w.heap.size+2) (by first|omega|(simp;omega)|(simp;done))).trans (Z0x _ _ _ _).2.2
 have BW:Below w.heap.size w w1:=Below.trans (by go_grown) (hb1.mono (by first|omega|(simp;omega)|(simp;done)))
 obtain⟨⟨c0,c1,c2,c3,c4,c5,c6,c7,c8,c9,c10,c11,c12⟩,z0⟩:=Z1r B5
 have f12:=Z06 B5 12
 have ho2:∀k,(Value.slice ao' n cap').ownBlock=some k->w.heap.size+3<=k/\k<w1.heap.size:=fun k hk=>⟨by have:=(ho1 k hk).1;simp at this;omega,(ho1 k hk).2⟩
 have H1:=hi6 hI1 BW ho2 B5 B6 B7
 clear hb1 hI1 BW ho1 ho2 B5 B6 B7
 go_wp2_with fail
 generalize hw2:World.setCell _ _ _=w2
 have K2:Z01 (fun k=>k=w.heap.size) w1 w2:=by rw[<-hw2];exact(Z01.refl (fun k=>k=w.heap.size) w1).setCell (p:=⟨w.heap.size,12,none⟩) (fun _=>rfl) _
 have D5:w2.heap[w.heap.size]?=some (.cells #[.int .i64 i0,.int .i64 i1,.int .i64 i2,.int .i64 i3,.int .i64 i4,.int .i64 i5,.int .i64 i6,.int .i64 i7,.int .i64 i8,.int .i64 i9,.int .i64 i10,.int .i64 i11,.slice ao' n cap'] 86 (0,0)):=by rw[<-hw2];rw[Z00 H1.out.2.2.2.1];rfl
 have D6:=(K2.block (w.heap.size+1) (by omega) (by omega)).trans H1.out.2.2.2.2.1
 have D7:=(K2.block (w.heap.size+2) (by omega) (by omega)).trans H1.out.2.2.2.2.2
 have hz:W0.heap.size<=w.heap.size:=HF.out.1.B.size
 have zw1:=H1.out.2.1.size
 have M2:MS W0 w2 b g N xs st:=(HF.out.1.below H1.out.2.1).kept K2 ((HF.out.1.B.trans (H1.out.2.1.mono HF.out.1.B.size)).trans (K2.below (by omega) (fun k hk e=>by omega))) (fun e=>by have:=HF.out.1.mem.lt;omega) (fun k e e2=>HF.out.2.2.1 k (by omega) (.inr e.symm))
 have I2:IRw w2 (.slice ao' n cap') n F:=Z04 H1.out.1 K2 (fun k hk e=>by have:=H1.out.2.2.1 k hk;omega)
 have KW:Z01 (Z18 b g) w w2:=(Z0b (F:=Z18 b g) H1.out.2.1).step K2 (fun i hi e=>by omega)
 have z2:w.heap.size+2<w2.heap.size:=Nlt z1 K2.size
 have o2:∀k,(Value.slice ao' n cap').ownBlock=some k->w.heap.size+3<=k/\k<w2.heap.size:=fun k hk=>⟨(H1.out.2.2.1 k hk).1,Nlt (H1.out.2.2.1 k hk).2 K2.size⟩
 have H2:=hi7 M2 I2 KW o2 D5 D6 D7
 clear hw2 K2 D5 D6 D7 M2 I2 KW o2 H1 c0 c1 c2 c3 c4 c5 c6 c7 c8 c9 c10 c11 c12 f12 z1 z0
 refine(Zfh w2 i0 i1 i2 i3 i4 i5 i6 i7 i8 i9 i10 i11 ao' n cap' (by omega) (by omega)).mono ?_
 rintro e w3 ⟨rfl,hb3⟩
 have D5:=(hb3.block w.heap.size (by omega)).trans H2.out.2.2.2.2.1
 have z3:w.heap.size+2<w3.heap.size:=Nlt z2 hb3.size
 obtain⟨⟨c0,c1,c2,c3,c4,c5,c6,c7,c8,c9,c10,c11,c12⟩,-⟩:=Z1r D5
 have HB:=hi2 hb3 D5
 clear hb3 D5
 go_upto_region 5 with fail
 generalize hx:w3.heap.size=x
 generalize hw4:World.alloc _ _=w4
 have B4:Below w3.heap.size w3 w4:=by rw[<-hw4];go_grown
 have B24:Below w2.heap.size w2 w4:=HB.out.1.trans (B4.mono HB.out.1.size)
 have hxw:w.heap.size+2<x:=by omega
 have o4:OT W0 w4 x g N st xs i0 i1 i2 i3 i4 i5 i6 i7 i8 i9 i10 i11 (.slice ao' n cap') b 0 0 false:=⟨H2.out.1.below B24,by rw[<-hw4,<-hx];exact Han _ _,by omega,HF.out.2.2.1 x (by omega),s0⟩
 have p1:w4.cell? ⟨w.heap.size,1,none⟩=some (.int .i64 i1):=(B4.cell (p:=⟨w.heap.size,1,none⟩) (show w.heap.size<w3.heap.size by omega)).trans c1
 have zx4:x<w4.heap.size:=o4.lt
 have z4:w.heap.size+2<w4.heap.size:=by omega
 have H4:=hi3 o4 B24 (fun(k:Nat) (hk:k<w2.heap.size)=>Nlt hk (hx ▸ HB.out.1.size))
 clear hx hw4 B4 B24 o4 c0 c1 c2 c3 c4 c5 c6 c7 c8 c9 c10 c11 c12
 go_cut [26]from 21 to 26 (fun _ wx=>∃g',OT W0 wx x g' N st' xs' y0 y1 y2 y3 y4 y5 y6 y7 y8 y9 y10 y11 (.slice ao' n cap') b rc rv td/\Z01 (FX b g x) w4 wx/\(g'=g\/∃k,g'=some k/\w4.heap.size<=k))
 case first=>
  have hM:=HF.out.2.2.2
  have HM:=Hd hM
  have cP:=fun(u:World) (hu:Below w4.heap.size w4 u)=>(hu.cell (p:=⟨w.heap.size,1,none⟩) (show w.heap.size<w4.heap.size by omega)).trans p1
  have CP:=Hd cP
  clear hM cP
  have q3:=HX.out x
  go_region_with (first|(go_at_call 81;refine Go.Calls.mono (Zbd _ _) ?_;rintro e w5 ⟨rfl,hb5⟩;have B5:Below w4.heap.size w4 w5:=(Brf _ _).drew.trans hb5;have p5:=CP.out w5 B5;have H5:=Hd B5;clear hb5 B5)|(with_reducible show Calls Tryz.prog f _ _ _;refine Go.Calls.mono (HM.out _ x _ (H4.out.1.below H5.out)) ?_;rintro e w6 ⟨rfl,g',o6,k6,hg6⟩;have H6:=hi3 o6 k6 hg6;clear o6 k6 hg6))
  all_goals
   go_wp2_with fail
   go_meet
   case rel=>exact⟨g',H6.out.1,(Z0b H5.out).trans H6.out.2.1,by
    rcases H6.out.2.2 with e|⟨k,e,hk⟩
    ·exact .inl e
    ·exact .inr ⟨k,e,Nat.le_trans H5.out.size hk⟩⟩
 case rest=>
  obtain⟨g',o6,k6,hg6⟩:=hcut
  have nF:∀j,w.heap.size<=j->j<w2.heap.size->¬FX b g x j:=fun j h1 h2 e=>by
   rcases e with e|e
   ·exact HF.out.2.2.1 j h1 e
   ·have:=H4.out.2.2 j h2;omega
  have C6:=(k6.block (w.heap.size+1) (by omega) (nF _ (by omega) (by omega))).trans ((H4.out.2.1.block (w.heap.size+1) (by omega)).trans H2.out.2.2.2.2.2.1)
  have C7:=(k6.block (w.heap.size+2) (by omega) (nF _ (by omega) (by omega))).trans ((H4.out.2.1.block (w.heap.size+2) (by omega)).trans H2.out.2.2.2.2.2.2)
  have I6:IRw wc (.slice ao' n cap') n F:=Z04 (H2.out.2.1.below H4.out.2.1) k6 (fun k hk=>nF k (by have:=H2.out.2.2.2.1 k hk;omega) (H2.out.2.2.2.1 k hk).2)
  have K6:Z01 (Z18 b g) w wc:=(H2.out.2.2.1.trans (Z0b H4.out.2.1)).step k6 (fun i hi e=>by
   rcases e with e|e
   ·exact e
   ·omega)
  have zc:w.heap.size+2<wc.heap.size:=(Gl C7)
  obtain⟨⟨e0,e1,e2,e3,e4,e5,e6,e7,e8,e9,e10,e11,e12,e13,e14,e15,e16⟩,-,ex⟩:=o6.open
  obtain⟨⟨c0,c1,c2,c3,c4,c5,c6,c7,c8,c9,c10,c11,c12⟩,-⟩:=Z1r C6
  have fc0:=Z06 C6 0;have fc1:=Z06 C6 1;have fc2:=Z06 C6 2;have fc3:=Z06 C6 3;have fc4:=Z06 C6 4;have fc5:=Z06 C6 5;have fc6:=Z06 C6 6;have fc7:=Z06 C6 7;have fc8:=Z06 C6 8;have fc9:=Z06 C6 9;have fc10:=Z06 C6 10;have fc11:=Z06 C6 11;have fc12:=Z06 C6 12
  obtain⟨⟨d0,d1⟩,-⟩:=Z0g C7
  have fd0:=Z06 C7 0
  have fd1:=Z06 C7 1
  have hg7:g'=g\/∃k,g'=some k/\w.heap.size<=k:=by
   rcases hg6 with e|⟨k,e,hk⟩
   ·exact .inl e
   ·exact .inr ⟨k,e,by omega⟩
  have H6:=hi7 o6 C6 C7 I6 K6 hg7 hg6
  clear o6 k6 hg6 C6 C7 I6 K6 hg7 nF p1
  go_wp2_with fail
  go_region
  all_goals
   go_wp2_with fail
   generalize hw7:World.setCell _ _ _=w7
   have E:(w7.heap[w.heap.size+1]?=some (.cells #[.int .i64 y0,.int .i64 y1,.int .i64 y2,.int .i64 y3,.int .i64 y4,.int .i64 y5,.int .i64 y6,.int .i64 y7,.int .i64 y8,.int .i64 y9,.int .i64 y10,.int .i64 y11,.slice ao' n cap'] 86 (0,0))/\w7.heap[w.heap.size+2]?=some (.cells #[.int .u8 rc,.int .i32 rv] 43 (0,0)))/\Z01 (fun k=>k=w.heap.size+1\/k=w.heap.size+2) wc w7:=by
    rw[<-hw7]
    first
     |exact Zok H6.out.2.1 rfl H6.out.2.2.1 rfl (by omega)
     |exact Zol H6.out.2.1 rfl H6.out.2.2.1 rfl (by omega)
   obtain⟨⟨E1,E2⟩,KE⟩:=E
   obtain⟨⟨r0,r1,r2,r3,r4,r5,r6,r7,r8,r9,r10,r11,r12⟩,-⟩:=Z1r E1
   obtain⟨⟨s0',s1'⟩,-⟩:=Z0g E2
   first|replace KE:=KE.drew|skip
   have hb:=HF.out.1.mem.lt
   have hW:=HF.out.1.B.size
   have hg:∀k,g=some k->k<w.heap.size:=fun k e=>by have h:=HF.out.1;subst e;exact h.mem.row_lt
   refine bodyPost_ret (v:=.tuple #[.agg #[.int .i64 y0,.int .i64 y1,.int .i64 y2,.int .i64 y3,.int .i64 y4,.int .i64 y5,.int .i64 y6,.int .i64 y7,.int .i64 y8,.int .i64 y9,.int .i64 y10,.int .i64 y11,.slice ao' n cap'],.agg #[.int .u8 rc,.int .i32 rv],.bool td]) (by simp[results,Tryz.results76,go_sem,r0,r1,r2,r3,r4,r5,r6,r7,r8,r9,r10,r11,r12,s0',s1']) rfl ⟨_,g',rfl,?_,?_,?_,?_,H6.out.2.2.2.2.2.1⟩
   ·refine H6.out.1.ms.kept KE (H6.out.1.ms.B.trans (KE.below H6.out.1.ms.B.size (fun k hk e=>by omega))) (fun e=>by omega) (fun k e e2=>?_)
    rcases H6.out.2.2.2.2.2.2 with h|⟨j,h,hj⟩
    ·have:=hg k (h ▸ e);omega
    ·rw[h]at e;simp at e;omega
   ·exact Z04 H6.out.2.2.2.1 KE (fun k hk e=>by have:=H2.out.2.2.2.1 k hk;omega)
   ·refine fun t ht=>⟨by have:=(H2.out.2.2.2.1 t ht).1;omega,fun e=>?_⟩
    have h2:=H2.out.2.2.2.1 t ht
    rcases H6.out.2.2.2.2.2.2 with h|⟨j,h,hj⟩
    ·have:=hg t (h ▸ e);omega
    ·rw[h]at e;have:=H4.out.2.1.size;have e3:j=t:=Option.some.inj e;omega
   ·exact H6.out.2.2.2.2.1.step KE (fun i hi e=>by omega)
end
section
open Go.RowKit Go.ChangeShapes Go.WideShapes Go.ChangeAt
def owA (t:Th):Int:=
 if t.i1=2 then t.i2 else if t.i1=3 then wrap64 (t.i2+1)else if t.i1=4 then t.i2 else if t.i1=5 then wrap64 (t.i2+1)else if t.i1=6 then wrap64 (t.i2+1)
 else if t.i1=7 then 1 else if t.i1=8 then wrap64 (t.i2+3)else if t.i1=9 then 1 else if t.i1=10 then wrap64 (t.i2+1)else if t.i1=11 then t.i2
 else if t.i1=12 then 0 else if t.i1=13 then 0 else if t.i1=14 then wrap64 (t.i2+4)else if t.i1=15 then t.i2 else if t.i1=16 then wrap64 (t.i2+1)else 0
def owT (N:Int) (xs:List Int) (t:Th):Th:=
 let v:=cellAt xs (owA t)
 if t.i1=1 then {t with i1:=if Z1x xs N 5=true then 2 else 1,i2:=if Z1x xs N 5=true then(xs.length:Int)else t.i2}
 else if t.i1=2 then {t with i1:=if Z11 xs t.i2 0=true then 5 else 3}
 else if t.i1=3 then {t with i1:=if v=0 then 4 else 3,i5:=v}
 else if t.i1=4 then {t with i1:=5}
 else if t.i1=5 then {t with i1:=if v=0 then 6 else 11,i5:=v}
 else if t.i1=6 then {t with i1:=if Z11 xs (wrap64 (t.i2+1)) 0=true then 15 else 11}
 else if t.i1=7 then {t with i1:=8,i5:=v}
 else if t.i1=8 then {t with i1:=9}
 else if t.i1=9 then {t with i1:=10,i5:=if Z11 xs 1 t.i5=true then 1 else 0}
 else if t.i1=10 then {t with i1:=11}
 else if t.i1=11 then {t with i1:=if v=t.i4 then 12 else 14,i5:=v}
 else if t.i1=12 then {t with i1:=if v=0 then 13 else 11,i5:=v}
 else if t.i1=13 then {t with i1:=if Z11 xs 0 0=true then 20 else 11,i11:=if Z11 xs 0 0=true then 0 else t.i11}
 else if t.i1=14 then {t with i1:=0,i4:=0,i5:=v}
 else if t.i1=15 then {t with i1:=if v=t.i4 then 7 else 16,i5:=v}
 else if t.i1=16 then {t with i1:=11}
 else t
def owX (N:Int) (xs:List Int) (t:Th):List Int:=
 if t.i1=1 then Z2m xs N 5 else if t.i1=2 then Z0s xs t.i2 0 t.i4 else if t.i1=4 then Z0j xs t.i2 t.i4 else if t.i1=6 then Z0s xs (wrap64 (t.i2+1)) 0 2
 else if t.i1=8 then Z0j xs (wrap64 (t.i2+3)) t.i5 else if t.i1=9 then Z0s xs 1 t.i5 t.i2 else if t.i1=10 then Z0j xs (wrap64 (t.i2+1)) t.i5
 else if t.i1=13 then Z0s xs 0 0 (wrap64 (t.i0+1))else if t.i1=16 then Z0j xs (wrap64 (t.i2+1)) 0 else xs
def owC (N:Int) (xs:List Int) (t:Th):Int:=if t.i1=1 then Z2i xs N 5 else if 2<=t.i1/\t.i1<=16 then Z0h xs (owA t)else 0
def owK (xs:List Int) (t:Th):Int:=if t.i1=14 then wk (cellAt xs (wrap64 (t.i2+4)))else 0
def owV (xs:List Int) (t:Th):Int:=if t.i1=14 then wv (cellAt xs (wrap64 (t.i2+4)))else 0
theorem Znc (N:Int) (xs:List Int) (t:Th):0<=owC N xs t/\owC N xs t<=1:=by
 unfold owC
 split
 ·unfold Z2i;split<;>omega
 ·split
  ·exact Z0f ..
  ·omega
theorem Znd (W0 w:World) (b:Nat) (g:Option Nat) (N st:Int) (xs:List Int) (t:Th) (bt:Value) (n:Nat) (F:Nat->Int) (h:MS W0 w b g N xs st) (hI:Its w bt n F) (hn:n<=1000000) (s0:0<=st) (s1:st<1000000)
 (hr: -9223372036854775808<=t.i2/\t.i2<=9223372036854775807) (hk1:1<=t.i1) (hk2:t.i1<=16):
 Calls Tryz.prog 76 #[.pointer (some ⟨b,0,none⟩),thV t bt] w fun e w'=>∃bt' g',e= .returned (.tuple #[thV (owT N xs t) bt',.agg #[.int .u8 (owK xs t),.int .i32 (owV xs t)],.bool (decide (t.i1=14))])/\MS W0 w' b g' N (owX N xs t) (st+owC N xs t)/\IRw w' bt' n F/\(∀t,bt'.ownBlock=some t->w.heap.size<=t/\¬g'=some t)/\Z01 (Z18 b g) w w'/\(g'=g\/∃k,g'=some k/\w.heap.size<=k):=by
 obtain⟨i0,i1,i2,i3,i4,i5,i6,i7,i8,i9,i10,i11⟩:=t
 obtain⟨r1,r2⟩:=hr
 have z:st+0=st:=Int.add_zero st
 by_cases h1:i1=1
 ·subst h1
  have:=Z1l 91 W0 w b g N st _ xs _ i0 1 i2 i3 i4 i5 i6 i7 i8 i9 i10 i11 _ _ _ _ _ _ _ _ _ _ _ _ _ _ _ bt n F h hI hn s0 (by omega) (by omega) (fun args u=>by simp[go_sem]) Zom (fun u x bt h=>(Zd6 W0 u x g N st xs i0 1 i2 i3 i4 i5 i6 i7 i8 i9 i10 i11 bt b 0 0 false r1 r2 _ _ rfl rfl h s1).mono fun e u' ⟨e1,g',e2,e3,e4⟩=>⟨e1,g',e2,e3,e4⟩)
  simpa [thV,owT,owX,owC,owA,owK,owV]using this
 by_cases h2:i1=2
 ·subst h2
  have:=Z1l 92 W0 w b g N st _ xs _ i0 2 i2 i3 i4 i5 i6 i7 i8 i9 i10 i11 _ _ _ _ _ _ _ _ _ _ _ _ _ _ _ bt n F h hI hn s0 (by omega) (by omega) (fun args u=>by simp[go_sem]) Zon (fun u x bt h=>(Z9n W0 u x g N st xs i0 2 i2 i3 i4 i5 i6 i7 i8 i9 i10 i11 bt b 0 0 false r1 r2 _ rfl h s1).mono fun e u' ⟨e1,e2,e3⟩=>⟨e1,g,e2,e3,.inl rfl⟩)
  simpa [thV,owT,owX,owC,owA,owK,owV]using this
 by_cases h3:i1=3
 ·subst h3
  have:=Z1l 93 W0 w b g N st _ xs _ i0 3 i2 i3 i4 i5 i6 i7 i8 i9 i10 i11 _ _ _ _ _ _ _ _ _ _ _ _ _ _ _ bt n F h hI hn s0 (by omega) (by omega) (fun args u=>by simp[go_sem]) Zoo (fun u x bt h=>(Zbc W0 u x g N st xs i0 3 i2 i3 i4 i5 i6 i7 i8 i9 i10 i11 bt b 0 0 false r1 r2 _ _ rfl rfl h s1).mono fun e u' ⟨e1,e2,e3⟩=>⟨e1,g,e2,e3,.inl rfl⟩)
  simpa [thV,owT,owX,owC,owA,owK,owV]using this
 by_cases h4:i1=4
 ·subst h4
  have:=Z1l 94 W0 w b g N st _ xs _ i0 4 i2 i3 i4 i5 i6 i7 i8 i9 i10 i11 _ _ _ _ _ _ _ _ _ _ _ _ _ _ _ bt n F h hI hn s0 (by omega) (by omega) (fun args u=>by simp[go_sem]) Zop (fun u x bt h=>(Zfd W0 u x g N st xs i0 4 i2 i3 i4 i5 i6 i7 i8 i9 i10 i11 bt b 0 0 false r1 r2 h s1).mono fun e u' ⟨e1,e2,e3⟩=>⟨e1,g,e2,e3,.inl rfl⟩)
  simpa [thV,owT,owX,owC,owA,owK,owV]using this
 by_cases h5:i1=5
 ·subst h5
  have:=Z1l 95 W0 w b g N st _ xs _ i0 5 i2 i3 i4 i5 i6 i7 i8 i9 i10 i11 _ _ _ _ _ _ _ _ _ _ _ _ _ _ _ bt n F h hI hn s0 (by omega) (by omega) (fun args u=>by simp[go_sem]) Zoq (fun u x bt h=>(Zd8 W0 u x g N st xs i0 5 i2 i3 i4 i5 i6 i7 i8 i9 i10 i11 bt b 0 0 false r1 r2 _ _ rfl rfl h s1).mono fun e u' ⟨e1,e2,e3⟩=>⟨e1,g,e2,e3,.inl rfl⟩)
  simpa [thV,owT,owX,owC,owA,owK,owV]using this
 by_cases h6:i1=6
 ·subst h6
  have:=Z1l 96 W0 w b g N st _ xs _ i0 6 i2 i3 i4 i5 i6 i7 i8 i9 i10 i11 _ _ _ _ _ _ _ _ _ _ _ _ _ _ _ bt n F h hI hn s0 (by omega) (by omega) (fun args u=>by simp[go_sem]) Zor (fun u x bt h=>(Zd7 W0 u x g N st xs i0 6 i2 i3 i4 i5 i6 i7 i8 i9 i10 i11 bt b 0 0 false r1 r2 _ rfl h s1).mono fun e u' ⟨e1,e2,e3⟩=>⟨e1,g,e2,e3,.inl rfl⟩)
  simpa [thV,owT,owX,owC,owA,owK,owV]using this
 by_cases h7:i1=7
 ·subst h7
  have:=Z1l 97 W0 w b g N st _ xs _ i0 7 i2 i3 i4 i5 i6 i7 i8 i9 i10 i11 _ _ _ _ _ _ _ _ _ _ _ _ _ _ _ bt n F h hI hn s0 (by omega) (by omega) (fun args u=>by simp[go_sem]) Zos (fun u x bt h=>(Zd9 W0 u x g N st xs i0 7 i2 i3 i4 i5 i6 i7 i8 i9 i10 i11 bt b 0 0 false r1 r2 _ rfl h s1).mono fun e u' ⟨e1,e2,e3⟩=>⟨e1,g,e2,e3,.inl rfl⟩)
  simpa [thV,owT,owX,owC,owA,owK,owV]using this
 by_cases h8:i1=8
 ·subst h8
  have:=Z1l 98 W0 w b g N st _ xs _ i0 8 i2 i3 i4 i5 i6 i7 i8 i9 i10 i11 _ _ _ _ _ _ _ _ _ _ _ _ _ _ _ bt n F h hI hn s0 (by omega) (by omega) (fun args u=>by simp[go_sem]) Zot (fun u x bt h=>(Zfa W0 u x g N st xs i0 8 i2 i3 i4 i5 i6 i7 i8 i9 i10 i11 bt b 0 0 false r1 r2 h s1).mono fun e u' ⟨e1,e2,e3⟩=>⟨e1,g,e2,e3,.inl rfl⟩)
  simpa [thV,owT,owX,owC,owA,owK,owV]using this
 by_cases h9:i1=9
 ·subst h9
  have:=Z1l 99 W0 w b g N st _ xs _ i0 9 i2 i3 i4 i5 i6 i7 i8 i9 i10 i11 _ _ _ _ _ _ _ _ _ _ _ _ _ _ _ bt n F h hI hn s0 (by omega) (by omega) (fun args u=>by simp[go_sem]) Zou (fun u x bt h=>(Zfc W0 u x g N st xs i0 9 i2 i3 i4 i5 i6 i7 i8 i9 i10 i11 bt b 0 0 false r1 r2 _ rfl h s1).mono fun e u' ⟨e1,e2,e3⟩=>⟨e1,g,e2,e3,.inl rfl⟩)
  simpa [thV,owT,owX,owC,owA,owK,owV]using this
 by_cases h10:i1=10
 ·subst h10
  have:=Z1l 100 W0 w b g N st _ xs _ i0 10 i2 i3 i4 i5 i6 i7 i8 i9 i10 i11 _ _ _ _ _ _ _ _ _ _ _ _ _ _ _ bt n F h hI hn s0 (by omega) (by omega) (fun args u=>by simp[go_sem]) Zm5 (fun u x bt h=>(Zfe W0 u x g N st xs i0 10 i2 i3 i4 i5 i6 i7 i8 i9 i10 i11 bt b 0 0 false r1 r2 h s1).mono fun e u' ⟨e1,e2,e3⟩=>⟨e1,g,e2,e3,.inl rfl⟩)
  simpa [thV,owT,owX,owC,owA,owK,owV]using this
 by_cases h11:i1=11
 ·subst h11
  have:=Z1l 101 W0 w b g N st _ xs _ i0 11 i2 i3 i4 i5 i6 i7 i8 i9 i10 i11 _ _ _ _ _ _ _ _ _ _ _ _ _ _ _ bt n F h hI hn s0 (by omega) (by omega) (fun args u=>by simp[go_sem]) Zm6 (fun u x bt h=>(Zf8 W0 u x g N st xs i0 11 i2 i3 i4 i5 i6 i7 i8 i9 i10 i11 bt b 0 0 false r1 r2 _ _ rfl rfl h s1).mono fun e u' ⟨e1,e2,e3⟩=>⟨e1,g,e2,e3,.inl rfl⟩)
  simpa [thV,owT,owX,owC,owA,owK,owV]using this
 by_cases h12:i1=12
 ·subst h12
  have:=Z1l 102 W0 w b g N st _ xs _ i0 12 i2 i3 i4 i5 i6 i7 i8 i9 i10 i11 _ _ _ _ _ _ _ _ _ _ _ _ _ _ _ bt n F h hI hn s0 (by omega) (by omega) (fun args u=>by simp[go_sem]) Zm7 (fun u x bt h=>(Zff W0 u x g N st xs i0 12 i2 i3 i4 i5 i6 i7 i8 i9 i10 i11 bt b 0 0 false r1 r2 _ _ rfl rfl h s1).mono fun e u' ⟨e1,e2,e3⟩=>⟨e1,g,e2,e3,.inl rfl⟩)
  simpa [thV,owT,owX,owC,owA,owK,owV]using this
 by_cases h13:i1=13
 ·subst h13
  have:=Z1l 103 W0 w b g N st _ xs _ i0 13 i2 i3 i4 i5 i6 i7 i8 i9 i10 i11 _ _ _ _ _ _ _ _ _ _ _ _ _ _ _ bt n F h hI hn s0 (by omega) (by omega) (fun args u=>by simp[go_sem]) Zm8 (fun u x bt h=>(Zf9 W0 u x g N st xs i0 13 i2 i3 i4 i5 i6 i7 i8 i9 i10 i11 bt b 0 0 false r1 r2 _ _ rfl rfl h s1).mono fun e u' ⟨e1,e2,e3⟩=>⟨e1,g,e2,e3,.inl rfl⟩)
  simpa [thV,owT,owX,owC,owA,owK,owV]using this
 by_cases h14:i1=14
 ·subst h14
  have:=Z1l 104 W0 w b g N st _ xs _ i0 14 i2 i3 i4 i5 i6 i7 i8 i9 i10 i11 _ _ _ _ _ _ _ _ _ _ _ _ _ _ _ bt n F h hI hn s0 (by omega) (by omega) (fun args u=>by simp[go_sem]) Zm9 (fun u x bt h=>(Zfg W0 u x g N st xs i0 14 i2 i3 i4 i5 i6 i7 i8 i9 i10 i11 bt b 0 0 false r1 r2 _ rfl h s1).mono fun e u' ⟨e1,e2,e3⟩=>⟨e1,g,e2,e3,.inl rfl⟩)
  simpa [thV,owT,owX,owC,owA,owK,owV]using this
 by_cases h15:i1=15
 ·subst h15
  have:=Z1l 105 W0 w b g N st _ xs _ i0 15 i2 i3 i4 i5 i6 i7 i8 i9 i10 i11 _ _ _ _ _ _ _ _ _ _ _ _ _ _ _ bt n F h hI hn s0 (by omega) (by omega) (fun args u=>by simp[go_sem]) Zma (fun u x bt h=>(Zfb W0 u x g N st xs i0 15 i2 i3 i4 i5 i6 i7 i8 i9 i10 i11 bt b 0 0 false r1 r2 _ _ rfl rfl h s1).mono fun e u' ⟨e1,e2,e3⟩=>⟨e1,g,e2,e3,.inl rfl⟩)
  simpa [thV,owT,owX,owC,owA,owK,owV]using this
 by_cases h16:i1=16
 ·subst h16
  have:=Z1l 106 W0 w b g N st _ xs _ i0 16 i2 i3 i4 i5 i6 i7 i8 i9 i10 i11 _ _ _ _ _ _ _ _ _ _ _ _ _ _ _ bt n F h hI hn s0 (by omega) (by omega) (fun args u=>by simp[go_sem]) Zmb (fun u x bt h=>(Zf7 W0 u x g N st xs i0 16 i2 i3 i4 i5 i6 i7 i8 i9 i10 i11 bt b 0 0 false r1 r2 h s1).mono fun e u' ⟨e1,e2,e3⟩=>⟨e1,g,e2,e3,.inl rfl⟩)
  simpa [thV,owT,owX,owC,owA,owK,owV]using this
 have h1:1<=i1:=hk1
 have h2:i1<=16:=hk2
 omega
def Z25 (w:World) (x:Nat) (i0 i1 i2 i3 i4 i5 i6 i7 i8 i9 i10 i11:Int) (bt:Value) (b:Nat) (age:Int):Prop:=
 w.heap[x]?=some (.cells #[.int .i64 i0,.int .i64 i1,.int .i64 i2,.int .i64 i3,.int .i64 i4,.int .i64 i5,.int .i64 i6,.int .i64 i7,.int .i64 i8,.int .i64 i9,.int .i64 i10,.int .i64 i11,bt,.pointer (some ⟨b,0,none⟩),.int .i64 age] 186 (0,0))
section
variable {w w':World} {x:Nat} {i0 i1 i2 i3 i4 i5 i6 i7 i8 i9 i10 i11:Int} {bt:Value} {b:Nat} {age:Int}
theorem Z25.kept {F:Nat->Prop} (h:Z25 w x i0 i1 i2 i3 i4 i5 i6 i7 i8 i9 i10 i11 bt b age) (hk:Z01 F w w') (hx:¬F x):Z25 w' x i0 i1 i2 i3 i4 i5 i6 i7 i8 i9 i10 i11 bt b age:=(hk.block x (Gl h) hx).trans h
theorem Z25.below (h:Z25 w x i0 i1 i2 i3 i4 i5 i6 i7 i8 i9 i10 i11 bt b age) (hb:Below w.heap.size w w'):Z25 w' x i0 i1 i2 i3 i4 i5 i6 i7 i8 i9 i10 i11 bt b age:=h.kept (F:=fun _=>False) (Z01.of_below hb (fun k h1 h2=>by omega)) (fun h=>h)
theorem Z25.lt (h:Z25 w x i0 i1 i2 i3 i4 i5 i6 i7 i8 i9 i10 i11 bt b age):x<w.heap.size:=(Gl h)
theorem Z25.open (h:Z25 w x i0 i1 i2 i3 i4 i5 i6 i7 i8 i9 i10 i11 bt b age):(w.cell? ⟨x,0,none⟩=some (.int .i64 i0)/\w.cell? ⟨x,1,none⟩=some (.int .i64 i1)/\w.cell? ⟨x,2,none⟩=some (.int .i64 i2)/\w.cell? ⟨x,3,none⟩=some (.int .i64 i3)/\w.cell? ⟨x,4,none⟩=some (.int .i64 i4)/\w.cell? ⟨x,5,none⟩=some (.int .i64 i5)/\w.cell? ⟨x,6,none⟩=some (.int .i64 i6)/\w.cell? ⟨x,7,none⟩=some (.int .i64 i7)/\w.cell? ⟨x,8,none⟩=some (.int .i64 i8)/\w.cell? ⟨x,9,none⟩=some (.int .i64 i9)/\w.cell? ⟨x,10,none⟩=some (.int .i64 i10)/\w.cell? ⟨x,11,none⟩=some (.int .i64 i11)/\w.cell? ⟨x,12,none⟩=some (bt)/\w.cell? ⟨x,13,none⟩=some (.pointer (some ⟨b,0,none⟩))/\w.cell? ⟨x,14,none⟩=some (.int .i64 age))/\(∀j,w.frozen? ⟨x,j,none⟩=false)/\x<w.heap.size:=by
 unfold Z25 at h
 refine⟨⟨?_,?_,?_,?_,?_,?_,?_,?_,?_,?_,?_,?_,?_,?_,?_⟩,fun j=>Z06 h j,(Gl h)⟩<;>simp[World.cell?,h]
theorem Z25.set0 (h:Z25 w x i0 i1 i2 i3 i4 i5 i6 i7 i8 i9 i10 i11 bt b age) (y:Int):Z25 (w.setCell ⟨x,0,none⟩ (.int .i64 y)) x y i1 i2 i3 i4 i5 i6 i7 i8 i9 i10 i11 bt b age:=by
 unfold Z25 at h |-
 rw[Z00 h];rfl
theorem Z25.set1 (h:Z25 w x i0 i1 i2 i3 i4 i5 i6 i7 i8 i9 i10 i11 bt b age) (y:Int):Z25 (w.setCell ⟨x,1,none⟩ (.int .i64 y)) x i0 y i2 i3 i4 i5 i6 i7 i8 i9 i10 i11 bt b age:=by
 unfold Z25 at h |-
 rw[Z00 h];rfl
theorem Z25.set2 (h:Z25 w x i0 i1 i2 i3 i4 i5 i6 i7 i8 i9 i10 i11 bt b age) (y:Int):Z25 (w.setCell ⟨x,2,none⟩ (.int .i64 y)) x i0 i1 y i3 i4 i5 i6 i7 i8 i9 i10 i11 bt b age:=by
 unfold Z25 at h |-
 rw[Z00 h];rfl
theorem Z25.set4 (h:Z25 w x i0 i1 i2 i3 i4 i5 i6 i7 i8 i9 i10 i11 bt b age) (y:Int):Z25 (w.setCell ⟨x,4,none⟩ (.int .i64 y)) x i0 i1 i2 i3 y i5 i6 i7 i8 i9 i10 i11 bt b age:=by
 unfold Z25 at h |-
 rw[Z00 h];rfl
theorem Z25.set5 (h:Z25 w x i0 i1 i2 i3 i4 i5 i6 i7 i8 i9 i10 i11 bt b age) (y:Int):Z25 (w.setCell ⟨x,5,none⟩ (.int .i64 y)) x i0 i1 i2 i3 i4 y i6 i7 i8 i9 i10 i11 bt b age:=by
 unfold Z25 at h |-
 rw[Z00 h];rfl
theorem Z25.set6 (h:Z25 w x i0 i1 i2 i3 i4 i5 i6 i7 i8 i9 i10 i11 bt b age) (y:Int):Z25 (w.setCell ⟨x,6,none⟩ (.int .i64 y)) x i0 i1 i2 i3 i4 i5 y i7 i8 i9 i10 i11 bt b age:=by
 unfold Z25 at h |-
 rw[Z00 h];rfl
theorem Z25.set7 (h:Z25 w x i0 i1 i2 i3 i4 i5 i6 i7 i8 i9 i10 i11 bt b age) (y:Int):Z25 (w.setCell ⟨x,7,none⟩ (.int .i64 y)) x i0 i1 i2 i3 i4 i5 i6 y i8 i9 i10 i11 bt b age:=by
 unfold Z25 at h |-
 rw[Z00 h];rfl
theorem Z25.set8 (h:Z25 w x i0 i1 i2 i3 i4 i5 i6 i7 i8 i9 i10 i11 bt b age) (y:Int):Z25 (w.setCell ⟨x,8,none⟩ (.int .i64 y)) x i0 i1 i2 i3 i4 i5 i6 i7 y i9 i10 i11 bt b age:=by
 unfold Z25 at h |-
 rw[Z00 h];rfl
theorem Z25.set9 (h:Z25 w x i0 i1 i2 i3 i4 i5 i6 i7 i8 i9 i10 i11 bt b age) (y:Int):Z25 (w.setCell ⟨x,9,none⟩ (.int .i64 y)) x i0 i1 i2 i3 i4 i5 i6 i7 i8 y i10 i11 bt b age:=by
 unfold Z25 at h |-
 rw[Z00 h];rfl
theorem Z25.set10 (h:Z25 w x i0 i1 i2 i3 i4 i5 i6 i7 i8 i9 i10 i11 bt b age) (y:Int):Z25 (w.setCell ⟨x,10,none⟩ (.int .i64 y)) x i0 i1 i2 i3 i4 i5 i6 i7 i8 i9 y i11 bt b age:=by
 unfold Z25 at h |-
 rw[Z00 h];rfl
theorem Z25.set11 (h:Z25 w x i0 i1 i2 i3 i4 i5 i6 i7 i8 i9 i10 i11 bt b age) (y:Int):Z25 (w.setCell ⟨x,11,none⟩ (.int .i64 y)) x i0 i1 i2 i3 i4 i5 i6 i7 i8 i9 i10 y bt b age:=by
 unfold Z25 at h |-
 rw[Z00 h];rfl
end
theorem MS.far {W0 w w':World} {b x:Nat} {g:Option Nat} {N st:Int} {xs:List Int} (h:MS W0 w b g N xs st) (hk:Z01 (fun k=>k=x) w w') (hW:W0.heap.size<=x) (hF:¬Z18 b g x):MS W0 w' b g N xs st:=
 h.kept hk (h.B.trans (hk.below h.B.size (fun k hk e=>by omega))) (fun e=>hF (.inl e.symm)) (fun k e e2=>hF (.inr (by rw[e,e2])))
def TW (W0 w0 w:World) (x:Nat) (g:Option Nat) (N st:Int) (xs:List Int) (i0 i1 i2 i3 i4 i5 i6 i7 i8 i9 i10 i11:Int) (bt:Value) (b:Nat) (age:Int):Prop:=
 MS W0 w b g N xs st/\Z25 w x i0 i1 i2 i3 i4 i5 i6 i7 i8 i9 i10 i11 bt b age/\Z01 (fun k=>Z18 b g k\/k=x) w0 w/\W0.heap.size<=x/\¬Z18 b g x/\0<=st
section
variable {W0 w0 w w':World} {x:Nat} {g:Option Nat} {N st:Int} {xs:List Int} {i0 i1 i2 i3 i4 i5 i6 i7 i8 i9 i10 i11:Int} {bt:Value} {b:Nat} {age:Int}
theorem TW.ms (h:TW W0 w0 w x g N st xs i0 i1 i2 i3 i4 i5 i6 i7 i8 i9 i10 i11 bt b age):MS W0 w b g N xs st:=h.1
theorem TW.turn (h:TW W0 w0 w x g N st xs i0 i1 i2 i3 i4 i5 i6 i7 i8 i9 i10 i11 bt b age):Z25 w x i0 i1 i2 i3 i4 i5 i6 i7 i8 i9 i10 i11 bt b age:=h.2.1
theorem TW.K (h:TW W0 w0 w x g N st xs i0 i1 i2 i3 i4 i5 i6 i7 i8 i9 i10 i11 bt b age):Z01 (fun k=>Z18 b g k\/k=x) w0 w:=h.2.2.1
theorem TW.below (h:TW W0 w0 w x g N st xs i0 i1 i2 i3 i4 i5 i6 i7 i8 i9 i10 i11 bt b age) (hb:Below w.heap.size w w'):TW W0 w0 w' x g N st xs i0 i1 i2 i3 i4 i5 i6 i7 i8 i9 i10 i11 bt b age:=
 ⟨h.1.below hb,h.turn.below hb,h.K.trans (Z0b hb),h.2.2.2⟩
theorem TW.load (h:TW W0 w0 w x g N st xs i0 i1 i2 i3 i4 i5 i6 i7 i8 i9 i10 i11 bt b age) {st':Int} {w':World} (m:MS W0 w' b g N xs st') (hk:Z01 (Z18 b g) w w') (h0:0<=st'):TW W0 w0 w' x g N st' xs i0 i1 i2 i3 i4 i5 i6 i7 i8 i9 i10 i11 bt b age:=
 ⟨m,h.turn.kept hk h.2.2.2.2.1,h.K.trans (hk.mono (fun _ _ e=>.inl e)),h.2.2.2.1,h.2.2.2.2.1,h0⟩
theorem TW.mem (h:TW W0 w0 w x g N st xs i0 i1 i2 i3 i4 i5 i6 i7 i8 i9 i10 i11 bt b age) {st':Int} {xs':List Int} {w':World} (m:MS W0 w' b g N xs' st') (hk:Z01 (Z18 b g) w w') (h0:0<=st'):TW W0 w0 w' x g N st' xs' i0 i1 i2 i3 i4 i5 i6 i7 i8 i9 i10 i11 bt b age:=
 ⟨m,h.turn.kept hk h.2.2.2.2.1,h.K.trans (hk.mono (fun _ _ e=>.inl e)),h.2.2.2.1,h.2.2.2.2.1,h0⟩
theorem TW.set0 (h:TW W0 w0 w x g N st xs i0 i1 i2 i3 i4 i5 i6 i7 i8 i9 i10 i11 bt b age) (y:Int):TW W0 w0 (w.setCell ⟨x,0,none⟩ (.int .i64 y)) x g N st xs y i1 i2 i3 i4 i5 i6 i7 i8 i9 i10 i11 bt b age:=
 have hk:Z01 (fun k=>k=x) w (w.setCell ⟨x,0,none⟩ (.int .i64 y)):=(Z01.refl (fun k=>k=x) w).setCell (p:=⟨x,0,none⟩) (fun _=>rfl) _
 ⟨h.1.far hk h.2.2.2.1 h.2.2.2.2.1,h.turn.set0 y,h.K.step hk (fun i _ e=>.inr e),h.2.2.2⟩
theorem TW.set1 (h:TW W0 w0 w x g N st xs i0 i1 i2 i3 i4 i5 i6 i7 i8 i9 i10 i11 bt b age) (y:Int):TW W0 w0 (w.setCell ⟨x,1,none⟩ (.int .i64 y)) x g N st xs i0 y i2 i3 i4 i5 i6 i7 i8 i9 i10 i11 bt b age:=
 have hk:Z01 (fun k=>k=x) w (w.setCell ⟨x,1,none⟩ (.int .i64 y)):=(Z01.refl (fun k=>k=x) w).setCell (p:=⟨x,1,none⟩) (fun _=>rfl) _
 ⟨h.1.far hk h.2.2.2.1 h.2.2.2.2.1,h.turn.set1 y,h.K.step hk (fun i _ e=>.inr e),h.2.2.2⟩
theorem TW.set2 (h:TW W0 w0 w x g N st xs i0 i1 i2 i3 i4 i5 i6 i7 i8 i9 i10 i11 bt b age) (y:Int):TW W0 w0 (w.setCell ⟨x,2,none⟩ (.int .i64 y)) x g N st xs i0 i1 y i3 i4 i5 i6 i7 i8 i9 i10 i11 bt b age:=
 have hk:Z01 (fun k=>k=x) w (w.setCell ⟨x,2,none⟩ (.int .i64 y)):=(Z01.refl (fun k=>k=x) w).setCell (p:=⟨x,2,none⟩) (fun _=>rfl) _
 ⟨h.1.far hk h.2.2.2.1 h.2.2.2.2.1,h.turn.set2 y,h.K.step hk (fun i _ e=>.inr e),h.2.2.2⟩
theorem TW.set4 (h:TW W0 w0 w x g N st xs i0 i1 i2 i3 i4 i5 i6 i7 i8 i9 i10 i11 bt b age) (y:Int):TW W0 w0 (w.setCell ⟨x,4,none⟩ (.int .i64 y)) x g N st xs i0 i1 i2 i3 y i5 i6 i7 i8 i9 i10 i11 bt b age:=
 have hk:Z01 (fun k=>k=x) w (w.setCell ⟨x,4,none⟩ (.int .i64 y)):=(Z01.refl (fun k=>k=x) w).setCell (p:=⟨x,4,none⟩) (fun _=>rfl) _
 ⟨h.1.far hk h.2.2.2.1 h.2.2.2.2.1,h.turn.set4 y,h.K.step hk (fun i _ e=>.inr e),h.2.2.2⟩
theorem TW.set5 (h:TW W0 w0 w x g N st xs i0 i1 i2 i3 i4 i5 i6 i7 i8 i9 i10 i11 bt b age) (y:Int):TW W0 w0 (w.setCell ⟨x,5,none⟩ (.int .i64 y)) x g N st xs i0 i1 i2 i3 i4 y i6 i7 i8 i9 i10 i11 bt b age:=
 have hk:Z01 (fun k=>k=x) w (w.setCell ⟨x,5,none⟩ (.int .i64 y)):=(Z01.refl (fun k=>k=x) w).setCell (p:=⟨x,5,none⟩) (fun _=>rfl) _
 ⟨h.1.far hk h.2.2.2.1 h.2.2.2.2.1,h.turn.set5 y,h.K.step hk (fun i _ e=>.inr e),h.2.2.2⟩
theorem TW.set6 (h:TW W0 w0 w x g N st xs i0 i1 i2 i3 i4 i5 i6 i7 i8 i9 i10 i11 bt b age) (y:Int):TW W0 w0 (w.setCell ⟨x,6,none⟩ (.int .i64 y)) x g N st xs i0 i1 i2 i3 i4 i5 y i7 i8 i9 i10 i11 bt b age:=
 have hk:Z01 (fun k=>k=x) w (w.setCell ⟨x,6,none⟩ (.int .i64 y)):=(Z01.refl (fun k=>k=x) w).setCell (p:=⟨x,6,none⟩) (fun _=>rfl) _
 ⟨h.1.far hk h.2.2.2.1 h.2.2.2.2.1,h.turn.set6 y,h.K.step hk (fun i _ e=>.inr e),h.2.2.2⟩
theorem TW.set7 (h:TW W0 w0 w x g N st xs i0 i1 i2 i3 i4 i5 i6 i7 i8 i9 i10 i11 bt b age) (y:Int):TW W0 w0 (w.setCell ⟨x,7,none⟩ (.int .i64 y)) x g N st xs i0 i1 i2 i3 i4 i5 i6 y i8 i9 i10 i11 bt b age:=
 have hk:Z01 (fun k=>k=x) w (w.setCell ⟨x,7,none⟩ (.int .i64 y)):=(Z01.refl (fun k=>k=x) w).setCell (p:=⟨x,7,none⟩) (fun _=>rfl) _
 ⟨h.1.far hk h.2.2.2.1 h.2.2.2.2.1,h.turn.set7 y,h.K.step hk (fun i _ e=>.inr e),h.2.2.2⟩
theorem TW.set8 (h:TW W0 w0 w x g N st xs i0 i1 i2 i3 i4 i5 i6 i7 i8 i9 i10 i11 bt b age) (y:Int):TW W0 w0 (w.setCell ⟨x,8,none⟩ (.int .i64 y)) x g N st xs i0 i1 i2 i3 i4 i5 i6 i7 y i9 i10 i11 bt b age:=
 have hk:Z01 (fun k=>k=x) w (w.setCell ⟨x,8,none⟩ (.int .i64 y)):=(Z01.refl (fun k=>k=x) w).setCell (p:=⟨x,8,none⟩) (fun _=>rfl) _
 ⟨h.1.far hk h.2.2.2.1 h.2.2.2.2.1,h.turn.set8 y,h.K.step hk (fun i _ e=>.inr e),h.2.2.2⟩
theorem TW.set9 (h:TW W0 w0 w x g N st xs i0 i1 i2 i3 i4 i5 i6 i7 i8 i9 i10 i11 bt b age) (y:Int):TW W0 w0 (w.setCell ⟨x,9,none⟩ (.int .i64 y)) x g N st xs i0 i1 i2 i3 i4 i5 i6 i7 i8 y i10 i11 bt b age:=
 have hk:Z01 (fun k=>k=x) w (w.setCell ⟨x,9,none⟩ (.int .i64 y)):=(Z01.refl (fun k=>k=x) w).setCell (p:=⟨x,9,none⟩) (fun _=>rfl) _
 ⟨h.1.far hk h.2.2.2.1 h.2.2.2.2.1,h.turn.set9 y,h.K.step hk (fun i _ e=>.inr e),h.2.2.2⟩
theorem TW.set10 (h:TW W0 w0 w x g N st xs i0 i1 i2 i3 i4 i5 i6 i7 i8 i9 i10 i11 bt b age) (y:Int):TW W0 w0 (w.setCell ⟨x,10,none⟩ (.int .i64 y)) x g N st xs i0 i1 i2 i3 i4 i5 i6 i7 i8 i9 y i11 bt b age:=
 have hk:Z01 (fun k=>k=x) w (w.setCell ⟨x,10,none⟩ (.int .i64 y)):=(Z01.refl (fun k=>k=x) w).setCell (p:=⟨x,10,none⟩) (fun _=>rfl) _
 ⟨h.1.far hk h.2.2.2.1 h.2.2.2.2.1,h.turn.set10 y,h.K.step hk (fun i _ e=>.inr e),h.2.2.2⟩
theorem TW.set11 (h:TW W0 w0 w x g N st xs i0 i1 i2 i3 i4 i5 i6 i7 i8 i9 i10 i11 bt b age) (y:Int):TW W0 w0 (w.setCell ⟨x,11,none⟩ (.int .i64 y)) x g N st xs i0 i1 i2 i3 i4 i5 i6 i7 i8 i9 i10 y bt b age:=
 have hk:Z01 (fun k=>k=x) w (w.setCell ⟨x,11,none⟩ (.int .i64 y)):=(Z01.refl (fun k=>k=x) w).setCell (p:=⟨x,11,none⟩) (fun _=>rfl) _
 ⟨h.1.far hk h.2.2.2.1 h.2.2.2.2.1,h.turn.set11 y,h.K.step hk (fun i _ e=>.inr e),h.2.2.2⟩
end
section
variable (W0 w0 w:World) (x:Nat) (g:Option Nat) (N st:Int) (xs:List Int) (i0 i1 i2 i3 i4 i5 i6 i7 i8 i9 i10 i11:Int) (bt:Value) (b:Nat) (age:Int)
theorem Zbw (h:TW W0 w0 w x g N st xs i0 i1 i2 i3 i4 i5 i6 i7 i8 i9 i10 i11 bt b age):
 Calls Tryz.prog 88 #[.pointer (some ⟨x,0,none⟩)] w fun e w'=>e= .returned (.tuple #[])/\TW W0 w0 w' x g N st xs i0 41 i2 i3 i4 i5 i6 i6 i8 i9 i10 i11 bt b age:=by
 obtain⟨⟨c0,c1,c2,c3,c4,c5,c6,c7,c8,c9,c10,c11,c12,c13,c14⟩,hf,hx⟩:=h.turn.open
 have f1:=hf 1
 have f7:=hf 7
 have H:=Hd h
 clear hf h
 go_enter Tryz.func88,Tryz.ntmps88
 go_wp2
 go_end0
 exact⟨rfl,(H.out.set7 i6).set1 41⟩
theorem Z23 (a v:Int) (h:TW W0 w0 w x g N st xs i0 i1 i2 i3 i4 i5 i6 i7 i8 i9 i10 i11 bt b age) (hv:cellAt xs a=v) (s1:st<1000000):
 Calls Tryz.prog 89 #[.pointer (some ⟨x,0,none⟩),.int .i64 a] w fun e w'=>e= .returned (.int .i64 v)/\TW W0 w0 w' x g N (st+Z0h xs a) xs i0 i1 i2 i3 i4 v i6 i7 i8 i9 i10 i11 bt b age:=by
 obtain⟨⟨c0,c1,c2,c3,c4,c5,c6,c7,c8,c9,c10,c11,c12,c13,c14⟩,hf,hx⟩:=h.turn.open
 have H:=Hd h
 have cL:=Hd (hv ▸ Zet h.ms a s1)
 clear hf h hv
 go_enter Tryz.func89,Tryz.ntmps89
 go_wp2_with fail
 refine cL.out.mono ?_
 rintro e w1 ⟨rfl,m1,k1⟩
 have h1:=H.out.load m1 k1 (by have:=H.out.2.2.2.2.2;have:=Z0f xs a;omega)
 have f5:=Z06 h1.turn 5
 obtain⟨⟨d0,d1,d2,d3,d4,d5,-⟩,-,z1⟩:=h1.turn.open
 have H1:=Hd h1
 clear h1 m1 k1 c0 c1 c2 c3 c4 c5 c6 c7 c8 c9 c10 c11 c12 c13 c14
 go_wp2
 go_ret
 exact⟨rfl,H1.out.set5 v⟩
end
theorem Z1m:Tryz.prog.underlying 80=some (.map 3 3):=by kernel_rfl
theorem Z2z (w:World):(zeroValue 3).run Tryz.prog w= .ok (.int .i64 0) w:=by kernel_rfl
end
end Go.Proofs.YtihljjgmkaeohaaGreat
