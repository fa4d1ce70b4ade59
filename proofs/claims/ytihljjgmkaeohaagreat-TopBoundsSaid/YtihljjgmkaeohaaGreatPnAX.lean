/- part 24 -/
import Derived.Test.YtihljjgmkaeohaaGreatPnAT
import Derived.Test.YtihljjgmkaeohaaGreatPnAU
import Derived.Test.YtihljjgmkaeohaaGreatPnAV
set_option linter.all false
set_option maxHeartbeats 16000000
set_option maxRecDepth 100000
namespace Go.Proofs.YtihljjgmkaeohaaGreat
section
open Go.RowKit Go.ChangeShapes Go.WideShapes Go.ChangeAt
def swA (t:Th):Int:=
 if t.i1=40 then 1 else if t.i1=41 then wrap64 (t.i7+3)else if t.i1=42 then wrap64 (t.i6+1)else if t.i1=43 then wrap64 (t.i6+2)
 else if t.i1=44 then t.i6 else if t.i1=45 then wrap64 (t.i6+3)else if t.i1=46 then wrap64 (t.i7+3)else if t.i1=47 then wrap64 (t.i6+1)else 0
def swT (xs:List Int) (age:Int) (t:Th):Th:=
 let v:=cellAt xs (swA t)
 if t.i1=40 then(if v=0 then {t with i1:=48,i5:=v}else {t with i1:=41,i5:=v,i7:=v})
 else if t.i1=41 then(if v=0 then {t with i1:=48,i5:=v}else {t with i1:=42,i5:=v,i6:=v})
 else if t.i1=42 then(if v=1 then {t with i1:=43,i5:=v}else {t with i1:=41,i5:=v,i7:=t.i6})
 else if t.i1=43 then(if wrap64 (t.i10-v)<=age then {t with i1:=41,i5:=v,i7:=t.i6}else {t with i1:=44,i5:=v})
 else if t.i1=44 then(if Z11 xs t.i6 0=true then {t with i1:=45}else {t with i1:=41,i7:=t.i6})
 else if t.i1=45 then {t with i1:=46,i5:=v}
 else if t.i1=46 then {t with i1:=47}
 else if t.i1=47 then {t with i1:=41}
 else if t.i1=48 then {t with i1:=11}
 else t
def swX (xs:List Int) (t:Th):List Int:=
 if t.i1=44 then Z0s xs t.i6 0 (-1)else if t.i1=46 then Z0j xs (wrap64 (t.i7+3)) t.i5 else if t.i1=47 then Z0j xs (wrap64 (t.i6+1)) 0
 else if t.i1=48 then Z0j xs 0 0 else xs
def swC (xs:List Int) (t:Th):Int:=if 40<=t.i1/\t.i1<=48 then Z0h xs (swA t)else 0
theorem Zne (xs:List Int) (t:Th):0<=swC xs t/\swC xs t<=1:=by
 unfold swC
 split
 ·exact Z0f ..
 ·omega
theorem Znf (W0 w:World) (b:Nat) (g:Option Nat) (N st:Int) (xs:List Int) (t:Th) (bt:Value) (n:Nat) (F:Nat->Int) (age:Int) (h:MS W0 w b g N xs st) (hI:Its w bt n F) (hn:n<=1000000) (s0:0<=st) (s1:st<1000000)
 (hr: -9223372036854775808<=t.i6/\t.i6<=9223372036854775807) (hk1:40<=t.i1) (hk2:t.i1<=48):
 Calls Tryz.prog 79 #[.pointer (some ⟨b,0,none⟩),.int .i64 age,thV t bt] w fun e w'=>∃bt',e= .returned (thV (swT xs age t) bt')/\MS W0 w' b g N (swX xs t) (st+swC xs t)/\IRw w' bt' n F/\(∀t,bt'.ownBlock=some t->w.heap.size<=t)/\Z01 (Z18 b g) w w':=by
 have HF:=hi3 h hI (fun k (hk:w.heap.size<=k) (e:Z18 b g k)=>(by
  rcases e with e|e
  ·have:=h.mem.lt;omega
  ·subst e;have:=h.mem.row_lt;omega:False))
 obtain⟨ao,cap,hbt,-⟩:=id hI
 subst hbt
 clear h hI
 obtain⟨T,hT⟩:∃T,swT xs age t=T:=⟨_,rfl⟩
 obtain⟨X,hX⟩:∃X,swX xs t=X:=⟨_,rfl⟩
 obtain⟨C,hC⟩:∃C,st+swC xs t=C:=⟨_,rfl⟩
 rw[hT,hX,hC]
 obtain⟨i0,i1,i2,i3,i4,i5,i6,i7,i8,i9,i10,i11⟩:=t
 obtain⟨hr1,hr2⟩:=hr
 simp only[]at hr1 hr2 hk1 hk2
 have HT:=hi3 hT hX hC
 clear hT hX hC
 unfold thV
 go_enter Tryz.func79,Tryz.ntmps79
 go_wp2_with fail
 refine(Z1d (.slice ao n cap) n F _ (HF.out.2.1.below (by go_grown)) hn).mono ?_
 rintro e w1 ⟨bt',rfl,hI1,hb1,ho1⟩
 obtain⟨ao',cap',hbt'⟩:=Z03 hI1
 subst hbt'
 have z1:w.heap.size+1<w1.heap.size:=by have:=hb1.size;first|omega|(simp at this;omega)
 have B5:w1.heap[w.heap.size]?=some (.cells #[.int .i64 i0,.int .i64 i1,.int .i64 i2,.int .i64 i3,.int .i64 i4,.int .i64 i5,.int .i64 i6,.int .i64 i7,.int .i64 i8,.int .i64 i9,.int .i64 i10,.int .i64 i11,.slice ao n cap] 86 (0,0)):=(hb1.block w.heap.size (by first|omega|(simp;omega)|(simp;done))).trans (Z5o _ _ _)
 have B6:w1.heap[w.heap.size+1]?=some (.cells #[.int .i64 0,.int .i64 0,.int .i64 0,.int .i64 0,.int .i64 0,.int .i64 0,.int .i64 0,.int .i64 0,.int .i64 0,.int .i64 0,.int .i64 0,.int .i64 0,.slice none 0 0] 86 (0,0)):=(hb1.block (w.heap.size+1) (by first|omega|(simp;omega)|(simp;done))).trans (Z5p _ _ _)
 have BW:Below w.heap.size w w1:=Below.trans (by go_grown) (hb1.mono (by first|omega|(simp;omega)|(simp;done)))
 obtain⟨⟨c0,c1,c2,c3,c4,c5,c6,c7,c8,c9,c10,c11,c12⟩,z0⟩:=Z1r B5
 have f12:=Z06 B5 12
 have ho2:∀k,(Value.slice ao' n cap').ownBlock=some k->w.heap.size+2<=k/\k<w1.heap.size:=fun k hk=>⟨by have:=(ho1 k hk).1;simp at this;omega,(ho1 k hk).2⟩
 have H1:=hi5 hI1 BW ho2 B6 B5
 clear hb1 hI1 B5 BW ho1 ho2 B6
 go_upto_block 0 with fail
 generalize hx:w1.heap.size=x
 generalize hw2:World.alloc _ _=w2
 have K2:Z01 (fun k=>k=w.heap.size) w1 w2:=by
  rw[<-hw2]
  exact((Z01.refl (fun k=>k=w.heap.size) w1).setCell (p:=⟨w.heap.size,12,none⟩) (fun _=>rfl) _).alloc _
 have U2:Z25 w2 x i0 i1 i2 i3 i4 i5 i6 i7 i8 i9 i10 i11 (.slice ao' n cap') b age:=by
  rw[<-hw2,<-hx]
  exact Z3a (by simp) _
 have zx:w.heap.size+1<x:=by omega
 have B5:w2.heap[w.heap.size]?=some (.cells #[.int .i64 i0,.int .i64 i1,.int .i64 i2,.int .i64 i3,.int .i64 i4,.int .i64 i5,.int .i64 i6,.int .i64 i7,.int .i64 i8,.int .i64 i9,.int .i64 i10,.int .i64 i11,.slice ao' n cap'] 86 (0,0)):=by
  rw[<-hw2]
  exact(Below.heap_alloc _ _ _ (by simp[World.setCell];omega)).trans (Z00 H1.out.2.2.2.2 12 (.slice ao' n cap'))
 have M2:MS W0 w2 b g N xs st:=(HF.out.1.below H1.out.2.1).kept K2 ((HF.out.1.B.trans (H1.out.2.1.mono HF.out.1.B.size)).trans (K2.below (by have:=HF.out.1.B.size;omega) (fun k hk e=>by have:=HF.out.1.B.size;omega))) (fun e=>by have:=HF.out.1.mem.lt;omega) (fun k e e2=>HF.out.2.2 k (by omega) (.inr e.symm))
 have T2:TW W0 w2 w2 x g N st xs i0 i1 i2 i3 i4 i5 i6 i7 i8 i9 i10 i11 (.slice ao' n cap') b age:=⟨M2,U2,Z01.refl _ _,by have:=HF.out.1.B.size;omega,fun e=>HF.out.2.2 x (by omega) e,s0⟩
 have I2:IRw w2 (.slice ao' n cap') n F:=Z04 H1.out.1 K2 (fun k hk e=>by have:=H1.out.2.2.1 k hk;omega)
 have C2:w2.heap[w.heap.size+1]?=_:=(K2.block (w.heap.size+1) z1 (by omega)).trans H1.out.2.2.2.1
 have KW:Z01 (Z18 b g) w w2:=(Z0b (F:=Z18 b g) H1.out.2.1).step K2 (fun i hi e=>by omega)
 have z2:w.heap.size+1<w2.heap.size:=Nlt z1 K2.size
 have zx2:x<w2.heap.size:=U2.lt
 have hox:∀k,(Value.slice ao' n cap').ownBlock=some k->k<x/\w.heap.size+2<=k:=fun k hk=>⟨by have:=(H1.out.2.2.1 k hk).2;omega,(H1.out.2.2.1 k hk).1⟩
 have H2:=hi4 I2 C2 KW hox
 clear c0 c1 c2 c3 c4 c5 c6 c7 c8 c9 c10 c11 c12 f12
 obtain⟨⟨c0,c1,c2,c3,c4,c5,c6,c7,c8,c9,c10,c11,c12⟩,z0⟩:=Z1r B5
 obtain⟨⟨d0,d1,d2,d3,d4,d5,d6,d7,d8,d9,d10,d11,d12,dm,da⟩,hfx,z3x⟩:=U2.open
 have f1:=hfx 1
 have T2:=Hd T2
 clear hw2 hx K2 U2 M2 I2 C2 KW H1 hox hfx B5
 go_cut [8]from 8 to 91 (fun _ wx=>TW W0 w2 wx x g N C X T.i0 T.i1 T.i2 T.i3 T.i4 T.i5 T.i6 T.i7 T.i8 T.i9 T.i10 T.i11 (.slice ao' n cap') b age)
 case first=>
  by_cases e40:i1=40
  ·subst e40
   by_cases hq:cellAt xs 1=0
   ·go_wp2_with fail
    refine(Zh5 W0 w2 w2 x g N st xs i0 40 i2 i3 i4 i5 i6 i7 i8 i9 i10 i11 (.slice ao' n cap') b age _ T2.out rfl s1 (beq_iff_eq.2 hq)).mono ?_
    rintro e w3 ⟨rfl,h3⟩
    go_wp2_with fail
    go_meet
    case rel=>
     rw[<-HT.out.1,<-HT.out.2.1,<-HT.out.2.2]
     simpa [swT,swX,swC,swA,hq]using h3
   ·go_wp2_with fail
    refine(Zh6 W0 w2 w2 x g N st xs i0 40 i2 i3 i4 i5 i6 i7 i8 i9 i10 i11 (.slice ao' n cap') b age _ T2.out rfl s1 (beq_eq_false_iff_ne.2 hq)).mono ?_
    rintro e w3 ⟨rfl,h3⟩
    go_wp2_with fail
    go_meet
    case rel=>
     rw[<-HT.out.1,<-HT.out.2.1,<-HT.out.2.2]
     simpa [swT,swX,swC,swA,hq]using h3
  by_cases e41:i1=41
  ·subst e41
   by_cases hq:cellAt xs (wrap64 (i7+3))=0
   ·go_wp2_with fail
    refine(Zh7 W0 w2 w2 x g N st xs i0 41 i2 i3 i4 i5 i6 i7 i8 i9 i10 i11 (.slice ao' n cap') b age _ T2.out rfl s1 (beq_iff_eq.2 hq)).mono ?_
    rintro e w3 ⟨rfl,h3⟩
    go_wp2_with fail
    go_meet
    case rel=>
     rw[<-HT.out.1,<-HT.out.2.1,<-HT.out.2.2]
     simpa [swT,swX,swC,swA,hq]using h3
   ·go_wp2_with fail
    refine(Zh8 W0 w2 w2 x g N st xs i0 41 i2 i3 i4 i5 i6 i7 i8 i9 i10 i11 (.slice ao' n cap') b age _ T2.out rfl s1 (beq_eq_false_iff_ne.2 hq)).mono ?_
    rintro e w3 ⟨rfl,h3⟩
    go_wp2_with fail
    go_meet
    case rel=>
     rw[<-HT.out.1,<-HT.out.2.1,<-HT.out.2.2]
     simpa [swT,swX,swC,swA,hq]using h3
  by_cases e42:i1=42
  ·subst e42
   by_cases hq:cellAt xs (wrap64 (i6+1))=1
   ·go_wp2_with fail
    refine(Zh9 W0 w2 w2 x g N st xs i0 42 i2 i3 i4 i5 i6 i7 i8 i9 i10 i11 (.slice ao' n cap') b age _ T2.out rfl s1 (beq_iff_eq.2 hq)).mono ?_
    rintro e w3 ⟨rfl,h3⟩
    go_wp2_with fail
    go_meet
    case rel=>
     rw[<-HT.out.1,<-HT.out.2.1,<-HT.out.2.2]
     simpa [swT,swX,swC,swA,hq]using h3
   ·go_wp2_with fail
    refine(Zha W0 w2 w2 x g N st xs i0 42 i2 i3 i4 i5 i6 i7 i8 i9 i10 i11 (.slice ao' n cap') b age _ T2.out rfl s1 (beq_eq_false_iff_ne.2 hq)).mono ?_
    rintro e w3 ⟨rfl,h3⟩
    go_wp2_with fail
    go_meet
    case rel=>
     rw[<-HT.out.1,<-HT.out.2.1,<-HT.out.2.2]
     simpa [swT,swX,swC,swA,hq]using h3
  by_cases e43:i1=43
  ·subst e43
   by_cases hq:wrap64 (i10-cellAt xs (wrap64 (i6+2)))<=age
   ·go_wp2_with fail
    refine(Zhc W0 w2 w2 x g N st xs i0 43 i2 i3 i4 i5 i6 i7 i8 i9 i10 i11 (.slice ao' n cap') b age _ T2.out rfl s1 hq).mono ?_
    rintro e w3 ⟨rfl,h3⟩
    go_wp2_with fail
    go_meet
    case rel=>
     rw[<-HT.out.1,<-HT.out.2.1,<-HT.out.2.2]
     simpa [swT,swX,swC,swA,show(wrap64 (i10-cellAt xs (wrap64 (i6+2)))<=age) by omega]using h3
   ·go_wp2_with fail
    refine(Zhb W0 w2 w2 x g N st xs i0 43 i2 i3 i4 i5 i6 i7 i8 i9 i10 i11 (.slice ao' n cap') b age _ T2.out rfl s1 (by omega)).mono ?_
    rintro e w3 ⟨rfl,h3⟩
    go_wp2_with fail
    go_meet
    case rel=>
     rw[<-HT.out.1,<-HT.out.2.1,<-HT.out.2.2]
     simpa [swT,swX,swC,swA,show ¬(wrap64 (i10-cellAt xs (wrap64 (i6+2)))<=age) by omega]using h3
  by_cases e44:i1=44
  ·subst e44
   go_wp2_with fail
   have Tb:=Hd (T2.out.set1 45)
   generalize hwb:World.setCell w2 _ _=wb
   rw[hwb]at Tb
   clear hwb
   refine(Z7k Tb.out.ms i6 0 (-1) s1).mono ?_
   rintro e wa ⟨rfl,ma,ka⟩
   have Ta:=Hd (Tb.out.mem ma ka (by have:=Z0f xs i6;omega))
   clear ma ka
   cases hs:Z11 xs i6 0
   ·go_wp2_with fail
    refine(Zbw W0 w2 wa x g N _ _ i0 45 i2 i3 i4 i5 i6 i7 i8 i9 i10 i11 (.slice ao' n cap') b age Ta.out).mono ?_
    rintro e w3 ⟨rfl,h3⟩
    go_wp2_with fail
    go_meet
    case rel=>
     rw[<-HT.out.1,<-HT.out.2.1,<-HT.out.2.2]
     simpa [swT,swX,swC,swA,hs]using h3
   ·go_wp2_with fail
    go_meet
    case rel=>
     rw[<-HT.out.1,<-HT.out.2.1,<-HT.out.2.2]
     simpa [swT,swX,swC,swA,hs]using Ta.out
  by_cases e45:i1=45
  ·subst e45
   go_wp2_with fail
   refine(Z23 W0 w2 w2 x g N st xs i0 45 i2 i3 i4 i5 i6 i7 i8 i9 i10 i11 (.slice ao' n cap') b age _ _ T2.out rfl s1).mono ?_
   rintro e wa ⟨rfl,ha⟩
   have Ta:=Hd ha
   clear ha
   obtain⟨⟨g0,g1,g2,g3,g4,g5,g6,g7,g8,g9,g10,g11,g12,gm,ga⟩,hga,gz⟩:=Ta.out.turn.open
   have g1f:=hga 1
   go_wp2_with fail
   go_meet
   case rel=>
    rw[<-HT.out.1,<-HT.out.2.1,<-HT.out.2.2]
    simpa [swT,swX,swC,swA]using Ta.out.set1 46
  by_cases e46:i1=46
  ·subst e46
   go_wp2_with fail
   refine(Z2n T2.out.ms (wrap64 (i7+3)) (i5) s1).mono ?_
   rintro e wa ⟨rfl,ma,ka⟩
   have Ta:=Hd (T2.out.mem ma ka (by have:=Z0f xs (wrap64 (i7+3));omega))
   clear ma ka
   obtain⟨⟨g0,g1,g2,g3,g4,g5,g6,g7,g8,g9,g10,g11,g12,gm,ga⟩,hga,gz⟩:=Ta.out.turn.open
   have g1f:=hga 1
   go_wp2_with fail
   go_meet
   case rel=>
    rw[<-HT.out.1,<-HT.out.2.1,<-HT.out.2.2]
    simpa [swT,swX,swC,swA]using Ta.out.set1 47
  by_cases e47:i1=47
  ·subst e47
   go_wp2_with fail
   refine(Z2n T2.out.ms (wrap64 (i6+1)) (0) s1).mono ?_
   rintro e wa ⟨rfl,ma,ka⟩
   have Ta:=Hd (T2.out.mem ma ka (by have:=Z0f xs (wrap64 (i6+1));omega))
   clear ma ka
   obtain⟨⟨g0,g1,g2,g3,g4,g5,g6,g7,g8,g9,g10,g11,g12,gm,ga⟩,hga,gz⟩:=Ta.out.turn.open
   have g1f:=hga 1
   go_wp2_with fail
   go_meet
   case rel=>
    rw[<-HT.out.1,<-HT.out.2.1,<-HT.out.2.2]
    simpa [swT,swX,swC,swA]using Ta.out.set1 41
  by_cases e48:i1=48
  ·subst e48
   go_wp2_with fail
   refine(Z2n T2.out.ms (0) (0) s1).mono ?_
   rintro e wa ⟨rfl,ma,ka⟩
   have Ta:=Hd (T2.out.mem ma ka (by have:=Z0f xs (0);omega))
   clear ma ka
   obtain⟨⟨g0,g1,g2,g3,g4,g5,g6,g7,g8,g9,g10,g11,g12,gm,ga⟩,hga,gz⟩:=Ta.out.turn.open
   have g1f:=hga 1
   go_wp2_with fail
   go_meet
   case rel=>
    rw[<-HT.out.1,<-HT.out.2.1,<-HT.out.2.2]
    simpa [swT,swX,swC,swA]using Ta.out.set1 11
  omega
 case rest=>
  have T3:=Hd hcut
  have K3:=T3.out.K
  have C3:wc.heap[w.heap.size+1]?=some (.cells #[.int .i64 0,.int .i64 0,.int .i64 0,.int .i64 0,.int .i64 0,.int .i64 0,.int .i64 0,.int .i64 0,.int .i64 0,.int .i64 0,.int .i64 0,.int .i64 0,.slice none 0 0] 86 (0,0)):=(K3.block (w.heap.size+1) z2 (by rintro(e|e);exact HF.out.2.2 _ (by omega) e;omega)).trans H2.out.2.1
  have z3:w.heap.size+1<wc.heap.size:=Nlt z2 K3.size
  have H3:=hi2 K3 C3
  clear c0 d0 c1 d1 c2 d2 c3 d3 c4 d4 c5 d5 c6 d6 c7 d7 c8 d8 c9 d9 c10 d10 c11 d11 c12 d12 dm da z3x f1
  obtain⟨⟨d0,d1,d2,d3,d4,d5,d6,d7,d8,d9,d10,d11,d12,-,-⟩,hfx,z3x⟩:=T3.out.turn.open
  obtain⟨⟨g0,g1,g2,g3,g4,g5,g6,g7,g8,g9,g10,g11,g12⟩,-⟩:=Z1r C3
  have hff:=Z06 C3
  have p0:=hff 0;have p1:=hff 1;have p2:=hff 2;have p3:=hff 3;have p4:=hff 4;have p5:=hff 5;have p6:=hff 6;have p7:=hff 7;have p8:=hff 8;have p9:=hff 9;have p10:=hff 10;have p11:=hff 11;have p12:=hff 12
  clear hff hfx K3 C3 hcut
  go_wp2
  generalize hw5:World.setCell _ _ _=w5
  have K5:Z01 (fun k=>k=w.heap.size+1) wc w5:=by rw[<-hw5];exact Z26 _ _ _ _ _ _ _ _ _ _ _ _ _ _ _
  have C5:w5.heap[w.heap.size+1]?=some (.cells #[.int .i64 T.i0,.int .i64 T.i1,.int .i64 T.i2,.int .i64 T.i3,.int .i64 T.i4,.int .i64 T.i5,.int .i64 T.i6,.int .i64 T.i7,.int .i64 T.i8,.int .i64 T.i9,.int .i64 T.i10,.int .i64 T.i11,.slice ao' n cap'] 86 (0,0)):=by rw[<-hw5];exact Zbb H3.out.2 rfl
  obtain⟨⟨r0,r1,r2,r3,r4,r5,r6,r7,r8,r9,r10,r11,r12⟩,z5⟩:=Z1r C5
  refine bodyPost_ret (v:=.agg #[.int .i64 T.i0,.int .i64 T.i1,.int .i64 T.i2,.int .i64 T.i3,.int .i64 T.i4,.int .i64 T.i5,.int .i64 T.i6,.int .i64 T.i7,.int .i64 T.i8,.int .i64 T.i9,.int .i64 T.i10,.int .i64 T.i11,.slice ao' n cap']) (by simp[results,Tryz.results79,go_sem,r0,r1,r2,r3,r4,r5,r6,r7,r8,r9,r10,r11,r12]) rfl ⟨_,rfl,?_,?_,?_,?_⟩
  ·exact T3.out.ms.far K5 (by have:=HF.out.1.B.size;omega) (fun e=>HF.out.2.2 _ (by omega) e)
  ·exact Z04 (Z04 H2.out.1 T3.out.K (fun k hk e=>by
    have:=H2.out.2.2.2 k hk
    rcases e with e|e
    ·exact HF.out.2.2 _ (by omega) e
    ·omega)) K5 (fun k hk e=>by have:=H2.out.2.2.2 k hk;omega)
  ·exact fun t ht=>by have:=(H2.out.2.2.2 t ht).2;omega
  ·exact((H2.out.2.2.1.step T3.out.K (fun i hi e=>by rcases e with e|e;exact e;omega))).step K5 (fun i hi e=>by omega)
end
section
open Go.RowKit Go.ChangeShapes Go.WideShapes Go.ChangeAt Go.Deep
def NL (l:List Nat):Prop:=l=l
theorem NL.tl {i:Nat} {r:List Nat} (_:NL (i::r)):NL r:=rfl
theorem wpT {P:Program} {ops:Array Oper} {Q:Exit->Act->World->Prop} {md:Region.Mode} {S:World->Prop} {i:Nat} {r:List Nat} (_:NL (i::r)) {oi:Oper} {v:Value} {fuel:Nat} {listed:Array Bool} {a:Act} {w:World} (hi:ops[i]?=some oi)
 (hs:Region.noSelect ops=true) (hf:Region.free md ops listed i=true) (hr:(Region.ready md ops listed).contains i=true)
 (hQ:∀c a w,Q (.panic c) (a.put oi.dst v) w->Q (.panic c) a w) (hy:YieldsIf P ops S oi v a) (hS:S w)
 (h:wpAnyH P md ops Q S fuel (listed.setIfInBounds i true) (a.put oi.dst v) w):wpAnyH P md ops Q S (fuel+1) listed a w:=wpAnyH_take hi hs hf hr hQ hy hS h
structure Ev where
 k:Int
 t:Int
 s:Int
 ok:Int
 ov:Int
 rc:Int
 rv:Int
 at':Int
structure Lg where
 t:Int
 s:Int
 ok:Int
 ov:Int
 rc:Int
 rv:Int
 b:Int
def evV (e:Ev):List Value:= [.int .u8 e.k,.int .i64 e.t,.int .i64 e.s,.int .u8 e.ok,.int .i32 e.ov,.int .u8 e.rc,.int .i32 e.rv,.int .i64 e.at']
def lgV (l:Lg):List Value:= [.int .i64 l.t,.int .i64 l.s,.int .u8 l.ok,.int .i32 l.ov,.int .u8 l.rc,.int .i32 l.rv,.int .i64 l.b]
def thF (p:Th×Value):List Value:= [.int .i64 p.1.i0,.int .i64 p.1.i1,.int .i64 p.1.i2,.int .i64 p.1.i3,.int .i64 p.1.i4,.int .i64 p.1.i5,.int .i64 p.1.i6,.int .i64 p.1.i7,.int .i64 p.1.i8,.int .i64 p.1.i9,.int .i64 p.1.i10,.int .i64 p.1.i11,p.2]
theorem Zng (e:Ev):(evV e).length=8:=rfl
theorem Znh (e:Lg):(lgV e).length=7:=rfl
theorem Zhf (p:Th×Value):(thF p).length=13:=rfl
structure Cfg where
 ob:Int
 th:Int
 cap:Int
 age:Int
 ps:Int
 pl:Bool
structure TS where
 t:Th
 n:Nat
 F:Nat->Int
structure WM where
 xs:List Int
 T:List TS
 its:List Int
 ev:List Ev
 lg:List ((Int×Int)×(Int×Int))
 n:Nat
structure WA where
 b:Nat
 o:Nat
 g:Option Nat
 TV:List (Th×Value)
 tv:Value
 ev:Value
 lv:Value
 pv:Value
 mo:Nat
 lg:List Lg
 pk:List Int
 btc:Int
 st:Int
 cc:Nat
 cv:Value
 bs:List Bool
 bd:Value
 G:Nat->Prop
 tag:Nat->Nat
structure WP (W0 w:World) (p:Nat) (c:Cfg) (S:WM) (a:WA):Prop where
 blk:w.heap[p]?=some (.cells #[.int .u8 c.ob,.int .i64 c.th,.int .i64 c.cap,.int .i64 c.age,.int .i64 c.ps,.bool c.pl,.pointer (some ⟨a.b,0,none⟩),.pointer (some ⟨a.o,0,none⟩),a.tv,.map (some a.mo),a.ev,a.lv,a.pv,.int .i64 a.btc] 83 (0,0))
 mem:MS W0 w a.b a.g (3+5*c.th) S.xs a.st
 obj:Z4j w a.o c.ob c.cap c.pl S.its a.cc a.cv a.bs a.bd a.G
 thr:Z1q thF 13 w 86 a.tv a.TV
 len:a.TV.length=S.T.length
 thn:(S.T.length:Int)=c.th
 bat:∀k (h:k<S.T.length),∃v,a.TV[k]?=some (S.T[k].t,v)/\IRw w v S.T[k].n S.T[k].F
 own:Zhd w a.mo c.th
 evr:Z1q evV 8 w 92 a.ev S.ev
 lgr:Z1q lgV 7 w 49 a.lv a.lg
 lgm:a.lg.map (fun l=>((l.ok,l.ov),(l.rc,l.rv)))=S.lg
 pkr:Z1j w a.pv a.pk
 pkn:a.pk.length=S.n
 st0:0<=a.st
 tp:a.tag p=1
 tm:∀k,Z18 a.b a.g k->a.tag k=2
 tob:∀k,ObF a.o a.cc a.cv a.G k->a.tag k=3
 tt:∀k,a.tv.ownBlock=some k->a.tag k=4
 tow:a.tag a.mo=5
 te:∀k,a.ev.ownBlock=some k->a.tag k=6
 tl:∀k,a.lv.ownBlock=some k->a.tag k=7
 tpk:∀k,a.pv.ownBlock=some k->a.tag k=8
 tb:∀k t v,a.TV[k]?=some (t,v)->∀j,v.ownBlock=some j->a.tag j=9+k
 ge:∀k,a.tag k≠0->W0.heap.size<=k/\k<w.heap.size
section
variable {W0 w w':World} {p:Nat} {c:Cfg} {S:WM} {a:WA}
theorem WP.lt (h:WP W0 w p c S a):p<w.heap.size:=(h.ge p (by rw[h.tp];decide)).2
theorem WP.old (h:WP W0 w p c S a) {k:Nat} (hk:w.heap.size<=k):a.tag k=0:=Decidable.byContradiction fun e=>by have:=(h.ge k e).2;omega
theorem WP.base (h:WP W0 w p c S a):W0.heap.size<=w.heap.size:=h.mem.B.size
theorem WP.kept {F:Nat->Prop} (h:WP W0 w p c S a) (hk:Z01 F w w') (hF:∀k,F k->k<w.heap.size->a.tag k=0/\W0.heap.size<=k):WP W0 w' p c S a:=by
 have hn:∀k,a.tag k≠0->¬F k:=fun k e f=>e (hF k f (h.ge k e).2).1
 have t0:∀k i,a.tag k=i->i≠0->¬F k:=fun k i e hi=>hn k (by rw[e];exact hi)
 exact {
  blk:=(hk.block p h.lt (t0 p 1 h.tp (by decide))).trans h.blk
  mem:=h.mem.kept hk (h.mem.B.trans (hk.below h.base (fun k hk2 f=>by have:=hF k f (by have:=h.base;omega);omega))) (t0 _ 2 (h.tm _ (.inl rfl)) (by decide)) (fun k e=>t0 _ 2 (h.tm _ (.inr e.symm)) (by decide))
  obj:=h.obj.kept hk (fun k e=>t0 _ 3 (h.tob k e) (by decide))
  thr:=h.thr.kept hk (fun k e=>t0 _ 4 (h.tt k e) (by decide))
  len:=h.len
  thn:=h.thn
  bat:=fun k hk2=>by
   obtain⟨v,h1,h2⟩:=h.bat k hk2
   exact⟨v,h1,Z04 h2 hk (fun j e=>t0 _ _ (h.tb k _ v h1 j e) (by omega))⟩
  own:=h.own.kept hk (t0 _ 5 h.tow (by decide))
  evr:=h.evr.kept hk (fun k e=>t0 _ 6 (h.te k e) (by decide))
  lgr:=h.lgr.kept hk (fun k e=>t0 _ 7 (h.tl k e) (by decide))
  lgm:=h.lgm
  pkr:=h.pkr.kept hk (fun k e=>t0 _ 8 (h.tpk k e) (by decide))
  pkn:=h.pkn
  st0:=h.st0
  tp:=h.tp
  tm:=h.tm
  tob:=h.tob
  tt:=h.tt
  tow:=h.tow
  te:=h.te
  tl:=h.tl
  tpk:=h.tpk
  tb:=h.tb
  ge:=fun k e=>⟨(h.ge k e).1,Nlt (h.ge k e).2 hk.size⟩}
theorem WP.below (h:WP W0 w p c S a) (hb:Below w.heap.size w w'):WP W0 w' p c S a:=h.kept (Z01.of_below (S:=fun _=>False) hb (fun k h1 h2=>by omega)) (fun _ f=>f.elim)
theorem WP.open (h:WP W0 w p c S a):(w.cell? ⟨p,0,none⟩=some (.int .u8 c.ob)/\w.cell? ⟨p,1,none⟩=some (.int .i64 c.th)/\w.cell? ⟨p,2,none⟩=some (.int .i64 c.cap)/\w.cell? ⟨p,3,none⟩=some (.int .i64 c.age)/\w.cell? ⟨p,4,none⟩=some (.int .i64 c.ps)/\w.cell? ⟨p,5,none⟩=some (.bool c.pl)/\w.cell? ⟨p,6,none⟩=some (.pointer (some ⟨a.b,0,none⟩))/\w.cell? ⟨p,7,none⟩=some (.pointer (some ⟨a.o,0,none⟩))/\w.cell? ⟨p,8,none⟩=some (a.tv)/\w.cell? ⟨p,9,none⟩=some (.map (some a.mo))/\w.cell? ⟨p,10,none⟩=some (a.ev)/\w.cell? ⟨p,11,none⟩=some (a.lv)/\w.cell? ⟨p,12,none⟩=some (a.pv)/\w.cell? ⟨p,13,none⟩=some (.int .i64 a.btc))/\(∀j,w.frozen? ⟨p,j,none⟩=false)/\p<w.heap.size:=by
 have hb:=h.blk
 refine⟨⟨?_,?_,?_,?_,?_,?_,?_,?_,?_,?_,?_,?_,?_,?_⟩,fun j=>Z06 hb j,h.lt⟩<;>simp[World.cell?,hb]
structure TAt (w:World) (tb q:Nat) (t:Th) (v:Value):Prop where
 c:w.cell? ⟨tb,q,none⟩=some (.int .i64 t.i0)/\w.cell? ⟨tb,q+1,none⟩=some (.int .i64 t.i1)/\w.cell? ⟨tb,q+2,none⟩=some (.int .i64 t.i2)/\w.cell? ⟨tb,q+3,none⟩=some (.int .i64 t.i3)/\w.cell? ⟨tb,q+4,none⟩=some (.int .i64 t.i4)/\w.cell? ⟨tb,q+5,none⟩=some (.int .i64 t.i5)/\w.cell? ⟨tb,q+6,none⟩=some (.int .i64 t.i6)/\w.cell? ⟨tb,q+7,none⟩=some (.int .i64 t.i7)/\w.cell? ⟨tb,q+8,none⟩=some (.int .i64 t.i8)/\w.cell? ⟨tb,q+9,none⟩=some (.int .i64 t.i9)/\w.cell? ⟨tb,q+10,none⟩=some (.int .i64 t.i10)/\w.cell? ⟨tb,q+11,none⟩=some (.int .i64 t.i11)/\w.cell? ⟨tb,q+12,none⟩=some (v)
 f:∀j,w.frozen? ⟨tb,j,none⟩=false
 lt:tb<w.heap.size
theorem TAt.below {tb q:Nat} {t:Th} {v:Value} (h:TAt w tb q t v) (hb:Below w.heap.size w w'):TAt w' tb q t v:=by
 have hc:=fun j=>hb.cell (p:=⟨tb,j,none⟩) h.lt
 have hf:=fun j=>hb.frozen (p:=⟨tb,j,none⟩) h.lt
 obtain⟨c0,c1,c2,c3,c4,c5,c6,c7,c8,c9,c10,c11,c12⟩:=h.c
 exact⟨⟨(hc _).trans c0,(hc _).trans c1,(hc _).trans c2,(hc _).trans c3,(hc _).trans c4,(hc _).trans c5,(hc _).trans c6,(hc _).trans c7,(hc _).trans c8,(hc _).trans c9,(hc _).trans c10,(hc _).trans c11,(hc _).trans c12⟩,fun j=>(hf j).trans (h.f j),Nlt h.lt hb.size⟩
theorem TAt.kept {F:Nat->Prop} {tb q:Nat} {t:Th} {v:Value} (h:TAt w tb q t v) (hb:Z01 F w w') (hn:¬F tb):TAt w' tb q t v:=by
 have hc:=fun j=>hb.cell (p:=⟨tb,j,none⟩) h.lt hn
 have hf:=fun j=>hb.frozen (p:=⟨tb,j,none⟩) h.lt hn
 obtain⟨c0,c1,c2,c3,c4,c5,c6,c7,c8,c9,c10,c11,c12⟩:=h.c
 exact⟨⟨(hc _).trans c0,(hc _).trans c1,(hc _).trans c2,(hc _).trans c3,(hc _).trans c4,(hc _).trans c5,(hc _).trans c6,(hc _).trans c7,(hc _).trans c8,(hc _).trans c9,(hc _).trans c10,(hc _).trans c11,(hc _).trans c12⟩,fun j=>(hf j).trans (h.f j),Nlt h.lt hb.size⟩
theorem WP.at_ (h:WP W0 w p c S a) {k:Nat} (hk:k<S.T.length):∃tb cap v,a.tv= .slice (some ⟨tb,0,none⟩) S.T.length cap/\S.T.length<=cap/\a.TV[k]?=some (S.T[k].t,v)/\IRw w v S.T[k].n S.T[k].F/\TAt w tb (k*13) S.T[k].t v:=by
 obtain⟨v,h1,h2⟩:=h.bat k hk
 obtain⟨tb,cap,e,hl,hlt,hc,hf⟩:=h.thr.pos Zhf (by rw[h.len];omega)
 rw[h.len]at e hl
 have hx:=fun j u hj hu=>hc k j _ u h1 hj hu
 refine⟨tb,cap,v,e,hl,h1,h2,⟨⟨hx 0 _ (by decide) rfl,hx 1 _ (by decide) rfl,hx 2 _ (by decide) rfl,hx 3 _ (by decide) rfl,hx 4 _ (by decide) rfl,hx 5 _ (by decide) rfl,hx 6 _ (by decide) rfl,hx 7 _ (by decide) rfl,hx 8 _ (by decide) rfl,hx 9 _ (by decide) rfl,hx 10 _ (by decide) rfl,hx 11 _ (by decide) rfl,hx 12 _ (by decide) rfl⟩,hf,hlt⟩⟩
end
section
variable {W0 w w':World} {p:Nat} {c:Cfg} {S:WM} {a:WA}
theorem WP.step (h:WP W0 w p c S a) {g':Option Nat} {xs':List Int} {st':Int} {its':List Int} {cv':Value} {bs':List Bool} {G':Nat->Prop} (hM:MS W0 w' a.b g' (3+5*c.th) xs' st') (h0:0<=st') (hO:Z4j w' a.o c.ob c.cap c.pl its' a.cc cv' bs' a.bd G')
 (hk:Z01 (fun k=>Z18 a.b a.g k\/ObF a.o a.cc a.cv a.G k) w w') (hg:g'=a.g\/∃k,g'=some k/\w.heap.size<=k) (hG:∀k,ObF a.o a.cc cv' G' k->ObF a.o a.cc a.cv a.G k\/w.heap.size<=k) (hgo:∀k,g'=some k->¬ObF a.o a.cc cv' G' k):
 ∃tag',WP W0 w' p c {S with xs:=xs',its:=its'} {a with g:=g',st:=st',cv:=cv',bs:=bs',G:=G',tag:=tag'}/\(∀j,w.heap.size<=j->¬g'=some j->¬ObF a.o a.cc cv' G' j->tag' j=0)/\(∀j,j<w.heap.size->tag' j=a.tag j):=by
 classical
 have hn:∀k i,a.tag k=i->i≠0->i≠2->i≠3->¬(Z18 a.b a.g k\/ObF a.o a.cc a.cv a.G k):=fun k i e h0 h2 h3 f=>by
  rcases f with f|f
  ·exact h2 (e ▸ h.tm k f)
  ·exact h3 (e ▸ h.tob k f)
 let tag':Nat->Nat:=fun k=>if w.heap.size<=k then(if g'=some k then 2 else if ObF a.o a.cc cv' G' k then 3 else 0)else a.tag k
 have hlo:∀j,j<w.heap.size->tag' j=a.tag j:=fun j hj=>if_neg (by omega)
 have hlt:∀k i,a.tag k=i->i≠0->tag' k=i:=fun k i e hi=>(hlo k (h.ge k (by rw[e];exact hi)).2).trans e
 refine⟨tag',?_,fun j hj h1 h2=>by show(if _ then _ else _)=_;rw[if_pos hj,if_neg h1,if_neg h2],hlo⟩
 exact {
  blk:=(hk.block p h.lt (hn p 1 h.tp (by decide) (by decide) (by decide))).trans h.blk
  mem:=hM
  obj:=hO
  thr:=h.thr.kept hk (fun k e=>hn _ 4 (h.tt k e) (by decide) (by decide) (by decide))
  len:=h.len
  thn:=h.thn
  bat:=fun k hk2=>by
   obtain⟨v,h1,h2⟩:=h.bat k hk2
   exact⟨v,h1,Z04 h2 hk (fun j e=>hn _ _ (h.tb k _ v h1 j e) (by omega) (by omega) (by omega))⟩
  own:=h.own.kept hk (hn _ 5 h.tow (by decide) (by decide) (by decide))
  evr:=h.evr.kept hk (fun k e=>hn _ 6 (h.te k e) (by decide) (by decide) (by decide))
  lgr:=h.lgr.kept hk (fun k e=>hn _ 7 (h.tl k e) (by decide) (by decide) (by decide))
  lgm:=h.lgm
  pkr:=h.pkr.kept hk (fun k e=>hn _ 8 (h.tpk k e) (by decide) (by decide) (by decide))
  pkn:=h.pkn
  st0:=h0
  tp:=hlt _ _ h.tp (by decide)
  tm:=fun k e=>by
   rcases e with e|e
   ·exact hlt _ _ (h.tm k (.inl e)) (by decide)
   ·rcases hg with h1|⟨j,h1,h2⟩
    ·exact hlt _ _ (h.tm k (.inr (e.trans h1))) (by decide)
    ·have e2:k=j:=Option.some.inj (e.trans h1)
     show(if _ then _ else _)=_
     rw[if_pos (e2 ▸ h2),if_pos e.symm]
  tob:=fun k e=>by
   rcases hG k e with h1|h1
   ·exact hlt _ _ (h.tob k h1) (by decide)
   ·show(if _ then _ else _)=_
    rw[if_pos h1,if_neg (fun e2=>hgo k e2 e),if_pos e]
  tt:=fun k e=>hlt _ _ (h.tt k e) (by decide)
  tow:=hlt _ _ h.tow (by decide)
  te:=fun k e=>hlt _ _ (h.te k e) (by decide)
  tl:=fun k e=>hlt _ _ (h.tl k e) (by decide)
  tpk:=fun k e=>hlt _ _ (h.tpk k e) (by decide)
  tb:=fun k t v e j e2=>hlt _ _ (h.tb k t v e j e2) (by omega)
  ge:=fun k e=>by
   by_cases hkw:w.heap.size<=k
   ·refine⟨Nat.le_trans h.base hkw,?_⟩
    by_cases e1:g'=some k
    ·have:=hM;rw[e1]at this;exact this.mem.row_lt
    ·by_cases e2:ObF a.o a.cc cv' G' k
     ·exact hO.lt k e2
     ·exact absurd (show tag' k=0 from by show(if _ then _ else _)=_;rw[if_pos hkw,if_neg e1,if_neg e2]) e
   ·replace e:tag' k≠0:=e
    rw[hlo k (by omega)]at e
    exact⟨(h.ge k e).1,Nlt (h.ge k e).2 hk.size⟩}
theorem WP.setT (h:WP W0 w p c S a) {k tb cap n:Nat} (hk:k<S.T.length) (htv:a.tv= .slice (some ⟨tb,0,none⟩) n cap) (t':Th) (v':Value) (n':Nat) (F':Nat->Int) (hI:IRw w v' n' F') (hv:∀j,v'.ownBlock=some j->a.tag j=0/\W0.heap.size<=j):
 ∃tag',WP W0 (Z3n w tb (k*13) (thF (t',v'))) p c {S with T:=S.T.set k ⟨t',n',F'⟩} {a with TV:=a.TV.set k (t',v'),tag:=tag'}/\(∀j,j<w.heap.size->¬v'.ownBlock=some j->tag' j=a.tag j):=by
 classical
 have hkS:Z01 (fun j=>j=tb) w (Z3n w tb (k*13) (thF (t',v'))):=Z1c tb _ w _
 have hb4:a.tag tb=4:=h.tt tb (by rw[htv];rfl)
 have hn:∀j i,a.tag j=i->i≠4->¬j=tb:=fun j i e h4 f=>h4 (by rw[<-e,f];exact hb4)
 let tag':Nat->Nat:=fun j=>if v'.ownBlock=some j then 9+k else a.tag j
 have hlt:∀j i,a.tag j=i->i≠0->tag' j=i:=fun j i e hi=>by
  show(if _ then _ else _)=_
  rw[if_neg (fun e2=>hi (e ▸ (hv j e2).1))];exact e
 refine⟨tag',?_,fun j hj e=>if_neg e⟩
 exact {
  blk:=(hkS.block p h.lt (hn p 1 h.tp (by decide))).trans h.blk
  mem:=h.mem.kept hkS (h.mem.B.trans (hkS.below h.base (fun j hj e=>by have:=(h.ge tb (by rw[hb4];decide)).1;omega))) (hn _ 2 (h.tm _ (.inl rfl)) (by decide)) (fun j e=>hn _ 2 (h.tm _ (.inr e.symm)) (by decide))
  obj:=h.obj.kept hkS (fun j e=>hn _ 3 (h.tob j e) (by decide))
  thr:=by
   have:=h.thr
   rw[htv]at this |-
   exact this.setAt Zhf k (by rw[h.len];exact hk) (t',v')
  len:=by simpa using h.len
  thn:=by simpa using h.thn
  bat:=fun i hi=>by
   have xi2:i<S.T.length:=by simpa using hi
   by_cases e:k=i
   ·subst e
    refine⟨v',by simp[h.len,hk],?_⟩
    simp only[List.getElem_set_self]
    exact Z04 hI hkS (fun j e=>fun e2=>by have:=(hv j e).1;rw[e2,hb4]at this;omega)
   ·obtain⟨v,h1,h2⟩:=h.bat i xi2
    refine⟨v,by simp[e,h1],?_⟩
    simp only[List.getElem_set_ne e]
    exact Z04 h2 hkS (fun j e=>hn _ _ (h.tb i _ v h1 j e) (by omega))
  own:=h.own.kept hkS (hn _ 5 h.tow (by decide))
  evr:=h.evr.kept hkS (fun j e=>hn _ 6 (h.te j e) (by decide))
  lgr:=h.lgr.kept hkS (fun j e=>hn _ 7 (h.tl j e) (by decide))
  lgm:=h.lgm
  pkr:=h.pkr.kept hkS (fun j e=>hn _ 8 (h.tpk j e) (by decide))
  pkn:=h.pkn
  st0:=h.st0
  tp:=hlt _ _ h.tp (by decide)
  tm:=fun j e=>hlt _ _ (h.tm j e) (by decide)
  tob:=fun j e=>hlt _ _ (h.tob j e) (by decide)
  tt:=fun j e=>hlt _ _ (h.tt j e) (by decide)
  tow:=hlt _ _ h.tow (by decide)
  te:=fun j e=>hlt _ _ (h.te j e) (by decide)
  tl:=fun j e=>hlt _ _ (h.tl j e) (by decide)
  tpk:=fun j e=>hlt _ _ (h.tpk j e) (by decide)
  tb:=fun i t v e j e2=>by
   by_cases ei:k=i
   ·subst ei
    have:(t',v')=(t,v):=by simpa [h.len,hk]using e
    cases this
    exact if_pos e2
   ·exact hlt _ _ (h.tb i t v (by simpa [ei]using e) j e2) (by omega)
  ge:=fun j e=>by
   by_cases e1:v'.ownBlock=some j
   ·exact⟨(hv j e1).2,Nlt (World.ownsRow.lt hI j e1).2 hkS.size⟩
   ·have e3:a.tag j≠0:=by have:tag' j=a.tag j:=if_neg e1;rw[<-this];exact e
    exact⟨(h.ge j e3).1,Nlt (h.ge j e3).2 hkS.size⟩}
theorem Z44 {b j:Nat} {cs:Array Value} {t:TypeId} {x:Value} (h:w.heap[b]?=some (.cells cs t (0,0))):(w.setCell ⟨b,j,none⟩ x).heap[b]?=some (.cells (cs.setIfInBounds j x) t (0,0)):=Z00 h j x
theorem WP.addEv (h:WP W0 w p c S a) {w1:World} (v:Value) (e:Ev) (hr:Z1q evV 8 w1 92 v (S.ev++ [e])) (hk:Z01 (fun k=>a.ev.ownBlock=some k) w w1) (hv:∀k,v.ownBlock=some k->a.ev.ownBlock=some k\/w.heap.size<=k):
 ∃tag',WP W0 (w1.setCell ⟨p,10,none⟩ v) p c {S with ev:=S.ev++ [e]} {a with ev:=v,tag:=tag'}/\(∀j,j<w.heap.size->tag' j=a.tag j):=by
 classical
 have hn:∀j i,a.tag j=i->i≠6->¬a.ev.ownBlock=some j:=fun j i e h4 f=>h4 (e ▸ h.te j f)
 have hp1:=(hk.block p h.lt (hn p 1 h.tp (by decide))).trans h.blk
 have kS:=Z02 w1 ⟨p,10,none⟩ v
 have hK:Z01 (fun k=>a.ev.ownBlock=some k\/k=p) w (w1.setCell ⟨p,10,none⟩ v):=(hk.mono (fun _ _ e=>.inl e)).trans (kS.mono (fun _ _ e=>.inr e))
 have hm:∀j i,a.tag j=i->i≠6->i≠1->¬(a.ev.ownBlock=some j\/j=p):=fun j i e h4 h1 f=>f.elim (hn j i e h4) (fun e2=>h1 (by rw[<-e,e2];exact h.tp))
 let tag':Nat->Nat:=fun j=>if w.heap.size<=j then(if v.ownBlock=some j then 6 else 0)else a.tag j
 have hlo:∀j,j<w.heap.size->tag' j=a.tag j:=fun j hj=>if_neg (by omega)
 have hlt:∀j i,a.tag j=i->i≠0->tag' j=i:=fun j i e hi=>(hlo j (h.ge j (by rw[e];exact hi)).2).trans e
 have hvp:∀k,v.ownBlock=some k->¬k=p:=fun k e e2=>by
  rcases hv k e with h1|h1
  ·have:=h.te k h1;rw[e2,h.tp]at this;omega
  ·have:=h.lt;omega
 refine⟨tag',?_,hlo⟩
 exact {
  blk:=by rw[Z44 hp1];rfl
  mem:=h.mem.kept hK (h.mem.B.trans (hK.below h.base (fun j hj e=>by
   rcases e with e|e
   ·have:=(h.ge j (by rw[h.te j e];decide)).1;omega
   ·have:=(h.ge p (by rw[h.tp];decide)).1;omega))) (hm _ 2 (h.tm _ (.inl rfl)) (by decide) (by decide)) (fun j e=>hm _ 2 (h.tm _ (.inr e.symm)) (by decide) (by decide))
  obj:=h.obj.kept hK (fun j e=>hm _ 3 (h.tob j e) (by decide) (by decide))
  thr:=h.thr.kept hK (fun j e=>hm _ 4 (h.tt j e) (by decide) (by decide))
  len:=h.len
  thn:=h.thn
  bat:=fun i hi=>by
   obtain⟨v,h1,h2⟩:=h.bat i hi
   exact⟨v,h1,Z04 h2 hK (fun j e=>hm _ _ (h.tb i _ v h1 j e) (by omega) (by omega))⟩
  own:=h.own.kept hK (hm _ 5 h.tow (by decide) (by decide))
  st0:=h.st0
  tp:=hlt _ _ h.tp (by decide)
  tm:=fun j e=>hlt _ _ (h.tm j e) (by decide)
  tob:=fun j e=>hlt _ _ (h.tob j e) (by decide)
  tt:=fun j e=>hlt _ _ (h.tt j e) (by decide)
  tow:=hlt _ _ h.tow (by decide)
  tb:=fun i t v e j e2=>hlt _ _ (h.tb i t v e j e2) (by omega)
  evr:=hr.kept kS hvp
  te:=fun j e=>by
   rcases hv j e with h1|h1
   ·exact hlt _ _ (h.te j h1) (by decide)
   ·show(if _ then _ else _)=_
    rw[if_pos h1,if_pos e]
  lgr:=h.lgr.kept hK (fun j e=>hm _ 7 (h.tl j e) (by decide) (by decide))
  tl:=fun j e=>hlt _ _ (h.tl j e) (by decide)
  pkr:=h.pkr.kept hK (fun j e=>hm _ 8 (h.tpk j e) (by decide) (by decide))
  tpk:=fun j e=>hlt _ _ (h.tpk j e) (by decide)
  lgm:=h.lgm
  pkn:=h.pkn
  ge:=fun j e=>by
   by_cases hj:w.heap.size<=j
   ·refine⟨Nat.le_trans h.base hj,?_⟩
    by_cases e1:v.ownBlock=some j
    ·exact Nlt (hr.lt e1) kS.size
    ·exact absurd (show tag' j=0 from by show(if _ then _ else _)=_;rw[if_pos hj,if_neg e1]) e
   ·replace e:tag' j≠0:=e
    rw[hlo j (by omega)]at e
    exact⟨(h.ge j e).1,Nlt (h.ge j e).2 hK.size⟩}
theorem WP.addLg (h:WP W0 w p c S a) {w1:World} (v:Value) (e:Lg) (hr:Z1q lgV 7 w1 49 v (a.lg++ [e])) (hk:Z01 (fun k=>a.lv.ownBlock=some k) w w1) (hv:∀k,v.ownBlock=some k->a.lv.ownBlock=some k\/w.heap.size<=k):
 ∃tag',WP W0 (w1.setCell ⟨p,11,none⟩ v) p c {S with lg:=S.lg++ [((e.ok,e.ov),(e.rc,e.rv))]} {a with lv:=v,lg:=a.lg++ [e],tag:=tag'}/\(∀j,j<w.heap.size->tag' j=a.tag j):=by
 classical
 have hn:∀j i,a.tag j=i->i≠7->¬a.lv.ownBlock=some j:=fun j i e h4 f=>h4 (e ▸ h.tl j f)
 have hp1:=(hk.block p h.lt (hn p 1 h.tp (by decide))).trans h.blk
 have kS:=Z02 w1 ⟨p,11,none⟩ v
 have hK:Z01 (fun k=>a.lv.ownBlock=some k\/k=p) w (w1.setCell ⟨p,11,none⟩ v):=(hk.mono (fun _ _ e=>.inl e)).trans (kS.mono (fun _ _ e=>.inr e))
 have hm:∀j i,a.tag j=i->i≠7->i≠1->¬(a.lv.ownBlock=some j\/j=p):=fun j i e h4 h1 f=>f.elim (hn j i e h4) (fun e2=>h1 (by rw[<-e,e2];exact h.tp))
 let tag':Nat->Nat:=fun j=>if w.heap.size<=j then(if v.ownBlock=some j then 7 else 0)else a.tag j
 have hlo:∀j,j<w.heap.size->tag' j=a.tag j:=fun j hj=>if_neg (by omega)
 have hlt:∀j i,a.tag j=i->i≠0->tag' j=i:=fun j i e hi=>(hlo j (h.ge j (by rw[e];exact hi)).2).trans e
 have hvp:∀k,v.ownBlock=some k->¬k=p:=fun k e e2=>by
  rcases hv k e with h1|h1
  ·have:=h.tl k h1;rw[e2,h.tp]at this;omega
  ·have:=h.lt;omega
 refine⟨tag',?_,hlo⟩
 exact {
  blk:=by rw[Z44 hp1];rfl
  mem:=h.mem.kept hK (h.mem.B.trans (hK.below h.base (fun j hj e=>by
   rcases e with e|e
   ·have:=(h.ge j (by rw[h.tl j e];decide)).1;omega
   ·have:=(h.ge p (by rw[h.tp];decide)).1;omega))) (hm _ 2 (h.tm _ (.inl rfl)) (by decide) (by decide)) (fun j e=>hm _ 2 (h.tm _ (.inr e.symm)) (by decide) (by decide))
  obj:=h.obj.kept hK (fun j e=>hm _ 3 (h.tob j e) (by decide) (by decide))
  thr:=h.thr.kept hK (fun j e=>hm _ 4 (h.tt j e) (by decide) (by decide))
  len:=h.len
  thn:=h.thn
  bat:=fun i hi=>by
   obtain⟨v,h1,h2⟩:=h.bat i hi
   exact⟨v,h1,Z04 h2 hK (fun j e=>hm _ _ (h.tb i _ v h1 j e) (by omega) (by omega))⟩
  own:=h.own.kept hK (hm _ 5 h.tow (by decide) (by decide))
  st0:=h.st0
  tp:=hlt _ _ h.tp (by decide)
  tm:=fun j e=>hlt _ _ (h.tm j e) (by decide)
  tob:=fun j e=>hlt _ _ (h.tob j e) (by decide)
  tt:=fun j e=>hlt _ _ (h.tt j e) (by decide)
  tow:=hlt _ _ h.tow (by decide)
  tb:=fun i t v e j e2=>hlt _ _ (h.tb i t v e j e2) (by omega)
  evr:=h.evr.kept hK (fun j e=>hm _ 6 (h.te j e) (by decide) (by decide))
  te:=fun j e=>hlt _ _ (h.te j e) (by decide)
  lgr:=hr.kept kS hvp
  tl:=fun j e=>by
   rcases hv j e with h1|h1
   ·exact hlt _ _ (h.tl j h1) (by decide)
   ·show(if _ then _ else _)=_
    rw[if_pos h1,if_pos e]
  pkr:=h.pkr.kept hK (fun j e=>hm _ 8 (h.tpk j e) (by decide) (by decide))
  tpk:=fun j e=>hlt _ _ (h.tpk j e) (by decide)
  lgm:=by simp[h.lgm]
  pkn:=h.pkn
  ge:=fun j e=>by
   by_cases hj:w.heap.size<=j
   ·refine⟨Nat.le_trans h.base hj,?_⟩
    by_cases e1:v.ownBlock=some j
    ·exact Nlt (hr.lt e1) kS.size
    ·exact absurd (show tag' j=0 from by show(if _ then _ else _)=_;rw[if_pos hj,if_neg e1]) e
   ·replace e:tag' j≠0:=e
    rw[hlo j (by omega)]at e
    exact⟨(h.ge j e).1,Nlt (h.ge j e).2 hK.size⟩}
theorem WP.addPk (h:WP W0 w p c S a) {w1:World} (v:Value) (e:Int) (hr:Z1j w1 v (a.pk++ [e])) (hk:Z01 (fun k=>a.pv.ownBlock=some k) w w1) (hv:∀k,v.ownBlock=some k->a.pv.ownBlock=some k\/w.heap.size<=k):
 ∃tag',WP W0 (w1.setCell ⟨p,12,none⟩ v) p c {S with n:=S.n+1} {a with pv:=v,pk:=a.pk++ [e],tag:=tag'}/\(∀j,j<w.heap.size->tag' j=a.tag j):=by
 classical
 have hn:∀j i,a.tag j=i->i≠8->¬a.pv.ownBlock=some j:=fun j i e h4 f=>h4 (e ▸ h.tpk j f)
 have hp1:=(hk.block p h.lt (hn p 1 h.tp (by decide))).trans h.blk
 have kS:=Z02 w1 ⟨p,12,none⟩ v
 have hK:Z01 (fun k=>a.pv.ownBlock=some k\/k=p) w (w1.setCell ⟨p,12,none⟩ v):=(hk.mono (fun _ _ e=>.inl e)).trans (kS.mono (fun _ _ e=>.inr e))
 have hm:∀j i,a.tag j=i->i≠8->i≠1->¬(a.pv.ownBlock=some j\/j=p):=fun j i e h4 h1 f=>f.elim (hn j i e h4) (fun e2=>h1 (by rw[<-e,e2];exact h.tp))
 let tag':Nat->Nat:=fun j=>if w.heap.size<=j then(if v.ownBlock=some j then 8 else 0)else a.tag j
 have hlo:∀j,j<w.heap.size->tag' j=a.tag j:=fun j hj=>if_neg (by omega)
 have hlt:∀j i,a.tag j=i->i≠0->tag' j=i:=fun j i e hi=>(hlo j (h.ge j (by rw[e];exact hi)).2).trans e
 have hvp:∀k,v.ownBlock=some k->¬k=p:=fun k e e2=>by
  rcases hv k e with h1|h1
  ·have:=h.tpk k h1;rw[e2,h.tp]at this;omega
  ·have:=h.lt;omega
 refine⟨tag',?_,hlo⟩
 exact {
  blk:=by rw[Z44 hp1];rfl
  mem:=h.mem.kept hK (h.mem.B.trans (hK.below h.base (fun j hj e=>by
   rcases e with e|e
   ·have:=(h.ge j (by rw[h.tpk j e];decide)).1;omega
   ·have:=(h.ge p (by rw[h.tp];decide)).1;omega))) (hm _ 2 (h.tm _ (.inl rfl)) (by decide) (by decide)) (fun j e=>hm _ 2 (h.tm _ (.inr e.symm)) (by decide) (by decide))
  obj:=h.obj.kept hK (fun j e=>hm _ 3 (h.tob j e) (by decide) (by decide))
  thr:=h.thr.kept hK (fun j e=>hm _ 4 (h.tt j e) (by decide) (by decide))
  len:=h.len
  thn:=h.thn
  bat:=fun i hi=>by
   obtain⟨v,h1,h2⟩:=h.bat i hi
   exact⟨v,h1,Z04 h2 hK (fun j e=>hm _ _ (h.tb i _ v h1 j e) (by omega) (by omega))⟩
  own:=h.own.kept hK (hm _ 5 h.tow (by decide) (by decide))
  st0:=h.st0
  tp:=hlt _ _ h.tp (by decide)
  tm:=fun j e=>hlt _ _ (h.tm j e) (by decide)
  tob:=fun j e=>hlt _ _ (h.tob j e) (by decide)
  tt:=fun j e=>hlt _ _ (h.tt j e) (by decide)
  tow:=hlt _ _ h.tow (by decide)
  tb:=fun i t v e j e2=>hlt _ _ (h.tb i t v e j e2) (by omega)
  evr:=h.evr.kept hK (fun j e=>hm _ 6 (h.te j e) (by decide) (by decide))
  te:=fun j e=>hlt _ _ (h.te j e) (by decide)
  lgr:=h.lgr.kept hK (fun j e=>hm _ 7 (h.tl j e) (by decide) (by decide))
  tl:=fun j e=>hlt _ _ (h.tl j e) (by decide)
  pkr:=hr.kept kS hvp
  tpk:=fun j e=>by
   rcases hv j e with h1|h1
   ·exact hlt _ _ (h.tpk j h1) (by decide)
   ·show(if _ then _ else _)=_
    rw[if_pos h1,if_pos e]
  lgm:=h.lgm
  pkn:=by simp[h.pkn]
  ge:=fun j e=>by
   by_cases hj:w.heap.size<=j
   ·refine⟨Nat.le_trans h.base hj,?_⟩
    by_cases e1:v.ownBlock=some j
    ·exact Nlt (hr.lt e1) kS.size
    ·exact absurd (show tag' j=0 from by show(if _ then _ else _)=_;rw[if_pos hj,if_neg e1]) e
   ·replace e:tag' j≠0:=e
    rw[hlo j (by omega)]at e
    exact⟨(h.ge j e).1,Nlt (h.ge j e).2 hK.size⟩}
theorem WP.setB (h:WP W0 w p c S a) (x:Int):WP W0 (w.setCell ⟨p,13,none⟩ (.int .i64 x)) p c S {a with btc:=x}:=by
 have hn:∀j i,a.tag j=i->i≠1->¬j=p:=fun j i e h1 f=>h1 (by rw[<-e,f];exact h.tp)
 have hK:=Z02 w ⟨p,13,none⟩ (.int .i64 x)
 exact {
  blk:=by rw[Z44 h.blk];rfl
  mem:=h.mem.kept hK (h.mem.B.trans (hK.below h.base (fun j hj e=>by have:=(h.ge p (by rw[h.tp];decide)).1;have e2:j=p:=e;omega))) (hn _ 2 (h.tm _ (.inl rfl)) (by decide)) (fun j e=>hn _ 2 (h.tm _ (.inr e.symm)) (by decide))
  obj:=h.obj.kept hK (fun j e=>hn _ 3 (h.tob j e) (by decide))
  thr:=h.thr.kept hK (fun j e=>hn _ 4 (h.tt j e) (by decide))
  len:=h.len
  thn:=h.thn
  bat:=fun i hi=>by
   obtain⟨v,h1,h2⟩:=h.bat i hi
   exact⟨v,h1,Z04 h2 hK (fun j e=>hn _ _ (h.tb i _ v h1 j e) (by omega))⟩
  own:=h.own.kept hK (hn _ 5 h.tow (by decide))
  evr:=h.evr.kept hK (fun j e=>hn _ 6 (h.te j e) (by decide))
  lgr:=h.lgr.kept hK (fun j e=>hn _ 7 (h.tl j e) (by decide))
  lgm:=h.lgm
  pkr:=h.pkr.kept hK (fun j e=>hn _ 8 (h.tpk j e) (by decide))
  pkn:=h.pkn
  st0:=h.st0
  tp:=h.tp
  tm:=h.tm
  tob:=h.tob
  tt:=h.tt
  tow:=h.tow
  te:=h.te
  tl:=h.tl
  tpk:=h.tpk
  tb:=h.tb
  ge:=fun j e=>⟨(h.ge j e).1,Nlt (h.ge j e).2 hK.size⟩}
theorem WP.setOwn (h:WP W0 w p c S a) (hK:Z01 (fun k=>k=a.mo) w w') (ho:Zhd w' a.mo c.th):WP W0 w' p c S a:=by
 have hn:∀j i,a.tag j=i->i≠5->¬j=a.mo:=fun j i e h1 f=>h1 (by rw[<-e,f];exact h.tow)
 exact {h with
  blk:=(hK.block p h.lt (hn p 1 h.tp (by decide))).trans h.blk
  mem:=h.mem.kept hK (h.mem.B.trans (hK.below h.base (fun j hj e=>by have:=(h.ge a.mo (by rw[h.tow];decide)).1;omega))) (hn _ 2 (h.tm _ (.inl rfl)) (by decide)) (fun j e=>hn _ 2 (h.tm _ (.inr e.symm)) (by decide))
  obj:=h.obj.kept hK (fun j e=>hn _ 3 (h.tob j e) (by decide))
  thr:=h.thr.kept hK (fun j e=>hn _ 4 (h.tt j e) (by decide))
  bat:=fun i hi=>by
   obtain⟨v,h1,h2⟩:=h.bat i hi
   exact⟨v,h1,Z04 h2 hK (fun j e=>hn _ _ (h.tb i _ v h1 j e) (by omega))⟩
  own:=ho
  evr:=h.evr.kept hK (fun j e=>hn _ 6 (h.te j e) (by decide))
  lgr:=h.lgr.kept hK (fun j e=>hn _ 7 (h.tl j e) (by decide))
  pkr:=h.pkr.kept hK (fun j e=>hn _ 8 (h.tpk j e) (by decide))
  ge:=fun j e=>⟨(h.ge j e).1,Nlt (h.ge j e).2 hK.size⟩}
end
section
variable {W0 w:World} {p:Nat} {c:Cfg} {S:WM} {a:WA}
theorem Zal (h:WP W0 w p c S a) (k:Int) (h1:k<0):
 Calls Tryz.prog 60 #[.pointer (some ⟨p,0,none⟩),.int .i64 k] w fun e w'=>e= .returned (.pointer none)/\Below w.heap.size w w':=by
 obtain⟨⟨c0,c1,c2,c3,c4,c5,c6,c7,c8,c9,c10,c11,c12,c13⟩,cf,cz⟩:=h.open
 obtain⟨ao,cap0,hs⟩:=h.thr.shape
 rw[h.len]at hs
 obtain⟨n,hn⟩:∃n,S.T.length=n:=⟨_,rfl⟩
 rw[hn]at hs
 rw[hs]at c8
 clear hs hn h cf c0 c1 c2 c3 c4 c5 c6 c7 c9 c10 c11 c12 c13
 have hd:decide (k<0)=true:=decide_eq_true h1
 go_enter Tryz.func60,Tryz.ntmps60
 go_wp2
 go_ret
 exact⟨rfl,by first|exact Brf _ _|exact(Brf _ _).drew⟩
theorem Zam (h:WP W0 w p c S a) (k:Int) (h0:0<=k) (h1:(S.T.length:Int)<=k):
 Calls Tryz.prog 60 #[.pointer (some ⟨p,0,none⟩),.int .i64 k] w fun e w'=>e= .returned (.pointer none)/\Below w.heap.size w w':=by
 obtain⟨⟨c0,c1,c2,c3,c4,c5,c6,c7,c8,c9,c10,c11,c12,c13⟩,cf,cz⟩:=h.open
 obtain⟨ao,cap0,hs⟩:=h.thr.shape
 rw[h.len]at hs
 obtain⟨n,hn⟩:∃n,S.T.length=n:=⟨_,rfl⟩
 rw[hn]at hs h1
 rw[hs]at c8
 clear hs hn h cf c0 c1 c2 c3 c4 c5 c6 c7 c9 c10 c11 c12 c13
 have hd:decide (k<0)=false:=decide_eq_false (by omega)
 have hd2:decide ((n:Int)<=k)=true:=decide_eq_true (by omega)
 go_enter Tryz.func60,Tryz.ntmps60
 go_wp2
 go_ret
 exact⟨rfl,by first|exact Brf _ _|exact(Brf _ _).drew⟩
theorem Z6t (h:WP W0 w p c S a) (k:Int) (tb cap:Nat) (i:Nat) (hi:k=(i:Int)) (h1:i<S.T.length) (htv:a.tv= .slice (some ⟨tb,0,none⟩) S.T.length cap):
 Calls Tryz.prog 60 #[.pointer (some ⟨p,0,none⟩),.int .i64 k] w fun e w'=>e= .returned (.pointer (some ⟨tb,i*13,none⟩))/\Below w.heap.size w w':=by
 obtain⟨⟨c0,c1,c2,c3,c4,c5,c6,c7,c8,c9,c10,c11,c12,c13⟩,cf,cz⟩:=h.open
 obtain⟨ao,cap0,hs⟩:=h.thr.shape
 rw[h.len]at hs
 obtain⟨n,hn⟩:∃n,S.T.length=n:=⟨_,rfl⟩
 rw[hn]at hs h1 htv
 rw[htv]at c8
 clear hs htv hn h cf c0 c1 c2 c3 c4 c5 c6 c7 c9 c10 c11 c12 c13
 subst hi
 have hd:decide ((i:Int)<0)=false:=decide_eq_false (by omega)
 have h1i:(i:Int)<(n:Int):=by omega
 have hd2:decide ((n:Int)<=(i:Int))=false:=decide_eq_false (by omega)
 have yi:(0:Int)<=(i:Int):=by omega
 go_enter Tryz.func60,Tryz.ntmps60
 go_wp2
 go_ret
 exact⟨rfl,by first|exact Brf _ _|exact(Brf _ _).drew⟩
end
section
variable {W0 w w':World} {p:Nat} {c:Cfg} {S:WM} {a:WA}
theorem Z18.tag (h:WP W0 w p c S a) {j i:Nat} (e:a.tag j=i) (hi:i≠2):¬Z18 a.b a.g j:=fun f=>hi (by rw[<-e];exact h.tm j f)
theorem WP.atq (h:WP W0 w p c S a) {k tb q n0 cap n:Nat} {t:Th} {F:Nat->Int} (hk:S.T[k]?=some ⟨t,n,F⟩) (hq:k*13=q) (htv:a.tv= .slice (some ⟨tb,0,none⟩) n0 cap):∃v,a.TV[k]?=some (t,v)/\IRw w v n F/\TAt w tb q t v/\k<S.T.length:=by
 obtain⟨hl,he⟩:=List.getElem?_eq_some_iff.1 hk
 obtain⟨tb',cap',v,e1,-,hv,hI,hT⟩:=h.at_ hl
 rw[htv]at e1
 cases e1
 rw[hq]at hT
 rw[he]at hv hI hT
 exact⟨v,hv,hI,hT,hl⟩
end
theorem Zkb {W0 w:World} {p:Nat} {c:Cfg} {S:WM} {a:WA} (h:WP W0 w p c S a) (k tb q n0 cap n:Nat) (t:Th) (F:Nat->Int) (hk:S.T[k]?=some ⟨t,n,F⟩) (hq:k*13=q) (htv:a.tv= .slice (some ⟨tb,0,none⟩) n0 cap) (h1:40<=t.i1) (h2:t.i1<=48)
 (hr: -9223372036854775808<=t.i6/\t.i6<=9223372036854775807) (hn:n<=900000) (s1:a.st<900000):
 Calls Tryz.prog 67 #[.pointer (some ⟨p,0,none⟩),.pointer (some ⟨tb,q,none⟩)] w fun e w'=>e= .returned (.tuple #[])/\∃a',WP W0 w' p c {S with xs:=swX S.xs t,T:=S.T.set k ⟨swT S.xs c.age t,n,F⟩} a'/\a'.st<=a.st+1:=by
 obtain⟨v,hv,hI,hT,hl⟩:=h.atq hk hq htv
 obtain⟨ao,cp,rfl⟩:=Z03 hI
 obtain⟨⟨c0,c1,c2,c3,c4,c5,c6,c7,c8,c9,c10,c11,c12,c13⟩,cf,cz⟩:=h.open
 obtain⟨t0,t1,t2,t3,t4,t5,t6,t7,t8,t9,t10,t11,t12⟩:=hT.c
 have hf:=hT.f
 have tz:=hT.lt
 have H:=hi7 h hT hI htv hv hl hq
 have f0:=hf q
 have f1:=hf (q+1);have f2:=hf (q+2);have f3:=hf (q+3);have f4:=hf (q+4);have f5:=hf (q+5);have f6:=hf (q+6);have f7:=hf (q+7);have f8:=hf (q+8);have f9:=hf (q+9);have f10:=hf (q+10);have f11:=hf (q+11);have f12:=hf (q+12)
 have cS:=Znf W0 w.drew a.b a.g (3+5*c.th) a.st S.xs t (.slice ao n cp) n F c.age (h.mem.below (Brf _ _).drew) (hI.below (Brf _ _).drew).its (by omega) h.st0 (by omega) hr h1 h2
 obtain⟨t',ht'⟩:∃t',swT S.xs c.age t=t':=⟨_,rfl⟩
 rw[ht']at cS |-
 unfold thV at cS
 have CS:=Hd cS
 clear h hT hI htv hv hk hl hq hf cS ht'
 go_enter Tryz.func67,Tryz.ntmps67
 go_wp2_with fail
 go_region_law (first|(go_simp;go_at_call 79;refine Go.Calls.mono CS.out ?_;rintro e w6 ⟨bt6,rfl,m6,i6,o6,k6⟩;obtain⟨ao6,cp6,rfl⟩:=Z03 i6;have H6:=hi4 m6 i6 o6 k6;have T6:=H.out.2.1.kept (Z01.trans (Z01.refl _ w).drew k6) (Z18.tag H.out.1 (H.out.1.tt tb (by rw[H.out.2.2.2.1];rfl)) (by decide));obtain⟨s0,s1,s2,s3,s4,s5,s6,s7,s8,s9,s10,s11,s12⟩:=T6.c;have hg:=T6.f;have g0:=hg q;have g1:=hg (q+1);have g2:=hg (q+2);have g3:=hg (q+3);have g4:=hg (q+4);have g5:=hg (q+5);have g6:=hg (q+6);have g7:=hg (q+7);have g8:=hg (q+8);have g9:=hg (q+9);have g10:=hg (q+10);have g11:=hg (q+11);have g12:=hg (q+12);have sz:=T6.lt;clear T6 hg m6 i6 o6 k6))
 all_goals
  go_wp2
  go_end0
  have h0:=H.out.1
  have K6:Z01 (fun k=>Z18 a.b a.g k\/ObF a.o a.cc a.cv a.G k) w w6:=(Z01.trans (Z01.refl _ w).drew H6.out.2.2.2).mono (fun _ _ e=>.inl e)
  have hc:=Zne S.xs t
  have hst:=h0.st0
  have hO6:=h0.obj.kept (Z01.trans (Z01.refl _ w).drew H6.out.2.2.2) (fun k e=>Z18.tag h0 (h0.tob k e) (by decide))
  obtain⟨tag1,P1,hn1,hl1⟩:=h0.step H6.out.1 (by omega) hO6 K6 (.inl rfl) (fun k e=>.inl e) (fun k e e2=>by have e3:=h0.tm k (.inr e.symm);rw[h0.tob k e2]at e3;omega)
  obtain⟨tag2,P2,-⟩:=P1.setT (k:=k) H.out.2.2.2.2.2.1 H.out.2.2.2.1 t' _ n F H6.out.2.1 (fun j e=>by
   have hj:=H6.out.2.2.1 j e
   refine⟨hn1 j hj (fun e2=>?_) (fun e2=>?_),Nat.le_trans h0.base hj⟩
   ·have:=(h0.ge j (by rw[h0.tm j (.inr e2.symm)];decide)).2;have e3:w.drew.heap.size=w.heap.size:=rfl;omega
   ·have:=(h0.ge j (by rw[h0.tob j e2];decide)).2;have e3:w.drew.heap.size=w.heap.size:=rfl;omega)
  rw[H.out.2.2.2.2.2.2]at P2
  exact⟨rfl,_,P2,by show a.st+_<=a.st+1;omega⟩
def inB (n m:Int):Bool:=decide (1<=n/\n<=m)
def Z0e (c:Cfg):Bool:=inB c.ob 3 && (inB c.th 64 && (inB c.cap 1000 && (inB c.age 1000 && inB c.ps 1000)))
theorem Ze6 (w:World) (n m:Int):Calls Tryz.prog 29 #[.int .u8 n,.int .u8 m] w fun e w'=>e= .returned (.bool (inB n m))/\w=w':=by
 by_cases h1:1<=n
 ·by_cases h2:n<=m
  ·have e:inB n m=true:=decide_eq_true ⟨h1,h2⟩
   rw[e]
   go_enter Tryz.func29,Tryz.ntmps29
   go_wp2
   go_ret
   exact⟨by first|rfl|(simp;done)|(simp;omega),rfl⟩
  ·have e:inB n m=false:=decide_eq_false (fun h=>h2 h.2)
   have h2':m<n:=by omega
   rw[e]
   clear h2
   go_enter Tryz.func29,Tryz.ntmps29
   go_wp2
   go_ret
   exact⟨by first|rfl|(simp;done)|(simp;omega),rfl⟩
 ·have e:inB n m=false:=decide_eq_false (fun h=>h1 h.1)
  have h1':n<1:=by omega
  rw[e]
  clear h1
  go_enter Tryz.func29,Tryz.ntmps29
  go_wp2
  go_ret
  exact⟨by first|rfl|(simp;done)|(simp;omega),rfl⟩
theorem Z30 (w:World) (n m:Int):Calls Tryz.prog 30 #[.int .i64 n,.int .i64 m] w fun e w'=>e= .returned (.bool (inB n m))/\w=w':=by
 by_cases h1:1<=n
 ·by_cases h2:n<=m
  ·have e:inB n m=true:=decide_eq_true ⟨h1,h2⟩
   rw[e]
   go_enter Tryz.func30,Tryz.ntmps30
   go_wp2
   go_ret
   exact⟨by first|rfl|(simp;done)|(simp;omega),rfl⟩
  ·have e:inB n m=false:=decide_eq_false (fun h=>h2 h.2)
   have h2':m<n:=by omega
   rw[e]
   clear h2
   go_enter Tryz.func30,Tryz.ntmps30
   go_wp2
   go_ret
   exact⟨by first|rfl|(simp;done)|(simp;omega),rfl⟩
 ·have e:inB n m=false:=decide_eq_false (fun h=>h1 h.1)
  have h1':n<1:=by omega
  rw[e]
  clear h1
  go_enter Tryz.func30,Tryz.ntmps30
  go_wp2
  go_ret
  exact⟨by first|rfl|(simp;done)|(simp;omega),rfl⟩
theorem Z94 (w:World) (c:Cfg):Calls Tryz.prog 16 #[.agg #[.int .u8 c.ob,.int .i64 c.th,.int .i64 c.cap,.int .i64 c.age,.int .i64 c.ps,.bool c.pl]] w fun e w'=>e= .returned (.int .u16 (if Z0e c=true then 0 else 1))/\Below w.heap.size w w':=by
 cases h0:inB c.ob 3 with
 |false=>
  have e:Z0e c=false:=by unfold Z0e;rw[h0];rfl
  rw[e]
  have H0:=Hd h0
  clear e h0
  go_enter Tryz.func16,Tryz.ntmps16
  go_wp2_with fail
  refine(Ze6 _ c.ob 3).mono ?_
  rintro e w' ⟨rfl,rfl⟩
  rw[H0.out]
  go_wp2
  go_ret
  exact⟨by first|rfl|simp,by go_grown⟩
 |true=>
  have H0:=Hd h0
  clear h0
  cases h1:inB c.th 64 with
  |false=>
   have e:Z0e c=false:=by unfold Z0e;rw[H0.out,h1];rfl
   rw[e]
   have H1:=Hd h1
   clear e h1
   go_enter Tryz.func16,Tryz.ntmps16
   go_wp2_with fail
   refine(Ze6 _ c.ob 3).mono ?_
   rintro e w' ⟨rfl,rfl⟩
   rw[H0.out]
   go_wp2_with fail
   refine(Z30 _ c.th 64).mono ?_
   rintro e w' ⟨rfl,rfl⟩
   rw[H1.out]
   go_wp2
   go_ret
   exact⟨by first|rfl|simp,by go_grown⟩
  |true=>
   have H1:=Hd h1
   clear h1
   cases h2:inB c.cap 1000 with
   |false=>
    have e:Z0e c=false:=by unfold Z0e;rw[H0.out,H1.out,h2];rfl
    rw[e]
    have H2:=Hd h2
    clear e h2
    go_enter Tryz.func16,Tryz.ntmps16
    go_wp2_with fail
    refine(Ze6 _ c.ob 3).mono ?_
    rintro e w' ⟨rfl,rfl⟩
    rw[H0.out]
    go_wp2_with fail
    refine(Z30 _ c.th 64).mono ?_
    rintro e w' ⟨rfl,rfl⟩
    rw[H1.out]
    go_wp2_with fail
    refine(Z30 _ c.cap 1000).mono ?_
    rintro e w' ⟨rfl,rfl⟩
    rw[H2.out]
    go_wp2
    go_ret
    exact⟨by first|rfl|simp,by go_grown⟩
   |true=>
    have H2:=Hd h2
    clear h2
    cases h3:inB c.age 1000 with
    |false=>
     have e:Z0e c=false:=by unfold Z0e;rw[H0.out,H1.out,H2.out,h3];rfl
     rw[e]
     have H3:=Hd h3
     clear e h3
     go_enter Tryz.func16,Tryz.ntmps16
     go_wp2_with fail
     refine(Ze6 _ c.ob 3).mono ?_
     rintro e w' ⟨rfl,rfl⟩
     rw[H0.out]
     go_wp2_with fail
     refine(Z30 _ c.th 64).mono ?_
     rintro e w' ⟨rfl,rfl⟩
     rw[H1.out]
     go_wp2_with fail
     refine(Z30 _ c.cap 1000).mono ?_
     rintro e w' ⟨rfl,rfl⟩
     rw[H2.out]
     go_wp2_with fail
     refine(Z30 _ c.age 1000).mono ?_
     rintro e w' ⟨rfl,rfl⟩
     rw[H3.out]
     go_wp2
     go_ret
     exact⟨by first|rfl|simp,by go_grown⟩
    |true=>
     have H3:=Hd h3
     clear h3
     cases h4:inB c.ps 1000 with
     |false=>
      have e:Z0e c=false:=by unfold Z0e;rw[H0.out,H1.out,H2.out,H3.out,h4];rfl
      rw[e]
      have H4:=Hd h4
      clear e h4
      go_enter Tryz.func16,Tryz.ntmps16
      go_wp2_with fail
      refine(Ze6 _ c.ob 3).mono ?_
      rintro e w' ⟨rfl,rfl⟩
      rw[H0.out]
      go_wp2_with fail
      refine(Z30 _ c.th 64).mono ?_
      rintro e w' ⟨rfl,rfl⟩
      rw[H1.out]
      go_wp2_with fail
      refine(Z30 _ c.cap 1000).mono ?_
      rintro e w' ⟨rfl,rfl⟩
      rw[H2.out]
      go_wp2_with fail
      refine(Z30 _ c.age 1000).mono ?_
      rintro e w' ⟨rfl,rfl⟩
      rw[H3.out]
      go_wp2_with fail
      refine(Z30 _ c.ps 1000).mono ?_
      rintro e w' ⟨rfl,rfl⟩
      rw[H4.out]
      go_wp2
      go_ret
      exact⟨by first|rfl|simp,by go_grown⟩
     |true=>
      have H4:=Hd h4
      have e:Z0e c=true:=by unfold Z0e;rw[H0.out,H1.out,H2.out,H3.out,H4.out];rfl
      rw[e]
      clear e h4
      go_enter Tryz.func16,Tryz.ntmps16
      go_wp2_with fail
      refine(Ze6 _ c.ob 3).mono ?_
      rintro e w' ⟨rfl,rfl⟩
      rw[H0.out]
      go_wp2_with fail
      refine(Z30 _ c.th 64).mono ?_
      rintro e w' ⟨rfl,rfl⟩
      rw[H1.out]
      go_wp2_with fail
      refine(Z30 _ c.cap 1000).mono ?_
      rintro e w' ⟨rfl,rfl⟩
      rw[H2.out]
      go_wp2_with fail
      refine(Z30 _ c.age 1000).mono ?_
      rintro e w' ⟨rfl,rfl⟩
      rw[H3.out]
      go_wp2_with fail
      refine(Z30 _ c.ps 1000).mono ?_
      rintro e w' ⟨rfl,rfl⟩
      rw[H4.out]
      go_wp2
      go_ret
      exact⟨by first|rfl|simp,by go_grown⟩
theorem Ze7 (w:World) (c:Cfg):Calls Tryz.prog 11 #[.agg #[.int .u8 c.ob,.int .i64 c.th,.int .i64 c.cap,.int .i64 c.age,.int .i64 c.ps,.bool c.pl]] w fun e w'=>e= .returned (.int .i64 (if Z0e c=true then 0 else 1))/\Below w.heap.size w w':=by
 by_cases h0:c.ob<1
 ·have e:Z0e c=false:=by cases hh:Z0e c with
   |false=>rfl
   |true=>simp only[Z0e,inB,Bool.and_eq_true,decide_eq_true_eq]at hh;omega
  rw[e]
  clear e
  go_enter Tryz.func11,Tryz.ntmps11
  go_wp2
  go_ret
  exact⟨by first|rfl|simp,by go_grown⟩
 ·have g0:¬c.ob<1:=h0
  by_cases h1:3<c.ob
  ·have e:Z0e c=false:=by cases hh:Z0e c with
    |false=>rfl
    |true=>simp only[Z0e,inB,Bool.and_eq_true,decide_eq_true_eq]at hh;omega
   rw[e]
   clear e
   go_enter Tryz.func11,Tryz.ntmps11
   go_wp2
   go_ret
   exact⟨by first|rfl|simp,by go_grown⟩
  ·have g1:¬3<c.ob:=h1
   by_cases h2:c.th<1
   ·have e:Z0e c=false:=by cases hh:Z0e c with
     |false=>rfl
     |true=>simp only[Z0e,inB,Bool.and_eq_true,decide_eq_true_eq]at hh;omega
    rw[e]
    clear e
    go_enter Tryz.func11,Tryz.ntmps11
    go_wp2
    go_ret
    exact⟨by first|rfl|simp,by go_grown⟩
   ·have g2:¬c.th<1:=h2
    by_cases h3:64<c.th
    ·have e:Z0e c=false:=by cases hh:Z0e c with
      |false=>rfl
      |true=>simp only[Z0e,inB,Bool.and_eq_true,decide_eq_true_eq]at hh;omega
     rw[e]
     clear e
     go_enter Tryz.func11,Tryz.ntmps11
     go_wp2
     go_ret
     exact⟨by first|rfl|simp,by go_grown⟩
    ·have g3:¬64<c.th:=h3
     by_cases h4:c.cap<1
     ·have e:Z0e c=false:=by cases hh:Z0e c with
       |false=>rfl
       |true=>simp only[Z0e,inB,Bool.and_eq_true,decide_eq_true_eq]at hh;omega
      rw[e]
      clear e
      go_enter Tryz.func11,Tryz.ntmps11
      go_wp2
      go_ret
      exact⟨by first|rfl|simp,by go_grown⟩
     ·have g4:¬c.cap<1:=h4
      by_cases h5:1000<c.cap
      ·have e:Z0e c=false:=by cases hh:Z0e c with
        |false=>rfl
        |true=>simp only[Z0e,inB,Bool.and_eq_true,decide_eq_true_eq]at hh;omega
       rw[e]
       clear e
       go_enter Tryz.func11,Tryz.ntmps11
       go_wp2
       go_ret
       exact⟨by first|rfl|simp,by go_grown⟩
      ·have g5:¬1000<c.cap:=h5
       by_cases h6:c.age<1
       ·have e:Z0e c=false:=by cases hh:Z0e c with
         |false=>rfl
         |true=>simp only[Z0e,inB,Bool.and_eq_true,decide_eq_true_eq]at hh;omega
        rw[e]
        clear e
        go_enter Tryz.func11,Tryz.ntmps11
        go_wp2
        go_ret
        exact⟨by first|rfl|simp,by go_grown⟩
       ·have g6:¬c.age<1:=h6
        by_cases h7:1000<c.age
        ·have e:Z0e c=false:=by cases hh:Z0e c with
          |false=>rfl
          |true=>simp only[Z0e,inB,Bool.and_eq_true,decide_eq_true_eq]at hh;omega
         rw[e]
         clear e
         go_enter Tryz.func11,Tryz.ntmps11
         go_wp2
         go_ret
         exact⟨by first|rfl|simp,by go_grown⟩
        ·have g7:¬1000<c.age:=h7
         by_cases h8:c.ps<1
         ·have e:Z0e c=false:=by cases hh:Z0e c with
           |false=>rfl
           |true=>simp only[Z0e,inB,Bool.and_eq_true,decide_eq_true_eq]at hh;omega
          rw[e]
          clear e
          go_enter Tryz.func11,Tryz.ntmps11
          go_wp2
          go_ret
          exact⟨by first|rfl|simp,by go_grown⟩
         ·have g8:¬c.ps<1:=h8
          by_cases h9:1000<c.ps
          ·have e:Z0e c=false:=by cases hh:Z0e c with
            |false=>rfl
            |true=>simp only[Z0e,inB,Bool.and_eq_true,decide_eq_true_eq]at hh;omega
           rw[e]
           clear e
           go_enter Tryz.func11,Tryz.ntmps11
           go_wp2
           go_ret
           exact⟨by first|rfl|simp,by go_grown⟩
          ·have g9:¬1000<c.ps:=h9
           have e:Z0e c=true:=by simp only[Z0e,inB,Bool.and_eq_true,decide_eq_true_eq];omega
           rw[e]
           clear e
           go_enter Tryz.func11,Tryz.ntmps11
           go_wp2
           go_ret
           exact⟨by first|rfl|simp,by go_grown⟩
end
end Go.Proofs.YtihljjgmkaeohaaGreat
