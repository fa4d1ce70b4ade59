/- part 28 -/
import Derived.Test.YtihljjgmkaeohaaGreatPnAY
import Derived.Test.YtihljjgmkaeohaaGreatPnAZ
set_option linter.all false
set_option maxHeartbeats 16000000
set_option maxRecDepth 100000
namespace Go.Proofs.YtihljjgmkaeohaaGreat
section
open Go.RowKit Go.ChangeShapes Go.WideShapes Go.ChangeAt Go.Deep
def Zct (t:Th) (ok ov:Int):Th:={t with i1:=if t.i2=0 then 1 else 2,i3:=wrap64 (t.i3+1),i4:=Z0o ok ov}
section
variable (w:World) (t:Th) (ok ov:Int) (bt:Value) (n:Nat) (F:Nat->Int)
theorem Ze3 (hI:Its w bt n F) (hn:n<=1000000) (k1:0<=ok) (k2:ok<=255) (v1: -2147483648<=ov) (v2:ov<=2147483647) (h0:t.i1=0):
 Calls Tryz.prog 61 #[thV t bt,.agg #[.int .u8 ok,.int .i32 ov]] w fun e w'=>∃bt',e= .returned (.tuple #[thV (Zct t ok ov) bt',.bool true])/\IRw w' bt' n F/\(∀t,bt'.ownBlock=some t->w.heap.size<=t)/\Below w.heap.size w w':=by
 obtain⟨i0,i1,i2,i3,i4,i5,i6,i7,i8,i9,i10,i11⟩:=t
 have h0:i1=0:=h0
 by_cases h2:i2=0
 ·simpa [thV,Zct,h2]using Zkf w i0 i1 i2 i3 i4 i5 i6 i7 i8 i9 i10 i11 ok ov bt n F hI hn k1 k2 v1 v2 (by simp[h0]) (by simp[h2])
 ·simpa [thV,Zct,h2]using Zkg w i0 i1 i2 i3 i4 i5 i6 i7 i8 i9 i10 i11 ok ov bt n F hI hn k1 k2 v1 v2 (by simp[h0]) (by simp[h2])
theorem Zhi (hI:Its w bt n F) (hn:n<=1000000) (k1:0<=ok) (k2:ok<=255) (v1: -2147483648<=ov) (v2:ov<=2147483647) (h0:t.i1≠0):
 Calls Tryz.prog 61 #[thV t bt,.agg #[.int .u8 ok,.int .i32 ov]] w fun e w'=>∃bt',e= .returned (.tuple #[thV t bt',.bool false])/\IRw w' bt' n F/\(∀t,bt'.ownBlock=some t->w.heap.size<=t)/\Below w.heap.size w w':=by
 obtain⟨i0,i1,i2,i3,i4,i5,i6,i7,i8,i9,i10,i11⟩:=t
 have h0:¬i1=0:=h0
 simpa [thV]using Zke w i0 i1 i2 i3 i4 i5 i6 i7 i8 i9 i10 i11 ok ov bt n F hI hn k1 k2 v1 v2 (by simp[h0])
end
def Z7e (S:WM) (k:Nat) (t':Th) (n:Nat) (F:Nat->Int) (ok ov:Int) (b:Bool):WM:=
 if b=true then {S with T:=S.T.set k ⟨t',n,F⟩,ev:=S.ev++ [⟨1,(k:Int),t'.i3,ok,ov,0,0,S.n⟩]}else S
def Znj (w1:World) (t':Th) (n:Nat) (F:Nat->Int) (a8:Value) (wx:World):Prop:=
 ∃(r8:Nat) (ao:Option Addr) (cp:Nat),a8= .pointer (some ⟨r8,0,none⟩)/\(wx.cell? ⟨r8,0,none⟩=some (Value.int IntKind.i64 t'.i0)/\wx.cell? ⟨r8,1,none⟩=some (Value.int IntKind.i64 t'.i1)/\wx.cell? ⟨r8,2,none⟩=some (Value.int IntKind.i64 t'.i2)/\wx.cell? ⟨r8,3,none⟩=some (Value.int IntKind.i64 t'.i3)/\wx.cell? ⟨r8,4,none⟩=some (Value.int IntKind.i64 t'.i4)/\wx.cell? ⟨r8,5,none⟩=some (Value.int IntKind.i64 t'.i5)/\wx.cell? ⟨r8,6,none⟩=some (Value.int IntKind.i64 t'.i6)/\wx.cell? ⟨r8,7,none⟩=some (Value.int IntKind.i64 t'.i7)/\wx.cell? ⟨r8,8,none⟩=some (Value.int IntKind.i64 t'.i8)/\wx.cell? ⟨r8,9,none⟩=some (Value.int IntKind.i64 t'.i9)/\wx.cell? ⟨r8,10,none⟩=some (Value.int IntKind.i64 t'.i10)/\wx.cell? ⟨r8,11,none⟩=some (Value.int IntKind.i64 t'.i11)/\wx.cell? ⟨r8,12,none⟩=some (.slice ao n cp))/\(w1.heap.size<=r8/\r8<wx.heap.size)/\IRw wx (.slice ao n cp) n F/\(∀k,(Value.slice ao n cp).ownBlock=some k->w1.heap.size<=k)/\Below w1.heap.size w1 wx
theorem Zcu {W0 w:World} {p:Nat} {c:Cfg} {S:WM} {a:WA} (h:WP W0 w p c S a) (k n:Nat) (t t':Th) (F:Nat->Int) (hk:S.T[k]?=some ⟨t,n,F⟩) (ok ov:Int) (isb:Bool) (hev:S.ev.length<=900000)
 (hB:∀(u:World) (bt:Value),Its u bt n F->Calls Tryz.prog 61 #[thV t bt,.agg #[.int .u8 ok,.int .i32 ov]] u fun e u'=>∃bt',e= .returned (.tuple #[thV t' bt',.bool isb])/\IRw u' bt' n F/\(∀t,bt'.ownBlock=some t->u.heap.size<=t)/\Below u.heap.size u u'):
 Calls Tryz.prog 33 #[.pointer (some ⟨p,0,none⟩),.int .i64 (k:Int),.agg #[.int .u8 ok,.int .i32 ov]] w fun e w'=>e= .returned (.bool isb)/\∃a',WP W0 w' p c (Z7e S k t' n F ok ov isb) a'/\a'.st=a.st:=by
 obtain⟨hl,he⟩:=List.getElem?_eq_some_iff.1 hk
 obtain⟨tb,cap,v0,htv,-,-,-,-⟩:=h.at_ hl
 obtain⟨q,hq⟩:∃q,k*13=q:=⟨_,rfl⟩
 obtain⟨v,hv,hI,hT,-⟩:=h.atq hk hq htv
 obtain⟨ao,cp,rfl⟩:=Z03 hI
 have H:=hi8 h hT hI htv hv hl hq hk
 have HB:=Hd hB
 clear h hT hI htv hv hl hq hB v0 he hk
 go_enter Tryz.func33,Tryz.ntmps33
 go_wp2_with fail
 generalize ho:w.heap.size=o0
 generalize hW1:World.alloc _ _=W1
 have B1:Below w.heap.size w W1:=by rw[<-hW1];go_grown
 have hbo:W1.heap[o0]?=some (.cells #[.int .u8 ok,.int .i32 ov] 47 (0,0)):=by rw[<-hW1,<-ho];exact Han _ _
 have Ho:=hi3 ho B1 hbo
 clear ho hW1 B1 hbo
 refine(Z6t (H.out.1.below Ho.out.2.1) (k:Int) tb cap k rfl H.out.2.2.2.2.2.1 H.out.2.2.2.1).mono ?_
 rintro e w1 ⟨rfl,hb1⟩
 rw[H.out.2.2.2.2.2.2.1]
 have Bw1:=Ho.out.2.1.trans (hb1.mono Ho.out.2.1.size)
 have hbo1:=(hb1.block o0 (Gl Ho.out.2.2)).trans Ho.out.2.2
 have P1:=H.out.1.below Bw1
 have T1:=H.out.2.1.below Bw1
 have I1:=H.out.2.2.1.below Bw1
 obtain⟨⟨y0,y1⟩,yz⟩:=Z0g hbo1
 obtain⟨t0,t1,t2,t3,t4,t5,t6,t7,t8,t9,t10,t11,t12⟩:=T1.c
 have tz:=T1.lt
 have hAS:∀wz,Below w1.heap.size w1 wz->wz.cell? ⟨tb,q,none⟩=some (.int .i64 t.i0)/\wz.cell? ⟨tb,q+1,none⟩=some (.int .i64 t.i1)/\wz.cell? ⟨tb,q+2,none⟩=some (.int .i64 t.i2)/\wz.cell? ⟨tb,q+3,none⟩=some (.int .i64 t.i3)/\wz.cell? ⟨tb,q+4,none⟩=some (.int .i64 t.i4)/\wz.cell? ⟨tb,q+5,none⟩=some (.int .i64 t.i5)/\wz.cell? ⟨tb,q+6,none⟩=some (.int .i64 t.i6)/\wz.cell? ⟨tb,q+7,none⟩=some (.int .i64 t.i7)/\wz.cell? ⟨tb,q+8,none⟩=some (.int .i64 t.i8)/\wz.cell? ⟨tb,q+9,none⟩=some (.int .i64 t.i9)/\wz.cell? ⟨tb,q+10,none⟩=some (.int .i64 t.i10)/\wz.cell? ⟨tb,q+11,none⟩=some (.int .i64 t.i11)/\wz.cell? ⟨tb,q+12,none⟩=some (.slice ao n cp)/\wz.cell? ⟨o0,0,none⟩=some (.int .u8 ok)/\wz.cell? ⟨o0,1,none⟩=some (.int .i32 ov):=fun wz hb=>by
  have hc:=fun(b j:Nat) (hl:b<w1.heap.size)=>hb.cell (p:=⟨b,j,none⟩) hl
  exact⟨(hc tb _ tz).trans t0,(hc tb _ tz).trans t1,(hc tb _ tz).trans t2,(hc tb _ tz).trans t3,(hc tb _ tz).trans t4,(hc tb _ tz).trans t5,(hc tb _ tz).trans t6,(hc tb _ tz).trans t7,(hc tb _ tz).trans t8,(hc tb _ tz).trans t9,(hc tb _ tz).trans t10,(hc tb _ tz).trans t11,(hc tb _ tz).trans t12,(hc o0 _ yz).trans y0,(hc o0 _ yz).trans y1⟩
 have AS:=Hd hAS
 have cS:=fun(u:World) (hu:Below w1.heap.size w1 u)=>HB.out u (.slice ao n cp) (I1.below hu).its
 unfold thV at cS
 have CS:=Hd cS
 have htbp:a.tag tb=4:=P1.tt tb (by rw[H.out.2.2.2.1];rfl)
 have ho0:w.heap.size<=o0:=Nat.le_of_eq Ho.out.1
 have HP:=hi7 P1 T1 I1 hbo1 htbp ho0 Bw1
 clear hAS cS P1 T1 I1 hbo1 htbp ho0 Bw1 hb1 HB
 go_wp2_with fail
 go_cut [8,9]from 15 to 22 (fun a8 a9 wx=>a9= .bool isb/\Znj w1 t' n F a8 wx)
 case first=>
  go_region_held3 (fun wz=>wz.cell? ⟨tb,q,none⟩=some (.int .i64 t.i0)/\wz.cell? ⟨tb,q+1,none⟩=some (.int .i64 t.i1)/\wz.cell? ⟨tb,q+2,none⟩=some (.int .i64 t.i2)/\wz.cell? ⟨tb,q+3,none⟩=some (.int .i64 t.i3)/\wz.cell? ⟨tb,q+4,none⟩=some (.int .i64 t.i4)/\wz.cell? ⟨tb,q+5,none⟩=some (.int .i64 t.i5)/\wz.cell? ⟨tb,q+6,none⟩=some (.int .i64 t.i6)/\wz.cell? ⟨tb,q+7,none⟩=some (.int .i64 t.i7)/\wz.cell? ⟨tb,q+8,none⟩=some (.int .i64 t.i8)/\wz.cell? ⟨tb,q+9,none⟩=some (.int .i64 t.i9)/\wz.cell? ⟨tb,q+10,none⟩=some (.int .i64 t.i10)/\wz.cell? ⟨tb,q+11,none⟩=some (.int .i64 t.i11)/\wz.cell? ⟨tb,q+12,none⟩=some (.slice ao n cp)/\wz.cell? ⟨o0,0,none⟩=some (.int .u8 ok)/\wz.cell? ⟨o0,1,none⟩=some (.int .i32 ov))
   (first|(exact AS.out _ (BB6.out _ (by go_grown)))|(exact AS.out _ (by go_grown)))
   ((go_at_call 61;(first|(with_reducible refine Go.Calls.mono (CS.out w1.drew (by go_grown)) ?_)|(with_reducible refine Go.Calls.mono (CS.out (w1.alloc (.cells #[.int .i64 0,.int .i64 0,.int .i64 0,.int .i64 0,.int .i64 0,.int .i64 0,.int .i64 0,.int .i64 0,.int .i64 0,.int .i64 0,.int .i64 0,.int .i64 0,.slice none 0 0] 86)).drew (by go_grown)) ?_));rintro e w6 ⟨bt6,rfl,i6,o6,k6⟩;obtain⟨ao6,cp6,rfl⟩:=Z03 i6;(first|(obtain⟨us,hu1,hu2⟩:∃us,w1.heap.size+1<=us/\us<=w1.heap.size+1:=⟨_,Nat.le_refl _,Nat.le_refl _⟩;have u6:us<=w6.heap.size:=(by have:=k6.size;first|omega|(simp at this;omega)))|(obtain⟨us,hu1,hu2⟩:∃us,w1.heap.size<=us/\us<=w1.heap.size:=⟨_,Nat.le_refl _,Nat.le_refl _⟩;have u6:us<=w6.heap.size:=(by have:=k6.size;first|omega|(simp at this;omega))));have K6:Below w1.heap.size w1 w6:=Below.trans (by go_grown) (k6.mono (by first|omega|(simp;done)|(simp;omega)));have L6:∀k,(Value.slice ao6 n cp6).ownBlock=some k->us<=k:=(fun k e=>(by have h1:=o6 k e;first|omega|(simp at h1;omega)));(try (have Bz:w6.heap[w1.heap.size]?=some (.cells #[.int .i64 0,.int .i64 0,.int .i64 0,.int .i64 0,.int .i64 0,.int .i64 0,.int .i64 0,.int .i64 0,.int .i64 0,.int .i64 0,.int .i64 0,.int .i64 0,.slice none 0 0] 86 (0,0)):=Eq.trans (k6.block (w1.heap.size) (by first|(simp;done)|(simp;omega))) (Han _ _);obtain⟨⟨z0,z1,z2,z3,z4,z5,z6,z7,z8,z9,z10,z11,z12⟩,zl⟩:=Z1r Bz;have zf0:=Z06 Bz 0;have zf1:=Z06 Bz 1;have zf2:=Z06 Bz 2;have zf3:=Z06 Bz 3;have zf4:=Z06 Bz 4;have zf5:=Z06 Bz 5;have zf6:=Z06 Bz 6;have zf7:=Z06 Bz 7;have zf8:=Z06 Bz 8;have zf9:=Z06 Bz 9;have zf10:=Z06 Bz 10;have zf11:=Z06 Bz 11;have zf12:=Z06 Bz 12));have zw6:w1.heap.size<=w6.heap.size:=K6.size;have BB6:=Hd (fun(u:World) (hu:Below w1.heap.size w6 u)=>K6.trans hu);have H6:=hi3 i6 L6 K6;clear i6 o6 k6 K6 L6))
  all_goals
   go_wp2_with fail
   go_meet
   case rel=>
    refine⟨rfl,_,ao6,cp6,rfl,?_,?_,?_⟩
    ·refine⟨?_,?_,?_,?_,?_,?_,?_,?_,?_,?_,?_,?_,?_⟩<;>go_simp
    ·refine⟨?_,?_⟩<;>first|omega|(simp;done)|(simp;omega)
    ·obtain⟨i6,L6,K6⟩:=H6.out
     have key:∀wx,Z01 (fun k=>(w1.heap.size<=k/\k<us)\/w6.heap.size<=k) w6 wx->IRw wx (.slice ao6 n cp6) n F/\(∀k,(Value.slice ao6 n cp6).ownBlock=some k->w1.heap.size<=k)/\Below w1.heap.size w1 wx:=fun wx KX=>
      ⟨Z04 i6 KX (fun k e e2=>by have:=L6 k e;have:=(World.ownsRow.lt i6 k e).2;omega),fun k e=>by have:=L6 k e;omega,K6.trans (KX.below K6.size (fun i hi e=>by omega))⟩
     refine key _ ?_
     clear key i6 L6 K6
     repeat (first|with_reducible exact Z01.refl _ _|(with_reducible refine Z01.setCell ?_ (fun h=>by first|(left;constructor<;>first|omega|(simp;done)|(simp;omega))|(right;first|omega|(simp;done)|(simp;omega))) _)|with_reducible refine Z01.alloc ?_ _|with_reducible refine Z01.drew ?_)
 case rest=>
  obtain⟨rfl,r8,ao6,cp6,rfl,C8,Z,I6,O6,K6⟩:=hcut
  have P6:=HP.out.1.below K6
  have T6:=HP.out.2.1.below K6
  cases isb with
  |false=>
   have H6:=Hd P6
   clear t0 t1 t2 t3 t4 t5 t6 t7 t8 t9 t10 t11 t12 tz y0 y1 yz AS CS C8 I6 O6 K6 P6 T6
   go_wp2
   go_ret
   exact⟨rfl,a,by unfold Z7e;rw[if_neg (by decide)];exact H6.out,rfl⟩
  |true=>
   obtain⟨tag2,P2,hl2⟩:=P6.setT (k:=k) H.out.2.2.2.2.2.1 H.out.2.2.2.1 t' _ n F I6 (fun j e=>⟨HP.out.1.old (O6 j e),Nat.le_trans HP.out.1.base (O6 j e)⟩)
   rw[H.out.2.2.2.2.2.2.1]at P2
   have Y0:=(K6.cell (p:=⟨o0,0,none⟩) yz).trans y0
   have Y1:=(K6.cell (p:=⟨o0,1,none⟩) yz).trans y1
   have yz6:=Nlt yz K6.size
   have hto:¬o0=tb:=fun e=>by have:=HP.out.2.2.2.2.2.1;have:=(H.out.1.ge tb (by rw[HP.out.2.2.2.2.1];decide)).2;omega
   clear t0 t1 t2 t3 t4 t5 t6 t7 t8 t9 t10 t11 t12 tz y0 y1
   obtain⟨x0,x1,x2,x3,x4,x5,x6,x7,x8,x9,x10,x11,x12⟩:=C8
   obtain⟨s0,s1,s2,s3,s4,s5,s6,s7,s8,s9,s10,s11,s12⟩:=T6.c
   have hf:=T6.f
   have f0:=hf q
   have f1:=hf (q+1);have f2:=hf (q+2);have f3:=hf (q+3);have f4:=hf (q+4);have f5:=hf (q+5);have f6:=hf (q+6);have f7:=hf (q+7);have f8:=hf (q+8);have f9:=hf (q+9);have f10:=hf (q+10);have f11:=hf (q+11);have f12:=hf (q+12)
   have sz:=T6.lt
   have hto':¬tb=o0:=fun e=>hto e.symm
   have H2:=Hd P2
   clear AS CS I6 O6 K6 P6 T6 hf hl2 P2
   go_upto_region 7 with fail
   generalize hw7:World.setCell _ _ _=w7
   have P7:WP W0 w7 p c {S with T:=S.T.set k ⟨t',n,F⟩} {a with TV:=a.TV.set k (t',.slice ao6 n cp6),tag:=tag2}:=by rw[<-hw7];exact H2.out
   have K7:Z01 (fun j=>j=tb) wc w7:=by rw[<-hw7];exact Z1c tb (thF (t',.slice ao6 n cp6)) wc q
   obtain⟨v7,-,-,T7,-⟩:=P7.atq (Zhg H.out.2.2.2.2.2.1 _) H.out.2.2.2.2.2.2.1 H.out.2.2.2.1
   have y0:=(K7.cell (p:=⟨o0,0,none⟩) yz6 hto).trans Y0
   have y1:=(K7.cell (p:=⟨o0,1,none⟩) yz6 hto).trans Y1
   have yz7:=Nlt yz6 K7.size
   clear hw7 K7 Y0 Y1 x0 x1 x2 x3 x4 x5 x6 x7 x8 x9 x10 x11 x12 s0 s1 s2 s3 s4 s5 s6 s7 s8 s9 s10 s11 s12 f0 f1 f2 f3 f4 f5 f6 f7 f8 f9 f10 f11 f12 sz
   obtain⟨⟨d0,d1,d2,d3,d4,d5,d6,d7,d8,d9,d10,d11,d12,d13⟩,df,dz⟩:=P7.open
   have m3:=T7.c.2.2.2.1
   have htl:=T7.lt
   obtain⟨po,pc,hpv⟩:=P7.pkr.shape
   obtain⟨eo,ec,hevv⟩:=P7.evr.shape
   have hpk:=P7.pkn
   dsimp only at hpv hevv hpk d10 d12
   rw[hpk]at hpv
   rw[hpv]at d12
   obtain⟨i0',hi,hz0,hz1,hz2⟩:=info_parts Tryz.infoEv
   have hpe:¬a.ev.ownBlock=some p:=fun e=>by have h1:=P7.te p e;have h2:=P7.tp;omega
   have fp:=df 10
   have RU:=Hd (fun(u:World) (hu:Below w7.heap.size w7 u)=>P7.evr.below hu)
   obtain⟨m,hm⟩:∃m,S.n=m:=⟨_,rfl⟩
   rw[hm]at d12
   have htp:¬tb=p:=fun e=>by have h1:=P7.tt tb (by show a.tv.ownBlock=_;rw[H.out.2.2.2.1];rfl);have h2:=P7.tp;rw[e]at h1;omega
   have htp':¬p=tb:=fun e=>htp e.symm
   have hrp:¬o0=p:=fun e=>by have:=H.out.1.lt;have:=HP.out.2.2.2.2.2.1;omega
   have hrp':¬p=o0:=fun e=>hrp e.symm
   have hte:¬a.ev.ownBlock=some tb:=fun e=>by have h1:=P7.tt tb (by show a.tv.ownBlock=_;rw[H.out.2.2.2.1];rfl);have h2:=P7.te tb e;omega
   have hre:¬a.ev.ownBlock=some o0:=fun e=>by have h1:=(H.out.1.ge o0 (by rw[H.out.1.te o0 e];decide)).2;have:=HP.out.2.2.2.2.2.1;omega
   have hRS:∀u,Below w7.heap.size w7 u->u.cell? ⟨tb,q+3,none⟩=some (.int .i64 t'.i3)/\u.cell? ⟨o0,0,none⟩=some (.int .u8 ok)/\u.cell? ⟨o0,1,none⟩=some (.int .i32 ov)/\u.cell? ⟨p,12,none⟩=some (.slice po m pc):=fun u hu=>⟨(hu.cell (p:=⟨tb,q+3,none⟩) htl).trans m3,(hu.cell (p:=⟨o0,0,none⟩) yz7).trans y0,(hu.cell (p:=⟨o0,1,none⟩) yz7).trans y1,(hu.cell (p:=⟨p,12,none⟩) dz).trans d12⟩
   have RS:=Hd hRS
   have H7:=hi2 P7 hm
   clear hRS P7 T7 hpv hevv hpk df hm d0 d1 d2 d3 d4 d5 d6 d7 d8 d9 d11 d13
   refine wp_region_noPanic ?_
   refine wp_region_held_drew (S:=(fun wz=>wz.cell? ⟨tb,q+3,none⟩=some (.int .i64 t'.i3)/\wz.cell? ⟨o0,0,none⟩=some (.int .u8 ok)/\wz.cell? ⟨o0,1,none⟩=some (.int .i32 ov)/\wz.cell? ⟨p,12,none⟩=some (.slice po m pc))) (by kernel_rfl) (RS.out _ (Brf _ _).drew) (fun hHeld=>?_)
   have hN:NL [0,1,2,3,5,6,7,8,9,10,11,12,13,14,15,16]:=rfl
   repeat
    refine wpT hN (v:=?_) rfl (by kernel_rfl) (by kernel_rfl) (by kernel_rfl) (fun _ _ _ h=>h) (Or.inl ⟨by rfl,?_⟩) (by assumption) ?_
    rotate_left
    ·(intro w hSw;(try dsimp only at hSw);go_split_ands;first|(go_simp;done)|(go_simp;with_reducible rfl))
    try simp only[Act.put,List.setIfInBounds_toArray,List.set_cons_zero,List.set_cons_succ,List.getElem_toArray,List.getElem_cons_zero,List.getElem_cons_succ]
    replace hN:=hN.tl
   clear hN
   refine wpAnyH_ready (rs:= [4,17]) (by kernel_rfl) (by simp) ?_
   refine AllReadyH.cons rfl (fun K hK=>?_) ?_
   ·go_simp
    refine hK.out _ _ (by(first|(exact⟨g3,gy0,gy1,g12⟩)|(refine⟨?_,?_,?_,?_⟩<;>(go_simp;done))|(exact RS.out _ (by go_grown)))) (fun hHeld2=>?_)
    clear hK K hHeld
    have hHeld:=hHeld2
    clear hHeld2
    try simp only[Act.put,List.setIfInBounds_toArray,List.set_cons_zero,List.set_cons_succ,List.getElem_toArray,List.getElem_cons_zero,List.getElem_cons_succ]
    refine wpAnyH_ready (rs:= [17]) (by kernel_rfl) (by simp) ?_
    refine AllReadyH.cons rfl (fun K hK=>?_) ?_
    ·go_simp
     refine hK.out _ _ (by(first|(exact⟨g3,gy0,gy1,g12⟩)|(refine⟨?_,?_,?_,?_⟩<;>(go_simp;done))|(exact RS.out _ (by go_grown)))) (fun hHeld2=>?_)
     clear hK K hHeld
     have hHeld:=hHeld2
     clear hHeld2
     try simp only[Act.put,List.setIfInBounds_toArray,List.set_cons_zero,List.set_cons_succ,List.getElem_toArray,List.getElem_cons_zero,List.getElem_cons_succ]
     refine wpAnyH_ready (rs:= [18]) (by kernel_rfl) (by simp) ?_
     refine AllReadyH.cons rfl (fun K hK=>?_) ?_
     ·refine Z0q rfl _ _ 29 rfl 0 0 92 i0' (.agg #[.int .u8 0,.int .i64 0,.int .i64 0,.int .u8 0,.int .i32 0,.int .u8 0,.int .i32 0,.int .i64 0]) 8 48 Tryz.underlying29 hi hz0 hz1 hz2 rfl (by decide) _ S.ev.length _ rfl (RU.out _ (by go_grown)) _ 1 (evV ⟨1,(k:Int),t'.i3,ok,ov,0,0,(m:Int)⟩) rfl (Zcs (by first|exact Han _ _|exact Z0t _ _)) (Zan _) ?c3 ?c4 ?c5 ?_;(case c3=>unfold maxLen;omega);(case c4=>omega);(case c5=>exact Nat.zero_le _);intro v5 w5 own5 gr5 loc5;obtain⟨ao5,cap5,rfl⟩:=Z03 own5;have k5:Z01 (fun j=>a.ev.ownBlock=some j) w7 w5:=(by first|exact((Z01.refl _ w7).alloc _).drew.grown gr5 (fun k e _=>e)|exact((Z01.refl _ w7).drew.alloc _).grown gr5 (fun k e _=>e));have e10:=(k5.cell (p:=⟨p,10,none⟩) dz hpe).trans d10;have ef:=(k5.frozen (p:=⟨p,10,none⟩) dz hpe).trans fp;have g3:=(k5.cell (p:=⟨tb,q+3,none⟩) htl hte).trans m3;have gy0:=(k5.cell (p:=⟨o0,0,none⟩) yz7 hre).trans y0;have gy1:=(k5.cell (p:=⟨o0,1,none⟩) yz7 hre).trans y1;have g12:=(k5.cell (p:=⟨p,12,none⟩) dz hpe).trans d12;have L5:∀j,(Value.slice ao5 (S.ev.length+1) cap5).ownBlock=some j->a.ev.ownBlock=some j\/w7.heap.size<=j:=(fun j e=>(by rcases loc5 with h|h;exact .inl (h ▸ e);(rw[e]at h;simp at h;exact .inr (by omega))));have H5:=hi3 own5 k5 L5;clear own5 gr5 loc5 k5 L5
      refine hK.out _ _ (by(first|(exact⟨g3,gy0,gy1,g12⟩)|(refine⟨?_,?_,?_,?_⟩<;>(go_simp;done))|(exact RS.out _ (by go_grown)))) (fun hHeld2=>?_)
      clear hK K hHeld
      have hHeld:=hHeld2
      clear hHeld2
      try simp only[Act.put,List.setIfInBounds_toArray,List.set_cons_zero,List.set_cons_succ,List.getElem_toArray,List.getElem_cons_zero,List.getElem_cons_succ]
      have hN:NL [19,20]:=rfl
      repeat
       refine wpT hN (v:=?_) rfl (by kernel_rfl) (by kernel_rfl) (by kernel_rfl) (fun _ _ _ h=>h) (Or.inl ⟨by rfl,?_⟩) (by assumption) ?_
       rotate_left
       ·(intro w hSw;(try dsimp only at hSw);go_split_ands;first|(go_simp;done)|(go_simp;with_reducible rfl))
       try simp only[Act.put,List.setIfInBounds_toArray,List.set_cons_zero,List.set_cons_succ,List.getElem_toArray,List.getElem_cons_zero,List.getElem_cons_succ]
       replace hN:=hN.tl
      clear hN
      refine wpAnyH_ready (rs:= [21]) (by kernel_rfl) (by simp) ?_
      refine AllReadyH.cons rfl (fun K hK=>?_) ?_
      ·go_simp
       refine hK.out _ _ (by(first|(exact⟨g3,gy0,gy1,g12⟩)|(refine⟨?_,?_,?_,?_⟩<;>(go_simp;done))|(exact RS.out _ (by go_grown)))) (fun hHeld2=>?_)
       clear hK K hHeld
       have hHeld:=hHeld2
       clear hHeld2
       try simp only[Act.put,List.setIfInBounds_toArray,List.set_cons_zero,List.set_cons_succ,List.getElem_toArray,List.getElem_cons_zero,List.getElem_cons_succ]
       refine wpAnyH_done (by kernel_rfl) ?_ _
       refine NoPanic.normal ?_
       go_wp2
       go_ret
       obtain⟨tag3,P9,-⟩:=H7.out.1.addEv _ ⟨1,(k:Int),t'.i3,ok,ov,0,0,(m:Int)⟩ (Z1q.snoc H5.out.1) H5.out.2.1 H5.out.2.2
       have he:Z7e S k t' n F ok ov true={S with T:=S.T.set k ⟨t',n,F⟩,ev:=S.ev++ [⟨1,(k:Int),t'.i3,ok,ov,0,0,S.n⟩]}:=by unfold Z7e;rw[if_pos rfl]
       rw[he,H7.out.2]
       rw[<-H7.out.2]at P9
       exact⟨rfl,{a with TV:=a.TV.set k (t',.slice ao6 n cp6),tag:=tag3,ev:=.slice ao5 (S.ev.length+1) cap5},by rw[<-H7.out.2];exact P9,rfl⟩
      exact AllReadyH.nil
     exact AllReadyH.nil
    exact AllReadyH.nil
   refine AllReadyH.cons rfl (fun K hK=>?_) ?_
   ·go_simp
    refine hK.out _ _ (by(first|(exact⟨g3,gy0,gy1,g12⟩)|(refine⟨?_,?_,?_,?_⟩<;>(go_simp;done))|(exact RS.out _ (by go_grown)))) (fun hHeld2=>?_)
    clear hK K hHeld
    have hHeld:=hHeld2
    clear hHeld2
    try simp only[Act.put,List.setIfInBounds_toArray,List.set_cons_zero,List.set_cons_succ,List.getElem_toArray,List.getElem_cons_zero,List.getElem_cons_succ]
    refine wpAnyH_ready (rs:= [4]) (by kernel_rfl) (by simp) ?_
    refine AllReadyH.cons rfl (fun K hK=>?_) ?_
    ·go_simp
     refine hK.out _ _ (by(first|(exact⟨g3,gy0,gy1,g12⟩)|(refine⟨?_,?_,?_,?_⟩<;>(go_simp;done))|(exact RS.out _ (by go_grown)))) (fun hHeld2=>?_)
     clear hK K hHeld
     have hHeld:=hHeld2
     clear hHeld2
     try simp only[Act.put,List.setIfInBounds_toArray,List.set_cons_zero,List.set_cons_succ,List.getElem_toArray,List.getElem_cons_zero,List.getElem_cons_succ]
     refine wpAnyH_ready (rs:= [18]) (by kernel_rfl) (by simp) ?_
     refine AllReadyH.cons rfl (fun K hK=>?_) ?_
     ·refine Z0q rfl _ _ 29 rfl 0 0 92 i0' (.agg #[.int .u8 0,.int .i64 0,.int .i64 0,.int .u8 0,.int .i32 0,.int .u8 0,.int .i32 0,.int .i64 0]) 8 48 Tryz.underlying29 hi hz0 hz1 hz2 rfl (by decide) _ S.ev.length _ rfl (RU.out _ (by go_grown)) _ 1 (evV ⟨1,(k:Int),t'.i3,ok,ov,0,0,(m:Int)⟩) rfl (Zcs (by first|exact Han _ _|exact Z0t _ _)) (Zan _) ?c3 ?c4 ?c5 ?_;(case c3=>unfold maxLen;omega);(case c4=>omega);(case c5=>exact Nat.zero_le _);intro v5 w5 own5 gr5 loc5;obtain⟨ao5,cap5,rfl⟩:=Z03 own5;have k5:Z01 (fun j=>a.ev.ownBlock=some j) w7 w5:=(by first|exact((Z01.refl _ w7).alloc _).drew.grown gr5 (fun k e _=>e)|exact((Z01.refl _ w7).drew.alloc _).grown gr5 (fun k e _=>e));have e10:=(k5.cell (p:=⟨p,10,none⟩) dz hpe).trans d10;have ef:=(k5.frozen (p:=⟨p,10,none⟩) dz hpe).trans fp;have g3:=(k5.cell (p:=⟨tb,q+3,none⟩) htl hte).trans m3;have gy0:=(k5.cell (p:=⟨o0,0,none⟩) yz7 hre).trans y0;have gy1:=(k5.cell (p:=⟨o0,1,none⟩) yz7 hre).trans y1;have g12:=(k5.cell (p:=⟨p,12,none⟩) dz hpe).trans d12;have L5:∀j,(Value.slice ao5 (S.ev.length+1) cap5).ownBlock=some j->a.ev.ownBlock=some j\/w7.heap.size<=j:=(fun j e=>(by rcases loc5 with h|h;exact .inl (h ▸ e);(rw[e]at h;simp at h;exact .inr (by omega))));have H5:=hi3 own5 k5 L5;clear own5 gr5 loc5 k5 L5
      refine hK.out _ _ (by(first|(exact⟨g3,gy0,gy1,g12⟩)|(refine⟨?_,?_,?_,?_⟩<;>(go_simp;done))|(exact RS.out _ (by go_grown)))) (fun hHeld2=>?_)
      clear hK K hHeld
      have hHeld:=hHeld2
      clear hHeld2
      try simp only[Act.put,List.setIfInBounds_toArray,List.set_cons_zero,List.set_cons_succ,List.getElem_toArray,List.getElem_cons_zero,List.getElem_cons_succ]
      have hN:NL [19,20]:=rfl
      repeat
       refine wpT hN (v:=?_) rfl (by kernel_rfl) (by kernel_rfl) (by kernel_rfl) (fun _ _ _ h=>h) (Or.inl ⟨by rfl,?_⟩) (by assumption) ?_
       rotate_left
       ·(intro w hSw;(try dsimp only at hSw);go_split_ands;first|(go_simp;done)|(go_simp;with_reducible rfl))
       try simp only[Act.put,List.setIfInBounds_toArray,List.set_cons_zero,List.set_cons_succ,List.getElem_toArray,List.getElem_cons_zero,List.getElem_cons_succ]
       replace hN:=hN.tl
      clear hN
      refine wpAnyH_ready (rs:= [21]) (by kernel_rfl) (by simp) ?_
      refine AllReadyH.cons rfl (fun K hK=>?_) ?_
      ·go_simp
       refine hK.out _ _ (by(first|(exact⟨g3,gy0,gy1,g12⟩)|(refine⟨?_,?_,?_,?_⟩<;>(go_simp;done))|(exact RS.out _ (by go_grown)))) (fun hHeld2=>?_)
       clear hK K hHeld
       have hHeld:=hHeld2
       clear hHeld2
       try simp only[Act.put,List.setIfInBounds_toArray,List.set_cons_zero,List.set_cons_succ,List.getElem_toArray,List.getElem_cons_zero,List.getElem_cons_succ]
       refine wpAnyH_done (by kernel_rfl) ?_ _
       refine NoPanic.normal ?_
       go_wp2
       go_ret
       obtain⟨tag3,P9,-⟩:=H7.out.1.addEv _ ⟨1,(k:Int),t'.i3,ok,ov,0,0,(m:Int)⟩ (Z1q.snoc H5.out.1) H5.out.2.1 H5.out.2.2
       have he:Z7e S k t' n F ok ov true={S with T:=S.T.set k ⟨t',n,F⟩,ev:=S.ev++ [⟨1,(k:Int),t'.i3,ok,ov,0,0,S.n⟩]}:=by unfold Z7e;rw[if_pos rfl]
       rw[he,H7.out.2]
       rw[<-H7.out.2]at P9
       exact⟨rfl,{a with TV:=a.TV.set k (t',.slice ao6 n cp6),tag:=tag3,ev:=.slice ao5 (S.ev.length+1) cap5},by rw[<-H7.out.2];exact P9,rfl⟩
      exact AllReadyH.nil
     exact AllReadyH.nil
    exact AllReadyH.nil
   exact AllReadyH.nil
section
variable (v:Value) (n:Nat) (xs:List Value) (w:World)
theorem Zhq (hr:w.ownsRow 0 92 8 v n xs) (hone:∀u ∈ xs,u.oneCell'=true) (hn:n<=1000000000000):
 Calls Tryz.prog 69 #[v] w fun e w'=>∃v',e= .returned v'/\w'.ownsRow 0 92 8 v' n xs/\Below w.heap.size w w'/\(∀k,v'.ownBlock=some k->w.heap.size<=k):=by
 obtain⟨i0,hi,hz0,hz1,hz2⟩:=info_parts Tryz.infoEv
 have qT:∀(w:World) (a:Option Addr) (n c n' c':Nat),(binOp .eql 29 (.slice a n c) (.slice none n' c')).run Tryz.prog w= .ok (.bool a.isNone) w:=fun w a n c n' c'=>Lib.run_eql_slice_nil w _ _ a n c n' c' Tryz.underlying29
 have hl:=hr.1
 rcases id hr.2 with⟨rfl,rfl⟩|⟨g,cap,cur,rfl,-,hg,-⟩
 ·obtain rfl:xs= []:=Lnl (by omega)
  clear hr hone hl
  go_enter Tryz.func69,Tryz.ntmps69
  go_wp2
  go_ret
  exact⟨_,rfl,World.ownsRow_nil _ _ _ _,by go_grown,fun k hk=>by cases hk⟩
 ·have hgl:=(Gl hg)
  have hre:∀o,∀(j:Nat) (u:Value),xs[j]?=some u->(w.alloc o).cell? ((⟨g,0,none⟩:Addr).add j)=some u:=fun o j u hj=>by
   have h1:=World.ownsRow.cells hr (g:=g) rfl j u hj
   rw[Z2t]at h1 |-
   rw[World.cell?_of_block (Below.heap_alloc w o g hgl)]
   exact h1
  have hmade:(w.alloc (.cells #[] 92)).ownsRow w.heap.size 92 8 (.slice (some ⟨w.heap.size,0,none⟩) 0 0) 0 []:=World.ownsRow_made w #[] 0 (Nat.le_refl _) (by unfold maxLen;omega) rfl
  have HL:=Hd hl
  clear hr hl hg
  go_enter Tryz.func69,Tryz.ntmps69
  go_wp2_with (at_builtin;refine wpList_append_own_at _ rfl _ _ 29 rfl w.heap.size 92 i0 (.agg #[.int .u8 0,.int .i64 0,.int .i64 0,.int .u8 0,.int .i32 0,.int .u8 0,.int .i32 0,.int .i64 0]) 8 48 Tryz.underlying29 hi hz0 hz1 hz2 rfl (by decide) _ _ _ rfl hmade _ _ _ _ rfl HL.out (hre _) hone ?c3 ?c4 ?c5 ?_)
  case c3=>unfold maxLen;omega
  case c4=>omega
  case c5=>simp
  intro v' w1 hown' hgrow _ _
  go_wp2
  go_ret
  refine⟨v',rfl,Z3v (by simpa using hown') (Nat.zero_le _),?_,fun k hk=>(World.ownsRow.lt hown' k hk).1⟩
  exact((Brf _ w).alloc (Nat.le_refl _) _).grown hgrow (by simp) (fun k hk=>by simp[Value.ownBlock]at hk;omega)
theorem Zhr (hr:w.ownsRow 0 49 7 v n xs) (hone:∀u ∈ xs,u.oneCell'=true) (hn:n<=1000000000000):
 Calls Tryz.prog 70 #[v] w fun e w'=>∃v',e= .returned v'/\w'.ownsRow 0 49 7 v' n xs/\Below w.heap.size w w'/\(∀k,v'.ownBlock=some k->w.heap.size<=k):=by
 obtain⟨i0,hi,hz0,hz1,hz2⟩:=info_parts Tryz.infoLg
 have qT:∀(w:World) (a:Option Addr) (n c n' c':Nat),(binOp .eql 30 (.slice a n c) (.slice none n' c')).run Tryz.prog w= .ok (.bool a.isNone) w:=fun w a n c n' c'=>Lib.run_eql_slice_nil w _ _ a n c n' c' Tryz.underlying30
 have hl:=hr.1
 rcases id hr.2 with⟨rfl,rfl⟩|⟨g,cap,cur,rfl,-,hg,-⟩
 ·obtain rfl:xs= []:=Lnl (by omega)
  clear hr hone hl
  go_enter Tryz.func70,Tryz.ntmps70
  go_wp2
  go_ret
  exact⟨_,rfl,World.ownsRow_nil _ _ _ _,by go_grown,fun k hk=>by cases hk⟩
 ·have hgl:=(Gl hg)
  have hre:∀o,∀(j:Nat) (u:Value),xs[j]?=some u->(w.alloc o).cell? ((⟨g,0,none⟩:Addr).add j)=some u:=fun o j u hj=>by
   have h1:=World.ownsRow.cells hr (g:=g) rfl j u hj
   rw[Z2t]at h1 |-
   rw[World.cell?_of_block (Below.heap_alloc w o g hgl)]
   exact h1
  have hmade:(w.alloc (.cells #[] 49)).ownsRow w.heap.size 49 7 (.slice (some ⟨w.heap.size,0,none⟩) 0 0) 0 []:=World.ownsRow_made w #[] 0 (Nat.le_refl _) (by unfold maxLen;omega) rfl
  have HL:=Hd hl
  clear hr hl hg
  go_enter Tryz.func70,Tryz.ntmps70
  go_wp2_with (at_builtin;refine wpList_append_own_at _ rfl _ _ 30 rfl w.heap.size 49 i0 (.agg #[.int .i64 0,.int .i64 0,.int .u8 0,.int .i32 0,.int .u8 0,.int .i32 0,.int .i64 0]) 7 40 Tryz.underlying30 hi hz0 hz1 hz2 rfl (by decide) _ _ _ rfl hmade _ _ _ _ rfl HL.out (hre _) hone ?c3 ?c4 ?c5 ?_)
  case c3=>unfold maxLen;omega
  case c4=>omega
  case c5=>simp
  intro v' w1 hown' hgrow _ _
  go_wp2
  go_ret
  refine⟨v',rfl,Z3v (by simpa using hown') (Nat.zero_le _),?_,fun k hk=>(World.ownsRow.lt hown' k hk).1⟩
  exact((Brf _ w).alloc (Nat.le_refl _) _).grown hgrow (by simp) (fun k hk=>by simp[Value.ownBlock]at hk;omega)
theorem Ze8 (hr:w.ownsRow 0 3 1 v n xs) (hone:∀u ∈ xs,u.oneCell'=true) (hn:n<=1000000000000):
 Calls Tryz.prog 72 #[v] w fun e w'=>∃v',e= .returned v'/\w'.ownsRow 0 3 1 v' n xs/\Below w.heap.size w w'/\(∀k,v'.ownBlock=some k->w.heap.size<=k):=by
 obtain⟨i0,hi,hz0,hz1,hz2⟩:=info_parts Tryz.infoIntM
 have qT:∀(w:World) (a:Option Addr) (n c n' c':Nat),(binOp .eql 33 (.slice a n c) (.slice none n' c')).run Tryz.prog w= .ok (.bool a.isNone) w:=fun w a n c n' c'=>Lib.run_eql_slice_nil w _ _ a n c n' c' Tryz.underlying33
 have hl:=hr.1
 rcases id hr.2 with⟨rfl,rfl⟩|⟨g,cap,cur,rfl,-,hg,-⟩
 ·obtain rfl:xs= []:=Lnl (by omega)
  clear hr hone hl
  go_enter Tryz.func72,Tryz.ntmps72
  go_wp2
  go_ret
  exact⟨_,rfl,World.ownsRow_nil _ _ _ _,by go_grown,fun k hk=>by cases hk⟩
 ·have hgl:=(Gl hg)
  have hre:∀o,∀(j:Nat) (u:Value),xs[j]?=some u->(w.alloc o).cell? ((⟨g,0,none⟩:Addr).add j)=some u:=fun o j u hj=>by
   have h1:=World.ownsRow.cells hr (g:=g) rfl j u hj
   rw[Z2t]at h1 |-
   rw[World.cell?_of_block (Below.heap_alloc w o g hgl)]
   exact h1
  have hmade:(w.alloc (.cells #[] 3)).ownsRow w.heap.size 3 1 (.slice (some ⟨w.heap.size,0,none⟩) 0 0) 0 []:=World.ownsRow_made w #[] 0 (Nat.le_refl _) (by unfold maxLen;omega) rfl
  have HL:=Hd hl
  clear hr hl hg
  go_enter Tryz.func72,Tryz.ntmps72
  go_wp2_with (at_builtin;refine wpList_append_own_at _ rfl _ _ 33 rfl w.heap.size 3 i0 (.int .i64 0) 1 8 Tryz.underlying33 hi hz0 hz1 hz2 rfl (by decide) _ _ _ rfl hmade _ _ _ _ rfl HL.out (hre _) hone ?c3 ?c4 ?c5 ?_)
  case c3=>unfold maxLen;omega
  case c4=>omega
  case c5=>simp
  intro v' w1 hown' hgrow _ _
  go_wp2
  go_ret
  refine⟨v',rfl,Z3v (by simpa using hown') (Nat.zero_le _),?_,fun k hk=>(World.ownsRow.lt hown' k hk).1⟩
  exact((Brf _ w).alloc (Nat.le_refl _) _).grown hgrow (by simp) (fun k hk=>by simp[Value.ownBlock]at hk;omega)
end
theorem Ze9 (w:World) (p:Nat) (v:Value) (hc:w.cell? ⟨p,10,none⟩=some v):Calls Tryz.prog 37 #[.pointer (some ⟨p,0,none⟩)] w fun e w'=>e= .returned v/\w=w':=by
 go_enter Tryz.func37,Tryz.ntmps37
 go_wp2
 go_ret
 exact⟨rfl,rfl⟩
theorem Zhs {W0 w:World} {p:Nat} {c:Cfg} {S:WM} {a:WA} (h:WP W0 w p c S a) (hn:S.ev.length<=1000000000000):Calls Tryz.prog 19 #[.pointer (some ⟨p,0,none⟩)] w fun e w'=>∃u,e= .returned u/\Z1q evV 8 w' 92 u S.ev/\Below w.heap.size w w'/\(∀k,u.ownBlock=some k->w.heap.size<=k):=by
 obtain⟨⟨c0,c1,c2,c3,c4,c5,c6,c7,c8,c9,c10,c11,c12,c13⟩,cf,cz⟩:=h.open
 have cF:=Ze9 w p _ c10
 have cC:=Zhq _ _ _ w h.evr (fun u hu=>by obtain⟨e,-,he⟩:=List.mem_flatMap.1 hu;exact Zan e u he) hn
 have CT:Calls Tryz.prog 36 #[.pointer (some ⟨p,0,none⟩),.func (.func 37) #[] #[]] w fun e w'=>∃u,e= .returned u/\Z1q evV 8 w' 92 u S.ev/\Below w.heap.size w w'/\(∀k,u.ownBlock=some k->w.heap.size<=k):=by
  have CF:=Hd cF
  have CC:=Hd cC
  clear cF cC h c0 c1 c2 c3 c4 c5 c6 c7 c8 c9 c10 c11 c12 c13 cf cz
  go_enter Tryz.func36,Tryz.ntmps36
  go_wp2_with fail
  refine CF.out.mono ?_
  rintro e w' ⟨rfl,rfl⟩
  go_wp2_with fail
  refine CC.out.mono ?_
  rintro e w1 ⟨u,rfl,h1,h2,h3⟩
  have H1:=hi3 h1 h2 h3
  clear h1 h2 h3
  go_wp2
  go_ret
  exact⟨u,rfl,H1.out.1,H1.out.2.1,H1.out.2.2⟩
 have CH:=Hd CT
 clear CT cF cC h c0 c1 c2 c3 c4 c5 c6 c7 c8 c9 c10 c11 c12 c13 cf cz
 go_enter Tryz.func19,Tryz.ntmps19
 go_wp2_with fail
 refine CH.out.mono ?_
 rintro e w1 ⟨u,rfl,h1,h2,h3⟩
 have H1:=hi3 h1 h2 h3
 clear h1 h2 h3
 go_wp2
 go_ret
 exact⟨u,rfl,H1.out.1,H1.out.2.1,H1.out.2.2⟩
theorem Znp (w:World) (p:Nat) (v:Value) (hc:w.cell? ⟨p,11,none⟩=some v):Calls Tryz.prog 39 #[.pointer (some ⟨p,0,none⟩)] w fun e w'=>e= .returned v/\w=w':=by
 go_enter Tryz.func39,Tryz.ntmps39
 go_wp2
 go_ret
 exact⟨rfl,rfl⟩
theorem Zpr {W0 w:World} {p:Nat} {c:Cfg} {S:WM} {a:WA} (h:WP W0 w p c S a) (hn:a.lg.length<=1000000000000):Calls Tryz.prog 20 #[.pointer (some ⟨p,0,none⟩)] w fun e w'=>∃u,e= .returned u/\Z1q lgV 7 w' 49 u a.lg/\Below w.heap.size w w'/\(∀k,u.ownBlock=some k->w.heap.size<=k):=by
 obtain⟨⟨c0,c1,c2,c3,c4,c5,c6,c7,c8,c9,c10,c11,c12,c13⟩,cf,cz⟩:=h.open
 have cF:=Znp w p _ c11
 have cC:=Zhr _ _ _ w h.lgr (fun u hu=>by obtain⟨e,-,he⟩:=List.mem_flatMap.1 hu;exact Zhh e u he) hn
 have CT:Calls Tryz.prog 38 #[.pointer (some ⟨p,0,none⟩),.func (.func 39) #[] #[]] w fun e w'=>∃u,e= .returned u/\Z1q lgV 7 w' 49 u a.lg/\Below w.heap.size w w'/\(∀k,u.ownBlock=some k->w.heap.size<=k):=by
  have CF:=Hd cF
  have CC:=Hd cC
  clear cF cC h c0 c1 c2 c3 c4 c5 c6 c7 c8 c9 c10 c11 c12 c13 cf cz
  go_enter Tryz.func38,Tryz.ntmps38
  go_wp2_with fail
  refine CF.out.mono ?_
  rintro e w' ⟨rfl,rfl⟩
  go_wp2_with fail
  refine CC.out.mono ?_
  rintro e w1 ⟨u,rfl,h1,h2,h3⟩
  have H1:=hi3 h1 h2 h3
  clear h1 h2 h3
  go_wp2
  go_ret
  exact⟨u,rfl,H1.out.1,H1.out.2.1,H1.out.2.2⟩
 have CH:=Hd CT
 clear CT cF cC h c0 c1 c2 c3 c4 c5 c6 c7 c8 c9 c10 c11 c12 c13 cf cz
 go_enter Tryz.func20,Tryz.ntmps20
 go_wp2_with fail
 refine CH.out.mono ?_
 rintro e w1 ⟨u,rfl,h1,h2,h3⟩
 have H1:=hi3 h1 h2 h3
 clear h1 h2 h3
 go_wp2
 go_ret
 exact⟨u,rfl,H1.out.1,H1.out.2.1,H1.out.2.2⟩
theorem Zht (w:World) (p:Nat) (v:Value) (hc:w.cell? ⟨p,12,none⟩=some v):Calls Tryz.prog 46 #[.pointer (some ⟨p,0,none⟩)] w fun e w'=>e= .returned v/\w=w':=by
 go_enter Tryz.func46,Tryz.ntmps46
 go_wp2
 go_ret
 exact⟨rfl,rfl⟩
section
variable {W0 w:World} {p:Nat} {c:Cfg} {S:WM} {a:WA}
theorem Zkj (h:WP W0 w p c S a) (hn:a.pk.length<=1000000000000):Calls Tryz.prog 24 #[.pointer (some ⟨p,0,none⟩)] w fun e w'=>∃u,e= .returned u/\Z1j w' u a.pk/\Below w.heap.size w w'/\(∀k,u.ownBlock=some k->w.heap.size<=k):=by
 obtain⟨⟨c0,c1,c2,c3,c4,c5,c6,c7,c8,c9,c10,c11,c12,c13⟩,cf,cz⟩:=h.open
 have cF:=Zht w p _ c12
 have cC:=Ze8 _ _ _ w h.pkr (fun u hu=>by obtain⟨e,-,rfl⟩:=List.mem_map.1 hu;rfl) hn
 have CT:Calls Tryz.prog 45 #[.pointer (some ⟨p,0,none⟩),.func (.func 46) #[] #[]] w fun e w'=>∃u,e= .returned u/\Z1j w' u a.pk/\Below w.heap.size w w'/\(∀k,u.ownBlock=some k->w.heap.size<=k):=by
  have CF:=Hd cF
  have CC:=Hd cC
  clear cF cC h c0 c1 c2 c3 c4 c5 c6 c7 c8 c9 c10 c11 c12 c13 cf cz
  go_enter Tryz.func45,Tryz.ntmps45
  go_wp2_with fail
  refine CF.out.mono ?_
  rintro e w' ⟨rfl,rfl⟩
  go_wp2_with fail
  refine CC.out.mono ?_
  rintro e w1 ⟨u,rfl,h1,h2,h3⟩
  have H1:=hi3 h1 h2 h3
  clear h1 h2 h3
  go_wp2
  go_ret
  exact⟨u,rfl,H1.out.1,H1.out.2.1,H1.out.2.2⟩
 have CH:=Hd CT
 clear CT cF cC h c0 c1 c2 c3 c4 c5 c6 c7 c8 c9 c10 c11 c12 c13 cf cz
 go_enter Tryz.func24,Tryz.ntmps24
 go_wp2_with fail
 refine CH.out.mono ?_
 rintro e w1 ⟨u,rfl,h1,h2,h3⟩
 have H1:=hi3 h1 h2 h3
 clear h1 h2 h3
 go_wp2
 go_ret
 exact⟨u,rfl,H1.out.1,H1.out.2.1,H1.out.2.2⟩
theorem Zkk (h:WP W0 w p c S a) (hcap:c.cap<=1000):Calls Tryz.prog 21 #[.pointer (some ⟨p,0,none⟩)] w fun e w'=>∃u,e= .returned u/\R32 w' u S.its/\Below w.heap.size w w'/\(∀k,u.ownBlock=some k->w.heap.size<=k):=by
 obtain⟨⟨c0,c1,c2,c3,c4,c5,c6,c7,c8,c9,c10,c11,c12,c13⟩,cf,cz⟩:=h.open
 have hle:=h.obj.body.le
 have cO:=Zgq w a.o c.ob c.cap c.pl S.its a.cc a.cv a.bs a.bd a.G h.obj hcap
 have cF:Calls Tryz.prog 41 #[.pointer (some ⟨p,0,none⟩)] w fun e w'=>∃u,e= .returned u/\R32 w' u S.its/\(∀k,u.ownBlock=some k->w.heap.size<=k)/\Below w.heap.size w w':=by
  have CO:=Hd cO
  clear cO h c0 c1 c2 c3 c4 c5 c6 c8 c9 c10 c11 c12 c13 cf hle hcap
  go_enter Tryz.func41,Tryz.ntmps41
  go_wp2_with fail
  refine CO.out.mono ?_
  rintro e w1 ⟨u,rfl,h1,h2,h3⟩
  have H1:=hi3 h1 h2 h3
  clear h1 h2 h3
  go_wp2
  go_ret
  exact⟨u,rfl,H1.out.1,H1.out.2.1,H1.out.2.2⟩
 have CT:Calls Tryz.prog 40 #[.pointer (some ⟨p,0,none⟩),.func (.func 41) #[] #[]] w fun e w'=>∃u,e= .returned u/\R32 w' u S.its/\Below w.heap.size w w'/\(∀k,u.ownBlock=some k->w.heap.size<=k):=by
  have CF:=Hd cF
  have HL:=Hd (show S.its.length<=1000000 by omega)
  clear cF cO h c0 c1 c2 c3 c4 c5 c6 c7 c8 c9 c10 c11 c12 c13 cf cz hle hcap
  go_enter Tryz.func40,Tryz.ntmps40
  go_wp2_with fail
  refine CF.out.mono ?_
  rintro e w1 ⟨u,rfl,h1,h2,h3⟩
  have H1:=hi2 h1 h3
  clear h1 h2 h3
  go_wp2_with fail
  refine(Z6e u S.its w1 H1.out.1 HL.out).mono ?_
  rintro e w2 ⟨u2,rfl,g1,g2,g3⟩
  have H2:=hi3 g1 g2 g3
  clear g1 g2 g3
  go_wp2
  go_ret
  have hz:=H1.out.2.size
  exact⟨u2,rfl,H2.out.1,H1.out.2.trans (H2.out.2.1.mono hz),fun k e=>Nat.le_trans hz (H2.out.2.2 k e)⟩
 have CH:=Hd CT
 clear CT cF cO h c0 c1 c2 c3 c4 c5 c6 c7 c8 c9 c10 c11 c12 c13 cf cz hle hcap
 go_enter Tryz.func21,Tryz.ntmps21
 go_wp2_with fail
 refine CH.out.mono ?_
 rintro e w1 ⟨u,rfl,h1,h2,h3⟩
 have H1:=hi3 h1 h2 h3
 clear h1 h2 h3
 go_wp2
 go_ret
 exact⟨u,rfl,H1.out.1,H1.out.2.1,H1.out.2.2⟩
theorem Zhu (h:WP W0 w p c S a):Calls Tryz.prog 22 #[.pointer (some ⟨p,0,none⟩)] w fun e w'=>∃b q,e= .returned (.pointer (some ⟨b,0,none⟩))/\MS W0 w' b q (3+5*c.th) S.xs a.st/\Below w.heap.size w w':=by
 obtain⟨⟨c0,c1,c2,c3,c4,c5,c6,c7,c8,c9,c10,c11,c12,c13⟩,cf,cz⟩:=h.open
 have CO:=Hd (Zlh h.mem)
 clear h c0 c1 c2 c3 c4 c5 c7 c8 c9 c10 c11 c12 c13 cf
 go_enter Tryz.func22,Tryz.ntmps22
 go_wp2_with fail
 refine CO.out.mono ?_
 rintro e w1 ⟨b,q,rfl,h1,h2,h3,h4,h5⟩
 have H1:=hi2 h2 h5
 clear h1 h2 h3 h4 h5
 go_wp2
 go_ret
 exact⟨b,q,rfl,H1.out.1,H1.out.2⟩
end
structure Sp where
 t:Int
 s:Int
 ok:Int
 ov:Int
 rc:Int
 rv:Int
 fr:Int
 til:Int
def spV (e:Sp):List Value:= [.int .i64 e.t,.int .i64 e.s,.int .u8 e.ok,.int .i32 e.ov,.int .u8 e.rc,.int .i32 e.rv,.int .i64 e.fr,.int .i64 e.til]
theorem Znq (e:Sp):(spV e).length=8:=rfl
def Z4h (y x:Ev):Bool:=decide (x.k=2/\x.t=y.t/\x.s=y.s)
def Zar (l:List Ev) (e:Ev):Sp:=match l.find? (Z4h e)with
 |none=>⟨e.t,e.s,e.ok,e.ov,0,0,e.at',-1⟩
 |some x=>⟨e.t,e.s,e.ok,e.ov,x.rc,x.rv,e.at',x.at'⟩
def Z5j (l:List Ev) (k:Nat):List Sp:=match l[k]? with
 |none=> []
 |some e=>if e.k=1 then [Zar (l.drop k) e]else []
def Z3w (l:List Ev) (k:Nat):List Sp:=(List.range k).flatMap (Z5j l)
def Z6x (l:List Ev):List Sp:=Z3w l l.length
theorem Z5r (l:List Ev) (k:Nat):Z3w l (k+1)=Z3w l k++Z5j l k:=by simp[Z3w,List.range_succ]
theorem Zby (l:List Ev) (k:Nat):(Z5j l k).length<=1:=by
 unfold Z5j
 split
 ·simp
 ·split<;>simp
theorem Z6y (l:List Ev):∀k,(Z3w l k).length<=k
 |0=>by simp[Z3w]
 |k+1=>by
  have:=Z6y l k
  have:=Zby l k
  rw[Z5r,Lla];omega
def EvO (w:World) (G off:Nat) (L:List Ev):Prop:=G<w.heap.size/\∀i x,L[i]?=some x->w.cell? ⟨G,(off+i*8)+0,none⟩=some (.int .u8 x.k)/\w.cell? ⟨G,(off+i*8)+1,none⟩=some (.int .i64 x.t)/\w.cell? ⟨G,(off+i*8)+2,none⟩=some (.int .i64 x.s)/\w.cell? ⟨G,(off+i*8)+3,none⟩=some (.int .u8 x.ok)/\w.cell? ⟨G,(off+i*8)+4,none⟩=some (.int .i32 x.ov)/\w.cell? ⟨G,(off+i*8)+5,none⟩=some (.int .u8 x.rc)/\w.cell? ⟨G,(off+i*8)+6,none⟩=some (.int .i32 x.rv)/\w.cell? ⟨G,(off+i*8)+7,none⟩=some (.int .i64 x.at')
theorem EvO.below {w w':World} {G off:Nat} {L:List Ev} (h:EvO w G off L) (hb:Below w.heap.size w w'):EvO w' G off L:=
 ⟨Nlt h.1 hb.size,fun i x hx=>by
   have h1:=h.2 i x hx
   have e:∀j,w'.cell? ⟨G,j,none⟩=w.cell? ⟨G,j,none⟩:=fun j=>hb.cell (p:=⟨G,j,none⟩) h.1
   simpa only[e]using h1⟩
theorem EvO.drop {w:World} {G off:Nat} {L:List Ev} (h:EvO w G off L) (k:Nat):EvO w G (off+k*8) (L.drop k):=
 ⟨h.1,fun i x hx=>by
   rw[List.getElem?_drop]at hx
   have h1:=h.2 (k+i) x hx
   have e:off+(k+i)*8=off+k*8+i*8:=by omega
   rwa [e]at h1⟩
theorem EvO.of {w:World} {v:Value} {L:List Ev} (h:Z1q evV 8 w 92 v L) (hp:0<L.length):∃g cap,v= .slice (some ⟨g,0,none⟩) L.length cap/\L.length<=cap/\EvO w g 0 L:=by
 obtain⟨g,cap,e,hc,hl,h1,-⟩:=h.pos Zng hp
 refine⟨g,cap,e,hc,hl,fun i x hx=>?_⟩
 rw[Nat.zero_add]
 refine⟨h1 i 0 x _ hx (by omega) rfl,h1 i 1 x _ hx (by omega) rfl,h1 i 2 x _ hx (by omega) rfl,h1 i 3 x _ hx (by omega) rfl,h1 i 4 x _ hx (by omega) rfl,h1 i 5 x _ hx (by omega) rfl,h1 i 6 x _ hx (by omega) rfl,h1 i 7 x _ hx (by omega) rfl⟩
theorem Zkl {y:Ev} {L:List Ev} {k:Nat} {x:Ev} (hx:L[k]?=some x) (hp:Z4h y x=true) (hn:∀q z,q<k->L[q]?=some z->Z4h y z=false):L.find? (Z4h y)=some x:=by
 have hk:=(List.getElem?_eq_some_iff.1 hx).1
 rw[List.find?_eq_some_iff_getElem]
 refine⟨hp,k,hk,(List.getElem?_eq_some_iff.1 hx).2,fun q hq=>?_⟩
 rw[hn q _ hq (Lge (by omega))];rfl
theorem Zhv {y:Ev} {L:List Ev} (hn:∀q z,q<L.length->L[q]?=some z->Z4h y z=false):L.find? (Z4h y)=none:=by
 rw[List.find?_eq_none]
 intro x hx
 obtain⟨q,hq,rfl⟩:=List.mem_iff_getElem.1 hx
 rw[hn q _ hq (Lge hq)];simp
theorem Zkm (w:World) (b:Nat) (x y:Ev) (h1:w.cell? ⟨b,1,none⟩=some (.int .i64 y.t)) (h2:w.cell? ⟨b,2,none⟩=some (.int .i64 y.s)) (hb:b<w.heap.size):
 Calls Tryz.prog 48 #[.agg #[.int .u8 x.k,.int .i64 x.t,.int .i64 x.s,.int .u8 x.ok,.int .i32 x.ov,.int .u8 x.rc,.int .i32 x.rv,.int .i64 x.at'],.pointer (some ⟨b,0,none⟩)] w fun e w'=>e= .returned (.bool (Z4h y x))/\Below w.heap.size w w':=by
 by_cases e1:x.k=2
 ·by_cases e2:x.t=y.t
  ·by_cases e3:x.s=y.s
   ·have e:Z4h y x=true:=decide_eq_true ⟨e1,e2,e3⟩
    rw[e,e1,e2,e3]
    go_enter Tryz.func48,Tryz.ntmps48
    go_wp2
    go_ret
    exact⟨by first|rfl|simp,by go_grown⟩
   ·have e:Z4h y x=false:=decide_eq_false (fun h=>e3 h.2.2)
    rw[e,e1,e2]
    go_enter Tryz.func48,Tryz.ntmps48
    go_wp2
    go_ret
    exact⟨by first|rfl|(simp;done)|simp[e3],by go_grown⟩
  ·have e:Z4h y x=false:=decide_eq_false (fun h=>e2 h.2.1)
   rw[e,e1]
   go_enter Tryz.func48,Tryz.ntmps48
   go_wp2
   go_ret
   exact⟨by first|rfl|(simp;done)|simp[e2],by go_grown⟩
 ·have e:Z4h y x=false:=decide_eq_false (fun h=>e1 h.1)
  rw[e]
  go_enter Tryz.func48,Tryz.ntmps48
  go_wp2
  go_ret
  exact⟨by first|rfl|(simp;done)|simp[e1],by go_grown⟩
theorem Zhw (w:World) (G off cap b:Nat) (L:List Ev) (y:Ev) (h:EvO w G off L) (h1:w.cell? ⟨b,1,none⟩=some (.int .i64 y.t)) (h2:w.cell? ⟨b,2,none⟩=some (.int .i64 y.s)) (hb:b<w.heap.size) (hn:L.length<=1000000):
 Calls Tryz.prog 47 #[.slice (some ⟨G,off,none⟩) L.length cap,.func (.func 48) #[] #[.pointer (some ⟨b,0,none⟩)]] w fun e w'=>∃r:Int,e= .returned (.int .i64 r)/\((r= -1/\L.find? (Z4h y)=none)\/∃(k:Nat) (x:Ev),r=(k:Int)/\L[k]?=some x/\L.find? (Z4h y)=some x)/\Below w.heap.size w w':=by
 have H:=hi4 h h1 h2 hb
 have hn':(L.length:Int)<=1000000:=by omega
 clear h h1 h2 hb
 go_enter Tryz.func47,Tryz.ntmps47
 go_wp2
 go_loopw [8] (fun i wr=>∃k:Nat,k<=L.length/\i= .int .i64 k/\Below w.heap.size w wr/\∀q z,q<k->L[q]?=some z->Z4h y z=false) (fun i _=>L.length-(intOf i).toNat)
 case atStart=>exact⟨0,Nat.zero_le _,rfl,Brf _ _,fun q z hq=>by omega⟩
 case round=>
  obtain⟨k,hk,rfl,hB,hne⟩:=hrel
  have HN:=hi2 hB hne
  have zk:(0:Int)<=(k:Int):=by omega
  clear hne hB
  by_cases hlt:k<L.length
  ·have hlt':(k:Int)<(L.length:Int):=by omega
   obtain⟨x,hx⟩:∃x,L[k]?=some x:=⟨_,Lge hlt⟩
   obtain⟨x0,x1,x2,x3,x4,x5,x6,x7⟩:=(H.out.1.below HN.out.1).2 k x hx
   simp only[Nat.add_zero]at x0
   have HX:=Hd hx
   clear hx
   go_wp2_with fail
   refine(Zkm _ b x y ((HN.out.1.cell (p:=⟨b,1,none⟩) H.out.2.2.2).trans H.out.2.1) ((HN.out.1.cell (p:=⟨b,2,none⟩) H.out.2.2.2).trans H.out.2.2.1) (Nlt H.out.2.2.2 HN.out.1.size)).mono ?_
   rintro e w2 ⟨rfl,hb2⟩
   have B2:Below w.heap.size w w2:=HN.out.1.trans (hb2.mono HN.out.1.size)
   clear hb2 x0 x1 x2 x3 x4 x5 x6 x7
   cases hp:Z4h y x
   ·have HP:=Hd hp
    clear hp
    go_wp2_with fail
    go_roundw
    case rel=>exact⟨k+1,by omega,by go_num,B2,fun q z hq hz=>by
     by_cases hqk:q=k
     ·subst hqk
      have:z=x:=by have:=HX.out;rw[hz]at this;exact Option.some.inj this
      rw[this];exact HP.out
     ·exact HN.out.2 q z (by omega) hz⟩
    case measure=>simp[intOf];omega
   ·have HP:=Hd hp
    clear hp
    go_wp2
    go_ret
    exact⟨k,rfl,.inr ⟨k,x,rfl,HX.out,Zkl HX.out HP.out HN.out.2⟩,B2⟩
  ·obtain rfl:k=L.length:=by omega
   go_wp2
   go_ret
   exact⟨-1,rfl,.inl ⟨rfl,Zhv HN.out.2⟩,HN.out.1⟩
theorem Tryz.infoSp:(Tryz.prog.info? 56).map (fun i=>(i.zero,i.size,i.bytes))=some (some (.agg #[.int .i64 0,.int .i64 0,.int .u8 0,.int .i32 0,.int .u8 0,.int .i32 0,.int .i64 0,.int .i64 0]),8,48):=by kernel_rfl
theorem Zps {w:World} {g:Nat} {e:Sp} (h:w.heap[g]?=some (.cells #[.int .i64 e.t,.int .i64 e.s,.int .u8 e.ok,.int .i32 e.ov,.int .u8 e.rc,.int .i32 e.rv,.int .i64 e.fr,.int .i64 e.til] 56 (0,0))):w.ownsRow 0 56 8 (.slice (some ⟨g,0,none⟩) 1 1) 1 (spV e):=
 ⟨rfl,.inr ⟨g,1,_,rfl,Nat.zero_le _,h,Nat.le_refl _,by unfold maxLen;omega,rfl,rfl⟩⟩
theorem Zpt (e:Sp):∀u ∈ spV e,u.oneCell'=true:=by
 intro u hu
 simp only[spV,List.mem_cons,List.not_mem_nil,or_false]at hu
 rcases hu with rfl|rfl|rfl|rfl|rfl|rfl|rfl|rfl<;>rfl
theorem Zl5 {w:World} {g:Nat} {e:Sp} (h:w.heap[g]?=some (.cells #[.int .i64 e.t,.int .i64 e.s,.int .u8 e.ok,.int .i32 e.ov,.int .u8 e.rc,.int .i32 e.rv,.int .i64 e.fr,.int .i64 e.til] 56 (0,0))):w.cell? ⟨g,0,none⟩=some (.int .i64 e.t)/\w.cell? ⟨g,1,none⟩=some (.int .i64 e.s)/\w.cell? ⟨g,2,none⟩=some (.int .u8 e.ok)/\w.cell? ⟨g,3,none⟩=some (.int .i32 e.ov)/\w.cell? ⟨g,4,none⟩=some (.int .u8 e.rc)/\w.cell? ⟨g,5,none⟩=some (.int .i32 e.rv)/\w.cell? ⟨g,6,none⟩=some (.int .i64 e.fr)/\w.cell? ⟨g,7,none⟩=some (.int .i64 e.til):=by
 simp[World.cell?,h]
theorem Znr (w:World) (v:Value) (L:List Ev) (h:Z1q evV 8 w 92 v L) (hn:L.length<=1000000):
 Calls Tryz.prog 25 #[v] w fun e w'=>∃u,e= .returned u/\Z1q spV 8 w' 56 u (Z6x L)/\Below w.heap.size w w'/\(∀k,u.ownBlock=some k->w.heap.size<=k):=by
 rcases Nat.eq_zero_or_pos L.length with h0|hp
 ·obtain rfl:L= []:=Lnl h0
  obtain⟨ao,cap,rfl⟩:=h.shape
  clear h
  go_enter Tryz.func25,Tryz.ntmps25
  go_wp2
  refine wp_loop_rounds 1 ?_
  rw[rounds_succ]
  go_wp2
  go_ret
  first|exact⟨_,rfl,Z1q.nil _ _ _ _,Brf _ _,fun k e=>by cases e⟩|exact⟨Z1q.nil _ _ _ _,Brf _ _,fun k e=>by cases e⟩
 obtain⟨G,cap,rfl,hc,hE⟩:=EvO.of h hp
 have H:=Hd hE
 have hn':(L.length:Int)<=1000000:=by omega
 obtain⟨i0',hi,hz0,hz1,hz2⟩:=info_parts Tryz.infoSp
 clear h hE hp
 go_enter Tryz.func25,Tryz.ntmps25
 go_wp2
 go_loopw [3,10] (fun o i wr=>∃k:Nat,k<=L.length/\i= .int .i64 k/\Z1q spV 8 wr 56 o (Z3w L k)/\Below w.heap.size w wr/\(∀j,o.ownBlock=some j->w.heap.size<=j)) (fun _ i _=>L.length-(intOf i).toNat)
 case atStart=>exact⟨0,Nat.zero_le _,rfl,Z1q.nil _ _ _ _,Brf _ _,fun k e=>by cases e⟩
 case round=>
  obtain⟨k,hk,rfl,hR,hB,ho⟩:=hrel
  have zk:(0:Int)<=(k:Int):=by omega
  by_cases hlt:k<L.length
  ·have hlt':(k:Int)<(L.length:Int):=by omega
   obtain⟨y,hy⟩:∃y,L[k]?=some y:=⟨_,Lge hlt⟩
   have HE:=Hd (H.out.below hB)
   obtain⟨x0,x1,x2,x3,x4,x5,x6,x7⟩:=HE.out.2 k y hy
   simp only[Nat.add_zero,Nat.zero_add]at x0 x1 x2 x3 x4 x5 x6 x7
   have hs1:=Z5r L k
   have hat:Z5j L k=if y.k=1 then [Zar (L.drop k) y]else []:=by unfold Z5j;rw[hy]
   rw[hat]at hs1
   clear hat
   by_cases e1:y.k=1
   ·rw[if_pos e1]at hs1
    rw[e1]at x0
    obtain⟨ao,co,rfl⟩:=hR.shape
    obtain⟨ln,hln⟩:∃ln,(Z3w L k).length=ln:=⟨_,rfl⟩
    have hlk:=Z6y L k
    rw[hln]at hR ho hlk |-
    have HR:=hi6 hR hB ho hs1 hln hy
    clear hR hB ho hs1 hln hy
    generalize hEB:wr.heap.size=eb
    go_wp2_with fail
    generalize hW1:World.alloc (World.alloc _ _) _=w1
    have hb1:w1.heap[eb]?=some (.cells #[.int .u8 1,.int .i64 y.t,.int .i64 y.s,.int .u8 y.ok,.int .i32 y.ov,.int .u8 y.rc,.int .i32 y.rv,.int .i64 y.at'] 92 (0,0)):=by rw[<-hW1,<-hEB];exact(Z05 _ _ _).1
    have hb2:w1.heap[eb+1]?=some (.cells #[.int .i64 y.t,.int .i64 y.s,.int .u8 y.ok,.int .i32 y.ov,.int .u8 0,.int .i32 0,.int .i64 y.at',.int .i64 (-1)] 56 (0,0)):=by rw[<-hW1,<-hEB];exact(Z05 _ _ _).2
    have B1:Below wr.heap.size wr w1:=by rw[<-hW1];go_grown
    have E1:EvO w1 G (k*8) (L.drop k):=by have:=(HE.out.below B1).drop k;rwa [Nat.zero_add]at this
    have hld:(L.drop k).length=L.length-k:=List.length_drop
    have CI:=Zhw w1 G (k*8) (cap-k) eb (L.drop k) y E1 (by simp[World.cell?,hb1]) (by simp[World.cell?,hb1]) (Gl hb1) (by omega)
    rw[hld]at CI
    have H1:=hi3 hb2 B1 E1
    clear hW1 hb1 hb2 B1 E1 hld x0 x1 x2 x3 x4 x5 x6 x7
    refine CI.mono ?_
    rintro e w2 ⟨r,rfl,hr,b2⟩
    have hb3:=(b2.block (eb+1) (Gl H1.out.1)).trans H1.out.1
    have E2:=H1.out.2.2.below b2
    have B2:=H1.out.2.1.trans (b2.mono H1.out.2.1.size)
    have hsz:=b2.size
    have hebz:eb+1<w2.heap.size:=(Gl hb3)
    have H2:=hi4 hb3 E2 B2 hr
    clear CI b2 hb3 E2 B2 hsz
    go_upto_if 33 with fail
    go_cut [10]from 10 to 54 (fun a10 wx=>a10= .int .i64 k/\∃e:Sp,e=Zar (L.drop k) y/\wx.heap[eb+1]?=some (.cells #[.int .i64 e.t,.int .i64 e.s,.int .u8 e.ok,.int .i32 e.ov,.int .u8 e.rc,.int .i32 e.rv,.int .i64 e.fr,.int .i64 e.til] 56 (0,0))/\Below wr.heap.size wr wx)
    case first=>
     rcases hr with⟨rfl,hf⟩|⟨q,x,rfl,hq,hf⟩
     ·go_wp2_with fail
      go_meet
      case rel=>exact⟨rfl,_,rfl,by unfold Zar;rw[hf];exact H2.out.1,H2.out.2.2.1⟩
     ·have hkq:k+q<L.length:=by
       have:=(List.getElem?_eq_some_iff.1 hq).1
       rw[List.length_drop]at this;omega
      have hkq':(k:Int)+(q:Int)<(L.length:Int):=by omega
      have zq:(0:Int)<=(q:Int):=by omega
      obtain⟨-,-,-,-,z4,z5,z6,z7⟩:=H2.out.2.1.2 q x hq
      rw[show k*8+q*8=(k+q)*8 by omega]at z4 z5 z6 z7
      obtain⟨-,-,-,-,s4,s5,-,s7⟩:=Zl5 (e:=⟨y.t,y.s,y.ok,y.ov,0,0,y.at',-1⟩) H2.out.1
      have F:=Hd hf
      have hb3:=H2.out.1
      have hgz:=H2.out.2.1.1
      have f4:=Z06 hb3 4
      have f5:=Z06 hb3 5
      have f7:=Z06 hb3 7
      clear hf hq
      go_wp2_with fail
      go_region
      all_goals
       go_wp2_with fail
       go_meet
       case rel=>
        have B2:=H2.out.2.2.1
        subst hEB
        refine⟨rfl,⟨y.t,y.s,y.ok,y.ov,x.rc,x.rv,y.at',x.at'⟩,by unfold Zar;rw[F.out],?_,?_⟩
        ·have hd:w2.drew.heap[wr.heap.size+1]?=_:=hb3
         exact Z00 (Z00 (Z00 hd _ _) _ _) _ _
        ·go_grown
    case rest=>
     obtain⟨rfl,e,he,hb4,B4⟩:=hcut
     obtain⟨s0,s1,s2,s3,s4,s5,s6,s7⟩:=Zl5 hb4
     have R4:=Hd (fun(u:World) (hu:Below wc.heap.size wc u)=>(HR.out.1.below B4).below hu)
     have H4:=hi3 he hb4 B4
     clear hr H2 hb4 B4 he
     go_wp2_with (at_builtin;refine Z0c _ rfl _ _ 34 rfl 0 0 56 i0' (.agg #[.int .i64 0,.int .i64 0,.int .u8 0,.int .i32 0,.int .u8 0,.int .i32 0,.int .i64 0,.int .i64 0]) 8 48 Tryz.underlying34 hi hz0 hz1 hz2 rfl (by decide) _ _ _ rfl (R4.out _ (by go_grown)) _ 1 (spV e) rfl (Zps (Han _ _)) (Zpt _) ?c3 ?c4 ?c5 ?_)
     case c3=>rw[HR.out.2.2.2.2.1];unfold maxLen;omega
     case c4=>rw[HR.out.2.2.2.2.1];omega
     case c5=>exact Nat.zero_le _
     intro v5 w5 own5 gr5 _ loc5
     obtain⟨ao5,cap5,rfl⟩:=Z03 own5
     have K5:Z01 (fun j=>(Value.slice ao ln co).ownBlock=some j) wc w5:=((Z01.refl _ wc).alloc _).grown gr5 (fun k e _=>e)
     have H5:=hi3 own5 K5 loc5
     clear own5 gr5 loc5 K5 R4 s0 s1 s2 s3 s4 s5 s6 s7
     go_wp2
     go_roundw
     case rel=>
      obtain⟨own5,K5,loc5⟩:=H5.out
      obtain⟨hR,hB,ho,hs1,hln,hy⟩:=HR.out
      obtain⟨he,hb4,B4⟩:=H4.out
      have hz:=hB.size
      have hz4:=B4.size
      refine⟨k+1,by omega,by go_num,by rw[hs1,<-he];exact Z1q.snoc own5,(hB.trans (B4.mono hz)).trans (K5.below (by omega) (fun j hj e=>by have:=ho j e;omega)),fun j e=>?_⟩
      rcases loc5 with h|h
      ·exact ho j (h ▸ e)
      ·rw[e]at h;simp at h;omega
     case measure=>simp[intOf];omega
   ·rw[if_neg e1,List.append_nil]at hs1
    have HR:=hi4 hR hB ho hs1
    clear hR hB ho hs1
    go_wp2
    go_roundw
    case rel=>exact⟨k+1,by omega,by go_num,by rw[HR.out.2.2.2];exact HR.out.1.below (by go_grown),HR.out.2.1.trans (Below.mono (by go_grown) HR.out.2.1.size),HR.out.2.2.1⟩
    case measure=>simp[intOf];omega
  ·obtain rfl:k=L.length:=by omega
   have HR:=hi3 hR hB ho
   clear hR hB ho
   go_wp2
   go_ret
   first|exact⟨_,rfl,HR.out.1,HR.out.2.1,HR.out.2.2⟩|exact⟨HR.out.1,HR.out.2.1,HR.out.2.2⟩
end
end Go.Proofs.YtihljjgmkaeohaaGreat
