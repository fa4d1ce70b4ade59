/- part 27 -/
import Derived.Test.YtihljjgmkaeohaaGreatPnAY
import Derived.Test.YtihljjgmkaeohaaGreatPnAZ
set_option linter.all false
set_option maxHeartbeats 16000000
set_option maxRecDepth 100000
namespace Go.Proofs.YtihljjgmkaeohaaGreat
section
open Go.RowKit Go.ChangeShapes Go.WideShapes Go.ChangeAt Go.Deep
theorem Zao (n i:Nat) (F:Nat->Int) (T:List (Int×Int)):Z0k n (Z48 i F T)=Z0k n F:=by
 unfold Z0k
 refine List.map_congr_left (fun j _=>?_)
 have:Z48 i F T (3*j+1)=F (3*j+1):=by unfold Z48;rw[if_neg (by omega)]
 rw[this]
def Z6v (c:Cfg) (S:WM) (t:Th) (n:Nat) (F:Nat->Int) (its':List Int) (F':Nat->Int) (lg':List ((Int×Int)×(Int×Int))):Prop:=
 if t.i1=36 then ∃ord,Z31 c.ob (Z0k n F) ord/\its'=(Z0m (Z0d c.ob c.cap) (Z0k n F) (S.its,List.replicate n (0,0)) ord).1/\F'=Z48 n F (Z0m (Z0d c.ob c.cap) (Z0k n F) (S.its,List.replicate n (0,0)) ord).2/\lg'=S.lg++ord.map (Z92 n F')
 else its'=S.its/\F'=cbF S.xs t n F/\lg'=S.lg
def Zkc (W0 w:World) (c:Cfg) (S:WM) (a:WA) (t t':Th) (n:Nat) (F:Nat->Int) (a4 a5:Value) (wx:World):Prop:=
 ∃(r4:Nat) (ao:Option Addr) (cp:Nat) (dao:Option Addr) (dcp:Nat) (st':Int) (its':List Int) (F':Nat->Int) (nd:Nat) (Fd:Nat->Int) (cv':Value) (bs':List Bool) (G':Nat->Prop),a4= .pointer (some ⟨r4,0,none⟩)/\a5= .slice dao nd dcp/\(wx.cell? ⟨r4,0,none⟩=some (Value.int IntKind.i64 t'.i0)/\wx.cell? ⟨r4,1,none⟩=some (Value.int IntKind.i64 t'.i1)/\wx.cell? ⟨r4,2,none⟩=some (Value.int IntKind.i64 t'.i2)/\wx.cell? ⟨r4,3,none⟩=some (Value.int IntKind.i64 t'.i3)/\wx.cell? ⟨r4,4,none⟩=some (Value.int IntKind.i64 t'.i4)/\wx.cell? ⟨r4,5,none⟩=some (Value.int IntKind.i64 t'.i5)/\wx.cell? ⟨r4,6,none⟩=some (Value.int IntKind.i64 t'.i6)/\wx.cell? ⟨r4,7,none⟩=some (Value.int IntKind.i64 t'.i7)/\wx.cell? ⟨r4,8,none⟩=some (Value.int IntKind.i64 t'.i8)/\wx.cell? ⟨r4,9,none⟩=some (Value.int IntKind.i64 t'.i9)/\wx.cell? ⟨r4,10,none⟩=some (Value.int IntKind.i64 t'.i10)/\wx.cell? ⟨r4,11,none⟩=some (Value.int IntKind.i64 t'.i11)/\wx.cell? ⟨r4,12,none⟩=some (.slice ao (cbN S.xs t n) cp))/\(w.heap.size<=r4/\r4<wx.heap.size)/\(MS W0 wx a.b a.g (3+5*c.th) (cbX S.xs t n F) st'/\(a.st<=st'/\st'<=a.st+1)/\IRw wx (Value.slice ao (cbN S.xs t n) cp) (cbN S.xs t n) F'/\IRw wx (Value.slice dao nd dcp) nd Fd/\Zim c.ob c.cap S.xs t n F S.its its' F' nd Fd/\(∀k,(Value.slice ao (cbN S.xs t n) cp).ownBlock=some k\/(Value.slice dao nd dcp).ownBlock=some k->w.heap.size<=k)/\Z4j wx a.o c.ob c.cap c.pl its' a.cc cv' bs' a.bd G'/\(∀k,ObF a.o a.cc cv' G' k->ObF a.o a.cc a.cv a.G k\/w.heap.size<=k)/\(∀k,(Value.slice ao (cbN S.xs t n) cp).ownBlock=some k->¬ObF a.o a.cc cv' G' k)/\(∀k,(Value.slice dao nd dcp).ownBlock=some k->¬ObF a.o a.cc cv' G' k/\¬(Value.slice ao (cbN S.xs t n) cp).ownBlock=some k)/\Z01 (fun k=>Z18 a.b a.g k\/ObF a.o a.cc a.cv a.G k) w wx)
theorem Zkd {W0 w:World} {p:Nat} {c:Cfg} {S:WM} {a:WA} (h:WP W0 w p c S a) (k tb q n0 cap n:Nat) (t:Th) (F:Nat->Int) (hk:S.T[k]?=some ⟨t,n,F⟩) (hq:k*13=q) (htv:a.tv= .slice (some ⟨tb,0,none⟩) n0 cap) (h1:20<=t.i1) (h2:t.i1<=39)
 (hn:n<=800000) (s1:a.st<900000) (hcap:c.cap<=1000) (h32:Z2l S.its) (hlg:a.lg.length+n<=1000000000000) (hth:1<=c.th):
 Calls Tryz.prog 65 #[.pointer (some ⟨p,0,none⟩),.pointer (some ⟨tb,q,none⟩)] w fun e w'=>e= .returned (.tuple #[])/\∃its' F' lg' a',Z6v c S t n F its' F' lg'/\WP W0 w' p c {S with xs:=cbX S.xs t n F,T:=S.T.set k ⟨cbT c.ps S.xs t n,cbN S.xs t n,F'⟩,its:=its',lg:=lg'} a'/\a'.st<=a.st+1:=by
 obtain⟨v,hv,hI,hT,hl⟩:=h.atq hk hq htv
 obtain⟨ao,cp,rfl⟩:=Z03 hI
 obtain⟨⟨c0,c1,c2,c3,c4,c5,c6,c7,c8,c9,c10,c11,c12,c13⟩,cf,cz⟩:=h.open
 obtain⟨t0,t1,t2,t3,t4,t5,t6,t7,t8,t9,t10,t11,t12⟩:=hT.c
 have tz:=hT.lt
 have cS:=fun(u:World) (hu:Below w.heap.size w u)=>Znb W0 u a.b a.g (3+5*c.th) a.st S.xs t (.slice ao n cp) c.ps n F a.o c.ob c.cap c.pl S.its a.cc a.cv a.bs a.bd a.G (h.mem.below hu) (hI.below hu) (by omega) h.st0 (by omega) (h.obj.below hu) (fun j e=>⟨Z18.tag h (h.tob j e) (by decide),(h.ge j (by rw[h.tob j e];decide)).1⟩) hcap h32 h1 h2
 unfold Zak at cS
 obtain⟨t',ht'⟩:∃t',cbT c.ps S.xs t n=t':=⟨_,rfl⟩
 rw[ht']at cS |-
 unfold thV at cS
 have CS:=Hd cS
 have hFO:∀j i,a.tag j=i->i≠2->i≠3->¬(Z18 a.b a.g j\/ObF a.o a.cc a.cv a.G j):=fun j i e h2 h3 f=>f.elim (fun f=>h2 (by rw[<-e];exact h.tm j f)) (fun f=>h3 (by rw[<-e];exact h.tob j f))
 have HN:=hi2 (hFO tb 4 (h.tt tb (by rw[htv];rfl)) (by decide) (by decide)) (hFO p 1 h.tp (by decide) (by decide))
 have HN2:=Hd (fun(j:Nat) (hj:w.heap.size<=j)=>(show ¬(Z18 a.b a.g j\/ObF a.o a.cc a.cv a.G j)from hFO j 0 (h.old hj) (by decide) (by decide)))
 have hAS:∀wz,Below w.heap.size w wz->wz.cell? ⟨p,4,none⟩=some (.int .i64 c.ps)/\wz.cell? ⟨p,6,none⟩=some (.pointer (some ⟨a.b,0,none⟩))/\wz.cell? ⟨p,7,none⟩=some (.pointer (some ⟨a.o,0,none⟩))/\wz.cell? ⟨tb,q,none⟩=some (.int .i64 t.i0)/\wz.cell? ⟨tb,q+1,none⟩=some (.int .i64 t.i1)/\wz.cell? ⟨tb,q+2,none⟩=some (.int .i64 t.i2)/\wz.cell? ⟨tb,q+3,none⟩=some (.int .i64 t.i3)/\wz.cell? ⟨tb,q+4,none⟩=some (.int .i64 t.i4)/\wz.cell? ⟨tb,q+5,none⟩=some (.int .i64 t.i5)/\wz.cell? ⟨tb,q+6,none⟩=some (.int .i64 t.i6)/\wz.cell? ⟨tb,q+7,none⟩=some (.int .i64 t.i7)/\wz.cell? ⟨tb,q+8,none⟩=some (.int .i64 t.i8)/\wz.cell? ⟨tb,q+9,none⟩=some (.int .i64 t.i9)/\wz.cell? ⟨tb,q+10,none⟩=some (.int .i64 t.i10)/\wz.cell? ⟨tb,q+11,none⟩=some (.int .i64 t.i11)/\wz.cell? ⟨tb,q+12,none⟩=some (.slice ao n cp):=fun wz hb=>by
  have hc:=fun(b j:Nat) (hl:b<w.heap.size)=>hb.cell (p:=⟨b,j,none⟩) hl
  exact⟨(hc p _ cz).trans c4,(hc p _ cz).trans c6,(hc p _ cz).trans c7,(hc tb _ tz).trans t0,(hc tb _ tz).trans t1,(hc tb _ tz).trans t2,(hc tb _ tz).trans t3,(hc tb _ tz).trans t4,(hc tb _ tz).trans t5,(hc tb _ tz).trans t6,(hc tb _ tz).trans t7,(hc tb _ tz).trans t8,(hc tb _ tz).trans t9,(hc tb _ tz).trans t10,(hc tb _ tz).trans t11,(hc tb _ tz).trans t12⟩
 have AS:=Hd hAS
 have hAS0:∀(u:World),Z01 (fun k=>Z18 a.b a.g k\/ObF a.o a.cc a.cv a.G k) w u->∀wz,Below w.heap.size u wz->wz.cell? ⟨p,4,none⟩=some (.int .i64 c.ps)/\wz.cell? ⟨p,6,none⟩=some (.pointer (some ⟨a.b,0,none⟩))/\wz.cell? ⟨p,7,none⟩=some (.pointer (some ⟨a.o,0,none⟩))/\wz.cell? ⟨tb,q,none⟩=some (.int .i64 t.i0)/\wz.cell? ⟨tb,q+1,none⟩=some (.int .i64 t.i1)/\wz.cell? ⟨tb,q+2,none⟩=some (.int .i64 t.i2)/\wz.cell? ⟨tb,q+3,none⟩=some (.int .i64 t.i3)/\wz.cell? ⟨tb,q+4,none⟩=some (.int .i64 t.i4)/\wz.cell? ⟨tb,q+5,none⟩=some (.int .i64 t.i5)/\wz.cell? ⟨tb,q+6,none⟩=some (.int .i64 t.i6)/\wz.cell? ⟨tb,q+7,none⟩=some (.int .i64 t.i7)/\wz.cell? ⟨tb,q+8,none⟩=some (.int .i64 t.i8)/\wz.cell? ⟨tb,q+9,none⟩=some (.int .i64 t.i9)/\wz.cell? ⟨tb,q+10,none⟩=some (.int .i64 t.i10)/\wz.cell? ⟨tb,q+11,none⟩=some (.int .i64 t.i11)/\wz.cell? ⟨tb,q+12,none⟩=some (.slice ao n cp):=fun u hK wz hb=>by
  have hc:=fun(b j:Nat) (hl:b<w.heap.size) (hn:¬(Z18 a.b a.g b\/ObF a.o a.cc a.cv a.G b))=>(hb.cell (p:=⟨b,j,none⟩) hl).trans (hK.cell (p:=⟨b,j,none⟩) hl hn)
  exact⟨(hc p _ cz HN.out.2).trans c4,(hc p _ cz HN.out.2).trans c6,(hc p _ cz HN.out.2).trans c7,(hc tb _ tz HN.out.1).trans t0,(hc tb _ tz HN.out.1).trans t1,(hc tb _ tz HN.out.1).trans t2,(hc tb _ tz HN.out.1).trans t3,(hc tb _ tz HN.out.1).trans t4,(hc tb _ tz HN.out.1).trans t5,(hc tb _ tz HN.out.1).trans t6,(hc tb _ tz HN.out.1).trans t7,(hc tb _ tz HN.out.1).trans t8,(hc tb _ tz HN.out.1).trans t9,(hc tb _ tz HN.out.1).trans t10,(hc tb _ tz HN.out.1).trans t11,(hc tb _ tz HN.out.1).trans t12⟩
 have AS0:=Hd hAS0
 have H:=hi7 h hT hI htv hv hl hq
 have HT:=hi2 ht' hk
 clear h hT hI htv hv hk hl hq cS ht' hFO hAS hAS0
 go_enter Tryz.func65,Tryz.ntmps65
 go_wp2_with fail
 go_cut [4,5]from 6 to 25 (fun a4 a5 wx=>Zkc W0 w c S a t t' n F a4 a5 wx)
 case first=>
  go_region_held3 (fun wz=>wz.cell? ⟨p,4,none⟩=some (.int .i64 c.ps)/\wz.cell? ⟨p,6,none⟩=some (.pointer (some ⟨a.b,0,none⟩))/\wz.cell? ⟨p,7,none⟩=some (.pointer (some ⟨a.o,0,none⟩))/\wz.cell? ⟨tb,q,none⟩=some (.int .i64 t.i0)/\wz.cell? ⟨tb,q+1,none⟩=some (.int .i64 t.i1)/\wz.cell? ⟨tb,q+2,none⟩=some (.int .i64 t.i2)/\wz.cell? ⟨tb,q+3,none⟩=some (.int .i64 t.i3)/\wz.cell? ⟨tb,q+4,none⟩=some (.int .i64 t.i4)/\wz.cell? ⟨tb,q+5,none⟩=some (.int .i64 t.i5)/\wz.cell? ⟨tb,q+6,none⟩=some (.int .i64 t.i6)/\wz.cell? ⟨tb,q+7,none⟩=some (.int .i64 t.i7)/\wz.cell? ⟨tb,q+8,none⟩=some (.int .i64 t.i8)/\wz.cell? ⟨tb,q+9,none⟩=some (.int .i64 t.i9)/\wz.cell? ⟨tb,q+10,none⟩=some (.int .i64 t.i10)/\wz.cell? ⟨tb,q+11,none⟩=some (.int .i64 t.i11)/\wz.cell? ⟨tb,q+12,none⟩=some (.slice ao n cp))
   (first|(exact AS6.out _ (by go_grown))|(exact AS.out _ (by go_grown)))
   ((go_at_call 77;(first|(with_reducible refine Go.Calls.mono (CS.out w.drew (by go_grown)) ?_)|(with_reducible refine Go.Calls.mono (CS.out (w.alloc (.cells #[.int .i64 0,.int .i64 0,.int .i64 0,.int .i64 0,.int .i64 0,.int .i64 0,.int .i64 0,.int .i64 0,.int .i64 0,.int .i64 0,.int .i64 0,.int .i64 0,.slice none 0 0] 86)).drew (by go_grown)) ?_));rintro e w6 ⟨bt6,dn6,st6,its6,F6,nd6,Fd6,cv6,bs6,G6,rfl,m6,s6,s6',i6,j6,d6,o6,O6,g6,b6,b7,k6⟩;obtain⟨ao6,cp6,rfl⟩:=Z03 i6;obtain⟨ao7,cp7,rfl⟩:=Z03 j6;(first|(obtain⟨us,hu1,hu2⟩:∃us,w.heap.size+1<=us/\us<=w.heap.size+1:=⟨_,Nat.le_refl _,Nat.le_refl _⟩;have u6:us<=w6.heap.size:=(by have:=k6.size;first|omega|(simp at this;omega)))|(obtain⟨us,hu1,hu2⟩:∃us,w.heap.size<=us/\us<=w.heap.size:=⟨_,Nat.le_refl _,Nat.le_refl _⟩;have u6:us<=w6.heap.size:=(by have:=k6.size;first|omega|(simp at this;omega))));have K6:Z01 (fun k=>Z18 a.b a.g k\/ObF a.o a.cc a.cv a.G k) w w6:=Z01.trans (Z0b (by go_grown)) k6;have AS6:=AS0.out w6 K6;have AS6:=Hd AS6;have L6:∀k,((Value.slice ao6 (cbN S.xs t n) cp6).ownBlock=some k\/(Value.slice ao7 nd6 cp7).ownBlock=some k)->us<=k:=(fun k e=>(by have h1:=o6 k e;first|omega|(simp at h1;omega)));have GG:∀k,ObF a.o a.cc cv6 G6 k->ObF a.o a.cc a.cv a.G k\/us<=k:=(fun k e=>(g6 k e).imp id (fun h1=>(by first|omega|(simp at h1;omega))));(try (have Bz:w6.heap[w.heap.size]?=some (.cells #[.int .i64 0,.int .i64 0,.int .i64 0,.int .i64 0,.int .i64 0,.int .i64 0,.int .i64 0,.int .i64 0,.int .i64 0,.int .i64 0,.int .i64 0,.int .i64 0,.slice none 0 0] 86 (0,0)):=Eq.trans (k6.block (w.heap.size) (by first|(simp;done)|(simp;omega)) (HN2.out _ (by omega))) (Han _ _);obtain⟨⟨z0,z1,z2,z3,z4,z5,z6,z7,z8,z9,z10,z11,z12⟩,zl⟩:=Z1r Bz;have zf0:=Z06 Bz 0;have zf1:=Z06 Bz 1;have zf2:=Z06 Bz 2;have zf3:=Z06 Bz 3;have zf4:=Z06 Bz 4;have zf5:=Z06 Bz 5;have zf6:=Z06 Bz 6;have zf7:=Z06 Bz 7;have zf8:=Z06 Bz 8;have zf9:=Z06 Bz 9;have zf10:=Z06 Bz 10;have zf11:=Z06 Bz 11;have zf12:=Z06 Bz 12));have zw6:w.heap.size<=w6.heap.size:=K6.size;have H6:=hi12 m6 s6 s6' i6 j6 d6 L6 O6 GG b6 b7 K6;clear m6 s6 s6' i6 j6 d6 o6 O6 g6 b6 b7 k6 K6 L6 GG))
  all_goals
   go_wp2_with fail
   go_meet
   case rel=>
    refine⟨_,ao6,cp6,ao7,cp7,st6,its6,F6,nd6,Fd6,cv6,bs6,G6,rfl,rfl,?_,?_,?_⟩
    ·refine⟨?_,?_,?_,?_,?_,?_,?_,?_,?_,?_,?_,?_,?_⟩<;>go_simp
    ·refine⟨?_,?_⟩<;>first|omega|(simp;done)|(simp;omega)
    ·obtain⟨m6,s6,s6',i6,j6,d6,L6,O6,GG,b6,b7,K6⟩:=H6.out
     have hW:=H.out.1.base
     have hab:=(H.out.1.ge a.b (by rw[H.out.1.tm _ (.inl rfl)];decide)).2
     have key:∀wx,Z01 (fun k=>(w.heap.size<=k/\k<us)\/w6.heap.size<=k) w6 wx->(MS W0 wx a.b a.g (3+5*c.th) (cbX S.xs t n F) st6/\(a.st<=st6/\st6<=a.st+1)/\IRw wx (Value.slice ao6 (cbN S.xs t n) cp6) (cbN S.xs t n) F6/\IRw wx (Value.slice ao7 nd6 cp7) nd6 Fd6/\Zim c.ob c.cap S.xs t n F S.its its6 F6 nd6 Fd6/\(∀k,(Value.slice ao6 (cbN S.xs t n) cp6).ownBlock=some k\/(Value.slice ao7 nd6 cp7).ownBlock=some k->w.heap.size<=k)/\Z4j wx a.o c.ob c.cap c.pl its6 a.cc cv6 bs6 a.bd G6/\(∀k,ObF a.o a.cc cv6 G6 k->ObF a.o a.cc a.cv a.G k\/w.heap.size<=k)/\(∀k,(Value.slice ao6 (cbN S.xs t n) cp6).ownBlock=some k->¬ObF a.o a.cc cv6 G6 k)/\(∀k,(Value.slice ao7 nd6 cp7).ownBlock=some k->¬ObF a.o a.cc cv6 G6 k/\¬(Value.slice ao6 (cbN S.xs t n) cp6).ownBlock=some k)/\Z01 (fun k=>Z18 a.b a.g k\/ObF a.o a.cc a.cv a.G k) w wx):=fun wx KX=>
      ⟨m6.kept KX (m6.B.trans (KX.below m6.B.size (fun k hk e=>by omega))) (fun e=>by omega) (fun k e e2=>by have:=(H.out.1.ge k (by rw[H.out.1.tm k (.inr e.symm)];decide)).2;omega),⟨s6,s6'⟩,Z04 i6 KX (fun k e e2=>by have:=L6 k (.inl e);have:=(World.ownsRow.lt i6 k e).2;omega),Z04 j6 KX (fun k e e2=>by have:=L6 k (.inr e);have:=(World.ownsRow.lt j6 k e).2;omega),d6,fun k e=>by have:=L6 k e;omega,O6.kept KX (fun k e e2=>by
        have h9:=O6.lt k e
        rcases GG k e with h|h
        ·have:=(H.out.1.ge k (by rw[H.out.1.tob k h];decide)).2;omega
        ·omega),fun k e=>(GG k e).imp id (fun h=>by omega),b6,b7,K6.step KX (fun i hi e=>by omega)⟩
     refine key _ ?_
     clear key m6 i6 j6 d6 L6 O6 GG b6 b7 K6
     repeat (first|with_reducible exact Z01.refl _ _|(with_reducible refine Z01.setCell ?_ (fun h=>by first|(left;constructor<;>first|omega|(simp;done)|(simp;omega))|(right;first|omega|(simp;done)|(simp;omega))) _)|with_reducible refine Z01.alloc ?_ _|with_reducible refine Z01.drew ?_)
 case rest=>
  obtain⟨r4,ao6,cp6,dao,dcp,st',its',F',nd,Fd,cv',bs',G',rfl,rfl,C4,Z,M,Bs,I6,D6,R6,O6,OB,GG,bG,dG,K6⟩:=hcut
  have h0:=H.out.1
  have T6:=H.out.2.1.kept K6 HN.out.1
  have hgw:∀j,a.g=some j->j<w.heap.size:=fun j e=>(h0.ge j (by rw[h0.tm j (.inr e.symm)];decide)).2
  obtain⟨tag1,P1,hn1,hl1⟩:=h0.step M (by have:=h0.st0;omega) OB K6 (.inl rfl) GG (fun j e e2=>by
   rcases GG j e2 with h|h
   ·have e3:=h0.tm j (.inr e.symm);rw[h0.tob j h]at e3;omega
   ·have:=hgw j e;omega)
  obtain⟨tag2,P2,hl2⟩:=P1.setT (k:=k) H.out.2.2.2.2.2.1 H.out.2.2.2.1 t' _ (cbN S.xs t n) F' I6 (fun j e=>by
   have hj:=O6 j (.inl e)
   exact⟨hn1 j hj (fun e2=>by have:=hgw j e2;omega) (bG j e),Nat.le_trans h0.base hj⟩)
  rw[H.out.2.2.2.2.2.2]at P2
  have hdt:∀j,(Value.slice dao nd dcp).ownBlock=some j->tag2 j=0/\w.heap.size<=j:=fun j e=>by
   have hj:=O6 j (.inr e)
   exact⟨(hl2 j (World.ownsRow.lt D6 j e).2 (dG j e).2).trans (hn1 j hj (fun e2=>by have:=hgw j e2;omega) (dG j e).1),hj⟩
  obtain⟨x0,x1,x2,x3,x4,x5,x6,x7,x8,x9,x10,x11,x12⟩:=C4
  obtain⟨s0,s1,s2,s3,s4,s5,s6,s7,s8,s9,s10,s11,s12⟩:=T6.c
  have hf:=T6.f
  have f0:=hf q
  have f1:=hf (q+1);have f2:=hf (q+2);have f3:=hf (q+3);have f4:=hf (q+4);have f5:=hf (q+5);have f6:=hf (q+6);have f7:=hf (q+7);have f8:=hf (q+8);have f9:=hf (q+9);have f10:=hf (q+10);have f11:=hf (q+11);have f12:=hf (q+12)
  have sz:=T6.lt
  have H2:=hi6 P2 Z hdt D6 R6 Bs
  clear M Bs I6 D6 R6 O6 OB GG bG dG K6 T6 P1 P2 hf h0 hn1 hl1 hl2 hdt hgw c0 c1 c2 c3 c4 c5 c6 c7 c8 c9 c10 c11 c12 c13 t0 t1 t2 t3 t4 t5 t6 t7 t8 t9 t10 t11 t12 cf cz AS AS0 CS HN2
  go_upto_if 31 with fail
  generalize hw7:World.setCell _ _ _=w7
  have P7:WP W0 w7 p c {S with xs:=cbX S.xs t n F,its:=its',T:=S.T.set k ⟨t',cbN S.xs t n,F'⟩} {a with g:=a.g,st:=st',cv:=cv',bs:=bs',G:=G',TV:=a.TV.set k (t',.slice ao6 (cbN S.xs t n) cp6),tag:=tag2}:=by rw[<-hw7];exact H2.out.1
  have K7:Z01 (fun j=>j=tb) wc w7:=by rw[<-hw7];exact Z1c tb (thF (t',.slice ao6 (cbN S.xs t n) cp6)) wc q
  have D7:IRw w7 (.slice dao nd dcp) nd Fd:=Z04 H2.out.2.2.2.1 K7 (fun j e e2=>by have:=(H2.out.2.2.1 j e).2;omega)
  have H7:=hi2 P7 D7
  clear hw7 K7 P7 D7 x0 x1 x2 x3 x4 x5 x6 x7 x8 x9 x10 x11 x12 s0 s1 s2 s3 s4 s5 s6 s7 s8 s9 s10 s11 s12 f0 f1 f2 f3 f4 f5 f6 f7 f8 f9 f10 f11 f12 sz
  have hst:=H2.out.2.2.2.2.2.2
  by_cases hnd:nd=0
  ·subst hnd
   have hR:Z6v c S t n F its' F' S.lg:=by
    have:=H2.out.2.2.2.2.1
    unfold Zim at this
    unfold Z6v
    by_cases e:t.i1=36
    ·rw[if_pos e]at this |-
     obtain⟨ord,o1,o2,o3,o4,o5⟩:=this
     have hl0:ord= []:=by
      have:=o1.len
      rw[Z13]at this
      exact Lnl (by omega)
     exact⟨ord,o1,o2,o3,by rw[hl0];simp⟩
    ·rw[if_neg e]at this |-
     exact⟨this.1,this.2.1,rfl⟩
   have HR:=Hd hR
   clear hR
   go_wp2
   go_end0
   first|exact⟨rfl,its',F',S.lg,_,HR.out,H7.out.1,hst⟩|exact⟨rfl,its',F',S.lg,HR.out,_,H7.out.1,hst⟩
  ·have hnd':(0:Int)<(nd:Int):=by omega
   have hb:decide ((0:Int)<(nd:Int))=true:=decide_eq_true hnd'
   have h36:t.i1=36/\nd=n/\Fd=F'/\∃ord,Z31 c.ob (Z0k n F) ord/\its'=(Z0m (Z0d c.ob c.cap) (Z0k n F) (S.its,List.replicate n (0,0)) ord).1/\F'=Z48 n F (Z0m (Z0d c.ob c.cap) (Z0k n F) (S.its,List.replicate n (0,0)) ord).2:=by
    have:=H2.out.2.2.2.2.1
    unfold Zim at this
    by_cases e:t.i1=36
    ·rw[if_pos e]at this
     obtain⟨ord,o1,o2,o3,o4,o5⟩:=this
     exact⟨e,o4,o5,ord,o1,o2,o3⟩
    ·rw[if_neg e]at this
     omega
   have H36:=Hd h36
   have cD:=Zni H7.out.1 (.slice dao nd dcp) nd Fd H7.out.2 (fun j e=>(H2.out.2.2.1 j e).1) (by have:=h36.2.1;omega) (by have:=h36.2.1;show a.lg.length+nd<=_;omega) hth
   have CD:=Hd cD
   clear h36 cD hnd
   go_wp2_with fail
   refine CD.out.mono ?_
   rintro e w8 ⟨rfl,ord,a',o1,P8,s8⟩
   have H8:=hi3 o1 P8 s8
   clear CD o1 P8 s8
   go_wp2
   go_end0
   obtain⟨e36,en,eF,ord2,q1,q2,q3⟩:=H36.out
   first|refine⟨rfl,its',F',S.lg++ord.map (Z92 nd Fd),a',?_,H8.out.2.1,by rw[H8.out.2.2];exact hst⟩|refine⟨rfl,its',F',S.lg++ord.map (Z92 nd Fd),?_,a',H8.out.2.1,by rw[H8.out.2.2];exact hst⟩
   unfold Z6v
   rw[if_pos e36]
   have eo:ord=ord2:=by
    have h1:=H8.out.1
    rw[en,eF,q3,Zao]at h1
    exact h1.one q1
   exact⟨ord2,q1,q2,q3,by rw[eo,en,eF]⟩
def Z93 (c:Cfg) (S:WM) (k:Nat) (t:Th) (n:Nat) (F:Nat->Int) (S':WM):Prop:=
 (Z52 t=true/\S'={S with xs:=owX (3+5*c.th) S.xs t,T:=S.T.set k ⟨owT (3+5*c.th) S.xs t,n,F⟩,ev:=Z6u S t})\/
 (Z28 t=true/\∃its' F' lg',Z6v c S t n F its' F' lg'/\S'={S with xs:=cbX S.xs t n F,T:=S.T.set k ⟨cbT c.ps S.xs t n,cbN S.xs t n,F'⟩,its:=its',lg:=lg'})\/
 (Z2q t=true/\S'={S with xs:=swX S.xs t,T:=S.T.set k ⟨swT S.xs c.age t,n,F⟩})
theorem Z93.n {c:Cfg} {S S':WM} {k:Nat} {t:Th} {n:Nat} {F:Nat->Int} (h:Z93 c S k t n F S'):S'.n=S.n:=by
 rcases h with⟨_,rfl⟩|⟨_,_,_,_,_,rfl⟩|⟨_,rfl⟩<;>rfl
theorem Zkh {W0 w:World} {p:Nat} {c:Cfg} {S:WM} {a:WA} (h:WP W0 w p c S a) (k n:Nat) (t:Th) (F:Nat->Int) (hk:S.T[k]?=some ⟨t,n,F⟩) (hv:Z52 t=true\/Z28 t=true\/Z2q t=true)
 (hr2: -9223372036854775808<=t.i2/\t.i2<=9223372036854775807) (hr6: -9223372036854775808<=t.i6/\t.i6<=9223372036854775807) (hid:0<=t.i0/\t.i0<c.th) (hn:n<=800000) (s1:a.st<900000) (hev:S.ev.length<=900000) (hcap:c.cap<=1000) (h32:Z2l S.its) (hlg:S.lg.length+n<=1000000000000) (hth:1<=c.th) (hpn:S.n<=900000):
 Calls Tryz.prog 34 #[.pointer (some ⟨p,0,none⟩),.int .i64 (k:Int)] w fun e w'=>e= .returned (.bool true)/\∃S' a',Z93 c S k t n F S'/\WP W0 w' p c {S' with n:=S'.n+1} a'/\a'.st<=a.st+1:=by
 obtain⟨hl,he⟩:=List.getElem?_eq_some_iff.1 hk
 obtain⟨tb,cap,v0,htv,-,-,-,-⟩:=h.at_ hl
 obtain⟨q,hq⟩:∃q,k*13=q:=⟨_,rfl⟩
 have hi1:(t.i1 == 0)=false:=by
  simp only[Z52,Z28,Z2q,decide_eq_true_eq]at hv
  exact beq_eq_false_iff_ne.2 (by omega)
 have hlg':a.lg.length+n<=1000000000000:=by have:=congrArg List.length h.lgm;rw[Llm]at this;omega
 -- what is done, whoever does it
 have cX:∀u,Below w.heap.size w u->(Z52 t=true->Calls Tryz.prog 63 #[.pointer (some ⟨p,0,none⟩),.pointer (some ⟨tb,q,none⟩)] u fun e w'=>e= .returned (.tuple #[])/\∃S' a',Z93 c S k t n F S'/\WP W0 w' p c S' a'/\a'.st<=a.st+1)/\
  (Z28 t=true->Calls Tryz.prog 65 #[.pointer (some ⟨p,0,none⟩),.pointer (some ⟨tb,q,none⟩)] u fun e w'=>e= .returned (.tuple #[])/\∃S' a',Z93 c S k t n F S'/\WP W0 w' p c S' a'/\a'.st<=a.st+1)/\
  (Z2q t=true->Calls Tryz.prog 67 #[.pointer (some ⟨p,0,none⟩),.pointer (some ⟨tb,q,none⟩)] u fun e w'=>e= .returned (.tuple #[])/\∃S' a',Z93 c S k t n F S'/\WP W0 w' p c S' a'/\a'.st<=a.st+1):=fun u hu=>by
  have hu':=h.below hu
  refine⟨fun e=>?_,fun e=>?_,fun e=>?_⟩
  ·have e2:1<=t.i1/\t.i1<=16:=of_decide_eq_true e
   refine(Zpm hu' k tb q _ cap n t F hk hq htv e2.1 e2.2 hr2 (by omega) s1 hid hev).mono ?_
   rintro e0 w' ⟨e3,a',e4,e5⟩
   exact⟨e3,_,a',.inl ⟨e,rfl⟩,e4,e5⟩
  ·have e2:20<=t.i1/\t.i1<=39:=of_decide_eq_true e
   refine(Zkd hu' k tb q _ cap n t F hk hq htv e2.1 e2.2 hn s1 hcap h32 hlg' hth).mono ?_
   rintro e0 w' ⟨e3,its',F',lg',a',e6,e4,e5⟩
   exact⟨e3,_,a',.inr (.inl ⟨e,its',F',lg',e6,rfl⟩),e4,e5⟩
  ·have e2:40<=t.i1/\t.i1<=48:=of_decide_eq_true e
   refine(Zkb hu' k tb q _ cap n t F hk hq htv e2.1 e2.2 hr6 (by omega) s1).mono ?_
   rintro e0 w' ⟨e3,a',e4,e5⟩
   exact⟨e3,_,a',.inr (.inr ⟨e,rfl⟩),e4,e5⟩
 obtain⟨v,hv2,hI,hT,-⟩:=h.atq hk hq htv
 obtain⟨ao,cp,rfl⟩:=Z03 hI
 have CX:=Hd cX
 have HV:=Hd hv
 have H:=hi6 h hT htv hl hq hk
 clear cX h hT hI hv2 htv hl hq hk he v0 hr2 hr6 hid s1 hev h32 hlg hlg' hv
 go_enter Tryz.func34,Tryz.ntmps34
 go_wp2_with fail
 refine(Z6t H.out.1 (k:Int) tb cap k rfl H.out.2.2.2.1 H.out.2.2.1).mono ?_
 rintro e w1 ⟨rfl,hb1⟩
 rw[H.out.2.2.2.2.1]
 have T1:=H.out.2.1.below hb1
 obtain⟨t0,t1,t2,t3,t4,t5,t6,t7,t8,t9,t10,t11,t12⟩:=T1.c
 have tz:=T1.lt
 have H1:=hi2 hb1 T1
 clear hb1 T1
 go_upto_block 0 with fail
 generalize hkb0:w1.heap.size=kb
 generalize hW2:World.alloc _ _=w2
 have hkb2:w2.heap[kb]?=some (.cells #[.func (.func 62) #[] #[],.func (.func 63) #[.pointer (some ⟨p,0,none⟩)] #[],.func (.func 64) #[] #[],.func (.func 65) #[.pointer (some ⟨p,0,none⟩)] #[],.func (.func 66) #[] #[],.func (.func 67) #[.pointer (some ⟨p,0,none⟩)] #[]] 135 (0,0)):=by rw[<-hW2,<-hkb0];exact Han _ _
 have B2:Below w1.heap.size w1 w2:=by rw[<-hW2];go_grown
 have hkb:kb<w2.heap.size:=(Gl hkb2)
 have kc0:w2.cell? ⟨kb,0,none⟩=some (.func (.func 62) #[] #[]):=by simp[World.cell?,hkb2]
 have kc1:w2.cell? ⟨kb,1,none⟩=some (.func (.func 63) #[.pointer (some ⟨p,0,none⟩)] #[]):=by simp[World.cell?,hkb2]
 have kc2:w2.cell? ⟨kb,2,none⟩=some (.func (.func 64) #[] #[]):=by simp[World.cell?,hkb2]
 have kc3:w2.cell? ⟨kb,3,none⟩=some (.func (.func 65) #[.pointer (some ⟨p,0,none⟩)] #[]):=by simp[World.cell?,hkb2]
 have kc4:w2.cell? ⟨kb,4,none⟩=some (.func (.func 66) #[] #[]):=by simp[World.cell?,hkb2]
 have kc5:w2.cell? ⟨kb,5,none⟩=some (.func (.func 67) #[.pointer (some ⟨p,0,none⟩)] #[]):=by simp[World.cell?,hkb2]
 have H2:=Hd (H1.out.1.trans (B2.mono H1.out.1.size))
 clear hkb0 hW2 hkb2 B2 t0 t1 t2 t3 t4 t5 t6 t7 t8 t9 t10 t11 t12 tz
 go_cut [40]from 7 to 54 (fun _ wx=>∃S' a',Z93 c S k t n F S'/\WP W0 wx p c S' a'/\a'.st<=a.st+1)
 case first=>
  go_wp2_with fail
  go_loopw [40] (fun x wr=>∃i:Nat,i<=3/\x= .int .i64 i/\Below w2.heap.size w2 wr/\(1<=i->Z52 t=false)/\(2<=i->Z28 t=false)/\(3<=i->Z2q t=false)) (fun x _=>3-(intOf x).toNat)
  case atStart=>exact⟨0,by omega,rfl,Brf _ _,fun h=>by omega,fun h=>by omega,fun h=>by omega⟩
  case round=>
   obtain⟨i,hi,rfl,hb,hi1,xi2,xi3⟩:=hrel
   match i,hi with
   |0,_=>
    have c0:=(hb.cell (p:=⟨kb,0,none⟩) hkb).trans kc0
    have c1:=(hb.cell (p:=⟨kb,1,none⟩) hkb).trans kc1
    obtain⟨bq,hbq⟩:∃bq,Z52 t=bq:=⟨_,rfl⟩
    have cO:=fun u=>Znk u t ao n cp
    rw[hbq]at cO
    unfold thV at cO
    have CO:=Hd cO
    have Bwr:=H2.out.trans (hb.mono (by have:=H2.out.size;omega))
    have TR:=H.out.2.1.below Bwr
    obtain⟨s0,s1,s2,s3,s4,s5,s6,s7,s8,s9,s10,s11,s12⟩:=TR.c
    have sz:=TR.lt
    have hAS:∀wz,Below wr.heap.size wr wz->wz.cell? ⟨tb,q,none⟩=some (.int .i64 t.i0)/\wz.cell? ⟨tb,q+1,none⟩=some (.int .i64 t.i1)/\wz.cell? ⟨tb,q+2,none⟩=some (.int .i64 t.i2)/\wz.cell? ⟨tb,q+3,none⟩=some (.int .i64 t.i3)/\wz.cell? ⟨tb,q+4,none⟩=some (.int .i64 t.i4)/\wz.cell? ⟨tb,q+5,none⟩=some (.int .i64 t.i5)/\wz.cell? ⟨tb,q+6,none⟩=some (.int .i64 t.i6)/\wz.cell? ⟨tb,q+7,none⟩=some (.int .i64 t.i7)/\wz.cell? ⟨tb,q+8,none⟩=some (.int .i64 t.i8)/\wz.cell? ⟨tb,q+9,none⟩=some (.int .i64 t.i9)/\wz.cell? ⟨tb,q+10,none⟩=some (.int .i64 t.i10)/\wz.cell? ⟨tb,q+11,none⟩=some (.int .i64 t.i11)/\wz.cell? ⟨tb,q+12,none⟩=some (.slice ao n cp):=fun wz hb=>by
     have hc:=fun(b j:Nat) (hl:b<wr.heap.size)=>hb.cell (p:=⟨b,j,none⟩) hl
     exact⟨(hc tb _ sz).trans s0,(hc tb _ sz).trans s1,(hc tb _ sz).trans s2,(hc tb _ sz).trans s3,(hc tb _ sz).trans s4,(hc tb _ sz).trans s5,(hc tb _ sz).trans s6,(hc tb _ sz).trans s7,(hc tb _ sz).trans s8,(hc tb _ sz).trans s9,(hc tb _ sz).trans s10,(hc tb _ sz).trans s11,(hc tb _ sz).trans s12⟩
    have AS:=Hd hAS
    have HR:=hi6 hb Bwr hbq hi1 xi2 xi3
    clear hb hi1 xi2 xi3 Bwr TR hAS cO hbq kc0 kc1 kc2 kc3 kc4 kc5
    go_wp2_with fail
    generalize hrb:wr.heap.size=rb
    generalize hW5:World.alloc _ _=W5
    have B5:Below wr.heap.size wr W5:=by rw[<-hW5];go_grown
    have hr5:W5.heap[rb]?=some (.cells #[.func (.func 62) #[] #[],.func (.func 63) #[.pointer (some ⟨p,0,none⟩)] #[]] 135 (0,0)):=by rw[<-hW5,<-hrb];exact Han _ _
    obtain⟨⟨r0,r1⟩,rz⟩:=Z0g hr5
    have BB:=Hd (fun(u:World) (hu:Below W5.heap.size W5 u)=>B5.trans (hu.mono B5.size))
    have RR:=Hd (fun(u:World) (hu:Below W5.heap.size W5 u)=>And.intro ((hu.cell (p:=⟨rb,0,none⟩) rz).trans r0) ((hu.cell (p:=⟨rb,1,none⟩) rz).trans r1))
    have H5:=Hd B5
    clear hrb hW5 B5 hr5 s0 s1 s2 s3 s4 s5 s6 s7 s8 s9 s10 s11 s12 sz
    go_region_held3 (fun wz=>wz.cell? ⟨rb,0,none⟩=some (.func (.func 62) #[] #[])/\wz.cell? ⟨tb,q,none⟩=some (.int .i64 t.i0)/\wz.cell? ⟨tb,q+1,none⟩=some (.int .i64 t.i1)/\wz.cell? ⟨tb,q+2,none⟩=some (.int .i64 t.i2)/\wz.cell? ⟨tb,q+3,none⟩=some (.int .i64 t.i3)/\wz.cell? ⟨tb,q+4,none⟩=some (.int .i64 t.i4)/\wz.cell? ⟨tb,q+5,none⟩=some (.int .i64 t.i5)/\wz.cell? ⟨tb,q+6,none⟩=some (.int .i64 t.i6)/\wz.cell? ⟨tb,q+7,none⟩=some (.int .i64 t.i7)/\wz.cell? ⟨tb,q+8,none⟩=some (.int .i64 t.i8)/\wz.cell? ⟨tb,q+9,none⟩=some (.int .i64 t.i9)/\wz.cell? ⟨tb,q+10,none⟩=some (.int .i64 t.i10)/\wz.cell? ⟨tb,q+11,none⟩=some (.int .i64 t.i11)/\wz.cell? ⟨tb,q+12,none⟩=some (.slice ao n cp))
     (first|(exact⟨(RR.out _ U6.out).1,AS.out _ (BB.out _ U6.out)⟩)|(exact⟨(RR.out _ (by go_grown)).1,AS.out _ (BB.out _ (by go_grown))⟩))
     (first|(go_at_call 62;(with_reducible refine Go.Calls.mono (CO.out _) ?_);rintro e w6 ⟨rfl,hb6⟩;have U6:=Hd ((Brf W5.heap.size W5).drew.trans hb6);have q1:=(RR.out _ U6.out).2;clear hb6))
    all_goals
     cases bq with
     |true=>
      go_wp2_with fail
      refine((CX.out _ (HR.out.2.1.trans ((BB.out _ U6.out).mono HR.out.2.1.size))).1 HR.out.2.2.1).mono ?_
      rintro e w7 ⟨rfl,hX⟩
      have HX:=Hd hX
      clear hX
      go_wp2_with fail
      go_meet
      case rel=>exact HX.out
     |false=>
      go_wp2
      go_roundw
      case rel=>exact⟨1,by omega,rfl,HR.out.1.trans ((BB.out _ U6.out).mono HR.out.1.size),fun h=>by first|exact HR.out.2.2.1|exact HR.out.2.2.2.1 (by omega),fun h=>by first|exact HR.out.2.2.1|exact HR.out.2.2.2.2.1 (by omega)|omega,fun h=>by first|exact HR.out.2.2.1|omega⟩
      case measure=>simp[intOf]
   |1,_=>
    have c0:=(hb.cell (p:=⟨kb,2,none⟩) hkb).trans kc2
    have c1:=(hb.cell (p:=⟨kb,3,none⟩) hkb).trans kc3
    obtain⟨bq,hbq⟩:∃bq,Z28 t=bq:=⟨_,rfl⟩
    have cO:=fun u=>Zhn u t ao n cp
    rw[hbq]at cO
    unfold thV at cO
    have CO:=Hd cO
    have Bwr:=H2.out.trans (hb.mono (by have:=H2.out.size;omega))
    have TR:=H.out.2.1.below Bwr
    obtain⟨s0,s1,s2,s3,s4,s5,s6,s7,s8,s9,s10,s11,s12⟩:=TR.c
    have sz:=TR.lt
    have hAS:∀wz,Below wr.heap.size wr wz->wz.cell? ⟨tb,q,none⟩=some (.int .i64 t.i0)/\wz.cell? ⟨tb,q+1,none⟩=some (.int .i64 t.i1)/\wz.cell? ⟨tb,q+2,none⟩=some (.int .i64 t.i2)/\wz.cell? ⟨tb,q+3,none⟩=some (.int .i64 t.i3)/\wz.cell? ⟨tb,q+4,none⟩=some (.int .i64 t.i4)/\wz.cell? ⟨tb,q+5,none⟩=some (.int .i64 t.i5)/\wz.cell? ⟨tb,q+6,none⟩=some (.int .i64 t.i6)/\wz.cell? ⟨tb,q+7,none⟩=some (.int .i64 t.i7)/\wz.cell? ⟨tb,q+8,none⟩=some (.int .i64 t.i8)/\wz.cell? ⟨tb,q+9,none⟩=some (.int .i64 t.i9)/\wz.cell? ⟨tb,q+10,none⟩=some (.int .i64 t.i10)/\wz.cell? ⟨tb,q+11,none⟩=some (.int .i64 t.i11)/\wz.cell? ⟨tb,q+12,none⟩=some (.slice ao n cp):=fun wz hb=>by
     have hc:=fun(b j:Nat) (hl:b<wr.heap.size)=>hb.cell (p:=⟨b,j,none⟩) hl
     exact⟨(hc tb _ sz).trans s0,(hc tb _ sz).trans s1,(hc tb _ sz).trans s2,(hc tb _ sz).trans s3,(hc tb _ sz).trans s4,(hc tb _ sz).trans s5,(hc tb _ sz).trans s6,(hc tb _ sz).trans s7,(hc tb _ sz).trans s8,(hc tb _ sz).trans s9,(hc tb _ sz).trans s10,(hc tb _ sz).trans s11,(hc tb _ sz).trans s12⟩
    have AS:=Hd hAS
    have HR:=hi6 hb Bwr hbq hi1 xi2 xi3
    clear hb hi1 xi2 xi3 Bwr TR hAS cO hbq kc0 kc1 kc2 kc3 kc4 kc5
    go_wp2_with fail
    generalize hrb:wr.heap.size=rb
    generalize hW5:World.alloc _ _=W5
    have B5:Below wr.heap.size wr W5:=by rw[<-hW5];go_grown
    have hr5:W5.heap[rb]?=some (.cells #[.func (.func 64) #[] #[],.func (.func 65) #[.pointer (some ⟨p,0,none⟩)] #[]] 135 (0,0)):=by rw[<-hW5,<-hrb];exact Han _ _
    obtain⟨⟨r0,r1⟩,rz⟩:=Z0g hr5
    have BB:=Hd (fun(u:World) (hu:Below W5.heap.size W5 u)=>B5.trans (hu.mono B5.size))
    have RR:=Hd (fun(u:World) (hu:Below W5.heap.size W5 u)=>And.intro ((hu.cell (p:=⟨rb,0,none⟩) rz).trans r0) ((hu.cell (p:=⟨rb,1,none⟩) rz).trans r1))
    have H5:=Hd B5
    clear hrb hW5 B5 hr5 s0 s1 s2 s3 s4 s5 s6 s7 s8 s9 s10 s11 s12 sz
    go_region_held3 (fun wz=>wz.cell? ⟨rb,0,none⟩=some (.func (.func 64) #[] #[])/\wz.cell? ⟨tb,q,none⟩=some (.int .i64 t.i0)/\wz.cell? ⟨tb,q+1,none⟩=some (.int .i64 t.i1)/\wz.cell? ⟨tb,q+2,none⟩=some (.int .i64 t.i2)/\wz.cell? ⟨tb,q+3,none⟩=some (.int .i64 t.i3)/\wz.cell? ⟨tb,q+4,none⟩=some (.int .i64 t.i4)/\wz.cell? ⟨tb,q+5,none⟩=some (.int .i64 t.i5)/\wz.cell? ⟨tb,q+6,none⟩=some (.int .i64 t.i6)/\wz.cell? ⟨tb,q+7,none⟩=some (.int .i64 t.i7)/\wz.cell? ⟨tb,q+8,none⟩=some (.int .i64 t.i8)/\wz.cell? ⟨tb,q+9,none⟩=some (.int .i64 t.i9)/\wz.cell? ⟨tb,q+10,none⟩=some (.int .i64 t.i10)/\wz.cell? ⟨tb,q+11,none⟩=some (.int .i64 t.i11)/\wz.cell? ⟨tb,q+12,none⟩=some (.slice ao n cp))
     (first|(exact⟨(RR.out _ U6.out).1,AS.out _ (BB.out _ U6.out)⟩)|(exact⟨(RR.out _ (by go_grown)).1,AS.out _ (BB.out _ (by go_grown))⟩))
     (first|(go_at_call 64;(with_reducible refine Go.Calls.mono (CO.out _) ?_);rintro e w6 ⟨rfl,hb6⟩;have U6:=Hd ((Brf W5.heap.size W5).drew.trans hb6);have q1:=(RR.out _ U6.out).2;clear hb6))
    all_goals
     cases bq with
     |true=>
      go_wp2_with fail
      refine((CX.out _ (HR.out.2.1.trans ((BB.out _ U6.out).mono HR.out.2.1.size))).2.1 HR.out.2.2.1).mono ?_
      rintro e w7 ⟨rfl,hX⟩
      have HX:=Hd hX
      clear hX
      go_wp2_with fail
      go_meet
      case rel=>exact HX.out
     |false=>
      go_wp2
      go_roundw
      case rel=>exact⟨2,by omega,rfl,HR.out.1.trans ((BB.out _ U6.out).mono HR.out.1.size),fun h=>by first|exact HR.out.2.2.1|exact HR.out.2.2.2.1 (by omega),fun h=>by first|exact HR.out.2.2.1|exact HR.out.2.2.2.2.1 (by omega)|omega,fun h=>by first|exact HR.out.2.2.1|omega⟩
      case measure=>simp[intOf]
   |2,_=>
    have c0:=(hb.cell (p:=⟨kb,4,none⟩) hkb).trans kc4
    have c1:=(hb.cell (p:=⟨kb,5,none⟩) hkb).trans kc5
    obtain⟨bq,hbq⟩:∃bq,Z2q t=bq:=⟨_,rfl⟩
    have cO:=fun u=>Zho u t ao n cp
    rw[hbq]at cO
    unfold thV at cO
    have CO:=Hd cO
    have Bwr:=H2.out.trans (hb.mono (by have:=H2.out.size;omega))
    have TR:=H.out.2.1.below Bwr
    obtain⟨s0,s1,s2,s3,s4,s5,s6,s7,s8,s9,s10,s11,s12⟩:=TR.c
    have sz:=TR.lt
    have hAS:∀wz,Below wr.heap.size wr wz->wz.cell? ⟨tb,q,none⟩=some (.int .i64 t.i0)/\wz.cell? ⟨tb,q+1,none⟩=some (.int .i64 t.i1)/\wz.cell? ⟨tb,q+2,none⟩=some (.int .i64 t.i2)/\wz.cell? ⟨tb,q+3,none⟩=some (.int .i64 t.i3)/\wz.cell? ⟨tb,q+4,none⟩=some (.int .i64 t.i4)/\wz.cell? ⟨tb,q+5,none⟩=some (.int .i64 t.i5)/\wz.cell? ⟨tb,q+6,none⟩=some (.int .i64 t.i6)/\wz.cell? ⟨tb,q+7,none⟩=some (.int .i64 t.i7)/\wz.cell? ⟨tb,q+8,none⟩=some (.int .i64 t.i8)/\wz.cell? ⟨tb,q+9,none⟩=some (.int .i64 t.i9)/\wz.cell? ⟨tb,q+10,none⟩=some (.int .i64 t.i10)/\wz.cell? ⟨tb,q+11,none⟩=some (.int .i64 t.i11)/\wz.cell? ⟨tb,q+12,none⟩=some (.slice ao n cp):=fun wz hb=>by
     have hc:=fun(b j:Nat) (hl:b<wr.heap.size)=>hb.cell (p:=⟨b,j,none⟩) hl
     exact⟨(hc tb _ sz).trans s0,(hc tb _ sz).trans s1,(hc tb _ sz).trans s2,(hc tb _ sz).trans s3,(hc tb _ sz).trans s4,(hc tb _ sz).trans s5,(hc tb _ sz).trans s6,(hc tb _ sz).trans s7,(hc tb _ sz).trans s8,(hc tb _ sz).trans s9,(hc tb _ sz).trans s10,(hc tb _ sz).trans s11,(hc tb _ sz).trans s12⟩
    have AS:=Hd hAS
    have HR:=hi6 hb Bwr hbq hi1 xi2 xi3
    clear hb hi1 xi2 xi3 Bwr TR hAS cO hbq kc0 kc1 kc2 kc3 kc4 kc5
    go_wp2_with fail
    generalize hrb:wr.heap.size=rb
    generalize hW5:World.alloc _ _=W5
    have B5:Below wr.heap.size wr W5:=by rw[<-hW5];go_grown
    have hr5:W5.heap[rb]?=some (.cells #[.func (.func 66) #[] #[],.func (.func 67) #[.pointer (some ⟨p,0,none⟩)] #[]] 135 (0,0)):=by rw[<-hW5,<-hrb];exact Han _ _
    obtain⟨⟨r0,r1⟩,rz⟩:=Z0g hr5
    have BB:=Hd (fun(u:World) (hu:Below W5.heap.size W5 u)=>B5.trans (hu.mono B5.size))
    have RR:=Hd (fun(u:World) (hu:Below W5.heap.size W5 u)=>And.intro ((hu.cell (p:=⟨rb,0,none⟩) rz).trans r0) ((hu.cell (p:=⟨rb,1,none⟩) rz).trans r1))
    have H5:=Hd B5
    clear hrb hW5 B5 hr5 s0 s1 s2 s3 s4 s5 s6 s7 s8 s9 s10 s11 s12 sz
    go_region_held3 (fun wz=>wz.cell? ⟨rb,0,none⟩=some (.func (.func 66) #[] #[])/\wz.cell? ⟨tb,q,none⟩=some (.int .i64 t.i0)/\wz.cell? ⟨tb,q+1,none⟩=some (.int .i64 t.i1)/\wz.cell? ⟨tb,q+2,none⟩=some (.int .i64 t.i2)/\wz.cell? ⟨tb,q+3,none⟩=some (.int .i64 t.i3)/\wz.cell? ⟨tb,q+4,none⟩=some (.int .i64 t.i4)/\wz.cell? ⟨tb,q+5,none⟩=some (.int .i64 t.i5)/\wz.cell? ⟨tb,q+6,none⟩=some (.int .i64 t.i6)/\wz.cell? ⟨tb,q+7,none⟩=some (.int .i64 t.i7)/\wz.cell? ⟨tb,q+8,none⟩=some (.int .i64 t.i8)/\wz.cell? ⟨tb,q+9,none⟩=some (.int .i64 t.i9)/\wz.cell? ⟨tb,q+10,none⟩=some (.int .i64 t.i10)/\wz.cell? ⟨tb,q+11,none⟩=some (.int .i64 t.i11)/\wz.cell? ⟨tb,q+12,none⟩=some (.slice ao n cp))
     (first|(exact⟨(RR.out _ U6.out).1,AS.out _ (BB.out _ U6.out)⟩)|(exact⟨(RR.out _ (by go_grown)).1,AS.out _ (BB.out _ (by go_grown))⟩))
     (first|(go_at_call 66;(with_reducible refine Go.Calls.mono (CO.out _) ?_);rintro e w6 ⟨rfl,hb6⟩;have U6:=Hd ((Brf W5.heap.size W5).drew.trans hb6);have q1:=(RR.out _ U6.out).2;clear hb6))
    all_goals
     cases bq with
     |true=>
      go_wp2_with fail
      refine((CX.out _ (HR.out.2.1.trans ((BB.out _ U6.out).mono HR.out.2.1.size))).2.2 HR.out.2.2.1).mono ?_
      rintro e w7 ⟨rfl,hX⟩
      have HX:=Hd hX
      clear hX
      go_wp2_with fail
      go_meet
      case rel=>exact HX.out
     |false=>
      go_wp2
      go_roundw
      case rel=>exact⟨3,by omega,rfl,HR.out.1.trans ((BB.out _ U6.out).mono HR.out.1.size),fun h=>by first|exact HR.out.2.2.1|exact HR.out.2.2.2.1 (by omega),fun h=>by first|exact HR.out.2.2.1|exact HR.out.2.2.2.2.1 (by omega)|omega,fun h=>by first|exact HR.out.2.2.1|omega⟩
      case measure=>simp[intOf]
   |3,_=>
    rcases HV.out with e|e|e
    ·rw[hi1 (by omega)]at e;cases e
    ·rw[xi2 (by omega)]at e;cases e
    ·rw[xi3 (by omega)]at e;cases e
   |i+4,h=>omega
 case rest=>
  obtain⟨S',a',hS,hP,hst⟩:=hcut
  obtain⟨⟨c0,c1,c2,c3,c4,c5,c6,c7,c8,c9,c10,c11,c12,c13⟩,cf,cz⟩:=hP.open
  obtain⟨po,pc,hpv⟩:=hP.pkr.shape
  have hpk:=hP.pkn
  rw[hpk]at hpv
  obtain⟨m,hm⟩:∃m,S'.n=m:=⟨_,rfl⟩
  have hm9:m<=900000:=by rw[<-hm,hS.n];exact hpn
  rw[hm]at hpv
  rw[hpv]at c12
  obtain⟨i0',hi,hz0,hz1,hz2⟩:=info_parts Tryz.infoIntM
  have fp:=cf 12
  have RU:=Hd (fun(u:World) (hu:Below wc.heap.size wc u)=>hP.pkr.below hu)
  have hpp:¬a'.pv.ownBlock=some p:=fun e=>by have h1:=hP.tpk p e;have h2:=hP.tp;omega
  have hlen:a'.pk.length=m:=hpk.trans hm
  rw[hpv]at hpp RU
  have hlen9:a'.pk.length<=900000:=by omega
  have HL:=Hd hlen
  have HP:=hi4 hS hP hst hpv
  clear hS hP hst hpv hpk hm hlen cf kc0 kc1 kc2 kc3 kc4 kc5 c0 c1 c2 c3 c4 c5 c6 c7 c8 c9 c10 c11 c13
  go_wp2_with (at_builtin;refine Z0c _ rfl _ _ 33 rfl 0 0 3 i0' (.int .i64 0) 1 8 Tryz.underlying33 hi hz0 hz1 hz2 rfl (by decide) _ _ _ rfl (RU.out _ (by go_grown)) _ 1 _ rfl (Z3e (vs:= [(k:Int)]) (Han _ _) rfl (by omega)) (fun v hv=>(by obtain⟨q,_,rfl⟩:=List.mem_map.1 hv;rfl)) ?c3 ?c4 ?c5 ?_)
  case c3=>unfold maxLen;omega
  case c4=>omega
  case c5=>exact Nat.zero_le _
  intro v5 w5 own5 gr5 _ loc5
  obtain⟨ao5,cap5,rfl⟩:=Z03 own5
  have R5:Z1j w5 (.slice ao5 (a'.pk.length+1) cap5) (a'.pk++ [(k:Int)]):=Z1j.of own5 (by simp) (by simp)
  have K5:Z01 (fun j=>(Value.slice po m pc).ownBlock=some j) wc w5:=((Z01.refl _ wc).alloc _).grown gr5 (fun k e _=>e)
  have L5:∀j,(Value.slice ao5 (a'.pk.length+1) cap5).ownBlock=some j->(Value.slice po m pc).ownBlock=some j\/wc.heap.size<=j:=fun j e=>by
   rcases loc5 with h|h
   ·exact .inl (h ▸ e)
   ·rw[e]at h;simp at h;exact .inr (by omega)
  have e12:=(K5.cell (p:=⟨p,12,none⟩) cz hpp).trans c12
  have ef:=(K5.frozen (p:=⟨p,12,none⟩) cz hpp).trans fp
  have H5:=hi3 R5 K5 L5
  clear own5 gr5 loc5 R5 K5 L5 c12 fp RU
  go_wp2
  go_ret
  obtain⟨R5,K5,L5⟩:=H5.out
  obtain⟨hS,hP,hst,hpv⟩:=HP.out
  obtain⟨tag9,P9,-⟩:=hP.addPk _ (k:Int) R5 (by rw[hpv];exact K5) (by rw[hpv];exact L5)
  exact⟨rfl,S',_,hS,P9,hst⟩
end
end Go.Proofs.YtihljjgmkaeohaaGreat
