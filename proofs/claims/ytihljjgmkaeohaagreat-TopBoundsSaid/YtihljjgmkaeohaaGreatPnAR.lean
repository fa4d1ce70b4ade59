/- part 18 -/
import Derived.Test.YtihljjgmkaeohaaGreatPnAQ
set_option linter.all false
set_option maxHeartbeats 16000000
set_option maxRecDepth 100000
namespace Go.Proofs.YtihljjgmkaeohaaGreat
section
open Go.RowKit Go.ChangeShapes Go.WideShapes Go.ChangeAt Go.Deep
theorem Zgk (w:World) (s c:Nat) (ts:List Tw) (most:Int) (nx:Nat->Nat->Option Nat) (cv:Value) (bs:List Bool) (ov:Value) (L:List (Int×Int)) (hS:SkP w s ts most nx) (hC:CoP w c cv bs) (hO:P2 w 47 ov L) (h32:Z8f L) (dC:∀k,CoF c cv k->¬SkF s ts k) (dO:∀t,ov.ownBlock=some t->¬SkF s ts t/\t≠c) (h9:L.length<=1000000):
 Calls Tryz.prog 231 #[.pointer (some ⟨s,0,none⟩),.pointer (some ⟨c,0,none⟩),ov] w fun e w'=>∃u ord,e= .returned u/\Z31 3 L ord/\P2 w' 43 u (Z0n most L (ts.map (·.v),List.replicate L.length (0,0)) ord).2/\(∀t,u.ownBlock=some t->w.heap.size<=t)/\∃ts' nx',SkP w' s ts' most nx'/\ts'.map (·.v)=(Z0n most L (ts.map (·.v),List.replicate L.length (0,0)) ord).1/\(∀k,SkF s ts' k->SkF s ts k\/w.heap.size<=k)/\(∃cv' bs',CoP w' c cv' bs'/\cv'.ownBlock=cv.ownBlock)/\Z01 (fun k=>SkF s ts k\/k=c) w w':=by
 obtain⟨n,hn⟩:∃n,L.length=n:=⟨_,rfl⟩
 obtain⟨oa,oc,hov⟩:=hO.shape
 rw[hn]at hov h9 |-
 subst hov
 have H:=hi7 hS hC hO h32 dC dO hn
 obtain⟨i0,hi,hz0,hz1,hz2⟩:=info_parts Tryz.infoRes
 have hmk:=Z1f 212 43 i0 Tryz.underlying212 hi hz0 hz1 hz2 n (by omega)
 have hn9:(n:Int)<=1000000:=by omega
 have hn0:n*2<=2000000:=by omega
 clear hS hC hO h32 dC dO hn hi hz0 hz1 hz2
 go_enter Tryz.func231,Tryz.ntmps231
 go_upto_region 2 with fail
 generalize hB:w.heap.size=B
 generalize hW0:World.alloc _ _=W0
 have T1:P2 W0 43 (.slice (some ⟨B,0,none⟩) n n) (List.replicate n (0,0)):=by rw[<-hW0,<-hB];exact Z3p _ _ _ (by omega)
 have B1:Below w.heap.size w W0:=by rw[<-hW0];go_grown
 have z0:W0.heap.size=B+1:=by rw[<-hW0,<-hB];simp
 have H1:=hi4 T1 B1 hB z0
 have cP:=Zcl W0 _ L (H.out.2.2.1.below B1) (by have:=H.out.2.2.2.2.2.2;omega)
 rw[H.out.2.2.2.2.2.2]at cP
 clear hW0 T1 B1 hB z0 hmk
 go_wp2_with fail
 refine cP.mono ?_
 rintro e W1 ⟨pv,qv,ys,rfl,rP,pp,pk,rQ,dP,dQ,BW⟩
 have hPP:Z5u L n ys:=⟨pp,H.out.2.2.2.2.2.2⟩
 obtain⟨m,hm⟩:∃m,ys.length=m:=⟨_,rfl⟩
 have hmn:m<=n:=hm ▸ hPP.slen
 obtain⟨pa,pc,hpv⟩:=rP.shape
 rw[hm]at hpv
 subst hpv
 have B01:=H1.out.2.1.trans (BW.mono H1.out.2.1.size)
 have H2:=hi9 rP hPP pk rQ dP dQ BW B01 hm
 have T2:=H1.out.1.below BW
 have S2:=H.out.1.below B01
 have C2:=H.out.2.1.below B01
 clear rP pp pk rQ dP dQ BW hPP hm cP B01
 go_wp2_with fail
 go_loopw [22] (fun k wr=>∃(i:Nat) (ts':List Tw) (nx':Nat->Nat->Option Nat) (cv':Value) (bs':List Bool),i<=m/\k= .int .i64 i/\P2 wr 43 (.slice (some ⟨B,0,none⟩) n n) (Z0n most L (ts.map (·.v),List.replicate n (0,0)) (ys.take i)).2/\SkP wr s ts' most nx'/\ts'.map (·.v)=(Z0n most L (ts.map (·.v),List.replicate n (0,0)) (ys.take i)).1/\(∀k,SkF s ts' k->SkF s ts k\/W1.heap.size<=k)/\CoP wr c cv' bs'/\cv'.ownBlock=cv.ownBlock/\Z01 (fun k=>SkF s ts k\/k=c\/k=B) W1 wr) (fun k _=>m-(intOf k).toNat)
 case atStart=>exact⟨0,ts,nx,cv,bs,Nat.zero_le _,rfl,T2,S2,rfl,fun k e=>.inl e,C2,rfl,Z01.refl _ _⟩
 case round=>
  obtain⟨i,ts1,nx1,cv1,bs1,hin,rfl,hT,hS,hv,hF,hC,hO1,hK⟩:=hrel
  clear T2 S2 C2
  have yi:(0:Int)<=(i:Int):=by omega
  have zB1:B<W1.heap.size:=by have:=H2.out.2.2.2.2.2.2.1.size;have:=H1.out.2.2.2;omega
  by_cases hlt:i<m
  ·have hlt':(i:Int)<(m:Int):=by omega
   have hio:i<ys.length:=by have:=H2.out.2.2.2.2.2.2.2.2;omega
   have rP:=H2.out.1.kept hK (fun t e f=>by
    have h1:=(H2.out.2.2.2.2.1 t e).1
    have h2:=H1.out.2.2
    rcases f with f|f|f
    ·have:=H.out.1.lt t f;omega
    ·have:=H.out.2.1.lt t (.inl f);omega
    ·omega)
   have rO:=(H.out.2.2.1.below H2.out.2.2.2.2.2.2.2.1).kept hK (fun t e f=>by
    have h1:=H.out.2.2.2.2.2.1 t e
    rcases f with f|f|f
    ·exact h1.1 f
    ·exact h1.2 f
    ·have:=H.out.2.2.1.lt e;have:=H1.out.2.2.1;omega)
   have hai:=H2.out.2.1.mem _ (Z8q hio)
   have haz:=H2.out.2.1.zero most (ts.map (·.v)) hio
   have hsn:=Z8r hio
   have hTl:=Z20 most L (ys.take i) (ts.map (·.v),List.replicate n (0,0))
   rw[show((ts.map (·.v),List.replicate n (0,0)):List Int×List (Int×Int)).2=List.replicate n (0,0)from rfl,Llr]at hTl
   obtain⟨a,ha⟩:∃a:Nat,at0 ys i=(a:Int):=⟨(at0 ys i).toNat,by omega⟩
   rw[ha]at hai haz hsn
   rw[Int.toNat_natCast]at haz
   have haL:a<n:=by omega
   have zaL:(a:Int)<(n:Int):=hai.2.1
   have za0:(0:Int)<=(a:Int):=by omega
   obtain⟨st,hst⟩:∃st,Z0n most L (ts.map (·.v),List.replicate n (0,0)) (ys.take i)=st:=⟨_,rfl⟩
   rw[hst]at hT hv haz hTl
   obtain⟨X1,T1⟩:=st
   replace hT:P2 wr 43 (.slice (some ⟨B,0,none⟩) n n) T1:=hT
   replace hv:ts1.map (·.v)=X1:=hv
   replace haz:T1.getD a (0,0)=(0,0):=haz
   replace hTl:T1.length=n:=hTl
   have hT0:(T1.getD a (0,0)).2=0:=by rw[haz]
   subst hv
   obtain⟨og,oc2,hov,-,hol,hoc,-⟩:=rO.pos (by have:=H.out.2.2.2.2.2.2;omega)
   rw[H.out.2.2.2.2.2.2]at hov
   cases hov
   obtain⟨pg,pc2,pcur,hpv,hpg,-,-,hpc,-⟩:=rP.pos (by omega)
   rw[H2.out.2.2.2.2.2.2.2.2]at hpv
   cases hpv
   have ca:=hpc i hio
   rw[show ys.getD i 0=at0 ys i from rfl,ha]at ca
   obtain⟨c0,c1⟩:=hoc a (by have:=H.out.2.2.2.2.2.2;omega)
   obtain⟨⟨k,y⟩,hky⟩:∃p,L.getD a (0,0)=p:=⟨_,rfl⟩
   have hk1:k=1:=by
    have:=hai.2.2
    unfold kOf at this
    rw[Int.toNat_natCast,hky]at this
    exact this
   subst hk1
   rw[hky]at c1
   rw[show 2*a=a*2 by omega]at c1
   obtain⟨ct1,ct2,hfz⟩:=hT.at_ (j:=a) (by omega)
   have ft:=hfz (a*2)
   have zt:B<wr.heap.size:=Blt wr _ ct1
   have nto:¬og=B:=fun e=>by have:=H.out.2.2.1.lt (g:=og) rfl;have:=H1.out.2.2.1;omega
   have zpg:pg<wr.heap.size:=(Gl hpg)
   have nsk:∀k,SkF s ts1 k->¬k=B:=fun k e e2=>by
    rcases hF k e with h|h
    ·have:=H.out.1.lt k h;have:=H1.out.2.2.1;omega
    ·omega
   have ncB:∀k,CoF c cv1 k->¬k=B:=fun k e e2=>by
    have:CoF c cv k:=e.imp id (fun h=>hO1 ▸ h)
    have:=H.out.2.1.lt k this;have:=H1.out.2.2.1;omega
   have ncS:∀k,CoF c cv1 k->¬SkF s ts1 k:=fun k e e2=>by
    have h1:CoF c cv k:=e.imp id (fun h=>hO1 ▸ h)
    rcases hF k e2 with h|h
    ·exact H.out.2.2.2.2.1 k h1 h
    ·have:=H.out.2.1.lt k h1;have:=H1.out.2.2.1;omega
   have wz:IntKind.i64.wrap ((i:Int)+1)=((i+1:Nat):Int):=by rw[show(i:Int)+1=((i+1:Nat):Int) by omega];exact I6n _ (by omega)
   have T5:=Z43 hT (j:=a) (by omega) 3 hT0
   have KB:=Z02 wr ⟨B,a*2,none⟩ (.int .u8 3)
   have S5:SkP (wr.setCell ⟨B,a*2,none⟩ (.int .u8 3)) s ts1 most nx1:=hS.kept KB nsk
   have C5:CoP (wr.setCell ⟨B,a*2,none⟩ (.int .u8 3)) c cv1 bs1:=hC.kept KB ncB
   have K5:Z01 (fun k=>SkF s ts k\/k=c\/k=B) W1 (wr.setCell ⟨B,a*2,none⟩ (.int .u8 3)):=hK.setCell (p:=⟨B,a*2,none⟩) (fun _=>.inr (.inr rfl)) _
   have c15:=(KB.cell (p:=⟨og,a*2+1,none⟩) hol nto).trans c1
   have zol5:=Nlt hol KB.size
   have HR:=hi9 hst hky hTl hF nsk ncB ncS hsn hO1
   clear hT hS hF hK hC rP rO hoc hpc hpg hfz hai haz hTl hst hky nsk ncB ncS hsn ha hT0 KB hO1
   go_upto_region 7 with fail
   generalize World.setCell _ _ _=W5 at T5 S5 C5 K5 c15 zol5 |-
   have cL:=Zcd W5 s ts1 most nx1 S5
   have cM:=Zfx W5 s ts1 most nx1 S5
   have H5:=hi4 T5 S5 C5 K5
   clear T5 S5 C5 K5 c1
   go_wp2_with fail
   refine cL.mono ?_
   rintro e w' ⟨rfl,rfl⟩
   go_wp2_with fail
   refine cM.mono ?_
   rintro e w' ⟨rfl,rfl⟩
   clear cL cM
   obtain⟨len,hlen⟩:∃l:Nat,ts1.length=l:=⟨_,rfl⟩
   rw[hlen]
   by_cases hful:most<=(len:Int)
   ·have hd:¬(len:Int)<most:=by omega
    go_wp2
    go_roundw
    case rel=>
     obtain⟨hst,hky,hTl,hF,nsk,ncB,ncS,hsn,hO1⟩:=HR.out
     have e1:Z0n most L (ts.map (·.v),List.replicate n (0,0)) (ys.take (i+1))=(ts1.map (·.v),T1.set a (3,0)):=by
      rw[hsn,Z27,hst];exact Z3g hky (Zgj (by simpa [hlen]using hful))
     exact⟨i+1,ts1,nx1,cv1,bs1,by omega,by go_num,by rw[e1];exact H5.out.1,H5.out.2.1,by rw[e1],hF,H5.out.2.2.1,hO1,H5.out.2.2.2⟩
    case measure=>simp[intOf];omega
   ·have hd:(len:Int)<most:=by omega
    have S5:=H5.out.2.1.below (Brf W5.heap.size W5).drew
    have C5:=H5.out.2.2.1.below (Brf W5.heap.size W5).drew
    have c15d:W5.drew.cell? ⟨og,a*2+1,none⟩=some (.int .i32 y):=c15
    have noc:¬og=c:=fun e=>(H.out.2.2.2.2.2.1 og rfl).2 e
    have zol6:og<W5.drew.heap.size:=zol5
    have D5:=hi2 S5 C5
    have ncS':=hi2 HR.out.2.2.2.2.2.2.1 hlen
    have hS6:=Hd (fun(u:World) (hu:Z01 (fun k=>k=c) W5.drew u)=>D5.out.1.kept hu (fun t e f=>ncS'.out.1 c (.inl rfl) (by rw[<-(show t=c from f)];exact e)))
    have nSo:=Hd (show ¬SkF s ts1 og from fun e=>by
     rcases HR.out.2.2.2.1 og e with h|h
     ·exact(H.out.2.2.2.2.2.1 og rfl).1 h
     ·have:=H.out.2.2.1.lt (g:=og) rfl;have:=H1.out.2.2.1;omega)
    clear S5 C5
    go_wp2_with fail
    go_region_held3 (fun wz=>wz.cell? ⟨og,a*2+1,none⟩=some (.int .i32 y))
     (first|(exact c15d)|(exact g17)|(exact g15)|go_keep)
     (first|(go_at_call 234;with_reducible refine Go.Calls.mono (Za3 _ c cv1 bs1 D5.out.2) ?_;rintro e w6 ⟨hh,rfl,hh1,hh8,v6,b6,C6,o6,k6⟩;have g15:=(k6.cell (p:=⟨og,a*2+1,none⟩) zol6 noc).trans c15d;have S6:=hS6.out _ k6;have H6:=hi6 C6 o6 k6 hh1 hh8 S6;clear C6 o6 k6 S6)|(go_at_call 237;with_reducible refine Go.Calls.mono (Zg2 _ s ts1 most nx1 y _ H6.out.2.2.2.2.2 (by rw[ncS'.out.2];exact hd) H6.out.2.2.2.1 H6.out.2.2.2.2.1) ?_;rintro e w7 ⟨rfl,ts7,nx7,S7,e7,f7,k7⟩;have g17:=(k7.cell (p:=⟨og,a*2+1,none⟩) (Blt _ _ g15) nSo.out).trans g15;have H7:=hi4 S7 e7 f7 k7;clear S7 e7 f7 k7))
    all_goals
     obtain⟨C6,o6,k6,-,-,-⟩:=H6.out
     obtain⟨S7,e7,f7,k7⟩:=H7.out
     have nBc:∀t,(Value.slice (some ⟨B,0,none⟩) n n).ownBlock=some t->¬t=c:=fun t e f=>by
      have e2:B=t:=Option.some.inj e
      exact HR.out.2.2.2.2.2.1 c (.inl rfl) (by omega)
     have nBS:∀t,(Value.slice (some ⟨B,0,none⟩) n n).ownBlock=some t->¬SkF s ts1 t:=fun t e f=>by
      have e2:B=t:=Option.some.inj e
      exact HR.out.2.2.2.2.1 t f e2.symm
     have T7:=((H5.out.1.below (Brf W5.heap.size W5).drew).kept k6 nBc).kept k7 nBS
     have C7:=C6.kept k7 (fun k e f=>HR.out.2.2.2.2.2.2.1 k (e.imp id (fun h=>o6 ▸ h)) f)
     have hW1:=H5.out.2.2.2.size
     have hW5:W5.drew.heap.size=W5.heap.size:=rfl
     have hW6:=k6.size
     have K7:Z01 (fun k=>SkF s ts k\/k=c\/k=B) W1 w7:=((H5.out.2.2.2.trans (Z0b (Brf W5.heap.size W5).drew)).step k6 (fun i hi e=>.inr (.inl e))).step k7 (fun i hi e=>by
      rcases HR.out.2.2.2.1 i e with h|h
      ·exact .inl h
      ·omega)
     obtain⟨ct5,ct6,hfz⟩:=T7.at_ (j:=a) (by rw[Lls,HR.out.2.2.1];exact haL)
     have f7a:=hfz (a*2)
     have zt7:B<w7.heap.size:=Blt w7 _ ct5
     have H8:=hi10 T7 C7 K7 hW1 hW5 hW6 S7 e7 f7 o6
     clear C6 o6 k6 S7 e7 f7 k7 nBc nBS T7 C7 hW1 hW5 hW6 K7 hfz
     go_wp2
     go_roundw
     case rel=>
      obtain⟨hst,hky,hTl,hF,nsk,ncB,ncS,hsn,hO1⟩:=HR.out
      obtain⟨T7,C7,K7,hW1,hW5,hW6,S7,e7,f7,o6⟩:=H8.out
      have e1:Z0n most L (ts.map (·.v),List.replicate n (0,0)) (ys.take (i+1))=(ts7.map (·.v),T1.set a (1,0)):=by
       rw[hsn,Z27,hst]
       refine Z3g hky ?_
       rw[Zl2 (by simpa [hlen]using hful),e7]
      have T8:=Z43 T7 (j:=a) (by rw[Lls,hTl];exact haL) 1 (by rw[Lgd,List.getElem?_set_self (by omega)];rfl)
      rw[Z8p]at T8
      have KB:=Z02 w7 ⟨B,a*2,none⟩ (.int .u8 1)
      exact⟨i+1,ts7,nx7,v6,b6,by omega,by go_num,by rw[e1];exact T8,S7.kept KB (fun k e f=>by
       rcases f7 k e with h|h
       ·exact nsk k h f
       ·have f2:k=B:=f;omega),by rw[e1],fun k e=>by
       rcases f7 k e with h|h
       ·exact hF k h
       ·exact .inr (by omega),C7.kept KB (fun k e f=>ncB k (e.imp id (fun h=>o6 ▸ h)) f),o6.trans hO1,K7.setCell (p:=⟨B,a*2,none⟩) (fun _=>.inr (.inr rfl)) _⟩
     case measure=>simp[intOf];omega
  ·obtain rfl:i=m:=by omega
   have ht:ys.take i=ys:=List.take_of_length_le (by have:=H2.out.2.2.2.2.2.2.2.2;omega)
   rw[ht]at hT hv
   have hTl:=Z20 most L ys (ts.map (·.v),List.replicate n (0,0))
   rw[show((ts.map (·.v),List.replicate n (0,0)):List Int×List (Int×Int)).2=List.replicate n (0,0)from rfl,Llr]at hTl
   have e1:(Z0n most L (ts.map (·.v),List.replicate n (0,0)) ys).2.length=L.length:=by rw[hTl,H.out.2.2.2.2.2.2]
   have rQ:=H2.out.2.2.2.1.kept hK (fun t e f=>by
    have h1:=H2.out.2.2.2.2.2.1 t e
    have h2:=H1.out.2.2
    rcases f with f|f|f
    ·have:=H.out.1.lt t f;omega
    ·have:=H.out.2.1.lt t (.inl f);omega
    ·omega)
   have rO:=(H.out.2.2.1.below H2.out.2.2.2.2.2.2.2.1).kept hK (fun t e f=>by
    have h1:=H.out.2.2.2.2.2.1 t e
    rcases f with f|f|f
    ·exact h1.1 f
    ·exact h1.2 f
    ·have:=H.out.2.2.1.lt e;have:=H1.out.2.2.1;omega)
   have hoi:=Z8s L
   have hol2:=Z4x L n
   rw[H.out.2.2.2.2.2.2]at hoi
   have cR:=Zcn wr s ts1 most nx1 _ qv _ L _ (Z3f L n) hS rO rQ hT e1 (by rw[H.out.2.2.2.2.2.2];exact hoi) (H2.out.2.1.zero_oth most (ts.map (·.v))) (Z60 L n) (fun t e=>by
    have e2:B=t:=Option.some.inj e
    have h2:=H1.out.2.2
    refine⟨fun f=>?_,fun f=>?_,fun f=>?_⟩
    ·have:=H2.out.2.2.2.2.2.1 t f;omega
    ·have:=H.out.2.2.1.lt f;omega
    ·rcases hF t f with h|h
     ·have:=H.out.1.lt t h;omega
     ·omega) (fun t f=>by
    have h2:=H1.out.2.2
    rcases hF t f with h|h
    ·refine⟨fun e=>?_,fun e=>(H.out.2.2.2.2.2.1 t e).1 h⟩
     have:=H.out.1.lt t h
     have:=H2.out.2.2.2.2.2.1 t e
     omega
    ·refine⟨fun e=>?_,fun e=>?_⟩
     ·have:=H2.out.2.2.2.1.lt e;omega
     ·have:=H.out.2.2.1.lt e
      have:=H2.out.2.2.2.2.2.2.1.size
      omega) (by omega)
   have HZ:=hi5 hF hC hO1 hK hv
   clear hT hS hv hF hC hO1 hK hTl e1 rQ rO hoi hol2
   go_wp2_with fail
   refine cR.mono ?_
   rintro e w9 ⟨rfl,T9,ts9,nx9,S9,e9,f9,k9⟩
   have H9:=hi5 T9 S9 e9 f9 k9
   clear T9 S9 e9 f9 k9 cR
   go_wp2
   go_ret
   obtain⟨T9,S9,e9,f9,k9⟩:=H9.out
   obtain⟨hF,hC,hO1,hK,hv⟩:=HZ.out
   have hord:=Z31.of_parts H.out.2.2.2.1 (ys:=ys) (by rw[H.out.2.2.2.2.2.2];exact H2.out.2.1.perm) H2.out.2.2.1
   rw[H.out.2.2.2.2.2.2]at hord
   have hal:Z0n most L (ts.map (·.v),List.replicate n (0,0)) (ys++Z3f L n)=Z0n most L (ts1.map (·.v),(Z0n most L (ts.map (·.v),List.replicate n (0,0)) ys).2) (Z3f L n):=by
    rw[Z4y,hv]
   have hWs:=H2.out.2.2.2.2.2.2.2.1.size
   refine⟨_,ys++Z3f L n,rfl,hord,by rw[hal];exact T9,fun t e=>?_,ts9,nx9,S9,by rw[hal];exact e9,fun k e=>?_,⟨cv1,bs1,hC.kept k9 (fun k e f=>?_),hO1⟩,?_⟩
   ·have e2:B=t:=Option.some.inj e
    have:=H1.out.2.2.1;omega
   ·rcases hF k (f9 k e)with h|h
    ·exact .inl h
    ·exact .inr (by omega)
   ·have h1:CoF c cv k:=e.imp id (fun h=>hO1 ▸ h)
    have h2:=H.out.2.1.lt k h1
    rcases f with f|f
    ·rcases hF k f with h|h
     ·exact H.out.2.2.2.2.1 k h1 h
     ·omega
    ·have e2:B=k:=Option.some.inj f
     have:=H1.out.2.2.1;omega
   ·have K1:Z01 (fun k=>SkF s ts k\/k=c) w wr:=(Z0b (F:=fun k=>SkF s ts k\/k=c) H2.out.2.2.2.2.2.2.2.1).step hK (fun i hi e=>by
     rcases e with e|e|e
     ·exact .inl e
     ·exact .inr e
     ·have:=H1.out.2.2.1;omega)
    exact K1.step k9 (fun i hi e=>by
     rcases e with e|e
     ·rcases hF i e with h|h
      ·exact .inl h
      ·omega
     ·have e2:B=i:=Option.some.inj e
      have:=H1.out.2.2.1;omega)
theorem Zn1 (w:World) (c:Nat) (cv:Value) (bs:List Bool) (h:CoP w c cv bs) (g off cap:Nat) (b:Int) (hb:w.cell? ⟨g,off,none⟩=some (.int .u8 b)) (b0:0<=b) (b9:b<=255) (hg:¬CoF c cv g):
 Calls Tryz.prog 68 #[.pointer (some ⟨c,0,none⟩),.slice (some ⟨g,off,none⟩) 1 cap] w fun e w'=>e= .returned (.tuple #[])/\∃v' bs',CoP w' c v' bs'/\(∀t,CoF c v' t->CoF c cv t\/w.heap.size<=t)/\Z01 (CoF c cv) w w':=by
 obtain⟨i0,hi,hz0,hz1,hz2⟩:=info_parts Tryz.infoBool
 have H:=Hd h
 have hgl:=Blt w _ hb
 clear h
 go_enter Tryz.func68,Tryz.ntmps68
 go_wp2_with fail
 go_loopw [11] (fun k wr=>∃(i:Nat) (v':Value) (bs':List Bool),i<=1/\k= .int .i64 i/\CoP wr c v' bs'/\(∀t,CoF c v' t->CoF c cv t\/w.heap.size<=t)/\Z01 (CoF c cv) w wr) (fun k _=>1-(intOf k).toNat)
 case atStart=>exact⟨0,cv,bs,by omega,rfl,H,fun t e=>.inl e,Z01.refl _ _⟩
 case round=>
  obtain⟨i,v1,b1,hi1,rfl,hC,hG,hK⟩:=hrel
  by_cases hlt:i<1
  ·have e0:i=0:=by omega
   subst e0
   rw[show(((0:Nat)):Int)=0 from rfl]
   have hbr:=(hK.cell (p:=⟨g,off,none⟩) hgl hg).trans hb
   have HR:=hi3 hC hG hK
   clear hC hG hK
   go_wp2_with fail
   go_loopw [15] (fun k wr=>∃(j:Nat) (v':Value) (bs':List Bool),j<=8/\k= .int .i64 j/\CoP wr c v' bs'/\(∀t,CoF c v' t->CoF c cv t\/w.heap.size<=t)/\Z01 (CoF c cv) w wr) (fun k _=>8-(intOf k).toNat)
   case atStart=>exact⟨0,v1,b1,by omega,rfl,HR.out.1,HR.out.2.1,HR.out.2.2⟩
   case round=>
    obtain⟨j,v2,b2,hj,rfl,hC,hG,hK⟩:=hrel
    have yj:(0:Int)<=(j:Int):=by omega
    by_cases hlj:j<8
    ·have hlj':(j:Int)<8:=by omega
     obtain⟨c0,hf,hcl⟩:=hC.cells
     have f0:=hf 0
     obtain⟨ao,cp,e0⟩:=hC.row.shape
     rw[show(Z6n b2).length=b2.length by simp]at e0
     subst e0
     have wz:IntKind.i64.wrap ((j:Int)+1)=((j+1:Nat):Int):=by rw[show(j:Int)+1=((j+1:Nat):Int) by omega];exact I6n _ (by omega)
     have HC:=hi3 hC hG hK
     have HU:=Hd (fun(u:World) (hu:Below wr.heap.size wr u)=>hC.row.below hu)
     have hle:=hC.le
     clear hC hG hK hf
     by_cases hfull:(b2.length:Int)=20000
     ·have hfb:((b2.length:Int) == 20000)=true:=by simp[hfull]
      go_wp2
      refine bodyPost_ret (results_none rfl _ _ _) rfl ?_
      exact⟨rfl,_,b2,HC.out⟩
     ·have hfb:((b2.length:Int) == 20000)=false:=by simp[hfull]
      go_wp2_with fail
      go_region_law (refine Z2g rfl _ _ 155 rfl 4 i0 (.bool false) 1 Tryz.underlying155 hi hz0 hz1 hz2 rfl (.slice ao b2.length cp) (Z6n b2) rfl (HU.out _ (by go_grown)) _ _ _ rfl (by first|exact Z2a (Han _ _)|exact Z2a (Z0t _ _)) rfl (by simp;omega) (by decide) ?_;intro v5 w5 own5 ob5 k5;obtain⟨ao5,cap5,rfl⟩:=own5.shape;rw[show(Z6n b2++ [Value.bool (bits BinOp.and IntKind.u8 (b/2 ^ j) 1 == 1)]).length=b2.length+1 from(by simp)]at own5 ob5 |-;have K5:Z01 (fun t=>(Value.slice ao b2.length cp).ownBlock=some t) wr w5:=(by first|exact((Z01.refl _ wr).alloc _).drew.trans k5|exact((Z01.refl _ wr).drew.alloc _).trans k5);have B5:=(K5.block c hcl (fun e=>HC.out.1.ne _ e rfl)).trans HC.out.1.blk;have f05:w5.frozen? ⟨c,0,none⟩=false:=(by simp[World.frozen?,B5]);have c05:w5.cell? ⟨c,0,none⟩=some (.slice ao b2.length cp):=(by simp[World.cell?,B5]);have z5:c<w5.heap.size:=(Gl B5);have L5:Z39 wr (Value.slice ao b2.length cp) (.slice ao5 (b2.length+1) cap5):=(by rcases ob5 with h|h;exact .inl h;(refine .inr (fun t e=>?_);have:=h t e;simp at this;omega));have H5:=hi4 own5 K5 L5 B5;clear own5 ob5 k5 K5 L5 B5)
      all_goals
       go_wp2
       go_roundw
       case rel=>
        obtain⟨own5,K5,L5,B5⟩:=H5.out
        obtain⟨hC,hG,hK⟩:=HC.out
        have hn5:∀t,(Value.slice ao5 (b2.length+1) cap5).ownBlock=some t->t≠c:=fun t e=>by
         rcases L5 with h|h
         ·exact hC.ne t (h ▸ e)
         ·have:=h t e;omega
        have hrow:Z2b w5 4 (.slice ao5 (b2.length+1) cap5) (Z6n (b2++ [bits BinOp.and IntKind.u8 (b/2 ^ j) 1 == 1])):=by simpa using own5
        refine⟨j+1,.slice ao5 (b2.length+1) cap5,b2++ [bits BinOp.and IntKind.u8 (b/2 ^ j) 1 == 1],by omega,by go_num,⟨by rw[Z00 B5];rfl,hrow.kept (Z02 w5 ⟨c,0,none⟩ _) (fun t e f=>hn5 t e f),hn5,by simp;omega⟩,fun t e=>?_,(hK.step K5 (fun i hi e=>(hG i (.inr e)).elim id (fun h=>by omega))).setCell (p:=⟨c,0,none⟩) (fun _=>.inl rfl) _⟩
        rcases e with e|e
        ·exact .inl (.inl e)
        ·rcases L5 with h|h
         ·exact hG t (.inr (h ▸ e))
         ·exact .inr (Nat.le_trans hK.size (h t e))
       case measure=>simp[intOf];omega
    ·obtain rfl:j=8:=by omega
     have HC:=hi3 hC hG hK
     clear hC hG hK
     rw[show(((8:Nat)):Int)=8 from rfl]
     go_wp2
     go_roundw
     case rel=>exact⟨1,v2,b2,by omega,by go_num,HC.out.1,HC.out.2.1,HC.out.2.2⟩
     case measure=>simp[intOf]
  ·have e0:i=1:=by omega
   subst e0
   rw[show(((1:Nat)):Int)=1 from rfl]
   have HC:=hi3 hC hG hK
   clear hC hG hK
   go_wp2
   go_end0
   exact⟨rfl,v1,b1,HC.out⟩
def Z5f (w:World) (ob most:Int) (L:List (Int×Int)) (xs:List Int) (c:Nat) (cv b:Value) (G:Nat->Prop) (e:Ending) (w':World):Prop:=
 ∃u ord,e= .returned u/\Z31 ob L ord/\P2 w' 43 u (Z0m (Z0d ob most) L (xs,List.replicate L.length (0,0)) ord).2/\(∀t,u.ownBlock=some t->w.heap.size<=t)/\(∃G',Z1w w' most ob (b) (Z0m (Z0d ob most) L (xs,List.replicate L.length (0,0)) ord).1 G'/\∀k,G' k->G k\/w.heap.size<=k)/\(∃cv' bs',CoP w' c cv' bs'/\cv'.ownBlock=cv.ownBlock)/\Z01 (fun k=>G k\/k=c) w w'
section
variable (w:World) (o c s:Nat) (ov:Value) (b cv:Value)
theorem Z7c (n:Nat) (xs:List Int) (ob most:Int) (L:List (Int×Int)) (G:Nat->Prop)
 (hblk:w.heap[o]?=some (.cells #[.iface 114 (.agg #[.pointer (some ⟨s,0,none⟩)]),.pointer (some ⟨c,0,none⟩),.bool true] 127 (0,0))) (hoG:¬(G o\/o=c))
 (hb:∀u,Below w.heap.size w u->Calls Tryz.prog 180 #[.agg #[.pointer (some ⟨s,0,none⟩)],.pointer (some ⟨c,0,none⟩),ov] u (Z5f u ob most L xs c cv b G)):
 Calls Tryz.prog 147 #[.pointer (some ⟨o,0,none⟩),ov] w (Z5f w ob most L xs c cv b G):=by
 obtain⟨⟨d0,d1,d2⟩,zo⟩:=Z3d hblk
 have H:=hi3 hblk hoG hb
 have hinv:=Z8t Tryz.underlying110
 have dr:∀(a:Addr),w.drew.cell? a=w.cell? a:=fun _=>rfl
 clear hblk hoG hb
 go_enter Tryz.func147,Tryz.ntmps147
 go_wp2_with fail
 have e0:w.drew.cell? ⟨o,0,none⟩=some (.iface 114 (.agg #[.pointer (some ⟨s,0,none⟩)])):=d0
 have e1:w.drew.cell? ⟨o,1,none⟩=some (.pointer (some ⟨c,0,none⟩)):=d1
 have zo':o<w.drew.heap.size:=zo
 have hno:¬(fun k=>G k\/k=c) (⟨o,0,none⟩:Addr).block:=H.out.2.1
 have hno1:¬(fun k=>G k\/k=c) (⟨o,1,none⟩:Addr).block:=H.out.2.1
 have hbd:Calls Tryz.prog 180 #[.agg #[.pointer (some ⟨s,0,none⟩)],.pointer (some ⟨c,0,none⟩),ov] w.drew fun e w'=>∃u ord,e= .returned u/\Z31 ob L ord/\P2 w' 43 u (Z0m (Z0d ob most) L (xs,List.replicate L.length (0,0)) ord).2/\(∀t,u.ownBlock=some t->w.drew.heap.size<=t)/\(∃G',Z1w w' most ob (b) (Z0m (Z0d ob most) L (xs,List.replicate L.length (0,0)) ord).1 G'/\∀k,G' k->G k\/w.drew.heap.size<=k)/\(∃cv' bs',CoP w' c cv' bs'/\cv'.ownBlock=cv.ownBlock)/\Z01 (fun k=>G k\/k=c) w.drew w':=H.out.2.2 _ (Brf w.heap.size w).drew
 have hbd:=Hd hbd
 go_region_held3 (fun wz=>wz.cell? ⟨o,0,none⟩=some (.iface 114 (.agg #[.pointer (some ⟨s,0,none⟩)]))/\wz.cell? ⟨o,1,none⟩=some (.pointer (some ⟨c,0,none⟩)))
  (first|(exact⟨e0,e1⟩)|(exact⟨g0,g1⟩)|go_keep)
  (first|(go_at_call 180;with_reducible refine Go.Calls.mono hbd.out ?_;rintro e w6 ⟨u,ord,rfl,r1,r2,r3,r4,r5,r6⟩;have g0:=(r6.cell (p:=⟨o,0,none⟩) zo' hno).trans e0;have g1:=(r6.cell (p:=⟨o,1,none⟩) zo' hno1).trans e1;have H6:=hi6 r1 r2 r3 r4 r5 r6;clear r1 r2 r3 r4 r5 r6))
 all_goals
  go_wp2
  go_ret
  obtain⟨r1,r2,r3,r4,r5,r6⟩:=H6.out
  exact⟨_,_,rfl,r1,r2,r3,r4,r5,((Z01.refl _ w).drew).trans r6⟩
theorem Z7d (n:Nat) (xs:List Int) (ob most:Int) (L:List (Int×Int)) (G:Nat->Prop)
 (hblk:w.heap[o]?=some (.cells #[.iface 114 (.agg #[.pointer (some ⟨s,0,none⟩)]),.pointer (some ⟨c,0,none⟩),.bool false] 127 (0,0))) (hoG:¬(G o\/o=c))
 (hb:∀u,Below w.heap.size w u->Calls Tryz.prog 178 #[.agg #[.pointer (some ⟨s,0,none⟩)],.pointer (some ⟨c,0,none⟩),ov] u (Z5f u ob most L xs c cv b G)):
 Calls Tryz.prog 147 #[.pointer (some ⟨o,0,none⟩),ov] w (Z5f w ob most L xs c cv b G):=by
 obtain⟨⟨d0,d1,d2⟩,zo⟩:=Z3d hblk
 have H:=hi3 hblk hoG hb
 have hinv:=Z8u Tryz.underlying110
 have dr:∀(a:Addr),w.drew.cell? a=w.cell? a:=fun _=>rfl
 clear hblk hoG hb
 go_enter Tryz.func147,Tryz.ntmps147
 go_wp2_with fail
 have e0:w.drew.cell? ⟨o,0,none⟩=some (.iface 114 (.agg #[.pointer (some ⟨s,0,none⟩)])):=d0
 have e1:w.drew.cell? ⟨o,1,none⟩=some (.pointer (some ⟨c,0,none⟩)):=d1
 have zo':o<w.drew.heap.size:=zo
 have hno:¬(fun k=>G k\/k=c) (⟨o,0,none⟩:Addr).block:=H.out.2.1
 have hno1:¬(fun k=>G k\/k=c) (⟨o,1,none⟩:Addr).block:=H.out.2.1
 have hbd:Calls Tryz.prog 178 #[.agg #[.pointer (some ⟨s,0,none⟩)],.pointer (some ⟨c,0,none⟩),ov] w.drew fun e w'=>∃u ord,e= .returned u/\Z31 ob L ord/\P2 w' 43 u (Z0m (Z0d ob most) L (xs,List.replicate L.length (0,0)) ord).2/\(∀t,u.ownBlock=some t->w.drew.heap.size<=t)/\(∃G',Z1w w' most ob (b) (Z0m (Z0d ob most) L (xs,List.replicate L.length (0,0)) ord).1 G'/\∀k,G' k->G k\/w.drew.heap.size<=k)/\(∃cv' bs',CoP w' c cv' bs'/\cv'.ownBlock=cv.ownBlock)/\Z01 (fun k=>G k\/k=c) w.drew w':=H.out.2.2 _ (Brf w.heap.size w).drew
 have hbd:=Hd hbd
 go_region_held3 (fun wz=>wz.cell? ⟨o,0,none⟩=some (.iface 114 (.agg #[.pointer (some ⟨s,0,none⟩)]))/\wz.cell? ⟨o,1,none⟩=some (.pointer (some ⟨c,0,none⟩)))
  (first|(exact⟨e0,e1⟩)|(exact⟨g0,g1⟩)|go_keep)
  (first|(go_at_call 178;with_reducible refine Go.Calls.mono hbd.out ?_;rintro e w6 ⟨u,ord,rfl,r1,r2,r3,r4,r5,r6⟩;have g0:=(r6.cell (p:=⟨o,0,none⟩) zo' hno).trans e0;have g1:=(r6.cell (p:=⟨o,1,none⟩) zo' hno1).trans e1;have H6:=hi6 r1 r2 r3 r4 r5 r6;clear r1 r2 r3 r4 r5 r6))
 all_goals
  go_wp2
  go_ret
  obtain⟨r1,r2,r3,r4,r5,r6⟩:=H6.out
  exact⟨_,_,rfl,r1,r2,r3,r4,r5,((Z01.refl _ w).drew).trans r6⟩
theorem Z8x (n:Nat) (xs:List Int) (ob most:Int) (L:List (Int×Int)) (G:Nat->Prop)
 (hblk:w.heap[o]?=some (.cells #[.iface 118 (.agg #[.pointer (some ⟨s,0,none⟩)]),.pointer (some ⟨c,0,none⟩),.bool true] 127 (0,0))) (hoG:¬(G o\/o=c))
 (hb:∀u,Below w.heap.size w u->Calls Tryz.prog 204 #[.agg #[.pointer (some ⟨s,0,none⟩)],.pointer (some ⟨c,0,none⟩),ov] u (Z5f u ob most L xs c cv b G)):
 Calls Tryz.prog 147 #[.pointer (some ⟨o,0,none⟩),ov] w (Z5f w ob most L xs c cv b G):=by
 obtain⟨⟨d0,d1,d2⟩,zo⟩:=Z3d hblk
 have H:=hi3 hblk hoG hb
 have hinv:=Za7 Tryz.underlying110
 have dr:∀(a:Addr),w.drew.cell? a=w.cell? a:=fun _=>rfl
 clear hblk hoG hb
 go_enter Tryz.func147,Tryz.ntmps147
 go_wp2_with fail
 have e0:w.drew.cell? ⟨o,0,none⟩=some (.iface 118 (.agg #[.pointer (some ⟨s,0,none⟩)])):=d0
 have e1:w.drew.cell? ⟨o,1,none⟩=some (.pointer (some ⟨c,0,none⟩)):=d1
 have zo':o<w.drew.heap.size:=zo
 have hno:¬(fun k=>G k\/k=c) (⟨o,0,none⟩:Addr).block:=H.out.2.1
 have hno1:¬(fun k=>G k\/k=c) (⟨o,1,none⟩:Addr).block:=H.out.2.1
 have hbd:Calls Tryz.prog 204 #[.agg #[.pointer (some ⟨s,0,none⟩)],.pointer (some ⟨c,0,none⟩),ov] w.drew fun e w'=>∃u ord,e= .returned u/\Z31 ob L ord/\P2 w' 43 u (Z0m (Z0d ob most) L (xs,List.replicate L.length (0,0)) ord).2/\(∀t,u.ownBlock=some t->w.drew.heap.size<=t)/\(∃G',Z1w w' most ob (b) (Z0m (Z0d ob most) L (xs,List.replicate L.length (0,0)) ord).1 G'/\∀k,G' k->G k\/w.drew.heap.size<=k)/\(∃cv' bs',CoP w' c cv' bs'/\cv'.ownBlock=cv.ownBlock)/\Z01 (fun k=>G k\/k=c) w.drew w':=H.out.2.2 _ (Brf w.heap.size w).drew
 have hbd:=Hd hbd
 go_region_held3 (fun wz=>wz.cell? ⟨o,0,none⟩=some (.iface 118 (.agg #[.pointer (some ⟨s,0,none⟩)]))/\wz.cell? ⟨o,1,none⟩=some (.pointer (some ⟨c,0,none⟩)))
  (first|(exact⟨e0,e1⟩)|(exact⟨g0,g1⟩)|go_keep)
  (first|(go_at_call 204;with_reducible refine Go.Calls.mono hbd.out ?_;rintro e w6 ⟨u,ord,rfl,r1,r2,r3,r4,r5,r6⟩;have g0:=(r6.cell (p:=⟨o,0,none⟩) zo' hno).trans e0;have g1:=(r6.cell (p:=⟨o,1,none⟩) zo' hno1).trans e1;have H6:=hi6 r1 r2 r3 r4 r5 r6;clear r1 r2 r3 r4 r5 r6))
 all_goals
  go_wp2
  go_ret
  obtain⟨r1,r2,r3,r4,r5,r6⟩:=H6.out
  exact⟨_,_,rfl,r1,r2,r3,r4,r5,((Z01.refl _ w).drew).trans r6⟩
theorem Z8y (n:Nat) (xs:List Int) (ob most:Int) (L:List (Int×Int)) (G:Nat->Prop)
 (hblk:w.heap[o]?=some (.cells #[.iface 118 (.agg #[.pointer (some ⟨s,0,none⟩)]),.pointer (some ⟨c,0,none⟩),.bool false] 127 (0,0))) (hoG:¬(G o\/o=c))
 (hb:∀u,Below w.heap.size w u->Calls Tryz.prog 202 #[.agg #[.pointer (some ⟨s,0,none⟩)],.pointer (some ⟨c,0,none⟩),ov] u (Z5f u ob most L xs c cv b G)):
 Calls Tryz.prog 147 #[.pointer (some ⟨o,0,none⟩),ov] w (Z5f w ob most L xs c cv b G):=by
 obtain⟨⟨d0,d1,d2⟩,zo⟩:=Z3d hblk
 have H:=hi3 hblk hoG hb
 have hinv:=Za8 Tryz.underlying110
 have dr:∀(a:Addr),w.drew.cell? a=w.cell? a:=fun _=>rfl
 clear hblk hoG hb
 go_enter Tryz.func147,Tryz.ntmps147
 go_wp2_with fail
 have e0:w.drew.cell? ⟨o,0,none⟩=some (.iface 118 (.agg #[.pointer (some ⟨s,0,none⟩)])):=d0
 have e1:w.drew.cell? ⟨o,1,none⟩=some (.pointer (some ⟨c,0,none⟩)):=d1
 have zo':o<w.drew.heap.size:=zo
 have hno:¬(fun k=>G k\/k=c) (⟨o,0,none⟩:Addr).block:=H.out.2.1
 have hno1:¬(fun k=>G k\/k=c) (⟨o,1,none⟩:Addr).block:=H.out.2.1
 have hbd:Calls Tryz.prog 202 #[.agg #[.pointer (some ⟨s,0,none⟩)],.pointer (some ⟨c,0,none⟩),ov] w.drew fun e w'=>∃u ord,e= .returned u/\Z31 ob L ord/\P2 w' 43 u (Z0m (Z0d ob most) L (xs,List.replicate L.length (0,0)) ord).2/\(∀t,u.ownBlock=some t->w.drew.heap.size<=t)/\(∃G',Z1w w' most ob (b) (Z0m (Z0d ob most) L (xs,List.replicate L.length (0,0)) ord).1 G'/\∀k,G' k->G k\/w.drew.heap.size<=k)/\(∃cv' bs',CoP w' c cv' bs'/\cv'.ownBlock=cv.ownBlock)/\Z01 (fun k=>G k\/k=c) w.drew w':=H.out.2.2 _ (Brf w.heap.size w).drew
 have hbd:=Hd hbd
 go_region_held3 (fun wz=>wz.cell? ⟨o,0,none⟩=some (.iface 118 (.agg #[.pointer (some ⟨s,0,none⟩)]))/\wz.cell? ⟨o,1,none⟩=some (.pointer (some ⟨c,0,none⟩)))
  (first|(exact⟨e0,e1⟩)|(exact⟨g0,g1⟩)|go_keep)
  (first|(go_at_call 202;with_reducible refine Go.Calls.mono hbd.out ?_;rintro e w6 ⟨u,ord,rfl,r1,r2,r3,r4,r5,r6⟩;have g0:=(r6.cell (p:=⟨o,0,none⟩) zo' hno).trans e0;have g1:=(r6.cell (p:=⟨o,1,none⟩) zo' hno1).trans e1;have H6:=hi6 r1 r2 r3 r4 r5 r6;clear r1 r2 r3 r4 r5 r6))
 all_goals
  go_wp2
  go_ret
  obtain⟨r1,r2,r3,r4,r5,r6⟩:=H6.out
  exact⟨_,_,rfl,r1,r2,r3,r4,r5,((Z01.refl _ w).drew).trans r6⟩
theorem Z8z (n:Nat) (xs:List Int) (ob most:Int) (L:List (Int×Int)) (G:Nat->Prop)
 (hblk:w.heap[o]?=some (.cells #[.iface 122 (.agg #[.pointer (some ⟨s,0,none⟩)]),.pointer (some ⟨c,0,none⟩),.bool true] 127 (0,0))) (hoG:¬(G o\/o=c))
 (hb:∀u,Below w.heap.size w u->Calls Tryz.prog 229 #[.agg #[.pointer (some ⟨s,0,none⟩)],.pointer (some ⟨c,0,none⟩),ov] u (Z5f u ob most L xs c cv b G)):
 Calls Tryz.prog 147 #[.pointer (some ⟨o,0,none⟩),ov] w (Z5f w ob most L xs c cv b G):=by
 obtain⟨⟨d0,d1,d2⟩,zo⟩:=Z3d hblk
 have H:=hi3 hblk hoG hb
 have hinv:=Za9 Tryz.underlying110
 have dr:∀(a:Addr),w.drew.cell? a=w.cell? a:=fun _=>rfl
 clear hblk hoG hb
 go_enter Tryz.func147,Tryz.ntmps147
 go_wp2_with fail
 have e0:w.drew.cell? ⟨o,0,none⟩=some (.iface 122 (.agg #[.pointer (some ⟨s,0,none⟩)])):=d0
 have e1:w.drew.cell? ⟨o,1,none⟩=some (.pointer (some ⟨c,0,none⟩)):=d1
 have zo':o<w.drew.heap.size:=zo
 have hno:¬(fun k=>G k\/k=c) (⟨o,0,none⟩:Addr).block:=H.out.2.1
 have hno1:¬(fun k=>G k\/k=c) (⟨o,1,none⟩:Addr).block:=H.out.2.1
 have hbd:Calls Tryz.prog 229 #[.agg #[.pointer (some ⟨s,0,none⟩)],.pointer (some ⟨c,0,none⟩),ov] w.drew fun e w'=>∃u ord,e= .returned u/\Z31 ob L ord/\P2 w' 43 u (Z0m (Z0d ob most) L (xs,List.replicate L.length (0,0)) ord).2/\(∀t,u.ownBlock=some t->w.drew.heap.size<=t)/\(∃G',Z1w w' most ob (b) (Z0m (Z0d ob most) L (xs,List.replicate L.length (0,0)) ord).1 G'/\∀k,G' k->G k\/w.drew.heap.size<=k)/\(∃cv' bs',CoP w' c cv' bs'/\cv'.ownBlock=cv.ownBlock)/\Z01 (fun k=>G k\/k=c) w.drew w':=H.out.2.2 _ (Brf w.heap.size w).drew
 have hbd:=Hd hbd
 go_region_held3 (fun wz=>wz.cell? ⟨o,0,none⟩=some (.iface 122 (.agg #[.pointer (some ⟨s,0,none⟩)]))/\wz.cell? ⟨o,1,none⟩=some (.pointer (some ⟨c,0,none⟩)))
  (first|(exact⟨e0,e1⟩)|(exact⟨g0,g1⟩)|go_keep)
  (first|(go_at_call 229;with_reducible refine Go.Calls.mono hbd.out ?_;rintro e w6 ⟨u,ord,rfl,r1,r2,r3,r4,r5,r6⟩;have g0:=(r6.cell (p:=⟨o,0,none⟩) zo' hno).trans e0;have g1:=(r6.cell (p:=⟨o,1,none⟩) zo' hno1).trans e1;have H6:=hi6 r1 r2 r3 r4 r5 r6;clear r1 r2 r3 r4 r5 r6))
 all_goals
  go_wp2
  go_ret
  obtain⟨r1,r2,r3,r4,r5,r6⟩:=H6.out
  exact⟨_,_,rfl,r1,r2,r3,r4,r5,((Z01.refl _ w).drew).trans r6⟩
theorem Z90 (n:Nat) (xs:List Int) (ob most:Int) (L:List (Int×Int)) (G:Nat->Prop)
 (hblk:w.heap[o]?=some (.cells #[.iface 122 (.agg #[.pointer (some ⟨s,0,none⟩)]),.pointer (some ⟨c,0,none⟩),.bool false] 127 (0,0))) (hoG:¬(G o\/o=c))
 (hb:∀u,Below w.heap.size w u->Calls Tryz.prog 227 #[.agg #[.pointer (some ⟨s,0,none⟩)],.pointer (some ⟨c,0,none⟩),ov] u (Z5f u ob most L xs c cv b G)):
 Calls Tryz.prog 147 #[.pointer (some ⟨o,0,none⟩),ov] w (Z5f w ob most L xs c cv b G):=by
 obtain⟨⟨d0,d1,d2⟩,zo⟩:=Z3d hblk
 have H:=hi3 hblk hoG hb
 have hinv:=Zaa Tryz.underlying110
 have dr:∀(a:Addr),w.drew.cell? a=w.cell? a:=fun _=>rfl
 clear hblk hoG hb
 go_enter Tryz.func147,Tryz.ntmps147
 go_wp2_with fail
 have e0:w.drew.cell? ⟨o,0,none⟩=some (.iface 122 (.agg #[.pointer (some ⟨s,0,none⟩)])):=d0
 have e1:w.drew.cell? ⟨o,1,none⟩=some (.pointer (some ⟨c,0,none⟩)):=d1
 have zo':o<w.drew.heap.size:=zo
 have hno:¬(fun k=>G k\/k=c) (⟨o,0,none⟩:Addr).block:=H.out.2.1
 have hno1:¬(fun k=>G k\/k=c) (⟨o,1,none⟩:Addr).block:=H.out.2.1
 have hbd:Calls Tryz.prog 227 #[.agg #[.pointer (some ⟨s,0,none⟩)],.pointer (some ⟨c,0,none⟩),ov] w.drew fun e w'=>∃u ord,e= .returned u/\Z31 ob L ord/\P2 w' 43 u (Z0m (Z0d ob most) L (xs,List.replicate L.length (0,0)) ord).2/\(∀t,u.ownBlock=some t->w.drew.heap.size<=t)/\(∃G',Z1w w' most ob (b) (Z0m (Z0d ob most) L (xs,List.replicate L.length (0,0)) ord).1 G'/\∀k,G' k->G k\/w.drew.heap.size<=k)/\(∃cv' bs',CoP w' c cv' bs'/\cv'.ownBlock=cv.ownBlock)/\Z01 (fun k=>G k\/k=c) w.drew w':=H.out.2.2 _ (Brf w.heap.size w).drew
 have hbd:=Hd hbd
 go_region_held3 (fun wz=>wz.cell? ⟨o,0,none⟩=some (.iface 122 (.agg #[.pointer (some ⟨s,0,none⟩)]))/\wz.cell? ⟨o,1,none⟩=some (.pointer (some ⟨c,0,none⟩)))
  (first|(exact⟨e0,e1⟩)|(exact⟨g0,g1⟩)|go_keep)
  (first|(go_at_call 227;with_reducible refine Go.Calls.mono hbd.out ?_;rintro e w6 ⟨u,ord,rfl,r1,r2,r3,r4,r5,r6⟩;have g0:=(r6.cell (p:=⟨o,0,none⟩) zo' hno).trans e0;have g1:=(r6.cell (p:=⟨o,1,none⟩) zo' hno1).trans e1;have H6:=hi6 r1 r2 r3 r4 r5 r6;clear r1 r2 r3 r4 r5 r6))
 all_goals
  go_wp2
  go_ret
  obtain⟨r1,r2,r3,r4,r5,r6⟩:=H6.out
  exact⟨_,_,rfl,r1,r2,r3,r4,r5,((Z01.refl _ w).drew).trans r6⟩
end
end
section
open Go.RowKit Go.ChangeShapes Go.WideShapes Go.ChangeAt Go.Shelf
attribute [local go_sem] Oper.semAt_some
theorem SkP.keptB {w w':World} {s:Nat} {ts:List Tw} {most:Int} {nx:Nat->Nat->Option Nat} {q:Nat} (h:SkP w s ts most nx) (hb:Below q w w') (hq:∀k,SkF s ts k->k<q):SkP w' s ts most nx:=
 h.kept (Z01.of_below (S:=fun k=>q<=k) hb (fun k h1 h2=>by omega)) (fun k e=>by have:=hq k e;omega)
theorem Zpi {ts:List Tw} (j:Nat):tpt ts (some j)= .pointer (some ⟨(ts.getD j twD).b,0,none⟩):=rfl
theorem Zpj {ts:List Tw}:tpt ts none= .pointer none:=rfl
theorem Zdw (n:Nat) (hn:1<=n) (l B1 B2 q s:Nat) (ts:List Tw) (most:Int) (nx:Nat->Nat->Option Nat) (J Jx:List {t:Tw // t ∈ ts}->World->Prop) (W:World) (hJ:AbidesFrom W.heap.size J) (h1:Boxed W B1 119 (.pointer (some ⟨s,0,none⟩))) (h2:Boxed W B2 3 (.int .i64 1)) (hS:SkP W s ts most nx) (hq:∀k,SkF s ts k->k<q)
 (hY:∀pre (x:{t:Tw // t ∈ ts}) W1,J pre W1->pre.length<ts.length->YieldAt Fence.wide (n-1) Tryz.prog l #[.pointer (some ⟨x.1.b,0,none⟩)] W1 fun e W'=>
   (e= .returned (.bool true)/\J (pre++ [x]) W'/\KpC q B1 B2 119 3 W1 W')\/(e= .returned (.bool false)/\Jx (pre++ [x]) W')) (h0:J [] W):
 CallsIn Fence.wide n Tryz.prog 226 #[.func (.yield l) #[] #[],.pointer (some ⟨B1,0,none⟩),.pointer (some ⟨B2,0,none⟩)] W fun e W'=>(∃v,e= .returned v)/\
  ((∃ys,ys=ts.attach/\J ys W')\/(∃pre,pre <+:ts.attach/\Jx pre W')):=by
 have c1:=h1.cell
 have c2:=h2.cell
 obtain⟨m,hm⟩:∃m,ts.length=m:=⟨_,rfl⟩
 have hc0:=hS.cell (i:=0) (k:=0) (Nat.zero_le _) (by omega)
 rw[show ndB ts s 0=s from rfl,hS.l0 0 (Nat.zero_le _),hm]at hc0
 have zs:=hS.lt s (.inl rfl)
 have H:=hi5 h1 h2 hS h0 hm
 have HY:=Hd hY
 have HJ:=Hd hJ
 have HQ:=Hd hq
 clear h1 h2 hS h0 hY hJ hq
 obtain⟨p0,hp0⟩:∃p:Option Addr,tpt ts (if 0<m then some 0 else none)= .pointer p:=⟨_,rfl⟩
 rw[hp0]at hc0
 refine callsIn_of_wp Tryz.func226 rfl trivial ?_ rfl
 simp only[Tryz.ntmps226,List.size_toArray,Llc,List.length_nil,Nat.reduceAdd,Nat.reduceSub,Array.replicate_succ,Array.replicate_zero,List.push_toArray,List.append_toArray,List.nil_append,List.cons_append]
 gi_wp2
 gi_quiet (fail)
 have bq:=below_drewN (Brf W.heap.size W) nq
 have J0:J [] (W.drewN nq):=HJ.out [] W _ none H.out.2.2.2.1 ⟨bq.1,bq.2,bq.3,bq.size,fun k hk _=>bq.block k hk⟩ (fun r e=>by cases e)
 have b1:Boxed (W.drewN nq) B1 119 (.pointer (some ⟨s,0,none⟩)):=(bq.block B1 H.out.1.lt).trans H.out.1
 have b2:Boxed (W.drewN nq) B2 3 (.int .i64 1):=(bq.block B2 H.out.2.1.lt).trans H.out.2.1
 have S0:=H.out.2.2.1.below bq
 have hsz:=bq.size
 generalize W.drewN nq=W0 at J0 b1 b2 S0 hsz |-
 have H0:=hi5 J0 b1 b2 S0 hsz
 clear bq J0 b1 b2 S0 hsz c1 c2 hc0
 gi_wp2
 gi_loopg [4] m (fun g p wr=>∃i:Nat,i<=m/\g=m-i/\p=tpt ts (if i<m then some i else none)/\J (ts.attach.take i) wr/\Boxed wr B1 119 (.pointer (some ⟨s,0,none⟩))/\Boxed wr B2 3 (.int .i64 1)/\SkP wr s ts most nx/\W.heap.size<=wr.heap.size)
 case atStart=>exact⟨0,Nat.zero_le _,rfl,hp0.symm,H0.out⟩
 case round=>
  obtain⟨i,hi,rfl,rfl,hJ1,hb1,hb2,hS1,hz1⟩:=hrel
  by_cases hlt:i<m
  ·have hiL:i<ts.length:=by have:=H.out.2.2.2.2;omega
   have hiA:i<ts.attach.length:=by rw[List.length_attach];exact hiL
   rw[if_pos hlt,Zpi]
   obtain⟨B,hB⟩:∃B,(ts.getD i twD).b=B:=⟨_,rfl⟩
   have hxb:(ts.attach[i]).1.b=B:=by
    rw[<-hB,Lgd,Lge hiL];simp
   rw[hB]
   have hsn:ts.attach.take (i+1)=ts.attach.take i++ [ts.attach[i]]:=List.take_succ_eq_append_getElem hiA
   obtain⟨x,hx⟩:∃x,ts.attach[i]=x:=⟨_,rfl⟩
   rw[hx]at hxb hsn
   have HR:=hi8 hJ1 hb1 hb2 hS1 hz1 hsn hB hiL
   clear hJ1 hb1 hb2 hS1 hz1 hsn hB hx hiA hiL
   have hy0:=HY.out (ts.attach.take i) x wr HR.out.1 (by rw[List.length_take,List.length_attach];have:=HR.out.2.2.2.2.2.2.2;omega)
   rw[hxb]at hy0
   gi_wp2
   obtain⟨fn,tmps,assign,body,hy,hRd⟩:=hy0
   rw[hy,Oper.uponIn_round]
   refine⟨fun _=>hn,hRd.mono ?_⟩
   rintro e W3 (⟨rfl,hJ3,hk3⟩|⟨rfl,hJx3⟩)
   ·have B13:=hk3.box _ HR.out.2.1
    have B23:=hk3.box' _ HR.out.2.2.1
    have S3:=HR.out.2.2.2.1.keptB hk3.below HQ.out
    have z3:W.heap.size<=W3.heap.size:=Nat.le_trans HR.out.2.2.2.2.1 hk3.walks.size
    have d2:=B23.cell
    have dn:=S3.cell (i:=i+1) (k:=0) (by have:=HR.out.2.2.2.2.2.2.2;omega) (by omega)
    rw[show ndB ts s (i+1)=B from HR.out.2.2.2.2.2.2.1,S3.l0 (i+1) (by have:=HR.out.2.2.2.2.2.2.2;omega),H.out.2.2.2.2]at dn
    obtain⟨p1,hp1⟩:∃p:Option Addr,tpt ts (if i+1<m then some (i+1)else none)= .pointer p:=⟨_,rfl⟩
    rw[hp1]at dn
    have HX:=hi6 hJ3 B13 B23 S3 z3 hp1
    clear hJ3 hk3 B13 B23 S3 z3 hp1
    gi_wp2
    gi_quiet (fail)
    have bq:=below_drewN (Brf W3.heap.size W3) nq
    have J4:J (ts.attach.take (i+1)) (W3.drewN nq):=by
     rw[HR.out.2.2.2.2.2.1]
     exact HJ.out _ W3 _ none HX.out.1 ⟨bq.1,bq.2,bq.3,bq.size,fun k hk _=>bq.block k hk⟩ (fun r e=>by cases e)
    have b1:Boxed (W3.drewN nq) B1 119 (.pointer (some ⟨s,0,none⟩)):=(bq.block B1 HX.out.2.1.lt).trans HX.out.2.1
    have b2:Boxed (W3.drewN nq) B2 3 (.int .i64 1):=(bq.block B2 HX.out.2.2.1.lt).trans HX.out.2.2.1
    have S4:=HX.out.2.2.2.1.below bq
    have hsz:=Nat.le_trans HX.out.2.2.2.2.1 bq.size
    generalize W3.drewN nq=W4 at J4 b1 b2 S4 hsz |-
    have H4:=hi5 J4 b1 b2 S4 hsz
    clear bq J4 b1 b2 S4 hsz d2 dn
    gi_wp2
    gi_roundg (m-(i+1))
    case rel=>exact⟨i+1,by omega,rfl,HX.out.2.2.2.2.2.symm,H4.out⟩
    case measure=>omega
   ·have HX:=Hd hJx3
    clear hJx3
    gi_wp2
    first|(refine bodyPost_ret (results_none rfl _ _ _) rfl ?_)|go_end0
    exact⟨⟨_,rfl⟩,.inr ⟨_,by rw[<-HR.out.2.2.2.2.2.1];exact List.take_prefix _ _,HX.out⟩⟩
  ·obtain rfl:i=m:=by omega
   rw[if_neg (by omega),Zpj]
   have HX:=Hd hJ1
   have ht:ts.attach.take i=ts.attach:=List.take_of_length_le (by rw[List.length_attach];have:=H.out.2.2.2.2;omega)
   rw[ht]at HX
   clear hJ1 hb1 hb2 hS1
   gi_wp2_with (refine⟨fun f h=>(by cases h),?_⟩)
   go_end0
   exact⟨⟨_,rfl⟩,.inl ⟨_,rfl,HX.out⟩⟩
attribute [local go_sem] Oper.semAt_some
theorem pl_f (s:Nat) (w:World) (k:Int):Calls Tryz.prog 225 #[.pointer (some ⟨s,0,none⟩),.int .i64 k] w fun e w'=>e= .returned (.func (.func 226) #[] #[.pointer (some ⟨w.heap.size,0,none⟩),.pointer (some ⟨w.heap.size+1,0,none⟩)])/\w'=(w.alloc (.cells #[.pointer (some ⟨s,0,none⟩)] 119)).alloc (.cells #[.int .i64 k] 3):=by
 go_enter Tryz.func225,Tryz.ntmps225
 go_wp2
 go_ret
 exact⟨rfl,rfl⟩
theorem Zaf (n:Nat) (hn:1<=n) (B1 B2 q s:Nat) (ts:List Tw) (most:Int) (nx:Nat->Nat->Option Nat) (w:World) (h1:Boxed w B1 119 (.pointer (some ⟨s,0,none⟩))) (h2:Boxed w B2 3 (.int .i64 1)) (hS:SkP w s ts most nx) (hq:∀k,SkF s ts k->k<q):
 SeqStopsK Fence.wide n Tryz.prog 226 #[.pointer (some ⟨B1,0,none⟩),.pointer (some ⟨B2,0,none⟩)] (fun x:{t:Tw // t ∈ ts}=> #[Value.pointer (some ⟨x.1.b,0,none⟩)]) (KpC q B1 B2 119 3) (fun ys=>ys=ts.attach) (fun pre=>pre <+:ts.attach) ts.length w:=fun l J Jx W hW hJ _ hY h0=>
 Zdw n hn l B1 B2 q s ts most nx J Jx W hJ ((hW.block B1 h1.lt).trans h1) ((hW.block B2 h2.lt).trans h2) (hS.below hW) hq hY h0
theorem Z17 {F:Fence} {n:Nat} {P:Program} {w:World} {ops:Array Oper} {o:Oper} {a:Act} {K:Act->World->Prop} {Q:Exit->Act->World->Prop} {E:Prop}
 (hg:o.guard=none) (s x:Operand) (t:TypeId) (hop:o.op=Op.call {callee:=Callee.builtin Builtin.append,args:= #[s,x],argTypes:= #[t,t]})
 (base:Nat) (e:TypeId) (i:TypeInfo) (z:Value) (size bytes:Nat) (h1:P.underlying t=some (.slice e)) (h2:P.info? e=some i) (h3:i.zero=some z) (h4:i.size=size) (h5:i.bytes=bytes) (h6:z.cells.size=size) (h7:0<size)
 (v:Value) (k:Nat) (xs:List Value) (hs:a.eval s=v) (hown:w.ownsRow base e size v k xs) (ad:Addr) (m c:Nat) (news:List Value) (hx:a.eval x= .slice (some ad) m c) (hn:news.length=m*size)
 (hc:∀j u,news[j]?=some u->w.cell? (ad.add j)=some u) (h1c:∀u ∈ news,u.oneCell'=true) (b1:k+m<=maxLen) (b2:(k+m)*bytes<=140737488355328) (b3:base<=w.heap.size)
 (hK:∀v' w',w'.ownsRow base e size v' (k+m) (xs++news)->w.grownBy w' v.ownBlock->(v'= .slice none 0 0↔v= .slice none 0 0/\m=0)->K (a.put o.dst v') w'):
 if Region.wanted o (yielded ops a.tmps)=true then Oper.wpIn F n P o a w K Q else E:=by
 have hw:Region.wanted o (yielded ops a.tmps)=true:=by simp[Region.wanted,hg]
 rw[if_pos hw]
 obtain⟨v',w',hrun,r1,r2,r3⟩:=run_append_own (P:=P) w base t o.type e i z size bytes h1 h2 h3 h4 h5 h6 h7 v k xs hown ad m c news hn hc h1c b1 b2 b3
 unfold Oper.wpIn
 refine⟨?_,?_⟩
 ·simp[Oper.about,hop,resolve,Target.leads,Sem.run_pure]
 ·rw[Oper.semAt_plain F _ _ (by rw[hop];intro c hc';cases hc')]
  simp[execOp,hop,resolve,invoke,builtin,hs,hx,hrun,Result.andThen]
  exact hK v' w' r1 r2 r3
theorem Zk4 (w:World) (s:Nat) (ts:List Tw) (most:Int) (nx:Nat->Nat->Option Nat) (h:SkP w s ts most nx):
 Calls Tryz.prog 224 #[.pointer (some ⟨s,0,none⟩),.int .i64 1] w fun e w'=>∃u,e= .returned u/\R32 w' u (ts.map (·.v))/\(∀k,u.ownBlock=some k->w.heap.size<=k)/\Below w.heap.size w w':=by
 have hlt:=h.lt
 have H:=Hd h
 clear h
 refine(callsIn_wide (n:=5)).1 ?_
 obtain⟨i0,hi,hz0,hz1,hz2⟩:=info_parts Tryz.info32
 refine callsIn_of_wp_marks Tryz.func224 rfl trivial ?_ rfl
 simp only[Tryz.ntmps224,List.size_toArray,Llc,List.length_nil,Nat.reduceAdd,Nat.reduceSub,Array.replicate_succ,Array.replicate_zero,List.push_toArray,List.append_toArray,List.nil_append,List.cons_append]
 gi_wp2_with (refine⟨trivial,?_⟩;gi_at_call 225;refine(callsIn_wide.2 (pl_f _ _ _)).mono ?_;rintro e w1 ⟨rfl,rfl⟩)
 obtain⟨q,hsz⟩:∃q,w.heap.size=q:=⟨_,rfl⟩
 have HA:=Z5q w (Obj.cells #[Value.slice none 0 0] 31) (Obj.cells #[Value.pointer (some ⟨s,0,none⟩)] 119) (Obj.cells #[Value.int IntKind.i64 1] 3)
 generalize hW0:World.alloc (World.alloc (World.alloc _ _) _) _=W0 at HA |-
 have B0:Below w.heap.size w W0:=by rw[<-hW0];go_grown
 have z0:W0.heap.size=q+1+1+1:=by rw[<-hW0,<-hsz];simp
 rw[hsz]at HA B0 |-
 have N1:Boxed W0 q 31 (.slice none 0 0):=HA.1
 have N2:Boxed W0 (q+1) 119 (.pointer (some ⟨s,0,none⟩)):=HA.2.1
 have N3:Boxed W0 (q+1+1) 3 (.int .i64 1):=HA.2.2
 have S0:=H.out.below (hsz ▸ B0)
 have hq:∀k,SkF s ts k->k<q:=fun k e=>by have:=hlt k e;omega
 have hmL:ts.length<=1000:=by have:=H.out.le;have:=H.out.m9;omega
 have HQ:=hi2 hq hmL
 clear hW0 HA hlt
 refine wpIn_rangeFunc_ownF rfl (by omega) (gf:=226) (lb:= #[.pointer (some ⟨q+1,0,none⟩),.pointer (some ⟨q+1+1,0,none⟩)]) rfl trivial (enters_of Tryz.func226 (by kernel_rfl) rfl)
  (Zaf (5-1) (by omega) _ _ q s ts most nx W0 N2 N3 S0 hq) Zpf (fun W l o o' hl h hc hw=>Zpg (w:=W0) (by omega) W l o o' hl h hc hw) (Brf _ _) (fun _=>rfl)
  (fun pre W=>(∃u,Boxed W q 31 u/\W.ownsRow q 21 1 u pre.length (pre.map fun x=>Value.int .i32 x.1.v)/\True)/\Boxed W (q+1) 119 (.pointer (some ⟨s,0,none⟩))/\Boxed W (q+1+1) 3 (.int .i64 1)/\Below q w W)
  (fun c pre W=>False)
  (OwnFrom.and (Own.from (holdsRow_own q q 31 21 1 (fun pre:List {t:Tw // t ∈ ts}=>pre.length) (fun pre=>pre.map fun x=>Value.int .i32 x.1.v) (fun _ _=>True)) _) (OwnFrom.and (Own.from (boxed_own _ _ (fun _=>.pointer (some ⟨s,0,none⟩))) _) (OwnFrom.and (Own.from (boxed_own _ _ (fun _=>.int .i64 1)) _) (ownFrom_below (by omega) (by omega)))))
  (fun c=>ownFrom_pure _ _)
  ⟨⟨_,N1,World.ownsRow_nil _ _ _ _,trivial⟩,N2,N3,B0⟩
  (fun x=>{tmps:= #[.pointer (some ⟨s,0,none⟩),.int .i64 1,undef,undef,.slice none 0 0,.pointer (some ⟨q,0,none⟩),.pointer (some ⟨x.1.b,0,none⟩),.pointer (some ⟨s,0,none⟩),.bool false,.bool false,.int .i64 1,.bool false,.bool false,.bool false,.int .i64 1,.bool false,.bool false,.pointer (some ⟨s,0,none⟩),.int .i64 1,.func (.func 226) #[] #[.pointer (some ⟨q+1,0,none⟩),.pointer (some ⟨q+1+1,0,none⟩)],.pointer (some ⟨x.1.b,0,none⟩),undef,undef,undef,undef,undef,undef,undef,undef],defers:= []}) ?assign ?body ?done ?stop
 case assign=>
  intro l x W K hK
  gi_wp2
  exact hK
 case body=>
  rintro l pre ⟨x,hx⟩ W ⟨⟨u,hu,hrow,-⟩,hn2,hn3,hB⟩ hlt
  have hpl:pre.length<1001:=by have:=HQ.out.2;omega
  clear N1 N2 N3 B0 S0 hlt
  have hSW:=H.out.keptB hB HQ.out.1
  obtain⟨j,hj,hxj⟩:∃j,j<ts.length/\ts.getD j twD=x:=by
   obtain⟨j,hj,e⟩:=List.mem_iff_getElem.1 hx
   exact⟨j,hj,by rw[Lgd,Lge hj];exact e⟩
  have htw:=hSW.tw j hj
  rw[hxj]at htw
  have cv:W.drew.cell? ⟨x.b,0,none⟩=some (.int .i32 x.v):=by
   show W.cell? ⟨x.b,0,none⟩=_
   simp only[World.cell?,htw];rfl
  have hc:W.drew.cell? ⟨q,0,none⟩=some u:=hu.cell
  have hpm:pre.length+1<=maxLen:=by unfold maxLen;omega
  obtain⟨ua,uc,rfl⟩:=Z03 hrow
  have hrd:W.drew.ownsRow q 21 1 (.slice ua pre.length uc) pre.length (pre.map fun x=>Value.int .i32 x.1.v):=hrow
  have hca:(W.alloc (.cells #[.int .i32 x.v] 21)).cell? ⟨q,0,none⟩=some (.slice ua pre.length uc):=(Below.cell (B:=W.heap.size) ((Brf _ W).alloc (Nat.le_refl _) _) hu.lt).trans hu.cell
  have hud:Boxed W.drew q 31 (.slice ua pre.length uc):=hu
  have hzd:q<=W.drew.heap.size:=by have:=hu.lt;show q<=W.heap.size;omega
  have hzd2:q<=W.heap.size:=hzd
  have HW:=hi4 hu hn2 hn3 hB
  obtain⟨xb,hxb⟩:∃b,x.b=b:=⟨_,rfl⟩
  obtain⟨xv,hxv⟩:∃v,x.v=v:=⟨_,rfl⟩
  clear hu hn2 hn3 hB hSW htw hxj hrow
  dsimp only
  rw[hxb]at cv |-
  rw[hxv]at cv hca
  refine wpIn_block ?_
  refine wpIn_region_any (by kernel_rfl) ?_
  change wpAnyIn _ _ _ _ _ _ _ _ _ (World.drew _)
  refine wpAnyIn_ready (rs:= [0,1]) (by kernel_rfl) (by simp) ?_
  refine AllReadyIn.cons rfl (fun K hK=>?_) ?_
  ·go_simp
   refine hK _ _ ?_;clear hK K
   refine wpAnyIn_ready (rs:= [1]) (by kernel_rfl) (by simp) ?_
   refine AllReadyIn.cons rfl (fun K hK=>?_) ?_
   ·go_simp
    refine hK _ _ ?_;clear hK K
    refine wpAnyIn_ready (rs:= [2]) (by kernel_rfl) (by simp) ?_
    refine AllReadyIn.cons rfl (fun K hK=>?_) ?_
    ·go_simp
     refine hK _ _ ?_;clear hK K
     refine wpAnyIn_ready (rs:= [3]) (by kernel_rfl) (by simp) ?_
     refine AllReadyIn.cons rfl (fun K hK=>?_) ?_
     ·go_simp
      refine hK _ _ ?_;clear hK K
      refine wpAnyIn_ready (rs:= [4]) (by kernel_rfl) (by simp) ?_
      refine AllReadyIn.cons rfl (fun K hK=>?_) ?_
      ·go_simp
       refine hK _ _ ?_;clear hK K
       refine wpAnyIn_ready (rs:= [5]) (by kernel_rfl) (by simp) ?_
       refine AllReadyIn.cons rfl (fun K hK=>?_) ?_
       ·go_simp
        refine hK _ _ ?_;clear hK K
        refine wpAnyIn_ready (rs:= [6]) (by kernel_rfl) (by simp) ?_
        refine AllReadyIn.cons rfl (fun K hK=>?_) ?_
        ·(refine Z17 rfl (.tmp 21) (.tmp 26) 31 rfl q 21 i0 (.int .i32 0) 1 4 Tryz.underlying31 hi hz0 hz1 hz2 rfl (by decide) _ _ _ rfl (hrd.alloc _) ⟨W.drew.heap.size,0,none⟩ 1 1 [.int .i32 xv] rfl rfl (cell_one_new _ _ _) (by simp[Value.oneCell']) hpm (by omega) (by simp;omega) ?_;intro v' w1 hown' hgrow _;obtain⟨g',cap',rfl⟩:=ownsRow_succ hown';obtain⟨hv1,hv2,hr2,hk2,hb2⟩:=hud.appended (n₀:=q) (by decide) hrd hzd (Nat.le_refl _) hown' hgrow;have hc1:=hv1.cell;have hf1:=hv1.frozen;go_simp)
         refine hK _ _ ?_;clear hK K
         refine wpAnyIn_ready (rs:= [7]) (by kernel_rfl) (by simp) ?_
         refine AllReadyIn.cons rfl (fun K hK=>?_) ?_
         ·go_simp
          refine hK _ _ ?_;clear hK K
          refine wpAnyIn_done (by kernel_rfl) ?_ _
          obtain⟨hu,hn2,hn3,hB⟩:=HW.out
          skip
          refine⟨⟨hk2.size,hk2.same⟩,⟨⟨hk2.size,fun k o hk ho=>hk2.same k o hk (Obj.not_cells_of_walk ho)⟩,(Brf q W).drew.trans hb2,fun v hv=>(((show Boxed W.drew _ _ _ from hv).alloc _).kept hgrow ((show Boxed W.drew _ _ _ from hv).not_row (by decide) hrd)).other (by omega) _,fun v hv=>(((show Boxed W.drew _ _ _ from hv).alloc _).kept hgrow ((show Boxed W.drew _ _ _ from hv).not_row (by decide) hrd)).other (by omega) _⟩,⟨_,hv2,?_⟩,(((show Boxed W.drew _ _ _ from hn2).alloc _).kept hgrow ((show Boxed W.drew _ _ _ from hn2).not_row (by decide) hrd)).other (by omega) _,(((show Boxed W.drew _ _ _ from hn3).alloc _).kept hgrow ((show Boxed W.drew _ _ _ from hn3).not_row (by decide) hrd)).other (by omega) _,hB.trans ((Brf q W).drew.trans hb2)⟩
          rw[<-hxv]at hr2
          simpa using hr2
         exact AllReadyIn.nil
        exact AllReadyIn.nil
       exact AllReadyIn.nil
      exact AllReadyIn.nil
     exact AllReadyIn.nil
    exact AllReadyIn.nil
   exact AllReadyIn.nil
  refine AllReadyIn.cons rfl (fun K hK=>?_) ?_
  ·go_simp
   refine hK _ _ ?_;clear hK K
   refine wpAnyIn_ready (rs:= [0,2]) (by kernel_rfl) (by simp) ?_
   refine AllReadyIn.cons rfl (fun K hK=>?_) ?_
   ·go_simp
    refine hK _ _ ?_;clear hK K
    refine wpAnyIn_ready (rs:= [2]) (by kernel_rfl) (by simp) ?_
    refine AllReadyIn.cons rfl (fun K hK=>?_) ?_
    ·go_simp
     refine hK _ _ ?_;clear hK K
     refine wpAnyIn_ready (rs:= [3]) (by kernel_rfl) (by simp) ?_
     refine AllReadyIn.cons rfl (fun K hK=>?_) ?_
     ·go_simp
      refine hK _ _ ?_;clear hK K
      refine wpAnyIn_ready (rs:= [4]) (by kernel_rfl) (by simp) ?_
      refine AllReadyIn.cons rfl (fun K hK=>?_) ?_
      ·go_simp
       refine hK _ _ ?_;clear hK K
       refine wpAnyIn_ready (rs:= [5]) (by kernel_rfl) (by simp) ?_
       refine AllReadyIn.cons rfl (fun K hK=>?_) ?_
       ·go_simp
        refine hK _ _ ?_;clear hK K
        refine wpAnyIn_ready (rs:= [6]) (by kernel_rfl) (by simp) ?_
        refine AllReadyIn.cons rfl (fun K hK=>?_) ?_
        ·(refine Z17 rfl (.tmp 21) (.tmp 26) 31 rfl q 21 i0 (.int .i32 0) 1 4 Tryz.underlying31 hi hz0 hz1 hz2 rfl (by decide) _ _ _ rfl (hrd.alloc _) ⟨W.drew.heap.size,0,none⟩ 1 1 [.int .i32 xv] rfl rfl (cell_one_new _ _ _) (by simp[Value.oneCell']) hpm (by omega) (by simp;omega) ?_;intro v' w1 hown' hgrow _;obtain⟨g',cap',rfl⟩:=ownsRow_succ hown';obtain⟨hv1,hv2,hr2,hk2,hb2⟩:=hud.appended (n₀:=q) (by decide) hrd hzd (Nat.le_refl _) hown' hgrow;have hc1:=hv1.cell;have hf1:=hv1.frozen;go_simp)
         refine hK _ _ ?_;clear hK K
         refine wpAnyIn_ready (rs:= [7]) (by kernel_rfl) (by simp) ?_
         refine AllReadyIn.cons rfl (fun K hK=>?_) ?_
         ·go_simp
          refine hK _ _ ?_;clear hK K
          refine wpAnyIn_done (by kernel_rfl) ?_ _
          obtain⟨hu,hn2,hn3,hB⟩:=HW.out
          skip
          refine⟨⟨hk2.size,hk2.same⟩,⟨⟨hk2.size,fun k o hk ho=>hk2.same k o hk (Obj.not_cells_of_walk ho)⟩,(Brf q W).drew.trans hb2,fun v hv=>(((show Boxed W.drew _ _ _ from hv).alloc _).kept hgrow ((show Boxed W.drew _ _ _ from hv).not_row (by decide) hrd)).other (by omega) _,fun v hv=>(((show Boxed W.drew _ _ _ from hv).alloc _).kept hgrow ((show Boxed W.drew _ _ _ from hv).not_row (by decide) hrd)).other (by omega) _⟩,⟨_,hv2,?_⟩,(((show Boxed W.drew _ _ _ from hn2).alloc _).kept hgrow ((show Boxed W.drew _ _ _ from hn2).not_row (by decide) hrd)).other (by omega) _,(((show Boxed W.drew _ _ _ from hn3).alloc _).kept hgrow ((show Boxed W.drew _ _ _ from hn3).not_row (by decide) hrd)).other (by omega) _,hB.trans ((Brf q W).drew.trans hb2)⟩
          rw[<-hxv]at hr2
          simpa using hr2
         exact AllReadyIn.nil
        exact AllReadyIn.nil
       exact AllReadyIn.nil
      exact AllReadyIn.nil
     exact AllReadyIn.nil
    exact AllReadyIn.nil
   refine AllReadyIn.cons rfl (fun K hK=>?_) ?_
   ·go_simp
    refine hK _ _ ?_;clear hK K
    refine wpAnyIn_ready (rs:= [0,3]) (by kernel_rfl) (by simp) ?_
    refine AllReadyIn.cons rfl (fun K hK=>?_) ?_
    ·go_simp
     refine hK _ _ ?_;clear hK K
     refine wpAnyIn_ready (rs:= [3]) (by kernel_rfl) (by simp) ?_
     refine AllReadyIn.cons rfl (fun K hK=>?_) ?_
     ·go_simp
      refine hK _ _ ?_;clear hK K
      refine wpAnyIn_ready (rs:= [4]) (by kernel_rfl) (by simp) ?_
      refine AllReadyIn.cons rfl (fun K hK=>?_) ?_
      ·go_simp
       refine hK _ _ ?_;clear hK K
       refine wpAnyIn_ready (rs:= [5]) (by kernel_rfl) (by simp) ?_
       refine AllReadyIn.cons rfl (fun K hK=>?_) ?_
       ·go_simp
        refine hK _ _ ?_;clear hK K
        refine wpAnyIn_ready (rs:= [6]) (by kernel_rfl) (by simp) ?_
        refine AllReadyIn.cons rfl (fun K hK=>?_) ?_
        ·(refine Z17 rfl (.tmp 21) (.tmp 26) 31 rfl q 21 i0 (.int .i32 0) 1 4 Tryz.underlying31 hi hz0 hz1 hz2 rfl (by decide) _ _ _ rfl (hrd.alloc _) ⟨W.drew.heap.size,0,none⟩ 1 1 [.int .i32 xv] rfl rfl (cell_one_new _ _ _) (by simp[Value.oneCell']) hpm (by omega) (by simp;omega) ?_;intro v' w1 hown' hgrow _;obtain⟨g',cap',rfl⟩:=ownsRow_succ hown';obtain⟨hv1,hv2,hr2,hk2,hb2⟩:=hud.appended (n₀:=q) (by decide) hrd hzd (Nat.le_refl _) hown' hgrow;have hc1:=hv1.cell;have hf1:=hv1.frozen;go_simp)
         refine hK _ _ ?_;clear hK K
         refine wpAnyIn_ready (rs:= [7]) (by kernel_rfl) (by simp) ?_
         refine AllReadyIn.cons rfl (fun K hK=>?_) ?_
         ·go_simp
          refine hK _ _ ?_;clear hK K
          refine wpAnyIn_done (by kernel_rfl) ?_ _
          obtain⟨hu,hn2,hn3,hB⟩:=HW.out
          skip
          refine⟨⟨hk2.size,hk2.same⟩,⟨⟨hk2.size,fun k o hk ho=>hk2.same k o hk (Obj.not_cells_of_walk ho)⟩,(Brf q W).drew.trans hb2,fun v hv=>(((show Boxed W.drew _ _ _ from hv).alloc _).kept hgrow ((show Boxed W.drew _ _ _ from hv).not_row (by decide) hrd)).other (by omega) _,fun v hv=>(((show Boxed W.drew _ _ _ from hv).alloc _).kept hgrow ((show Boxed W.drew _ _ _ from hv).not_row (by decide) hrd)).other (by omega) _⟩,⟨_,hv2,?_⟩,(((show Boxed W.drew _ _ _ from hn2).alloc _).kept hgrow ((show Boxed W.drew _ _ _ from hn2).not_row (by decide) hrd)).other (by omega) _,(((show Boxed W.drew _ _ _ from hn3).alloc _).kept hgrow ((show Boxed W.drew _ _ _ from hn3).not_row (by decide) hrd)).other (by omega) _,hB.trans ((Brf q W).drew.trans hb2)⟩
          rw[<-hxv]at hr2
          simpa using hr2
         exact AllReadyIn.nil
        exact AllReadyIn.nil
       exact AllReadyIn.nil
      exact AllReadyIn.nil
     exact AllReadyIn.nil
    refine AllReadyIn.cons rfl (fun K hK=>?_) ?_
    ·go_simp
     refine hK _ _ ?_;clear hK K
     refine wpAnyIn_ready (rs:= [0,4]) (by kernel_rfl) (by simp) ?_
     refine AllReadyIn.cons rfl (fun K hK=>?_) ?_
     ·go_simp
      refine hK _ _ ?_;clear hK K
      refine wpAnyIn_ready (rs:= [4]) (by kernel_rfl) (by simp) ?_
      refine AllReadyIn.cons rfl (fun K hK=>?_) ?_
      ·go_simp
       refine hK _ _ ?_;clear hK K
       refine wpAnyIn_ready (rs:= [5]) (by kernel_rfl) (by simp) ?_
       refine AllReadyIn.cons rfl (fun K hK=>?_) ?_
       ·go_simp
        refine hK _ _ ?_;clear hK K
        refine wpAnyIn_ready (rs:= [6]) (by kernel_rfl) (by simp) ?_
        refine AllReadyIn.cons rfl (fun K hK=>?_) ?_
        ·(refine Z17 rfl (.tmp 21) (.tmp 26) 31 rfl q 21 i0 (.int .i32 0) 1 4 Tryz.underlying31 hi hz0 hz1 hz2 rfl (by decide) _ _ _ rfl (hrd.alloc _) ⟨W.drew.heap.size,0,none⟩ 1 1 [.int .i32 xv] rfl rfl (cell_one_new _ _ _) (by simp[Value.oneCell']) hpm (by omega) (by simp;omega) ?_;intro v' w1 hown' hgrow _;obtain⟨g',cap',rfl⟩:=ownsRow_succ hown';obtain⟨hv1,hv2,hr2,hk2,hb2⟩:=hud.appended (n₀:=q) (by decide) hrd hzd (Nat.le_refl _) hown' hgrow;have hc1:=hv1.cell;have hf1:=hv1.frozen;go_simp)
         refine hK _ _ ?_;clear hK K
         refine wpAnyIn_ready (rs:= [7]) (by kernel_rfl) (by simp) ?_
         refine AllReadyIn.cons rfl (fun K hK=>?_) ?_
         ·go_simp
          refine hK _ _ ?_;clear hK K
          refine wpAnyIn_done (by kernel_rfl) ?_ _
          obtain⟨hu,hn2,hn3,hB⟩:=HW.out
          skip
          refine⟨⟨hk2.size,hk2.same⟩,⟨⟨hk2.size,fun k o hk ho=>hk2.same k o hk (Obj.not_cells_of_walk ho)⟩,(Brf q W).drew.trans hb2,fun v hv=>(((show Boxed W.drew _ _ _ from hv).alloc _).kept hgrow ((show Boxed W.drew _ _ _ from hv).not_row (by decide) hrd)).other (by omega) _,fun v hv=>(((show Boxed W.drew _ _ _ from hv).alloc _).kept hgrow ((show Boxed W.drew _ _ _ from hv).not_row (by decide) hrd)).other (by omega) _⟩,⟨_,hv2,?_⟩,(((show Boxed W.drew _ _ _ from hn2).alloc _).kept hgrow ((show Boxed W.drew _ _ _ from hn2).not_row (by decide) hrd)).other (by omega) _,(((show Boxed W.drew _ _ _ from hn3).alloc _).kept hgrow ((show Boxed W.drew _ _ _ from hn3).not_row (by decide) hrd)).other (by omega) _,hB.trans ((Brf q W).drew.trans hb2)⟩
          rw[<-hxv]at hr2
          simpa using hr2
         exact AllReadyIn.nil
        exact AllReadyIn.nil
       exact AllReadyIn.nil
      exact AllReadyIn.nil
     refine AllReadyIn.cons rfl (fun K hK=>?_) ?_
     ·go_simp
      refine hK _ _ ?_;clear hK K
      refine wpAnyIn_ready (rs:= [0,5]) (by kernel_rfl) (by simp) ?_
      refine AllReadyIn.cons rfl (fun K hK=>?_) ?_
      ·go_simp
       refine hK _ _ ?_;clear hK K
       refine wpAnyIn_ready (rs:= [5]) (by kernel_rfl) (by simp) ?_
       refine AllReadyIn.cons rfl (fun K hK=>?_) ?_
       ·go_simp
        refine hK _ _ ?_;clear hK K
        refine wpAnyIn_ready (rs:= [6]) (by kernel_rfl) (by simp) ?_
        refine AllReadyIn.cons rfl (fun K hK=>?_) ?_
        ·(refine Z17 rfl (.tmp 21) (.tmp 26) 31 rfl q 21 i0 (.int .i32 0) 1 4 Tryz.underlying31 hi hz0 hz1 hz2 rfl (by decide) _ _ _ rfl (hrd.alloc _) ⟨W.drew.heap.size,0,none⟩ 1 1 [.int .i32 xv] rfl rfl (cell_one_new _ _ _) (by simp[Value.oneCell']) hpm (by omega) (by simp;omega) ?_;intro v' w1 hown' hgrow _;obtain⟨g',cap',rfl⟩:=ownsRow_succ hown';obtain⟨hv1,hv2,hr2,hk2,hb2⟩:=hud.appended (n₀:=q) (by decide) hrd hzd (Nat.le_refl _) hown' hgrow;have hc1:=hv1.cell;have hf1:=hv1.frozen;go_simp)
         refine hK _ _ ?_;clear hK K
         refine wpAnyIn_ready (rs:= [7]) (by kernel_rfl) (by simp) ?_
         refine AllReadyIn.cons rfl (fun K hK=>?_) ?_
         ·go_simp
          refine hK _ _ ?_;clear hK K
          refine wpAnyIn_done (by kernel_rfl) ?_ _
          obtain⟨hu,hn2,hn3,hB⟩:=HW.out
          skip
          refine⟨⟨hk2.size,hk2.same⟩,⟨⟨hk2.size,fun k o hk ho=>hk2.same k o hk (Obj.not_cells_of_walk ho)⟩,(Brf q W).drew.trans hb2,fun v hv=>(((show Boxed W.drew _ _ _ from hv).alloc _).kept hgrow ((show Boxed W.drew _ _ _ from hv).not_row (by decide) hrd)).other (by omega) _,fun v hv=>(((show Boxed W.drew _ _ _ from hv).alloc _).kept hgrow ((show Boxed W.drew _ _ _ from hv).not_row (by decide) hrd)).other (by omega) _⟩,⟨_,hv2,?_⟩,(((show Boxed W.drew _ _ _ from hn2).alloc _).kept hgrow ((show Boxed W.drew _ _ _ from hn2).not_row (by decide) hrd)).other (by omega) _,(((show Boxed W.drew _ _ _ from hn3).alloc _).kept hgrow ((show Boxed W.drew _ _ _ from hn3).not_row (by decide) hrd)).other (by omega) _,hB.trans ((Brf q W).drew.trans hb2)⟩
          rw[<-hxv]at hr2
          simpa using hr2
         exact AllReadyIn.nil
        exact AllReadyIn.nil
       exact AllReadyIn.nil
      refine AllReadyIn.cons rfl (fun K hK=>?_) ?_
      ·go_simp
       refine hK _ _ ?_;clear hK K
       refine wpAnyIn_ready (rs:= [0]) (by kernel_rfl) (by simp) ?_
       refine AllReadyIn.cons rfl (fun K hK=>?_) ?_
       ·go_simp
        refine hK _ _ ?_;clear hK K
        refine wpAnyIn_ready (rs:= [6]) (by kernel_rfl) (by simp) ?_
        refine AllReadyIn.cons rfl (fun K hK=>?_) ?_
        ·(refine Z17 rfl (.tmp 21) (.tmp 26) 31 rfl q 21 i0 (.int .i32 0) 1 4 Tryz.underlying31 hi hz0 hz1 hz2 rfl (by decide) _ _ _ rfl (hrd.alloc _) ⟨W.drew.heap.size,0,none⟩ 1 1 [.int .i32 xv] rfl rfl (cell_one_new _ _ _) (by simp[Value.oneCell']) hpm (by omega) (by simp;omega) ?_;intro v' w1 hown' hgrow _;obtain⟨g',cap',rfl⟩:=ownsRow_succ hown';obtain⟨hv1,hv2,hr2,hk2,hb2⟩:=hud.appended (n₀:=q) (by decide) hrd hzd (Nat.le_refl _) hown' hgrow;have hc1:=hv1.cell;have hf1:=hv1.frozen;go_simp)
         refine hK _ _ ?_;clear hK K
         refine wpAnyIn_ready (rs:= [7]) (by kernel_rfl) (by simp) ?_
         refine AllReadyIn.cons rfl (fun K hK=>?_) ?_
         ·go_simp
          refine hK _ _ ?_;clear hK K
          refine wpAnyIn_done (by kernel_rfl) ?_ _
          obtain⟨hu,hn2,hn3,hB⟩:=HW.out
          skip
          refine⟨⟨hk2.size,hk2.same⟩,⟨⟨hk2.size,fun k o hk ho=>hk2.same k o hk (Obj.not_cells_of_walk ho)⟩,(Brf q W).drew.trans hb2,fun v hv=>(((show Boxed W.drew _ _ _ from hv).alloc _).kept hgrow ((show Boxed W.drew _ _ _ from hv).not_row (by decide) hrd)).other (by omega) _,fun v hv=>(((show Boxed W.drew _ _ _ from hv).alloc _).kept hgrow ((show Boxed W.drew _ _ _ from hv).not_row (by decide) hrd)).other (by omega) _⟩,⟨_,hv2,?_⟩,(((show Boxed W.drew _ _ _ from hn2).alloc _).kept hgrow ((show Boxed W.drew _ _ _ from hn2).not_row (by decide) hrd)).other (by omega) _,(((show Boxed W.drew _ _ _ from hn3).alloc _).kept hgrow ((show Boxed W.drew _ _ _ from hn3).not_row (by decide) hrd)).other (by omega) _,hB.trans ((Brf q W).drew.trans hb2)⟩
          rw[<-hxv]at hr2
          simpa using hr2
         exact AllReadyIn.nil
        exact AllReadyIn.nil
       exact AllReadyIn.nil
      exact AllReadyIn.nil
     exact AllReadyIn.nil
    exact AllReadyIn.nil
   exact AllReadyIn.nil
  exact AllReadyIn.nil
 case done=>
  rintro D ys W hD rfl ⟨⟨u,hu,hrow,-⟩,hn2,hn3,hB⟩ hK
  obtain⟨ao',cap',rfl⟩:=Z03 hrow
  have hc:=hu.cell
  clear N1 N2 N3 B0 S0
  gi_wp2
  refine⟨by simp,.inl ⟨_,_,rfl,run_takeDeferred hK,?_⟩⟩
  have r3:=ownsRow_putObj hrow (.deferred none) hK rfl
  refine⟨.slice ao' ts.attach.length cap',by simp[results,Tryz.f224,go_sem],_,rfl,R32.of r3 (by simp) (by simp),fun k e=>by rw[hsz];exact(World.ownsRow.lt hrow k e).1,?_⟩
  rw[hsz]
  exact hB.trans (belowK_b (w:=W0) (by omega) W D _ _ (by omega) hK rfl rfl)
 case stop=>
  rintro D c pre W hD hpre hf hK
  exact hf.elim
end
end Go.Proofs.YtihljjgmkaeohaaGreat
