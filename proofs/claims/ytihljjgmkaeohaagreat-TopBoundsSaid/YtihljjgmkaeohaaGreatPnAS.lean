/- part 19 -/
import Derived.Test.YtihljjgmkaeohaaGreatPnAQ
set_option linter.all false
set_option maxHeartbeats 16000000
set_option maxRecDepth 100000
namespace Go.Proofs.YtihljjgmkaeohaaGreat
section
open Go.RowKit Go.ChangeShapes Go.WideShapes Go.ChangeAt Go.Deep
theorem Z5d:∀(vs xs:List Int),(Z4a vs xs).length=xs.length+vs.length
 | [],xs=>rfl
 |v::vs,xs=>by
  unfold Z4a
  rw[Z5d vs,Z8i,Llc];omega
theorem Zgl {L:List (Int×Int)} {ys:List Int} (hk:ys.Pairwise (Rk (vOf L))) (r:Nat) (hr:r<=ys.length):∀i j,i<j->j<((ys.take r).map (vOf L)).length->((ys.take r).map (vOf L)).getD i 0<=((ys.take r).map (vOf L)).getD j 0:=fun i j hij hj=>by
 rw[Llm,List.length_take]at hj
 have h:=List.pairwise_iff_getElem.1 hk i j (by omega) (by omega) hij
 have e1:∀q,q<r->((ys.take r).map (vOf L)).getD q 0=vOf L (ys.getD q 0):=fun q hq=>by
  rw[Lgd,List.getElem?_map,List.getElem?_take,if_pos hq,Lgd,Lge (by omega)];rfl
 rw[e1 i (by omega),e1 j (by omega),Lgd,Lgd,Lge (show i<ys.length by omega),Lge (show j<ys.length by omega)]
 unfold Rk at h
 simp only[Option.getD_some]
 omega
theorem Zgm (w:World) (s c:Nat) (ts:List Tw) (most:Int) (nx:Nat->Nat->Option Nat) (cv:Value) (bs:List Bool) (ov:Value) (L:List (Int×Int)) (hS:SkP w s ts most nx) (hC:CoP w c cv bs) (hO:P2 w 47 ov L) (h32:Z8f L) (dC:∀k,CoF c cv k->¬SkF s ts k) (dO:∀t,ov.ownBlock=some t->¬SkF s ts t/\t≠c) (h9:L.length<=1000000):
 Calls Tryz.prog 230 #[.pointer (some ⟨s,0,none⟩),.pointer (some ⟨c,0,none⟩),ov] w fun e w'=>∃u ord,e= .returned u/\Z31 3 L ord/\P2 w' 43 u (Z0n most L (ts.map (·.v),List.replicate L.length (0,0)) ord).2/\(∀t,u.ownBlock=some t->w.heap.size<=t)/\∃ts' nx',SkP w' s ts' most nx'/\ts'.map (·.v)=(Z0n most L (ts.map (·.v),List.replicate L.length (0,0)) ord).1/\(∀k,SkF s ts' k->SkF s ts k\/w.heap.size<=k)/\(∃cv' bs',CoP w' c cv' bs'/\cv'.ownBlock=cv.ownBlock)/\Z01 (fun k=>SkF s ts k\/k=c) w w':=by
 obtain⟨n,hn⟩:∃n,L.length=n:=⟨_,rfl⟩
 obtain⟨oa,oc,hov⟩:=hO.shape
 rw[hn]at hov h9 |-
 subst hov
 have H:=hi7 hS hC hO h32 dC dO hn
 obtain⟨i0,hi,hz0,hz1,hz2⟩:=info_parts Tryz.infoRes
 have hmk:=Z1f 212 43 i0 Tryz.underlying212 hi hz0 hz1 hz2 n (by omega)
 have hn9:(n:Int)<=1000000:=by omega
 have hn0:n*2<=2000000:=by omega
 clear hS hC hO h32 dC dO hn hi hz0 hz1 hz2
 go_enter Tryz.func230,Tryz.ntmps230
 go_upto_region 2 with fail
 generalize hB:w.heap.size=B
 generalize hW0:World.alloc _ _=W0
 have T1:P2 W0 43 (.slice (some ⟨B,0,none⟩) n n) (List.replicate n (0,0)):=by rw[<-hW0,<-hB];exact Z3p _ _ _ (by omega)
 have B1:Below w.heap.size w W0:=by rw[<-hW0];go_grown
 have z0:W0.heap.size=B+1:=by rw[<-hW0,<-hB];simp
 have H1:=hi4 T1 B1 hB z0
 have cP:=Zcl W0 _ L (H.out.2.2.1.below B1) (by have:=H.out.2.2.2.2.2.2;omega)
 rw[H.out.2.2.2.2.2.2]at cP
 clear hW0 T1 B1 hB z0 hmk
 go_wp2_with fail
 refine cP.mono ?_
 rintro e W1 ⟨pv,qv,ys,rfl,rP,pp,pk,rQ,dP,dQ,BW⟩
 have hPP:Z5u L n ys:=⟨pp,H.out.2.2.2.2.2.2⟩
 obtain⟨m,hm⟩:∃m,ys.length=m:=⟨_,rfl⟩
 have hmn:m<=n:=hm ▸ hPP.slen
 obtain⟨pa,pc,hpv⟩:=rP.shape
 rw[hm]at hpv
 subst hpv
 have B01:=H1.out.2.1.trans (BW.mono H1.out.2.1.size)
 have H2:=hi9 rP hPP pk rQ dP dQ BW B01 hm
 have T2:=H1.out.1.below BW
 have S2:=H.out.1.below B01
 have C2:=H.out.2.1.below B01
 clear rP pp pk rQ dP dQ BW hPP hm cP B01
 have zmn:(m:Int)<=1000000:=by omega
 have hle:=S2.le
 have hm9:=S2.m9
 obtain⟨len,hlen⟩:∃l:Nat,ts.length=l:=⟨_,rfl⟩
 obtain⟨r,hr⟩:∃r:Nat,min (m:Int) (most-(len:Int))=(r:Int):=⟨(min (m:Int) (most-(len:Int))).toNat,by omega⟩
 have hrm:r<=m:=by omega
 have hrl:(len:Int)+(r:Int)<=most:=by omega
 have hrf:r<m->most=(len:Int)+(r:Int):=by omega
 have wml:IntKind.i64.wrap (most-(len:Int))=most-(len:Int):=I6n _ (by omega)
 have hmpc:m<=pc:=by
  rcases H2.out.1.2 with⟨e,h0⟩|⟨g,cap,cur,e,_,_,h1,_⟩
  ·have:=H2.out.2.2.2.2.2.2.2.2;omega
  ·cases e;have:=H2.out.2.2.2.2.2.2.2.2;omega
 have cL:=Zcd W1 s ts most nx S2
 have cM:=Zfx W1 s ts most nx S2
 rw[hlen]at cL
 have HS:=hi4 T2 S2 C2 hlen
 clear T2 S2 C2
 go_upto_region 3 with fail
 go_cut [10]from 25 to 32 (fun x wx=>x= .int .i64 r/\W1=wx)
 case first=>
  go_wp2_with fail
  refine cM.mono ?_
  rintro e w' ⟨rfl,rfl⟩
  go_wp2_with fail
  refine cL.mono ?_
  rintro e w' ⟨rfl,rfl⟩
  go_wp2
  all_goals
   go_meet
   exact⟨by congr 1;omega,rfl⟩
 obtain⟨rfl,rfl⟩:=hcut
 clear cL cM
 by_cases hm0:m=0
 ·have hr0:r=0:=by omega
  subst hm0 hr0
  have hwalk:True:=trivial
  have hy0:ys= []:=Lnl H2.out.2.2.2.2.2.2.2.2
  have cB:=Zcg W1 s ts most nx (.slice none 0 0) (.slice none 0 0) [] [] HS.out.2.1 (R32.nil _) (Z1j.nil _) rfl (fun x hx=>(by cases hx)) (by simpa using HS.out.2.1.le) (fun i j h1 h2=>by simp at h2) (fun t e=>(by cases e)) (fun t e=>(by cases e))
  obtain⟨pvv,hpvv⟩:∃v,Value.slice pa 0 pc=v:=⟨_,rfl⟩
  have hpp:(pa=none/\pc=0)\/(∃g,pa=some ⟨g,0,none⟩/\pc=0)\/(∃g,pa=some ⟨g,0,none⟩/\¬0=pc):=by
   rcases H2.out.1.2 with⟨e,_⟩|⟨g,cap,cur,e,_⟩
   ·injection e with e1 _ e2;exact .inl ⟨e1,e2⟩
   ·injection e with e1 _ e2
    by_cases h:pc=0
    ·exact .inr (.inl ⟨g,e1,h⟩)
    ·exact .inr (.inr ⟨g,e1,fun e=>h e.symm⟩)
  clear hpvv
  rcases hpp with⟨rfl,rfl⟩|⟨pg,rfl,rfl⟩|⟨pg,rfl,hpc⟩
  all_goals
   go_wp2_with fail
   go_loopw [11,12,37] (fun a b k wr=>a= .slice none 0 0/\b= .slice none 0 0/\k= .int .i64 0/\W1=wr) (fun _ _ _ _=>0)
   case atStart=>exact⟨rfl,rfl,rfl,rfl⟩
   case round=>
    obtain⟨rfl,rfl,rfl,rfl⟩:=hrel
    go_wp2_with fail
    refine cB.mono ?_
    rintro e W9 ⟨⟨u,rfl⟩,ts2,nx2,S9,e9,f9,k9⟩
    have hWr:=H2.out.2.2.2.2.2.2.1.size
    have T9:=HS.out.1.kept k9 (fun t e f=>by
     have e2:B=t:=Option.some.inj e
     have:=H.out.1.lt t f;have:=H1.out.2.2.1;omega)
    have C9:=HS.out.2.2.1.kept k9 (fun k e f=>H.out.2.2.2.2.1 k e f)
    have K9:Z01 (fun k=>SkF s ts k\/k=c\/k=B) W1 W9:=k9.mono (fun t _ e=>.inl e)
    have H9:=hi6 T9 S9 C9 K9 e9 f9
    have zB1:B<W1.heap.size:=by have:=H1.out.2.2.2;omega
    clear cB S9 e9 f9 k9 T9 C9 K9 hWr
    go_wp2_with fail
    go_loopw [67] (fun k wr=>k= .int .i64 0/\W9=wr) (fun _ _=>0)
    case atStart=>exact⟨rfl,rfl⟩
    case round=>
     obtain⟨rfl,rfl⟩:=hrel
     obtain⟨hT,hS,hC,hK,hv,hF⟩:=H9.out
     have hO1:cv.ownBlock=cv.ownBlock:=rfl
     subst hy0
     have hv:ts2.map (·.v)=(Z0n most L (ts.map (·.v),List.replicate n (0,0)) []).1:=hv
     have hT:P2 W9 43 (.slice (some ⟨B,0,none⟩) n n) (Z0n most L (ts.map (·.v),List.replicate n (0,0)) []).2:=hT
     clear H9
     have hTl:=Z20 most L [] (ts.map (·.v),List.replicate n (0,0))
     rw[show((ts.map (·.v),List.replicate n (0,0)):List Int×List (Int×Int)).2=List.replicate n (0,0)from rfl,Llr]at hTl
     have e1:(Z0n most L (ts.map (·.v),List.replicate n (0,0)) []).2.length=L.length:=by rw[hTl,H.out.2.2.2.2.2.2]
     have rQ:=H2.out.2.2.2.1.kept hK (fun t e f=>by
      have h1:=H2.out.2.2.2.2.2.1 t e
      have h2:=H1.out.2.2
      rcases f with f|f|f
      ·have:=H.out.1.lt t f;omega
      ·have:=H.out.2.1.lt t (.inl f);omega
      ·omega)
     have rO:=(H.out.2.2.1.below H2.out.2.2.2.2.2.2.2.1).kept hK (fun t e f=>by
      have h1:=H.out.2.2.2.2.2.1 t e
      rcases f with f|f|f
      ·exact h1.1 f
      ·exact h1.2 f
      ·have:=H.out.2.2.1.lt e;have:=H1.out.2.2.1;omega)
     have hoi:=Z8s L
     have hol2:=Z4x L n
     rw[H.out.2.2.2.2.2.2]at hoi
     have cR:=Zcn W9 s ts2 most nx2 _ qv _ L _ (Z3f L n) hS rO rQ hT e1 (by rw[H.out.2.2.2.2.2.2];exact hoi) (H2.out.2.1.zero_oth most (ts.map (·.v))) (Z60 L n) (fun t e=>by
      have e2:B=t:=Option.some.inj e
      have h2:=H1.out.2.2
      refine⟨fun f=>?_,fun f=>?_,fun f=>?_⟩
      ·have:=H2.out.2.2.2.2.2.1 t f;omega
      ·have:=H.out.2.2.1.lt f;omega
      ·rcases hF t f with h|h
       ·have:=H.out.1.lt t h;omega
       ·omega) (fun t f=>by
      have h2:=H1.out.2.2
      rcases hF t f with h|h
      ·refine⟨fun e=>?_,fun e=>(H.out.2.2.2.2.2.1 t e).1 h⟩
       have:=H.out.1.lt t h
       have:=H2.out.2.2.2.2.2.1 t e
       omega
      ·refine⟨fun e=>?_,fun e=>?_⟩
       ·have:=H2.out.2.2.2.1.lt e;omega
       ·have:=H.out.2.2.1.lt e
        have:=H2.out.2.2.2.2.2.2.1.size
        omega) (by omega)
     have HZ:=hi5 hF hC hO1 hK hv
     clear hT hS hv hF hC hO1 hK hTl e1 rQ rO hoi hol2
     go_wp2_with fail
     refine cR.mono ?_
     rintro e w9 ⟨rfl,T9,ts9,nx9,S9,e9,f9,k9⟩
     have H9:=hi5 T9 S9 e9 f9 k9
     clear T9 S9 e9 f9 k9 cR
     go_wp2
     go_ret
     obtain⟨T9,S9,e9,f9,k9⟩:=H9.out
     obtain⟨hF,hC,hO1,hK,hv⟩:=HZ.out
     have hord:=Z31.of_parts H.out.2.2.2.1 (ys:= []) (by rw[H.out.2.2.2.2.2.2];exact H2.out.2.1.perm) H2.out.2.2.1
     rw[H.out.2.2.2.2.2.2]at hord
     have hal:Z0n most L (ts.map (·.v),List.replicate n (0,0)) ([]++Z3f L n)=Z0n most L (ts2.map (·.v),(Z0n most L (ts.map (·.v),List.replicate n (0,0)) []).2) (Z3f L n):=by
      rw[Z4y,hv]
     have hWs:=H2.out.2.2.2.2.2.2.2.1.size
     refine⟨_,[]++Z3f L n,rfl,hord,by rw[hal];exact T9,fun t e=>?_,ts9,nx9,S9,by rw[hal];exact e9,fun k e=>?_,⟨cv,bs,hC.kept k9 (fun k e f=>?_),rfl⟩,?_⟩
     ·have e2:B=t:=Option.some.inj e
      have:=H1.out.2.2.1;omega
     ·rcases hF k (f9 k e)with h|h
      ·exact .inl h
      ·exact .inr (by omega)
     ·have h1:CoF c cv k:=e.imp id (fun h=>h)
      have h2:=H.out.2.1.lt k h1
      rcases f with f|f
      ·rcases hF k f with h|h
       ·exact H.out.2.2.2.2.1 k h1 h
       ·omega
      ·have e2:B=k:=Option.some.inj f
       have:=H1.out.2.2.1;omega
     ·have K1:Z01 (fun k=>SkF s ts k\/k=c) w W9:=(Z0b (F:=fun k=>SkF s ts k\/k=c) H2.out.2.2.2.2.2.2.2.1).step hK (fun i hi e=>by
       rcases e with e|e|e
       ·exact .inl e
       ·exact .inr e
       ·have:=H1.out.2.2.1;omega)
      exact K1.step k9 (fun i hi e=>by
       rcases e with e|e
       ·rcases hF i e with h|h
        ·exact .inl h
        ·omega
       ·have e2:B=i:=Option.some.inj e
        have:=H1.out.2.2.1;omega)
 ·obtain⟨pg,pc2,pcur,hpv,-⟩:=H2.out.1.pos (by have:=H2.out.2.2.2.2.2.2.2.2;omega)
  rw[H2.out.2.2.2.2.2.2.2.2]at hpv
  cases hpv
  have zr0:(0:Int)<=(r:Int):=by omega
  have zrc:(r:Int)<=(pc:Int):=by omega
  have zr9:(r:Int)<=1000000:=by omega
  have zrm:(r:Int)<=(m:Int):=by omega
  go_wp2_with fail
  go_loopw [11,12,37] (fun vv hv k wr=>∃(i:Nat) (hs:List Int) (cv':Value) (bs':List Bool),i<=r/\k= .int .i64 i/\P2 wr 43 (.slice (some ⟨B,0,none⟩) n n) (Z0n most L (ts.map (·.v),List.replicate n (0,0)) (ys.take i)).2/\(Z0n most L (ts.map (·.v),List.replicate n (0,0)) (ys.take i)).1=Z4a ((ys.take i).map (vOf L)) (ts.map (·.v))/\R32 wr vv ((ys.take i).map (vOf L))/\Z1j wr hv hs/\hs.length=i/\(∀x ∈ hs,1<=x/\x<=8)/\(∀t,vv.ownBlock=some t->W1.heap.size<=t/\hv.ownBlock≠some t)/\(∀t,hv.ownBlock=some t->W1.heap.size<=t)/\CoP wr c cv' bs'/\cv'.ownBlock=cv.ownBlock/\Z01 (fun k=>k=c\/k=B) W1 wr) (fun _ _ k _=>r-(intOf k).toNat)
  case atStart=>exact⟨0,[],cv,bs,Nat.zero_le _,rfl,HS.out.1,rfl,R32.nil _,Z1j.nil _,rfl,fun x hx=>(by cases hx),fun t e=>(by cases e),fun t e=>(by cases e),HS.out.2.2.1,rfl,Z01.refl _ _⟩
  case round=>
   obtain⟨i,hs,cv1,bs1,hin,rfl,hT,hv,hV,hH,hhl,hh8,dV,dH,hC,hO1,hK⟩:=hrel
   have yi:(0:Int)<=(i:Int):=by omega
   have zB1:B<W1.heap.size:=by have:=H2.out.2.2.2.2.2.2.1.size;have:=H1.out.2.2.2;omega
   obtain⟨va,vc,hvv⟩:=hV.shape
   have hvl:((ys.take i).map (vOf L)).length=i:=by rw[Llm,List.length_take];have:=H2.out.2.2.2.2.2.2.2.2;omega
   rw[hvl]at hvv
   subst hvv
   obtain⟨ha_,hc_,hhv⟩:=hH.shape
   rw[hhl]at hhv
   subst hhv
   by_cases hlt:i<r
   ·have hlt':(i:Int)<(r:Int):=by omega
    have hio:i<ys.length:=by have:=H2.out.2.2.2.2.2.2.2.2;omega
    have rP:=H2.out.1.kept hK (fun t e f=>by
     have h1:=(H2.out.2.2.2.2.1 t e).1
     have h2:=H1.out.2.2
     rcases f with f|f
     ·have:=H.out.2.1.lt t (.inl f);omega
     ·omega)
    have rO:=(H.out.2.2.1.below H2.out.2.2.2.2.2.2.2.1).kept hK (fun t e f=>by
     have h1:=H.out.2.2.2.2.2.1 t e
     rcases f with f|f
     ·exact h1.2 f
     ·have:=H.out.2.2.1.lt e;have:=H1.out.2.2.1;omega)
    have hai:=H2.out.2.1.mem _ (Z8q hio)
    have haz:=H2.out.2.1.zero most (ts.map (·.v)) hio
    have hsn:=Z8r hio
    have hTl:=Z20 most L (ys.take i) (ts.map (·.v),List.replicate n (0,0))
    rw[show((ts.map (·.v),List.replicate n (0,0)):List Int×List (Int×Int)).2=List.replicate n (0,0)from rfl,Llr]at hTl
    obtain⟨a,ha⟩:∃a:Nat,at0 ys i=(a:Int):=⟨(at0 ys i).toNat,by omega⟩
    rw[ha]at hai haz hsn
    rw[Int.toNat_natCast]at haz
    have haL:a<n:=by omega
    have zaL:(a:Int)<(n:Int):=hai.2.1
    have za0:(0:Int)<=(a:Int):=by omega
    obtain⟨⟨k,y⟩,hky⟩:∃p,L.getD a (0,0)=p:=⟨_,rfl⟩
    have hk1:k=1:=by
     have:=hai.2.2
     unfold kOf at this
     rw[Int.toNat_natCast,hky]at this
     exact this
    subst hk1
    have hvy:vOf L (a:Int)=y:=by unfold vOf;rw[Int.toNat_natCast,hky]
    obtain⟨st,hst⟩:∃st,Z0n most L (ts.map (·.v),List.replicate n (0,0)) (ys.take i)=st:=⟨_,rfl⟩
    rw[hst]at hT hv haz hTl
    obtain⟨X1,T1⟩:=st
    replace hT:P2 wr 43 (.slice (some ⟨B,0,none⟩) n n) T1:=hT
    replace haz:T1.getD a (0,0)=(0,0):=haz
    replace hTl:T1.length=n:=hTl
    have hT0:(T1.getD a (0,0)).2=0:=by rw[haz]
    obtain⟨pg,pc2,pcur,hpv,hpg,-,-,hpc,-⟩:=rP.pos (by omega)
    rw[H2.out.2.2.2.2.2.2.2.2]at hpv
    cases hpv
    have ca:=hpc i hio
    rw[show ys.getD i 0=at0 ys i from rfl,ha]at ca
    have zpg:pg<wr.heap.size:=(Gl hpg)
    obtain⟨ct1,ct2,hfz⟩:=hT.at_ (j:=a) (by omega)
    have ft:=hfz (a*2)
    have zt:B<wr.heap.size:=Blt wr _ ct1
    obtain⟨og,oc2,hov,-,hol,hoc,-⟩:=rO.pos (by have:=H.out.2.2.2.2.2.2;omega)
    rw[H.out.2.2.2.2.2.2]at hov
    cases hov
    obtain⟨c0,c1⟩:=hoc a (by have:=H.out.2.2.2.2.2.2;omega)
    rw[hky]at c1
    rw[show 2*a=a*2 by omega]at c1
    have ncB:∀k,CoF c cv1 k->¬k=B:=fun k e e2=>by
     have:CoF c cv k:=e.imp id (fun h=>hO1 ▸ h)
     have:=H.out.2.1.lt k this;have:=H1.out.2.2.1;omega
    have ncW:∀k,CoF c cv1 k->k<W1.heap.size:=fun k e=>by
     have:CoF c cv k:=e.imp id (fun h=>hO1 ▸ h)
     have:=H.out.2.1.lt k this;have:=H1.out.2.2.1;omega
    have wz:IntKind.i64.wrap ((i:Int)+1)=((i+1:Nat):Int):=by rw[show(i:Int)+1=((i+1:Nat):Int) by omega];exact I6n _ (by omega)
    have HU:=Hd (fun(u:World) (hu:Below wr.heap.size wr u)=>hV.below hu)
    obtain⟨i0,hi,hz0,hz1,hz2⟩:=info_parts Tryz.info32
    obtain⟨ia,hia,hz0a,hz1a,hz2a⟩:=info_parts Tryz.infoIntM
    have HR:=Hd (And.intro hst (And.intro hky (And.intro hTl (And.intro hv (And.intro ncB (And.intro ncW (And.intro hsn (And.intro hO1 (And.intro hT (And.intro hH (And.intro hhl (And.intro hh8 (And.intro dV (And.intro dH (And.intro hC (And.intro hK (And.intro hT0 (And.intro hvy hV))))))))))))))))))
    clear hT hv hH hh8 dV dH hC hK hoc hpc hpg hfz hai haz hTl hst hky ncB ncW hsn ha hT0 hO1 rP rO hvy hV c0 ct1 ct2 ft hhl
    go_wp2_with (at_builtin;refine Z0c _ rfl _ _ 31 rfl 0 0 21 i0 (.int .i32 0) 1 4 Tryz.underlying31 hi hz0 hz1 hz2 rfl (by decide) _ _ _ rfl (HU.out _ (by go_grown)) _ 1 _ rfl (Z3c (vs:= [y]) (Han _ _) rfl (by omega)) (fun v hv=>(by obtain⟨q,_,rfl⟩:=List.mem_map.1 hv;rfl)) ?c30 ?c40 ?c50 ?_)
    try case c30=>unfold maxLen;omega
    try case c40=>omega
    try case c50=>exact Nat.zero_le _
    intro v50 w50 own5 gr5 _ loc5
    have R5:R32 w50 v50 ((ys.take i).map (vOf L)++ [y]):=R32.of own5 (by simp) (by simp)
    have K5:Z01 (fun k=>(Value.slice va i vc).ownBlock=some k) wr w50:=((Z01.refl _ wr).alloc _).grown gr5 (fun k e _=>e)
    have L5:∀t,v50.ownBlock=some t->(Value.slice va i vc).ownBlock=some t\/wr.heap.size<=t:=fun t e=>by
     rcases loc5 with h|h
     ·exact .inl (h ▸ e)
     ·rw[e]at h;simp at h;exact .inr (by omega)
    clear own5 gr5 loc5
    obtain⟨hst,hky,hTl,hv,ncB,ncW,hsn,hO1,hT,hH,hhl,hh8,dV,dH,hC,hK,hT0,hvy,hV⟩:=HR.out
    have nVW:∀t,(Value.slice va i vc).ownBlock=some t->W1.heap.size<=t:=fun t e=>(dV t e).1
    have C5:=hC.kept K5 (fun k e f=>by have:=ncW k e;have:=nVW k f;omega)
    have H5r:=hH.kept K5 (fun t e f=>(dV t f).2 e)
    have T5:=hT.kept K5 (fun t e f=>by
     have e2:B=t:=Option.some.inj e
     have:=nVW t f;omega)
    have KK5:Z01 (fun k=>k=c\/k=B) W1 w50:=hK.step K5 (fun t ht f=>by have:=nVW t f;omega)
    have cH:=Za3 w50 c cv1 bs1 C5
    have hsz5:=K5.size
    have V5:=hi6 R5 L5 H5r T5 KK5 hsz5
    clear hst hky hTl hv hsn hT hH hh8 dH hC hK hT0 hvy R5 K5 L5 H5r T5 KK5 C5 hV hhl hsz5 hi hz0 hz1 hz2 c1 ca
    go_wp2_with fail
    refine cH.mono ?_
    rintro e w6 ⟨hh,rfl,h1,h8,v6,b6,C6,o6,k6⟩
    have H6r:=V5.out.2.2.1.kept k6 (fun t e f=>by
     have f2:t=c:=f
     have:=HR.out.2.2.2.2.2.2.2.2.2.2.2.2.2.1 t e
     have:=ncW c (.inl rfl);omega)
    have T6:=V5.out.2.2.2.1.kept k6 (fun t e f=>by
     have e2:B=t:=Option.some.inj e
     have f2:t=c:=f
     exact ncB c (.inl rfl) (by omega))
    have R6:=V5.out.1.kept k6 (fun t e f=>by
     have f2:t=c:=f
     have hcW:=ncW c (.inl rfl)
     rcases V5.out.2.1 t e with h|h
     ·have:=nVW t h;omega
     ·have:=HR.out.2.2.2.2.2.2.2.2.2.2.2.2.2.2.2.1.size;omega)
    have K6:Z01 (fun k=>k=c\/k=B) W1 w6:=V5.out.2.2.2.2.1.step k6 (fun t ht f=>.inl f)
    have hsz6:=k6.size
    have hlH:=HR.out.2.2.2.2.2.2.2.2.2.2.1
    have V6:=hi8 C6 o6 R6 T6 K6 hsz6 h1 h8
    have HU2:=Hd (fun(u:World) (hu:Below w6.heap.size w6 u)=>H6r.below hu)
    clear C6 o6 R6 T6 K6 hsz6 k6 H6r cH
    go_wp2_with (at_builtin;refine Z0c _ rfl _ _ 33 rfl 0 0 3 ia (.int .i64 0) 1 8 Tryz.underlying33 hia hz0a hz1a hz2a rfl (by decide) _ _ _ rfl (HU2.out _ (by go_grown)) _ 1 _ rfl (Z3e (vs:= [(hh:Int)]) (Han _ _) rfl (by omega)) (fun v hv=>(by obtain⟨q,_,rfl⟩:=List.mem_map.1 hv;rfl)) ?c3a ?c4a ?c5a ?_)
    try case c3a=>unfold maxLen;omega
    try case c4a=>omega
    try case c5a=>exact Nat.zero_le _
    intro v5a w5a own5 gr5 _ loc5
    have R5:Z1j w5a v5a (hs++ [(hh:Int)]):=Z1j.of own5 (by simp[hlH]) (by simp)
    have K5:Z01 (fun k=>(Value.slice ha_ i hc_).ownBlock=some k) w6 w5a:=((Z01.refl _ w6).alloc _).grown gr5 (fun k e _=>e)
    have L5:∀t,v5a.ownBlock=some t->(Value.slice ha_ i hc_).ownBlock=some t\/w6.heap.size<=t:=fun t e=>by
     rcases loc5 with h|h
     ·exact .inl (h ▸ e)
     ·rw[e]at h;simp at h;exact .inr (by omega)
    clear own5 gr5 loc5
    obtain⟨C6,o6,R6,T6,K6,hsz6,h1,h8⟩:=V6.out
    obtain⟨R5_,L5_,H5r_,T5_,KK5_,hsz5⟩:=V5.out
    have dH:=HR.out.2.2.2.2.2.2.2.2.2.2.2.2.2.1
    have hsr:=HR.out.2.2.2.2.2.2.2.2.2.2.2.2.2.2.2.1.size
    have T7:=T6.kept K5 (fun t e f=>by
     have e2:B=t:=Option.some.inj e
     have:=dH t f;omega)
    have C7:=C6.kept K5 (fun k e f=>by
     have:=ncW k (e.imp id (fun h=>o6 ▸ h));have:=dH k f;omega)
    have R7:=R6.kept K5 (fun t e f=>by
     rcases L5_ t e with h|h
     ·exact(dV t h).2 f
     ·have:=HR.out.2.2.2.2.2.2.2.2.2.1.lt f;omega)
    have K7:Z01 (fun k=>k=c\/k=B) W1 w5a:=K6.step K5 (fun t ht f=>by have:=dH t f;omega)
    have LV:∀t,v50.ownBlock=some t->W1.heap.size<=t/\v5a.ownBlock≠some t:=fun t e=>by
     refine⟨?_,fun e2=>?_⟩
     ·rcases L5_ t e with h|h
      ·exact nVW t h
      ·omega
     ·have ht5:=R5_.lt e
      rcases L5 t e2 with g|g
      ·rcases L5_ t e with h|h
       ·exact(dV t h).2 g
       ·have:=HR.out.2.2.2.2.2.2.2.2.2.1.lt g;omega
      ·omega
    have LH:∀t,v5a.ownBlock=some t->W1.heap.size<=t:=fun t e=>by
     rcases L5 t e with h|h
     ·exact dH t h
     ·omega
    obtain⟨ct5,ct6,hfz⟩:=T7.at_ (j:=a) (by rw[HR.out.2.2.1];exact haL)
    have f7a:=hfz (a*2)
    have zt7:B<w5a.heap.size:=Blt w5a _ ct5
    have V7:=hi10 T7 C7 R7 K7 LV LH R5 o6 h1 h8
    clear C6 o6 R6 T6 K6 hsz6 h1 h8 R5_ L5_ H5r_ T5_ KK5_ hsz5 dH hsr T7 C7 R7 K7 LV LH R5 K5 L5 hfz
    go_wp2
    go_roundw
    case rel=>
     obtain⟨hst,hky,hTl,hv,ncB,ncW,hsn,hO1,hT,hH,hhl,hh8,dV,dH,hC,hK,hT0,hvy,hV⟩:=HR.out
     obtain⟨T7,C7,R7,K7,LV,LH,R5,o6,h1,h8⟩:=V7.out
     have hv:X1=Z4a ((ys.take i).map (vOf L)) (ts.map (·.v)):=hv
     have hlX:X1.length=len+i:=by rw[hv,Z5d,hvl,Llm,HS.out.2.2.2]
     have e1:Z0n most L (ts.map (·.v),List.replicate n (0,0)) (ys.take (i+1))=(Z5t y X1,T1.set a (1,0)):=by
      rw[hsn,Z27,hst]
      exact Z3g hky (Zl2 (by rw[hlX];omega))
     have e2:(ys.take (i+1)).map (vOf L)=(ys.take i).map (vOf L)++ [y]:=by rw[hsn,List.map_append,List.map_singleton,hvy]
     have T8:=Z43 T7 (j:=a) (by rw[hTl];exact haL) 1 hT0
     have KB:=Z02 w5a ⟨B,a*2,none⟩ (.int .u8 1)
     refine⟨i+1,hs++ [(hh:Int)],v6,b6,by omega,by go_num,by rw[e1];exact T8,by rw[e1,e2,Z4g,<-hv],by rw[e2];exact R7.kept KB (fun t e f=>by have f2:t=B:=f;have:=(LV t e).1;omega),R5.kept KB (fun t e f=>by have f2:t=B:=f;have:=LH t e;omega),by simp[hhl],fun x hx=>?_,LV,LH,C7.kept KB (fun k e f=>ncB k (e.imp id (fun h=>o6 ▸ h)) f),o6.trans hO1,K7.setCell (p:=⟨B,a*2,none⟩) (fun _=>.inr rfl) _⟩
     rcases List.mem_append.1 hx with h|h
     ·exact hh8 x h
     ·rw[List.mem_singleton.1 h];omega
    case measure=>simp[intOf];omega
   ·obtain rfl:i=r:=by omega
    have hK1:Z01 (fun k=>SkF s ts k\/k=c\/k=B) W1 wr:=hK.mono (fun k _ e=>.inr e)
    have nSc:∀k,SkF s ts k->¬(k=c\/k=B):=fun k e f=>by
     rcases f with f|f
     ·exact H.out.2.2.2.2.1 c (.inl rfl) (f ▸ e)
     ·have:=H.out.1.lt k e;have:=H1.out.2.2.1;omega
    have S1:=HS.out.2.1.kept hK nSc
    have nW:=HS.out.2.1.lt
    have cB:=Zcg wr s ts most nx _ _ _ hs S1 hV hH (by rw[hhl,hvl]) hh8 (by rw[hvl,hlen];omega) (Zgl H2.out.2.2.1 i (by have:=H2.out.2.2.2.2.2.2.2.2;omega)) (fun t e f=>by have:=(dV t e).1;have:=nW t f;omega) (fun t e f=>by have:=dH t e;have:=nW t f;omega)
    have HR:=hi6 hT hv hC hO1 hK1 S1
    clear hT hv hV hH hhl hh8 dV dH hC hO1 hK hK1 S1 nW
    go_wp2_with fail
    refine cB.mono ?_
    rintro e W9 ⟨⟨u,rfl⟩,ts2,nx2,S9,e9,f9,k9⟩
    clear cB
    obtain⟨hT,hv,hC,hO1,hK1,S1⟩:=HR.out
    have hWr:=hK1.size
    have T9:=hT.kept k9 (fun t e f=>by
     have e2:B=t:=Option.some.inj e
     have:=H.out.1.lt t f;have:=H1.out.2.2.1;omega)
    have C9:=hC.kept k9 (fun k e f=>H.out.2.2.2.2.1 k (e.imp id (fun h=>hO1 ▸ h)) f)
    have K9:Z01 (fun k=>SkF s ts k\/k=c\/k=B) W1 W9:=hK1.step k9 (fun t ht e=>.inl e)
    have v9:ts2.map (·.v)=(Z0n most L (ts.map (·.v),List.replicate n (0,0)) (ys.take i)).1:=by rw[hv];exact e9
    have l9:ts2.length=len+i:=by
     have:=congrArg List.length e9
     rw[Llm,Z5d,hvl,Llm,hlen]at this
     exact this
    have F9:∀k,SkF s ts2 k->SkF s ts k\/W1.heap.size<=k:=fun k e=>by
     rcases f9 k e with h|h
     ·exact .inl h
     ·exact .inr (by omega)
    have H9:=hi8 T9 S9 C9 K9 v9 l9 F9 hO1
    clear hT hv hC hO1 hK1 S1 hWr T9 S9 C9 K9 v9 l9 F9 e9 f9 k9 HR hvl
    by_cases hrp:i=pc
    ·have hmi:i=m:=by omega
     subst hmi
     go_wp2_with fail
     go_loopw [67] (fun k wr=>k= .int .i64 0/\W9=wr) (fun _ _=>0)
     case atStart=>exact⟨rfl,rfl⟩
     case round=>
      obtain⟨rfl,rfl⟩:=hrel
      obtain⟨hT,hS,hC,hK,hv,l9,hF,hO1⟩:=H9.out
      have ht:ys.take i=ys:=List.take_of_length_le (by have:=H2.out.2.2.2.2.2.2.2.2;omega)
      rw[ht]at hT hv
      clear l9 ht H9
      have hTl:=Z20 most L ys (ts.map (·.v),List.replicate n (0,0))
      rw[show((ts.map (·.v),List.replicate n (0,0)):List Int×List (Int×Int)).2=List.replicate n (0,0)from rfl,Llr]at hTl
      have e1:(Z0n most L (ts.map (·.v),List.replicate n (0,0)) ys).2.length=L.length:=by rw[hTl,H.out.2.2.2.2.2.2]
      have rQ:=H2.out.2.2.2.1.kept hK (fun t e f=>by
       have h1:=H2.out.2.2.2.2.2.1 t e
       have h2:=H1.out.2.2
       rcases f with f|f|f
       ·have:=H.out.1.lt t f;omega
       ·have:=H.out.2.1.lt t (.inl f);omega
       ·omega)
      have rO:=(H.out.2.2.1.below H2.out.2.2.2.2.2.2.2.1).kept hK (fun t e f=>by
       have h1:=H.out.2.2.2.2.2.1 t e
       rcases f with f|f|f
       ·exact h1.1 f
       ·exact h1.2 f
       ·have:=H.out.2.2.1.lt e;have:=H1.out.2.2.1;omega)
      have hoi:=Z8s L
      have hol2:=Z4x L n
      rw[H.out.2.2.2.2.2.2]at hoi
      have cR:=Zcn W9 s ts2 most nx2 _ qv _ L _ (Z3f L n) hS rO rQ hT e1 (by rw[H.out.2.2.2.2.2.2];exact hoi) (H2.out.2.1.zero_oth most (ts.map (·.v))) (Z60 L n) (fun t e=>by
       have e2:B=t:=Option.some.inj e
       have h2:=H1.out.2.2
       refine⟨fun f=>?_,fun f=>?_,fun f=>?_⟩
       ·have:=H2.out.2.2.2.2.2.1 t f;omega
       ·have:=H.out.2.2.1.lt f;omega
       ·rcases hF t f with h|h
        ·have:=H.out.1.lt t h;omega
        ·omega) (fun t f=>by
       have h2:=H1.out.2.2
       rcases hF t f with h|h
       ·refine⟨fun e=>?_,fun e=>(H.out.2.2.2.2.2.1 t e).1 h⟩
        have:=H.out.1.lt t h
        have:=H2.out.2.2.2.2.2.1 t e
        omega
       ·refine⟨fun e=>?_,fun e=>?_⟩
        ·have:=H2.out.2.2.2.1.lt e;omega
        ·have:=H.out.2.2.1.lt e
         have:=H2.out.2.2.2.2.2.2.1.size
         omega) (by omega)
      have HZ:=hi5 hF hC hO1 hK hv
      clear hT hS hv hF hC hO1 hK hTl e1 rQ rO hoi hol2
      go_wp2_with fail
      refine cR.mono ?_
      rintro e w9 ⟨rfl,T9,ts9,nx9,S9,e9,f9,k9⟩
      have H9:=hi5 T9 S9 e9 f9 k9
      clear T9 S9 e9 f9 k9 cR
      go_wp2
      go_ret
      obtain⟨T9,S9,e9,f9,k9⟩:=H9.out
      obtain⟨hF,hC,hO1,hK,hv⟩:=HZ.out
      have hord:=Z31.of_parts H.out.2.2.2.1 (ys:=ys) (by rw[H.out.2.2.2.2.2.2];exact H2.out.2.1.perm) H2.out.2.2.1
      rw[H.out.2.2.2.2.2.2]at hord
      have hal:Z0n most L (ts.map (·.v),List.replicate n (0,0)) (ys++Z3f L n)=Z0n most L (ts2.map (·.v),(Z0n most L (ts.map (·.v),List.replicate n (0,0)) ys).2) (Z3f L n):=by
       rw[Z4y,hv]
      have hWs:=H2.out.2.2.2.2.2.2.2.1.size
      refine⟨_,ys++Z3f L n,rfl,hord,by rw[hal];exact T9,fun t e=>?_,ts9,nx9,S9,by rw[hal];exact e9,fun k e=>?_,⟨cv1,bs1,hC.kept k9 (fun k e f=>?_),hO1⟩,?_⟩
      ·have e2:B=t:=Option.some.inj e
       have:=H1.out.2.2.1;omega
      ·rcases hF k (f9 k e)with h|h
       ·exact .inl h
       ·exact .inr (by omega)
      ·have h1:CoF c cv k:=e.imp id (fun h=>hO1 ▸ h)
       have h2:=H.out.2.1.lt k h1
       rcases f with f|f
       ·rcases hF k f with h|h
        ·exact H.out.2.2.2.2.1 k h1 h
        ·omega
       ·have e2:B=k:=Option.some.inj f
        have:=H1.out.2.2.1;omega
      ·have K1:Z01 (fun k=>SkF s ts k\/k=c) w W9:=(Z0b (F:=fun k=>SkF s ts k\/k=c) H2.out.2.2.2.2.2.2.2.1).step hK (fun i hi e=>by
        rcases e with e|e|e
        ·exact .inl e
        ·exact .inr e
        ·have:=H1.out.2.2.1;omega)
       exact K1.step k9 (fun i hi e=>by
        rcases e with e|e
        ·rcases hF i e with h|h
         ·exact .inl h
         ·omega
        ·have e2:B=i:=Option.some.inj e
         have:=H1.out.2.2.1;omega)
    ·obtain⟨d,hd⟩:∃d,m-i=d:=⟨_,rfl⟩
     have hde:=Hd (show i+d=m by omega)
     go_wp2_with fail
     go_loopw [67] (fun k wr=>∃j:Nat,j<=d/\k= .int .i64 j/\P2 wr 43 (.slice (some ⟨B,0,none⟩) n n) (Z0n most L (ts.map (·.v),List.replicate n (0,0)) (ys.take (i+j))).2/\ts2.map (·.v)=(Z0n most L (ts.map (·.v),List.replicate n (0,0)) (ys.take (i+j))).1/\Z01 (fun k=>k=B) W9 wr) (fun k _=>d-(intOf k).toNat)
     case atStart=>exact⟨0,Nat.zero_le _,rfl,H9.out.1,H9.out.2.2.2.2.1,Z01.refl _ _⟩
     case round=>
      obtain⟨j,hjd,rfl,hT,hv,hK⟩:=hrel
      have yj:(0:Int)<=(j:Int):=by omega
      have hK1:Z01 (fun k=>SkF s ts k\/k=c\/k=B) W1 wr:=H9.out.2.2.2.1.trans (hK.mono (fun k _ e=>.inr (.inr e)))
      have nsk:∀k,SkF s ts2 k->¬k=B:=fun k e e2=>by
       rcases H9.out.2.2.2.2.2.2.1 k e with h|h
       ·have:=H.out.1.lt k h;have:=H1.out.2.2.1;omega
       ·omega
      have ncB:∀k,CoF c cv1 k->¬k=B:=fun k e e2=>by
       have:CoF c cv k:=e.imp id (fun h=>H9.out.2.2.2.2.2.2.2 ▸ h)
       have:=H.out.2.1.lt k this;have:=H1.out.2.2.1;omega
      by_cases hltj:j<d
      ·have hltj':(j:Int)<(d:Int):=by omega
       have hio:i+j<ys.length:=by have:=H2.out.2.2.2.2.2.2.2.2;have:=hde.out;omega
       have rP:=H2.out.1.kept hK1 (fun t e f=>by
        have h1:=(H2.out.2.2.2.2.1 t e).1
        have h2:=H1.out.2.2
        rcases f with f|f|f
        ·have:=H.out.1.lt t f;omega
        ·have:=H.out.2.1.lt t (.inl f);omega
        ·omega)
       have hai:=H2.out.2.1.mem _ (Z8q hio)
       have haz:=H2.out.2.1.zero most (ts.map (·.v)) hio
       have hsn:=Z8r hio
       have hTl:=Z20 most L (ys.take (i+j)) (ts.map (·.v),List.replicate n (0,0))
       rw[show((ts.map (·.v),List.replicate n (0,0)):List Int×List (Int×Int)).2=List.replicate n (0,0)from rfl,Llr]at hTl
       obtain⟨a,ha⟩:∃a:Nat,at0 ys (i+j)=(a:Int):=⟨(at0 ys (i+j)).toNat,by omega⟩
       rw[ha]at hai haz hsn
       rw[Int.toNat_natCast]at haz
       have haL:a<n:=by omega
       have zaL:(a:Int)<(n:Int):=hai.2.1
       have za0:(0:Int)<=(a:Int):=by omega
       obtain⟨⟨k,y⟩,hky⟩:∃p,L.getD a (0,0)=p:=⟨_,rfl⟩
       have hk1:k=1:=by
        have:=hai.2.2
        unfold kOf at this
        rw[Int.toNat_natCast,hky]at this
        exact this
       subst hk1
       have hvy:vOf L (a:Int)=y:=by unfold vOf;rw[Int.toNat_natCast,hky]
       obtain⟨st,hst⟩:∃st,Z0n most L (ts.map (·.v),List.replicate n (0,0)) (ys.take (i+j))=st:=⟨_,rfl⟩
       rw[hst]at hT hv haz hTl
       obtain⟨X1,T1⟩:=st
       replace hT:P2 wr 43 (.slice (some ⟨B,0,none⟩) n n) T1:=hT
       replace haz:T1.getD a (0,0)=(0,0):=haz
       replace hTl:T1.length=n:=hTl
       have hT0:(T1.getD a (0,0)).2=0:=by rw[haz]
       obtain⟨pg,pc2,pcur,hpv,hpg,-,-,hpc,-⟩:=rP.pos (by omega)
       rw[H2.out.2.2.2.2.2.2.2.2]at hpv
       cases hpv
       have ca:=hpc (i+j) hio
       rw[show ys.getD (i+j) 0=at0 ys (i+j)from rfl,ha]at ca
       have zpg:pg<wr.heap.size:=(Gl hpg)
       obtain⟨ct1,ct2,hfz⟩:=hT.at_ (j:=a) (by omega)
       have ft:=hfz (a*2)
       have zt:B<wr.heap.size:=Blt wr _ ct1
       have hv:ts2.map (·.v)=X1:=hv
       have wz:IntKind.i64.wrap ((j:Int)+1)=((j+1:Nat):Int):=by rw[show(j:Int)+1=((j+1:Nat):Int) by omega];exact I6n _ (by omega)
       have hfl:most<=(X1.length:Int):=by
        rw[<-hv,Llm,H9.out.2.2.2.2.2.1]
        have:=hde.out
        have:=hrf (by omega)
        omega
       obtain⟨p,hp⟩:∃p,i+j=p:=⟨_,rfl⟩
       rw[hp]at ca
       have HR:=hi9 hst hky hTl hv hsn hT hK hT0 hfl
       clear hT hv hK hK1 nsk ncB hpc hpg hfz hai haz hTl hst hky hsn ha hT0 rP hvy ct2 hfl
       go_wp2
       go_roundw
       case rel=>
        obtain⟨hst,hky,hTl,hv,hsn,hT,hK,hT0,hfl⟩:=HR.out
        have e1:Z0n most L (ts.map (·.v),List.replicate n (0,0)) (ys.take (i+(j+1)))=(X1,T1.set a (3,0)):=by
         rw[show i+(j+1)=i+j+1 by omega,hsn,Z27,hst]
         exact Z3g hky (Zgj hfl)
        have T8:=Z43 hT (j:=a) (by rw[hTl];exact haL) 3 hT0
        exact⟨j+1,by omega,by go_num,by rw[e1];exact T8,by rw[e1];exact hv,hK.setCell (p:=⟨B,a*2,none⟩) (fun _=>rfl) _⟩
       case measure=>simp[intOf];omega
      ·have hjm:i+j=m:=by have:=hde.out;omega
       rw[hjm]at hT hv
       have ht:ys.take m=ys:=List.take_of_length_le (by have:=H2.out.2.2.2.2.2.2.2.2;omega)
       rw[ht]at hT hv
       have hS:=H9.out.2.1.kept hK nsk
       have hC:=H9.out.2.2.1.kept hK ncB
       have hF:=H9.out.2.2.2.2.2.2.1
       have hO1:=H9.out.2.2.2.2.2.2.2
       clear hK nsk ncB ht
       have hK:=hK1
       clear hK1 H9
       have hTl:=Z20 most L ys (ts.map (·.v),List.replicate n (0,0))
       rw[show((ts.map (·.v),List.replicate n (0,0)):List Int×List (Int×Int)).2=List.replicate n (0,0)from rfl,Llr]at hTl
       have e1:(Z0n most L (ts.map (·.v),List.replicate n (0,0)) ys).2.length=L.length:=by rw[hTl,H.out.2.2.2.2.2.2]
       have rQ:=H2.out.2.2.2.1.kept hK (fun t e f=>by
        have h1:=H2.out.2.2.2.2.2.1 t e
        have h2:=H1.out.2.2
        rcases f with f|f|f
        ·have:=H.out.1.lt t f;omega
        ·have:=H.out.2.1.lt t (.inl f);omega
        ·omega)
       have rO:=(H.out.2.2.1.below H2.out.2.2.2.2.2.2.2.1).kept hK (fun t e f=>by
        have h1:=H.out.2.2.2.2.2.1 t e
        rcases f with f|f|f
        ·exact h1.1 f
        ·exact h1.2 f
        ·have:=H.out.2.2.1.lt e;have:=H1.out.2.2.1;omega)
       have hoi:=Z8s L
       have hol2:=Z4x L n
       rw[H.out.2.2.2.2.2.2]at hoi
       have cR:=Zcn wr s ts2 most nx2 _ qv _ L _ (Z3f L n) hS rO rQ hT e1 (by rw[H.out.2.2.2.2.2.2];exact hoi) (H2.out.2.1.zero_oth most (ts.map (·.v))) (Z60 L n) (fun t e=>by
        have e2:B=t:=Option.some.inj e
        have h2:=H1.out.2.2
        refine⟨fun f=>?_,fun f=>?_,fun f=>?_⟩
        ·have:=H2.out.2.2.2.2.2.1 t f;omega
        ·have:=H.out.2.2.1.lt f;omega
        ·rcases hF t f with h|h
         ·have:=H.out.1.lt t h;omega
         ·omega) (fun t f=>by
        have h2:=H1.out.2.2
        rcases hF t f with h|h
        ·refine⟨fun e=>?_,fun e=>(H.out.2.2.2.2.2.1 t e).1 h⟩
         have:=H.out.1.lt t h
         have:=H2.out.2.2.2.2.2.1 t e
         omega
        ·refine⟨fun e=>?_,fun e=>?_⟩
         ·have:=H2.out.2.2.2.1.lt e;omega
         ·have:=H.out.2.2.1.lt e
          have:=H2.out.2.2.2.2.2.2.1.size
          omega) (by omega)
       have HZ:=hi5 hF hC hO1 hK hv
       clear hT hS hv hF hC hO1 hK hTl e1 rQ rO hoi hol2
       go_wp2_with fail
       refine cR.mono ?_
       rintro e w9 ⟨rfl,T9,ts9,nx9,S9,e9,f9,k9⟩
       have H9:=hi5 T9 S9 e9 f9 k9
       clear T9 S9 e9 f9 k9 cR
       go_wp2
       go_ret
       obtain⟨T9,S9,e9,f9,k9⟩:=H9.out
       obtain⟨hF,hC,hO1,hK,hv⟩:=HZ.out
       have hord:=Z31.of_parts H.out.2.2.2.1 (ys:=ys) (by rw[H.out.2.2.2.2.2.2];exact H2.out.2.1.perm) H2.out.2.2.1
       rw[H.out.2.2.2.2.2.2]at hord
       have hal:Z0n most L (ts.map (·.v),List.replicate n (0,0)) (ys++Z3f L n)=Z0n most L (ts2.map (·.v),(Z0n most L (ts.map (·.v),List.replicate n (0,0)) ys).2) (Z3f L n):=by
        rw[Z4y,hv]
       have hWs:=H2.out.2.2.2.2.2.2.2.1.size
       refine⟨_,ys++Z3f L n,rfl,hord,by rw[hal];exact T9,fun t e=>?_,ts9,nx9,S9,by rw[hal];exact e9,fun k e=>?_,⟨cv1,bs1,hC.kept k9 (fun k e f=>?_),hO1⟩,?_⟩
       ·have e2:B=t:=Option.some.inj e
        have:=H1.out.2.2.1;omega
       ·rcases hF k (f9 k e)with h|h
        ·exact .inl h
        ·exact .inr (by omega)
       ·have h1:CoF c cv k:=e.imp id (fun h=>hO1 ▸ h)
        have h2:=H.out.2.1.lt k h1
        rcases f with f|f
        ·rcases hF k f with h|h
         ·exact H.out.2.2.2.2.1 k h1 h
         ·omega
        ·have e2:B=k:=Option.some.inj f
         have:=H1.out.2.2.1;omega
       ·have K1:Z01 (fun k=>SkF s ts k\/k=c) w wr:=(Z0b (F:=fun k=>SkF s ts k\/k=c) H2.out.2.2.2.2.2.2.2.1).step hK (fun i hi e=>by
         rcases e with e|e|e
         ·exact .inl e
         ·exact .inr e
         ·have:=H1.out.2.2.1;omega)
        exact K1.step k9 (fun i hi e=>by
         rcases e with e|e
         ·rcases hF i e with h|h
          ·exact .inl h
          ·omega
         ·have e2:B=i:=Option.some.inj e
          have:=H1.out.2.2.1;omega)
end
end Go.Proofs.YtihljjgmkaeohaaGreat
