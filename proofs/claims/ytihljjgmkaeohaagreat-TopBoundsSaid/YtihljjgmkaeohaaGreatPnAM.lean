/- part 13 -/
import Derived.ArgAppend
import Derived.Deep.LoopGhost
import Derived.LaidEqlPtr
import Derived.Test.YtihljjgmkaeohaaGreatPnAH
import Derived.Test.YtihljjgmkaeohaaGreatPnAK
set_option linter.all false
set_option maxHeartbeats 16000000
set_option maxRecDepth 100000
namespace Go.Proofs.YtihljjgmkaeohaaGreat
section
open Go.RowKit Go.ChangeShapes Go.WideShapes Go.ChangeAt Go.Deep
theorem Z4s (most:Int):∀(l:List (Int×Int)) (xs:List Int),(xs.length:Int)<=most->((Z09 (Z08 most) xs l).1.length:Int)<=most
 | [],xs,h=>h
 |o::l,xs,h=>by
  refine Z4s most l (Z08 most xs o).1 ?_
  unfold Z08
  split
  ·split
   ·exact h
   ·simp;omega
  ·split
   ·split
    ·exact h
    ·simp;omega
   ·exact h
theorem P2.set2n {w:World} {t:TypeId} {ta:Option Addr} {n cap j:Nat} {L:List (Int×Int)} (h:P2 w t (.slice ta n cap) L) (hj:j<L.length) (d:Int):∀g,(Value.slice ta n cap).ownBlock=some g->P2 (w.setCell ⟨g,j*2+1,none⟩ (.int .i32 d)) t (.slice ta n cap) (L.set j ((L.getD j (0,0)).1,d)):=by
 intro g e
 have:=h.set2 e j hj d
 rwa [show 2*j+1=j*2+1 by omega]at this
theorem tn1 {w1:World} {k:Nat} (h:w1.heap.size=k) (A B:Obj):((w1.alloc A).alloc B).heap[k]?=some A:=by rw[<-h];exact(Z05 w1 A B).1
theorem tn2 {w1:World} {k:Nat} (h:w1.heap.size=k) (A B:Obj):((w1.alloc A).alloc B).heap[k+1]?=some B:=by rw[<-h];exact(Z05 w1 A B).2
theorem Z2a {w:World} {b:Nat} {v:Value} {t:TypeId} (h:w.heap[b]?=some (.cells #[v] t)):w.cell? ⟨b,0,none⟩=some v:=by simp[World.cell?,h]
theorem Z5b {P:Program} (s t:TypeId) (i:TypeInfo) (hs:P.underlying s=some (.slice t)) (hi:P.info? t=some i) (hz:i.zero=some (.int .i32 0)) (hsz:i.size=1) (hby:i.bytes=4) (n:Nat) (hn:n<=1000000) (w:World):
 (Instr.makeSlice s (.int .i64 (n:Int)) (.int .i64 (n:Int))).run P w= .ok (.slice (some ⟨w.heap.size,0,none⟩) n n) (w.alloc (.cells (madeCells #[.int .i32 0] n) t)):=by
 have:=run_makeSlice (P:=P) w s t i (.int .i32 0) hs hi hz .i64 .i64 (n:Int) (n:Int) (by omega) (Int.le_refl _) (by rw[hsz,Int.toNat_natCast];omega) (by rw[hby];omega) (by omega)
 rw[hsz,Int.toNat_natCast,Nat.mul_one]at this
 exact this
theorem Zkx (n:Nat):(madeCells #[.int .i32 0] n).toList=(List.replicate n (0:Int)).map (Value.int .i32):=by
 refine List.ext_getElem (by rw[Array.length_toList,size_madeCells];simp) (fun i h1 h2=>?_)
 simp[madeCells,Nat.mod_one]
theorem Zcc (w:World) (n:Nat) (hn:n<=1000000):R32 (w.alloc (.cells (madeCells #[.int .i32 0] n) 21)) (.slice (some ⟨w.heap.size,0,none⟩) n n) (List.replicate n 0):=by
 refine⟨by simp,.inr ⟨w.heap.size,n,_,by simp,Nat.zero_le _,Han _ _,by simp,by unfold maxLen;omega,by rw[size_madeCells];omega,?_⟩⟩
 rw[Zkx,List.take_of_length_le (by simp)]
theorem Zj8 (w:World) (s:Nat) (sv:Value) (xs:List Int) (most:Int) (ov:Value) (L:List (Int×Int)) (h:Z2c w s sv xs most) (hp:P2 w 47 ov L) (ho:∀t,ov.ownBlock=some t->¬Z0r s sv t) (hk:∀p ∈ L,0<=p.1/\p.1<=255) (hl:xs.length+L.length<=1000000) (hm:(xs.length:Int)<=most):
 Calls Tryz.prog 181 #[.pointer (some ⟨s,0,none⟩),ov] w fun e w'=>∃u,e= .returned u/\P2 w' 43 u (Z09 (Z08 most) xs L).2/\(∀t,u.ownBlock=some t->w.heap.size<=t)/\∃v',Z2c w' s v' (Z09 (Z08 most) xs L).1 most/\Z39 w sv v'/\Z01 (Z0r s sv) w w':=by
 have hs:=h.lt
 have hov:∀t,sv.ownBlock=some t->t<w.heap.size:=fun t e=>h.row.lt e
 obtain⟨n,hn⟩:∃n,L.length=n:=⟨_,rfl⟩
 obtain⟨oo,oc,hovs⟩:=hp.shape
 rw[hn]at hovs
 subst hovs
 have hopl:∀t,(Value.slice oo n oc).ownBlock=some t->t<w.heap.size:=fun t e=>hp.lt e
 have H:=hi7 h hp ho hk hl hn hm
 have hn9:(n:Int)<=1000000:=by omega
 obtain⟨i0,hi,hz0,hz1,hz2⟩:=info_parts Tryz.info32
 have hmk:=Z5b 31 21 i0 Tryz.underlying31 hi hz0 hz1 hz2 n (by omega)
 have hmf:∀(fn:Fn) (first cap:Array Value) (w:World),(Instr.makeFunc fn first cap).run Tryz.prog w= .ok (.func fn first cap) w:=fun _ _ _ _=>rfl
 clear h hp ho hk hl hn hm hi hz0 hz1 hz2
 go_enter_defers Tryz.func181,Tryz.ntmps181
 go_upto_region 1 with fail
 generalize hW1:World.alloc _ _=w1
 have hsb:w1.cell? ⟨w.heap.size,0,none⟩=some (.pointer (some ⟨s,0,none⟩)):=by subst hW1;go_simp
 have hob:w1.cell? ⟨w.heap.size+1,0,none⟩=some (.slice oo n oc):=by subst hW1;go_simp
 have hz1:w1.heap.size=w.heap.size+2:=by rw[<-hW1];simp
 have B1:Below w.heap.size w w1:=by rw[<-hW1];go_grown
 have HS:=Hd (fun(u:World) (hu:Below w1.heap.size w1 u)=>(H.out.1.below B1).below hu)
 have H1:=hi3 B1 hsb hob
 clear hW1 B1
 go_cut [5]from 10 to 15 (fun a5 wx=>∃m mb,a5= .pointer (some ⟨mb,0,none⟩)/\m≠mb/\w1.heap.size<=m/\w1.heap.size<=mb/\wx.heap[m]?=some (.cells #[.slice none 0 0,.int .i64 (xs.length:Int),.int .i64 most] 246 (0,0))/\wx.cell? ⟨mb,0,none⟩=some (.pointer (some ⟨m,0,none⟩))/\Below w1.heap.size w1 wx)
 case first=>
  go_region_held3 (fun wz=>wz.cell? ⟨w.heap.size,0,none⟩=some (.pointer (some ⟨s,0,none⟩))) (first|(exact hsb)|go_keep) (first|(go_at_call 177;refine Go.Calls.mono (Z86 _ s sv xs most (HS.out _ (by go_grown))) ?_;rintro e w' ⟨rfl,rfl⟩)|(go_at_call 184;refine Go.Calls.mono (Zfi _ s sv xs most (HS.out _ (by go_grown))) ?_;rintro e w' ⟨rfl,rfl⟩))
  all_goals
   go_wp2_with fail
   go_meet
   first
    |exact⟨w.heap.size+2,w.heap.size+3,rfl,by omega,by omega,by omega,tn1 hz1 _ _,Z2a (tn2 hz1 _ _),by go_grown⟩
    |exact⟨w.heap.size+3,w.heap.size+2,rfl,by omega,by omega,by omega,tn2 hz1 _ _,Z2a (tn1 hz1 _ _),by go_grown⟩
 case rest=>
  obtain⟨m,mb,rfl,hmne,hm1,hmb1,hmc,hmbc,Bx⟩:=hcut
  have cB:=(Bx.cell (p:=⟨w.heap.size,0,none⟩) (by simp;omega)).trans hsb
  have cB1:=(Bx.cell (p:=⟨w.heap.size+1,0,none⟩) (by simp;omega)).trans hob
  have hml:m<wc.heap.size:=(Gl hmc)
  have hmbl:mb<wc.heap.size:=Blt wc _ hmbc
  have hwc:w1.heap.size<=wc.heap.size:=Bx.size
  have HX:=hi2 hmc Bx
  have zB0:w.heap.size<wc.heap.size:=by omega
  have zB1:w.heap.size+1<wc.heap.size:=by omega
  clear hmc Bx hsb hob HS
  go_wp2_with fail
  generalize hG:wc.heap.size=G
  generalize hW3:World.alloc _ _=w3
  have R3:R32 w3 (.slice (some ⟨G,0,none⟩) n n) (List.replicate n 0)/\w3.cell? ⟨G+1,0,none⟩=some (.slice (some ⟨G,0,none⟩) n n)/\Below wc.heap.size wc w3:=by
   subst hW3 hG
   exact⟨(Zcc wc n (by omega)).alloc _,Z2a (tn2 rfl _ _),by go_grown⟩
  obtain⟨R3,c3,B3⟩:=R3
  have d0:=(B3.cell (p:=⟨w.heap.size,0,none⟩) (by simp;omega)).trans cB
  have d1:=(B3.cell (p:=⟨w.heap.size+1,0,none⟩) (by simp;omega)).trans cB1
  have d2:=(B3.cell (p:=⟨mb,0,none⟩) hmbl).trans hmbc
  have d3:=(B3.block m hml).trans HX.out.1
  have BW:Below w.heap.size w w3:=H1.out.1.trans ((HX.out.2.trans (B3.mono HX.out.2.size)).mono H1.out.1.size)
  have A3:AP w3 s m w.heap.size (w.heap.size+1) (G+1) sv (.slice none 0 0) (.slice (some ⟨G,0,none⟩) n n) (.slice oo n oc) (.slice none 0 0) xs [] (List.replicate n 0) L [] most (xs.length:Int):=by
   have zG:w.heap.size+2<=G:=by omega
   have zm:w.heap.size+2<=m:=by omega
   have zm2:m<G:=by omega
   have hso:∀t,Z0r s sv t->t<w.heap.size:=fun t e=>by
    rcases e with e|e
    ·omega
    ·exact hov t e
   have hmF:∀t,Z0r m (.slice none 0 0) t->t=m:=fun t e=>by
    rcases e with e|e
    ·exact e
    ·cases e
   have hGF:∀t,Z14 (.slice (some ⟨G,0,none⟩) n n) t->t=G:=fun t e=>(Option.some.inj e).symm
   have hBF:∀t,BxF w.heap.size (w.heap.size+1) (G+1) t->t=w.heap.size\/t=w.heap.size+1\/t=G+1:=fun t e=>e
   exact {
    S:=H.out.1.below BW
    M:=⟨d3,Z1j.nil _,fun t e=>by cases e⟩
    V:=R3
    O:=H.out.2.1.below BW
    T:=P2.nil _ _
    B:=⟨d0,d1,c3⟩
    dSM:=fun t e f=>by have:=hso t e;have:=hmF t f;omega
    dSV:=fun t e f=>by have:=hso t e;have:=hGF t f;omega
    dSO:=fun t e f=>H.out.2.2.1 t f e
    dST:=fun t e f=>by cases f
    dSB:=fun t e f=>by have:=hso t e;have:=hBF t f;omega
    dMV:=fun t e f=>by have:=hmF t e;have:=hGF t f;omega
    dMO:=fun t e f=>by have:=hmF t e;have:=hopl t f;omega
    dMT:=fun t e f=>by cases f
    dMB:=fun t e f=>by have:=hmF t e;have:=hBF t f;omega
    dVO:=fun t e f=>by have:=hGF t e;have:=hopl t f;omega
    dVT:=fun t e f=>by cases f
    dVB:=fun t e f=>by have:=hGF t e;have:=hBF t f;omega
    dOT:=fun t e f=>by cases f
    dOB:=fun t e f=>by have:=hopl t e;have:=hBF t f;omega
    dTB:=fun t e f=>by cases e}
  have zmb:w.heap.size<=mb/\mb≠m/\mb≠G/\mb<w3.heap.size/\w.heap.size<=m/\w.heap.size<=G:=⟨by omega,fun e=>hmne e.symm,by omega,by have:=B3.size;omega,by omega,by omega⟩
  have HA:=hi6 A3 BW d2 zmb hwc hz1
  clear A3 R3 B3 d3 cB cB1 BW zmb hml hmbl hwc hmbc HX hm1 hmb1 hmne hz1 zB0 zB1 hW3
  refine(Zoz w3 s m w.heap.size (w.heap.size+1) (G+1) sv _ _ _ xs _ L most HA.out.1 (by rw[H.out.2.2.2.2.2.1]) H.out.2.2.2.1 H.out.2.2.2.2.1).mono ?_
  rintro e w5 ⟨tv,sv1,wv1,xs1,W,Vs,RR,rfl,A5,M5,oS,oM,k5,hT5⟩
  obtain⟨ta,tc,htv⟩:=A5.T.shape
  have hRl:=M5.rl
  have hVl:=M5.vl
  have hnL:=H.out.2.2.2.2.2.1
  rw[hRl,hnL]at htv
  subst htv
  rw[hnL]at hRl hVl
  have cv5:=A5.B.cv
  have H5:=hi8 A5 M5 oS oM k5 hT5 hRl hVl
  clear A5 M5 oS oM k5 hT5 hRl hVl hnL
  go_wp2_with fail
  go_loopw [27] (fun k wr=>∃(j:Nat) (RJ:List (Int×Int)),j<=n/\k= .int .i64 j/\P2 wr 43 (.slice ta n tc) RJ/\RJ.length=n/\(∀p,RJ.getD p (0,0)=((RR.getD p (0,0)).1,if p<j then Vs.getD p 0 else(RR.getD p (0,0)).2))/\Z01 (Z14 (.slice ta n tc)) w5 wr) (fun k _=>n-(intOf k).toNat)
  case atStart=>exact⟨0,RR,Nat.zero_le _,rfl,H5.out.1.T,H5.out.2.2.2.2.2.2.1,fun p=>by simp,Z01.refl _ _⟩
  case round=>
   obtain⟨j,RJ,hjn,rfl,hT,hRJ,hE,hK⟩:=hrel
   have yj:(0:Int)<=(j:Int):=by omega
   by_cases hlt:j<n
   ·have hlt':(j:Int)<(n:Int):=by omega
    have hVr:=H5.out.1.V.kept hK (fun t e f=>H5.out.1.dVT t e f)
    have cx:=hVr.cellAt (j:=j) (by have:=H5.out.2.2.2.2.2.2.2;omega)
    obtain⟨x,hx⟩:∃x,Vs.getD j 0=x:=⟨_,rfl⟩
    rw[hx]at cx
    have hTn:=hT.set2n (j:=j) (by omega) x
    obtain⟨tg,tc2,hs2,-,-,hc2,hf2⟩:=hT.pos (by omega)
    rw[hRJ]at hs2
    cases hs2
    obtain⟨-,e2⟩:=hc2 j (by omega)
    rw[show 2*j+1=j*2+1 by omega]at e2
    have f2:=hf2 (j*2+1)
    obtain⟨y,hy⟩:∃y,(RJ.getD j (0,0)).2=y:=⟨_,rfl⟩
    rw[hy]at e2
    have hTn:=hTn tg rfl
    have HJ:=hi5 hTn hRJ hE hK hx
    clear hT hTn hc2 hf2 hRJ hE hK hx hy hVr
    go_wp2_with fail
    go_roundw
    case rel=>
     refine⟨j+1,RJ.set j ((RJ.getD j (0,0)).1,x),by omega,by go_num,HJ.out.1,by rw[Lls];exact HJ.out.2.1,fun p=>?_,HJ.out.2.2.2.1.setCell (p:=⟨tg,j*2+1,none⟩) (fun _=>rfl) _⟩
     rw[Z0i _ _ _ _ _ (by rw[HJ.out.2.1];exact hlt)]
     by_cases hp:p=j
     ·subst hp
      rw[if_pos rfl,HJ.out.2.2.1 p,if_pos (Nat.lt_succ_self p),HJ.out.2.2.2.2]
     ·rw[if_neg hp,HJ.out.2.2.1 p]
      congr 1
      by_cases hp2:p<j
      ·rw[if_pos hp2,if_pos (by omega)]
      ·rw[if_neg hp2,if_neg (by omega)]
    case measure=>simp[intOf];omega
   ·obtain rfl:j=n:=by omega
    have hRR:RJ=(Z09 (Z08 most) xs L).2:=by
     refine List.ext_getElem (by rw[hRJ,Z1i,H.out.2.2.2.2.2.1]) (fun p h1 h2=>?_)
     have e1:RJ[p]=RJ.getD p (0,0):=by rw[Lgd,Lge h1];rfl
     have e2:(Z09 (Z08 most) xs L).2[p]=(Z09 (Z08 most) xs L).2.getD p (0,0):=by rw[Lgd,Lge h2];rfl
     have e3:=H5.out.2.1.eq p (by rw[H.out.2.2.2.2.2.1];omega)
     rw[List.take_length]at e3
     rw[e1,e2,e3,hE p,if_pos (by omega)]
    have hst:=H5.out.2.1.st
    rw[List.take_length]at hst
    have hwl:=H5.out.2.1.wl
    have hmost:=Z4s most L xs H.out.2.2.2.2.2.2
    have hlen:=Z41 most L xs
    rw[hst,Lla,Llm]at hmost hlen
    have AZ:=H5.out.1.turnT hT hK
    have hS1:¬Z0r s sv1 mb:=fun e=>by
     have hz:=HA.out.2.2.2.1
     have hz3:=HA.out.2.1.size
     rcases e with e|e
     ·omega
     ·rcases H5.out.2.2.1 with f|f
      ·have:=hov mb (f ▸ e);omega
      ·have:=f mb e;omega
    have hK5:=H5.out.2.2.2.2.1.cell (p:=⟨mb,0,none⟩) HA.out.2.2.2.1.2.2.2.1 (fun e=>by
     have hz:=HA.out.2.2.2.1
     rcases e with(e|e)|(e|e)|e
     ·have h1:mb=s:=e;omega
     ·have:=hov mb e;omega
     ·exact hz.2.1 e
     ·cases e
     ·have h1:G=mb:=Option.some.inj e;omega)
    have hmbw:mb<w5.heap.size:=by have:=H5.out.2.2.2.2.1.size;have:=HA.out.2.2.2.1;omega
    have hK6:=hK.cell (p:=⟨mb,0,none⟩) hmbw (fun e=>by have:=H5.out.2.2.2.2.2.1 mb e;have:=HA.out.2.2.2.1;omega)
    have hmbZ:=(hK6.trans hK5).trans HA.out.2.2.1
    have HZ:=hi9 AZ hRR hst hwl hS1 hmbZ hK hmost hlen
    clear AZ hRR hst hwl hS1 hmbZ hK5 hK6 hmbw hK hmost hlen hT hE hRJ
    go_wp2
    refine leaves_cons (f:=185) (args:= #[.pointer (some ⟨mb,0,none⟩),.pointer (some ⟨w.heap.size,0,none⟩),.pointer (some ⟨w.heap.size+1,0,none⟩)]) (by simp) (by simp[go_sem]) ?_
    refine(Zml wr mb s m w.heap.size (w.heap.size+1) (G+1) sv1 wv1 _ _ _ xs1 W Vs L RJ most _ HZ.out.1 HZ.out.2.2.2.2.2.1 HZ.out.2.2.2.2.1 (by have:=HZ.out.2.2.2.2.2.2.2.1;omega) HZ.out.2.2.2.1 (by have:=HZ.out.2.2.2.2.2.2.2.2;have:=H.out.2.2.2.2.1;omega) (by have:=H.out.2.2.2.2.1;omega) _).mono ?_
    rintro e u' w'' ⟨rfl,rfl,sv2,h8,o8,k8⟩
    have hwr:w.heap.size<=wr.heap.size:=Nat.le_trans HA.out.2.1.size (Nat.le_trans H5.out.2.2.2.2.1.size HZ.out.2.2.2.2.2.2.1.size)
    have oS1:Z39 w sv sv1:=Z39.trans (.inl rfl) H5.out.2.2.1 HA.out.2.1.size
    refine⟨_,results_tmp rfl _ _ _,_,rfl,?_,?_,sv2,?_,?_,?_⟩
    ·rw[<-HZ.out.2.1]
     exact HZ.out.1.T.kept k8 (fun t e f=>HZ.out.1.dST t f e)
    ·exact fun t e=>Nat.le_trans HA.out.2.1.size (H5.out.2.2.2.2.2.1 t e)
    ·rw[HZ.out.2.2.1];exact h8
    ·exact oS1.trans o8 hwr
    ·have K1:Z01 (Z0r s sv) w w5:=(Z0b (F:=Z0r s sv) HA.out.2.1).step H5.out.2.2.2.2.1 (fun i hi e=>by
      have hz:=HA.out.2.2.2.1
      rcases e with e|(e|e)|e
      ·exact e
      ·have h1:i=m:=e
       omega
      ·cases e
      ·have h1:G=i:=Option.some.inj e
       omega)
     have K2:Z01 (Z0r s sv) w wr:=K1.step HZ.out.2.2.2.2.2.2.1 (fun i hi e=>by have:=H5.out.2.2.2.2.2.1 i e;have:=HA.out.2.1.size;omega)
     exact K2.step k8 (fun i hi e=>by
      rcases e with e|e
      ·exact .inl e
      ·rcases oS1 with f|f
       ·exact .inr (f ▸ e)
       ·have:=f i e;omega)
structure OG (ob lb g:Nat) (ov:Value) (L:List (Int×Int)) (u:World):Prop where
 co:u.cell? ⟨ob,0,none⟩=some ov
 cl:u.cell? ⟨lb,0,none⟩=some (.func (.func 129) #[] #[])
 row:P2 u 47 ov L
 no:ob≠g
 nl:lb≠g
 nv:ov.ownBlock≠some g
theorem OG.keep {ob lb g:Nat} {ov:Value} {L:List (Int×Int)} {u u':World} (h:OG ob lb g ov L u) (hk:Z01 (fun k=>k=g) u u'):OG ob lb g ov L u':=
 ⟨(hk.cell (p:=⟨ob,0,none⟩) (Blt u _ h.co) h.no).trans h.co,(hk.cell (p:=⟨lb,0,none⟩) (Blt u _ h.cl) h.nl).trans h.cl,h.row.kept hk (fun t e f=>h.nv (f ▸ e)),h.no,h.nl,h.nv⟩
theorem Zp0 (w:World) (ob lb g:Nat) (ov:Value) (L:List (Int×Int)) (a b:Nat) (h:OG ob lb g ov L w) (ha:a<L.length) (hb:b<L.length) (h9:L.length<=1000000):
 Calls Tryz.prog 131 #[.int .i64 (a:Int),.int .i64 (b:Int),.pointer (some ⟨ob,0,none⟩),.pointer (some ⟨lb,0,none⟩)] w fun e w'=>e= .returned (.int .i64 (Zob L a b))/\Below w.heap.size w w':=by
 have c1:=h.co
 have c2:=h.cl
 obtain⟨og,oc,hov,hoc,hogl,hc,-⟩:=h.row.pos (by omega)
 rw[hov]at c1
 obtain⟨xa0,xa1⟩:=hc a ha
 obtain⟨xb0,xb1⟩:=hc b hb
 rw[show 2*a=a*2 by omega]at xa0 xa1
 rw[show 2*b=b*2 by omega]at xb0 xb1
 have eC:Zob L a b=if Z47 (L.getD a (0,0)).1+Z47 (L.getD b (0,0)).1=0 then Zbi (L.getD a (0,0)).2 (L.getD b (0,0)).2 else Z47 (L.getD a (0,0)).1-Z47 (L.getD b (0,0)).1:=rfl
 obtain⟨⟨ka,va⟩,hpa⟩:∃p,L.getD a (0,0)=p:=⟨_,rfl⟩
 obtain⟨⟨kb,vb⟩,hpb⟩:∃p,L.getD b (0,0)=p:=⟨_,rfl⟩
 rw[hpa]at xa0 xa1 eC
 rw[hpb]at xb0 xb1 eC
 rw[eC]
 obtain⟨la,hla⟩:∃la,Z47 ka=la:=⟨_,rfl⟩
 obtain⟨lb2,hlb⟩:∃la,Z47 kb=la:=⟨_,rfl⟩
 have hla2:la=0\/la=1:=by rw[<-hla];unfold Z47;split<;>simp
 have hlb2:lb2=0\/lb2=1:=by rw[<-hlb];unfold Z47;split<;>simp
 rw[hla,hlb]
 have HL:=hi2 hla hlb
 clear hla hlb
 have hal:(a:Int)<(L.length:Int):=by omega
 have hbl:(b:Int)<(L.length:Int):=by omega
 have ha0:(0:Int)<=(a:Int):=by omega
 have hb0:(0:Int)<=(b:Int):=by omega
 have zo:=Blt w _ c1
 have zl:=Blt w _ c2
 clear h hc hpa hpb eC hov
 go_enter Tryz.func131,Tryz.ntmps131
 go_upto_region 1 with fail
 go_cut [7,8]from 9 to 16 (fun a7 a8 wx=>∃p q,a7= .pointer (some ⟨p,0,none⟩)/\a8= .pointer (some ⟨q,0,none⟩)/\wx.heap[p]?=some (.cells #[.int .u8 ka,.int .i32 va] 47 (0,0))/\wx.heap[q]?=some (.cells #[.int .u8 kb,.int .i32 vb] 47 (0,0))/\Below w.heap.size w wx)
 case first=>
  go_region
  all_goals
   go_wp2_with fail
   go_meet
   first
    |exact⟨w.heap.size,w.heap.size+1,rfl,rfl,tn1 rfl _ _,tn2 rfl _ _,by go_grown⟩
    |exact⟨w.heap.size+1,w.heap.size,rfl,rfl,tn2 rfl _ _,tn1 rfl _ _,by go_grown⟩
 case rest=>
  obtain⟨p,q,rfl,rfl,hp,hq,hB⟩:=hcut
  have d2:=(hB.cell (p:=⟨lb,0,none⟩) zl).trans c2
  have zl2:lb<wc.heap.size:=Nlt zl hB.size
  obtain⟨⟨p0,p1⟩,zp⟩:=Z0g hp
  obtain⟨⟨q0,q1⟩,zq⟩:=Z0g hq
  have HB:=Hd hB
  clear hp hq hB c1 c2 xa0 xa1 xb0 xb1 zo zl
  have x0:=Bel.cell zl2 d2
  have x1:=Bel.cell zp p0
  have x2:=Bel.cell zp p1
  have x3:=Bel.cell zq q0
  have x4:=Bel.cell zq q1
  have cL:∀(k v:Int) (u:World),Below wc.heap.size wc u->Calls Tryz.prog 129 #[.agg #[.int .u8 k,.int .i32 v]] u fun e u'=>e= .returned (.int .i64 (Z47 k))/\Below wc.heap.size wc u':=fun k v u hu=>(Zox u k v).mono fun e u' ⟨h1,h2⟩=>⟨h1,hu.trans (h2.mono hu.size)⟩
  have cA:=cL ka va
  have cB:=cL kb vb
  rw[HL.out.1]at cA
  rw[HL.out.2]at cB
  have cA:=Hd cA
  have cB:=Hd cB
  clear cL
  rcases hla2 with rfl|rfl<;>rcases hlb2 with rfl|rfl
  all_goals
   go_wp2_with fail
   refine Z0p (by kernel_rfl) (by kernel_rfl) wc (Brf _ _).drew ?_
   repeat (go_big_quiet_step (first|(with_reducible refine(cA.out _ (Bel.h _)).mono ?_;rintro e w9 ⟨rfl,hb⟩;exact⟨rfl,⟨w9,hb⟩,rfl⟩)|(with_reducible refine(cB.out _ (Bel.h _)).mono ?_;rintro e w9 ⟨rfl,hb⟩;exact⟨rfl,⟨w9,hb⟩,rfl⟩)))
   refine wpQuiet_nil ?_
   rintro _ ⟨⟨u,hu⟩,rfl⟩
   have p1u:=(hu.cell (p:=⟨p,1,none⟩) zp).trans p1
   have q1u:=(hu.cell (p:=⟨q,1,none⟩) zq).trans q1
   have p0u:=(hu.cell (p:=⟨p,0,none⟩) zp).trans p0
   have q0u:=(hu.cell (p:=⟨q,0,none⟩) zq).trans q0
   have d2u:=(hu.cell (p:=⟨lb,0,none⟩) zl2).trans d2
   have zpu:=Nlt zp hu.size
   have HU:=Hd (HB.out.trans (hu.mono HB.out.size))
   first
    |(go_wp2_with (go_at_call 132;refine Go.Calls.mono (Zfr _ _ _) ?_;rintro e w' ⟨rfl,rfl⟩)
      go_ret
      exact⟨rfl,HU.out⟩)
    |(go_wp2_with fail
      refine Z0p (by kernel_rfl) (by kernel_rfl) wc hu.drew ?_
      repeat (go_big_quiet_step (first|(with_reducible refine(cA.out _ (Bel.h _)).mono ?_;rintro e w9 ⟨rfl,hb⟩;exact⟨rfl,⟨w9,hb⟩,rfl⟩)|(with_reducible refine(cB.out _ (Bel.h _)).mono ?_;rintro e w9 ⟨rfl,hb⟩;exact⟨rfl,⟨w9,hb⟩,rfl⟩)))
      refine wpQuiet_nil ?_
      rintro _ ⟨⟨u2,hu2⟩,rfl⟩
      have HU2:=Hd (HB.out.trans (hu2.mono HB.out.size))
      go_wp2
      go_ret
      exact⟨rfl,HU2.out⟩)
theorem Zmm (ob lb g:Nat) (ov:Value) (L:List (Int×Int)) (h9:L.length<=1000000) (h32:Z8f L):Z8c 131 ob lb g (OG ob lb g ov L) (Zob L) (Zj3 L) (fun x=>0<=x/\x<(L.length:Int)) where
 call:=fun u x y hG hx hy=>by
  obtain⟨a,rfl⟩:∃a:Nat,x=(a:Int):=⟨x.toNat,by omega⟩
  obtain⟨b,rfl⟩:∃b:Nat,y=(b:Int):=⟨y.toNat,by omega⟩
  exact Zp0 u ob lb g ov L a b hG (by omega) (by omega) h9
 iff:=fun x y _ _=>Zj4 h32 x y
 ent:=fun args u=>by simp[go_sem]
 keep:=fun u u' h hk=>h.keep hk
structure BG (kb ob g:Nat) (ov:Value) (L:List (Int×Int)) (u:World):Prop where
 ck:u.cell? ⟨kb,0,none⟩=some (.func (.func 239) #[] #[])
 co:u.cell? ⟨ob,0,none⟩=some ov
 row:P2 u 47 ov L
 nk:kb≠g
 no:ob≠g
 nv:ov.ownBlock≠some g
theorem BG.keep {kb ob g:Nat} {ov:Value} {L:List (Int×Int)} {u u':World} (h:BG kb ob g ov L u) (hk:Z01 (fun k=>k=g) u u'):BG kb ob g ov L u':=
 ⟨(hk.cell (p:=⟨kb,0,none⟩) (Blt u _ h.ck) h.nk).trans h.ck,(hk.cell (p:=⟨ob,0,none⟩) (Blt u _ h.co) h.no).trans h.co,h.row.kept hk (fun t e f=>h.nv (f ▸ e)),h.nk,h.no,h.nv⟩
theorem Zp1 (w:World) (kb ob g:Nat) (ov:Value) (L:List (Int×Int)) (a b:Nat) (h:BG kb ob g ov L w) (ha:a<L.length) (hb:b<L.length) (h9:L.length<=1000000):
 Calls Tryz.prog 247 #[.int .i64 (a:Int),.int .i64 (b:Int),.pointer (some ⟨kb,0,none⟩),.pointer (some ⟨ob,0,none⟩)] w fun e w'=>e= .returned (.int .i64 (Zbi (vOf L a) (vOf L b)))/\Below w.heap.size w w':=by
 have c1:=h.co
 have c2:=h.ck
 obtain⟨og,oc,hov,hoc,hogl,hc,-⟩:=h.row.pos (by omega)
 rw[hov]at c1
 obtain⟨xa0,xa1⟩:=hc a ha
 obtain⟨xb0,xb1⟩:=hc b hb
 rw[show 2*a=a*2 by omega]at xa0 xa1
 rw[show 2*b=b*2 by omega]at xb0 xb1
 have eC:Zbi (vOf L a) (vOf L b)=Zbi (L.getD a (0,0)).2 (L.getD b (0,0)).2:=rfl
 obtain⟨⟨ka,va⟩,hpa⟩:∃p,L.getD a (0,0)=p:=⟨_,rfl⟩
 obtain⟨⟨kb2,vb⟩,hpb⟩:∃p,L.getD b (0,0)=p:=⟨_,rfl⟩
 rw[hpa]at xa0 xa1 eC
 rw[hpb]at xb0 xb1 eC
 rw[eC]
 have hal:(a:Int)<(L.length:Int):=by omega
 have hbl:(b:Int)<(L.length:Int):=by omega
 have ha0:(0:Int)<=(a:Int):=by omega
 have hb0:(0:Int)<=(b:Int):=by omega
 have zo:=Blt w _ c1
 have zk:=Blt w _ c2
 clear h hc hpa hpb eC hov
 have x0:=Bel.cell zo c1
 have x1:=Bel.cell zk c2
 have x2:=Bel.cell hogl xa0
 have x3:=Bel.cell hogl xa1
 have x4:=Bel.cell hogl xb0
 have x5:=Bel.cell hogl xb1
 have cL:∀(k v:Int) (u:World),Below w.heap.size w u->Calls Tryz.prog 239 #[.agg #[.int .u8 k,.int .i32 v]] u fun e u'=>e= .returned (.int .i32 v)/\Below w.heap.size w u':=fun k v u hu=>(Zoy u k v).mono fun e u' ⟨h1,h2⟩=>⟨h1,hu.trans (h2.mono hu.size)⟩
 have cA:=Hd (cL ka va)
 have cB:=Hd (cL kb2 vb)
 have cC:∀u,Below w.heap.size w u->Calls Tryz.prog 132 #[.int .i32 va,.int .i32 vb] u fun e u'=>e= .returned (.int .i64 (Zbi va vb))/\Below w.heap.size w u':=fun u hu=>(Zfr u va vb).mono fun e u' ⟨h1,h2⟩=>⟨h1,by rw[<-h2];exact hu⟩
 have cC:=Hd cC
 clear cL c1 c2 xa0 xa1 xb0 xb1
 go_enter Tryz.func247,Tryz.ntmps247
 go_wp2_with fail
 refine Z0p (by kernel_rfl) (by kernel_rfl) w (Brf _ _).drew ?_
 repeat (go_big_quiet_step (first|(with_reducible refine(cA.out _ (Bel.h _)).mono ?_;rintro e w9 ⟨rfl,hb⟩;exact⟨rfl,⟨w9,hb⟩,rfl⟩)|(with_reducible refine(cB.out _ (Bel.h _)).mono ?_;rintro e w9 ⟨rfl,hb⟩;exact⟨rfl,⟨w9,hb⟩,rfl⟩)|(with_reducible refine(cC.out _ (Bel.h _)).mono ?_;rintro e w9 ⟨rfl,hb⟩;exact⟨rfl,⟨w9,hb⟩,rfl⟩)))
 refine wpQuiet_nil ?_
 rintro _ ⟨⟨u,hu⟩,rfl⟩
 have HU:=Hd hu
 clear hu
 go_wp2
 go_ret
 exact⟨rfl,HU.out⟩
theorem Zmn (kb ob g:Nat) (ov:Value) (L:List (Int×Int)) (h9:L.length<=1000000):Z8c 247 kb ob g (BG kb ob g ov L) (fun x y=>Zbi (vOf L x) (vOf L y)) (vOf L) (fun x=>0<=x/\x<(L.length:Int)) where
 call:=fun u x y hG hx hy=>by
  obtain⟨a,rfl⟩:∃a:Nat,x=(a:Int):=⟨x.toNat,by omega⟩
  obtain⟨b,rfl⟩:∃b:Nat,y=(b:Int):=⟨y.toNat,by omega⟩
  exact Zp1 u kb ob g ov L a b hG (by omega) (by omega) h9
 iff:=fun x y _ _=>by unfold Zbi;split<;>(try split)<;>omega
 ent:=fun args u=>by simp[go_sem]
 keep:=fun u u' h hk=>h.keep hk
def Z3j (n:Nat):List Int:=(List.range n).map (fun(k:Nat)=>(k:Int))
theorem Z4t (n:Nat):(Z3j n).length=n:=by simp[Z3j]
theorem Z4u {n j:Nat} (h:j<n):at0 (Z3j n) j=(j:Int):=by
 unfold at0 Z3j
 rw[Lgd,List.getElem?_map,List.getElem?_range h];rfl
theorem Zmo {n:Nat} {zs:List Int} (hl:zs.length=n) (h:∀j,j<n->at0 zs j=(j:Int)):zs=Z3j n:=by
 refine List.ext_getElem (by rw[hl,Z4t]) (fun i h1 h2=>?_)
 have e1:=h i (by omega)
 have e2:=Z4u (n:=n) (j:=i) (by omega)
 unfold at0 at e1 e2
 rw[Lgd,Lge h1]at e1
 rw[Lgd,Lge h2]at e2
 exact e1.trans e2.symm
theorem Z4v {n:Nat} {x:Int}:x ∈ Z3j n↔0<=x/\x<(n:Int):=by
 simp only[Z3j,List.mem_map,List.mem_range]
 constructor
 ·rintro⟨k,hk,rfl⟩;omega
 ·intro h;exact⟨x.toNat,by omega,by omega⟩
def Z31 (object:Int) (L:List (Int×Int)) (ys:List Int):Prop:=(object≠3->ys=Z3j L.length)/\(object=3->ys.Perm (Z3j L.length)/\ys.Pairwise (Rk (Zj3 L)))
theorem Z31.one {object:Int} {L:List (Int×Int)} {ys zs:List Int} (h1:Z31 object L ys) (h2:Z31 object L zs):ys=zs:=by
 by_cases h:object=3
 ·obtain⟨p1,q1⟩:=h1.2 h
  obtain⟨p2,q2⟩:=h2.2 h
  exact Z7n q1 q2 (p1.trans p2.symm)
 ·rw[h1.1 h,h2.1 h]
theorem Zbj {P:Program} (s t:TypeId) (i:TypeInfo) (hs:P.underlying s=some (.slice t)) (hi:P.info? t=some i) (hz:i.zero=some (.int .i64 0)) (hsz:i.size=1) (hby:i.bytes=8) (n:Nat) (hn:n<=1000000) (w:World):
 (Instr.makeSlice s (.int .i64 (n:Int)) (.int .i64 (n:Int))).run P w= .ok (.slice (some ⟨w.heap.size,0,none⟩) n n) (w.alloc (.cells (madeCells #[.int .i64 0] n) t)):=by
 have:=run_makeSlice (P:=P) w s t i (.int .i64 0) hs hi hz .i64 .i64 (n:Int) (n:Int) (by omega) (Int.le_refl _) (by rw[hsz,Int.toNat_natCast];omega) (by rw[hby];omega) (by omega)
 rw[hsz,Int.toNat_natCast,Nat.mul_one]at this
 exact this
theorem Zmp (n:Nat):(madeCells #[.int .i64 0] n).toList=(List.replicate n (0:Int)).map (Value.int .i64):=by
 refine List.ext_getElem (by rw[Array.length_toList,size_madeCells];simp) (fun i h1 h2=>?_)
 simp[madeCells,Nat.mod_one]
theorem Zfu (w:World) (n:Nat) (hn:n<=1000000):Z1j (w.alloc (.cells (madeCells #[.int .i64 0] n) 3)) (.slice (some ⟨w.heap.size,0,none⟩) n n) (List.replicate n 0):=by
 refine⟨by simp,.inr ⟨w.heap.size,n,_,by simp,Nat.zero_le _,Han _ _,by simp,by unfold maxLen;omega,by rw[size_madeCells];omega,?_⟩⟩
 rw[Zmp,List.take_of_length_le (by simp)]
theorem Zj9 (w:World) (object:Int) (ov:Value) (L:List (Int×Int)) (h:P2 w 47 ov L) (h9:L.length<=1000000) (h32:Z8f L):
 Calls Tryz.prog 84 #[.int .u8 object,ov] w fun e w'=>∃u ys,e= .returned u/\Z1j w' u ys/\Z31 object L ys/\(∀t,u.ownBlock=some t->w.heap.size<=t)/\Below w.heap.size w w':=by
 obtain⟨n,hn⟩:∃n,L.length=n:=⟨_,rfl⟩
 obtain⟨oo,oc,hov⟩:=h.shape
 rw[hn]at hov
 subst hov
 have H:=hi3 h h32 hn
 obtain⟨i0,hi,hz0,hz1,hz2⟩:=info_parts Tryz.infoIntM
 have hmk:=Zbj 33 3 i0 Tryz.underlying33 hi hz0 hz1 hz2 n (by omega)
 clear h h32 hi hz0 hz1 hz2
 go_enter Tryz.func84,Tryz.ntmps84
 go_wp2_with fail
 generalize hG:w.heap.size+1=G
 generalize hW:World.alloc _ _=w1
 have S1:SoP w1 G n n (List.replicate n 0):=by
  subst hW hG
  have:=Zfu (w.alloc (.cells #[.slice oo n oc] 74)) n (by omega)
  rw[show(w.alloc (.cells #[.slice oo n oc] 74)).heap.size=w.heap.size+1 by simp]at this
  exact⟨this,by simp⟩
 have b1:w1.cell? ⟨w.heap.size,0,none⟩=some (.slice oo n oc):=by subst hW;go_simp
 have B1:Below w.heap.size w w1:=by rw[<-hW];go_grown
 have H1:=hi4 S1 B1 hG b1
 have zG:G<w1.heap.size:=S1.lt
 clear hW S1 B1 hG b1 hmk
 go_loopw [13] (fun k wr=>∃(i:Nat) (zs:List Int),i<=n/\k= .int .i64 i/\SoP wr G n n zs/\(∀j,j<i->at0 zs j=(j:Int))/\Z01 (fun k=>k=G) w1 wr) (fun k _=>n-(intOf k).toNat)
 case atStart=>exact⟨0,_,Nat.zero_le _,rfl,H1.out.1,fun j hj=>by omega,Z01.refl _ _⟩
 case round=>
  obtain⟨i,zs,hin,rfl,hS,hE,hK⟩:=hrel
  have yi:(0:Int)<=(i:Int):=by omega
  have n9:=h9
  by_cases hlt:i<n
  ·have hlt':(i:Int)<(n:Int):=by omega
   have cx:=hS.at_ (j:=i) hlt
   have fx:=hS.fz (by omega) i
   have zg:=hS.lt
   have hn9:n<=1000000:=by have:=H.out.2.2;omega
   have wi:IntKind.i64.wrap ((i:Int)+1)=((i+1:Nat):Int):=by rw[show(i:Int)+1=((i+1:Nat):Int) by omega];exact I6n _ (by omega)
   have HR:=hi3 hS hE hK
   clear hS hE hK
   go_wp2
   go_roundw
   case rel=>
    obtain⟨hS,hE,hK⟩:=HR.out
    refine⟨i+1,zs.set i (i:Int),by omega,by go_num,hS.set hlt _,fun j hj=>?_,hK.setCell (p:=⟨G,i,none⟩) (fun _=>rfl) _⟩
    rw[Zbh _ _ _ _ (by rw[hS.len];exact hlt)]
    split
    ·subst_vars;rfl
    ·exact hE j (by omega)
   case measure=>simp[intOf];omega
  ·obtain rfl:i=n:=by omega
   have hzs:zs=Z3j i:=Zmo hS.len hE
   subst hzs
   have hBr:Below w.heap.size w wr:=H1.out.2.1.trans (hK.below H1.out.2.1.size (fun k hk e=>by have:=H1.out.2.2.1;omega))
   have hob:=(hK.cell (p:=⟨w.heap.size,0,none⟩) (Blt w1 _ H1.out.2.2.2) (fun e=>by have:=H1.out.2.2.1;have e2:w.heap.size=G:=e;omega)).trans H1.out.2.2.2
   have hzw:w.heap.size<wr.heap.size:=Blt wr _ hob
   by_cases ho:object=3
   ·subst ho
    have HR:=hi3 hS hBr hob
    clear hS hBr hob hK hE
    go_wp2_with fail
    generalize hL2:wr.heap.size=LB
    generalize hW2:World.alloc _ _=w2
    have B2:Below wr.heap.size wr w2:=by rw[<-hW2];go_grown
    have cl2:w2.cell? ⟨LB,0,none⟩=some (.func (.func 129) #[] #[]):=by subst hW2 hL2;go_simp
    have og:OG w.heap.size LB G (.slice oo i oc) L w2:=⟨(B2.cell (p:=⟨w.heap.size,0,none⟩) hzw).trans HR.out.2.2,cl2,H.out.1.below (HR.out.2.1.trans (B2.mono HR.out.2.1.size)),fun e=>by have:=H1.out.2.2.1;omega,fun e=>by have:=HR.out.1.lt;omega,fun e=>by have:=H.out.1.lt e;have:=H1.out.2.2.1;omega⟩
    have hli:=H.out.2.2
    have cI:=Zcb w2 G i i 131 w.heap.size LB (OG w.heap.size LB G (.slice oo i oc) L) (Zob L) (Zj3 L) (fun x=>0<=x/\x<(L.length:Int)) (Z3j i) (Zmm w.heap.size LB G (.slice oo i oc) L h9 H.out.2.1) og (HR.out.1.below B2) (fun x hx=>by have:=Z4v.1 hx;omega) (fun a b h1 h2=>by rw[Z4u (by omega),Z4u (by omega)];omega) (by omega)
    have H2:=hi3 B2 og hli
    clear hW2 hL2 B2 cl2 og hli
    go_wp2_with fail
    refine cI.mono ?_
    rintro en w3 ⟨rfl,ys,h3,r3,r4,k3⟩
    have H3:=hi4 h3 r3 r4 k3
    clear h3 r3 r4 k3 cI
    go_wp2
    go_ret
    refine⟨_,ys,rfl,H3.out.1.row,⟨fun h=>absurd rfl h,fun _=>?_⟩,fun t e=>?_,?_⟩
    ·rw[H2.out.2.2];exact⟨H3.out.2.1,H3.out.2.2.1⟩
    ·have e2:G=t:=Option.some.inj e
     have:=H1.out.2.2.1
     omega
    ·exact(HR.out.2.1.trans (H2.out.1.mono HR.out.2.1.size)).trans (H3.out.2.2.2.below (Nat.le_trans HR.out.2.1.size H2.out.1.size) (fun k hk e=>by have:=H1.out.2.2.1;omega))
   ·have ho2:(object != 3)=true:=by simp[ho]
    have HR:=hi3 hS hBr hob
    clear hS hBr hob hK hE
    go_wp2
    go_ret
    refine⟨_,Z3j i,rfl,HR.out.1.row,⟨fun _=>by rw[H.out.2.2],fun h=>absurd h ho⟩,fun t e=>?_,HR.out.2.1⟩
    have e2:G=t:=Option.some.inj e
    have:=H1.out.2.2.1
    omega
theorem Zgg (w:World) (cm:Value):Calls Tryz.prog 154 #[.slice none 0 0,.int .i64 0,.int .i64 0,cm] w fun e w'=>e= .returned (.tuple #[])/\w=w':=by
 go_enter Tryz.func154,Tryz.ntmps154
 go_wp2_with fail
 go_loopw [8] (fun k wr=>k= .int .i64 1/\w=wr) (fun k _=>0)
 case atStart=>exact⟨rfl,rfl⟩
 case round=>
  obtain⟨rfl,rfl⟩:=hrel
  go_wp2
  go_end0
  exact⟨rfl,rfl⟩
theorem Za4 (w:World) (cm:Value):Calls Tryz.prog 150 #[.slice none 0 0,.int .i64 0,cm] w fun e w'=>e= .returned (.tuple #[])/\w=w':=by
 go_enter Tryz.func150,Tryz.ntmps150
 go_wp2_with fail
 go_loopw [7,8] (fun k7 k8 wr=>k7= .int .i64 0/\k8= .int .i64 20/\w=wr) (fun _ _ _=>0)
 case atStart=>exact⟨rfl,rfl,rfl⟩
 case round=>
  obtain⟨rfl,rfl,rfl⟩:=hrel
  go_wp2_with fail
  refine(Zgg w cm).mono ?_
  rintro e w' ⟨rfl,rfl⟩
  go_wp2_with fail
  go_loopw [6] (fun k wr=>k= .int .i64 20/\w=wr) (fun _ _=>0)
  case atStart=>exact⟨rfl,rfl⟩
  case round=>
   obtain⟨rfl,rfl⟩:=hrel
   go_wp2
   go_end0
   exact⟨rfl,rfl⟩
theorem Zds (w:World) (cm:Value):Calls Tryz.prog 130 #[.slice none 0 0,cm] w fun e w'=>e= .returned (.tuple #[])/\w=w':=by
 go_enter Tryz.func130,Tryz.ntmps130
 go_wp2_with fail
 refine(Za4 w cm).mono ?_
 rintro e w' ⟨rfl,rfl⟩
 go_wp2
 go_end0
 exact⟨rfl,rfl⟩
theorem Zp8 (w:World) (ov pv:Value) (L:List (Int×Int)) (ps:List Int) (hO:P2 w 47 ov L) (hP:Z1j w pv ps) (hin:∀x ∈ ps,0<=x/\x<(L.length:Int)) (hinc:∀i j,i<j->j<ps.length->at0 ps i<at0 ps j) (hd:∀t,pv.ownBlock=some t->ov.ownBlock≠some t) (h9:L.length<=1000000) (hp9:ps.length<=1000000):
 Calls Tryz.prog 238 #[ov,pv,.func (.func 239) #[] #[]] w fun e w'=>e= .returned pv/\∃ys,Z1j w' pv ys/\ys.Perm ps/\ys.Pairwise (Rk (vOf L))/\Z01 (fun t=>pv.ownBlock=some t) w w':=by
 obtain⟨oo,oc,rfl⟩:=hO.shape
 have H:=hi5 hO hP hin hinc hd
 have hmf:∀(fn:Fn) (first cap:Array Value) (w:World),(Instr.makeFunc fn first cap).run Tryz.prog w= .ok (.func fn first cap) w:=fun _ _ _ _=>rfl
 obtain⟨ao,cap,rfl⟩:=hP.shape
 rcases ao with _|a
 ·have h0:ps.length=0:=by
   rcases Nat.eq_zero_or_pos ps.length with h|h
   ·exact h
   ·obtain⟨g,cap',cur,e,_⟩:=hP.pos h
    cases e
  have hc0:cap=0:=by
   rcases hP.2 with⟨e,_⟩|⟨g,cap',cur,e,_⟩
   ·injection e
   ·cases e
  have e0:=Lnl h0
  subst e0 hc0
  clear hO hP hin hinc hd
  go_enter Tryz.func238,Tryz.ntmps238
  go_wp2_with fail
  generalize hW:World.alloc _ _=w1
  have B1:Below w.heap.size w w1:=by rw[<-hW];go_grown
  clear hW
  refine(Zds w1 _).mono ?_
  rintro e w' ⟨rfl,rfl⟩
  go_wp2
  go_ret
  exact⟨rfl,[],Z1j.nil _,List.Perm.refl _,List.Pairwise.nil,Z0b B1⟩
 ·obtain⟨g,eg⟩:∃g,a=⟨g,0,none⟩:=by
   rcases hP.2 with⟨e,_⟩|⟨g,cap',cur,e,_⟩
   ·cases e
   ·cases e;exact⟨g,rfl⟩
  subst eg
  obtain⟨N,hN⟩:∃N,ps.length=N:=⟨_,rfl⟩
  rw[hN]at hp9 hinc hP H |-
  have zg:=hP.lt (g:=g) rfl
  clear hO hP hin hinc hd
  go_enter Tryz.func238,Tryz.ntmps238
  go_wp2_with fail
  generalize hB:w.heap.size=B
  generalize hW:World.alloc _ _=w1
  have X:w1.heap[B]?=some (.cells #[.slice oo L.length oc] 74 (0,0))/\w1.heap[B+1]?=some (.cells #[.func (.func 239) #[] #[]] 295 (0,0)):=by rw[<-hW,<-hB];exact Z05 _ _ _
  have B1:Below w.heap.size w w1:=by rw[<-hW];go_grown
  have hG:BG (B+1) B g (.slice oo L.length oc) L w1:=⟨Z2a X.2,Z2a X.1,H.out.1.below B1,by omega,by omega,fun e=>H.out.2.2.2.2 g rfl e⟩
  have hS:SoP w1 g N cap ps:=⟨H.out.2.1.below B1,hN⟩
  have cI:=Zcb w1 g N cap 247 (B+1) B _ _ _ _ ps (Zmn (B+1) B g (.slice oo L.length oc) L h9) hG hS H.out.2.2.1 H.out.2.2.2.1 hp9
  have H1:=Hd B1
  clear hW X B1 hG hS
  refine cI.mono ?_
  rintro e w3 ⟨rfl,ys,h3,r3,r4,k3⟩
  have H3:=hi4 h3 r3 r4 k3
  clear h3 r3 r4 k3 cI
  go_wp2
  go_ret
  exact⟨rfl,ys,H3.out.1.row,H3.out.2.1,H3.out.2.2.1,(Z0b H1.out).trans (H3.out.2.2.2.mono (fun k _ e=>by rw[e];rfl))⟩
section
variable (w:World) (c:Value) (s:Nat) (sv:Value) (xs:List Int) (most:Int) (ov:Value) (L:List (Int×Int))
theorem Zjd (h:Z2c w s sv xs most) (hp:P2 w 47 ov L) (ho:∀t,ov.ownBlock=some t->¬Z0r s sv t) (hk:∀p ∈ L,0<=p.1/\p.1<=255) (hl:xs.length+L.length<=1000000) (hm:(xs.length:Int)<=most):
 Calls Tryz.prog 178 #[.agg #[.pointer (some ⟨s,0,none⟩)],c,ov] w fun e w'=>∃u,e= .returned u/\P2 w' 43 u (Z09 (Z08 most) xs L).2/\(∀t,u.ownBlock=some t->w.heap.size<=t)/\∃v',Z2c w' s v' (Z09 (Z08 most) xs L).1 most/\Z39 w sv v'/\Z01 (Z0r s sv) w w':=by
 have hs:=h.lt
 have H:=hi6 h hp ho hk hl hm
 clear h hp ho hk hl hm
 go_enter Tryz.func178,Tryz.ntmps178
 go_wp2_with fail
 generalize hW1:World.alloc _ _=w1
 have B1:Below w.heap.size w w1:=by rw[<-hW1];go_grown
 clear hW1
 refine(Zj8 w1 s sv xs most _ L (H.out.1.below B1) (H.out.2.1.below B1) H.out.2.2.1 H.out.2.2.2.1 H.out.2.2.2.2.1 H.out.2.2.2.2.2).mono ?_
 rintro e w' ⟨u,rfl,h1⟩
 have H1:=Hd h1
 clear h1
 go_wp2
 go_ret
 obtain⟨a,b,v',c1,d,e⟩:=H1.out
 exact⟨_,rfl,a,fun t h=>Nat.le_trans B1.size (b t h),v',c1,Z39.trans (.inl rfl) d B1.size,(Z0b B1).trans e⟩
theorem Zje (h:Z2c w s sv xs most) (hp:P2 w 47 ov L) (ho:∀t,ov.ownBlock=some t->¬Z0r s sv t) (hk:∀p ∈ L,0<=p.1/\p.1<=255) (hl:xs.length+L.length<=1000000) (hm:(xs.length:Int)<=most):
 Calls Tryz.prog 180 #[.agg #[.pointer (some ⟨s,0,none⟩)],c,ov] w fun e w'=>∃u,e= .returned u/\P2 w' 43 u (Z09 (Z08 most) xs L).2/\(∀t,u.ownBlock=some t->w.heap.size<=t)/\∃v',Z2c w' s v' (Z09 (Z08 most) xs L).1 most/\Z39 w sv v'/\Z01 (Z0r s sv) w w':=by
 have hs:=h.lt
 have H:=hi6 h hp ho hk hl hm
 clear h hp ho hk hl hm
 go_enter Tryz.func180,Tryz.ntmps180
 go_wp2_with fail
 generalize hW1:World.alloc _ _=w1
 have B1:Below w.heap.size w w1:=by rw[<-hW1];go_grown
 clear hW1
 refine(Zj1 w1 s sv xs most _ L (H.out.1.below B1) (H.out.2.1.below B1) H.out.2.2.1 H.out.2.2.2.1 H.out.2.2.2.2.1).mono ?_
 rintro e w' ⟨u,rfl,h1⟩
 have H1:=Hd h1
 clear h1
 go_wp2
 go_ret
 obtain⟨a,b,v',c1,d,e⟩:=H1.out
 exact⟨_,rfl,a,fun t h=>Nat.le_trans B1.size (b t h),v',c1,Z39.trans (.inl rfl) d B1.size,(Z0b B1).trans e⟩
end
end
end Go.Proofs.YtihljjgmkaeohaaGreat
