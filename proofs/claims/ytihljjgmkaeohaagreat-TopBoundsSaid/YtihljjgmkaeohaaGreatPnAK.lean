/- part 11 -/
import Derived.Defers
import Derived.Test.YtihljjgmkaeohaaGreatPnAF
import Derived.Test.YtihljjgmkaeohaaGreatPnAG
set_option linter.all false
set_option maxHeartbeats 16000000
set_option maxRecDepth 100000
namespace Go.Proofs.YtihljjgmkaeohaaGreat
section
open Go.RowKit Go.ChangeShapes Go.WideShapes Go.ChangeAt Go.Deep
theorem R32.set {w:World} {v:Value} {xs:List Int} {k:Nat} (h:R32 w v xs) (hk:v.ownBlock=some k) (j:Nat) (hj:j<xs.length) (x:Int):R32 (w.setCell ⟨k,j,none⟩ (.int .i32 x)) v (xs.set j x):=by
 rcases h.2 with⟨rfl,_⟩|⟨g,cap,cur,rfl,hb,hg,hn,hm,hc,ht⟩
 ·cases hk
 ·simp only[Value.ownBlock,Option.some.injEq]at hk
  subst hk
  refine⟨by simp,.inr ⟨g,cap,_,by simp,hb,Z00 hg j _,by simpa using hn,hm,by simpa using hc,?_⟩⟩
  have hs:j<cur.size:=by omega
  simp only[Lls,Nat.mul_one,Array.toList_setIfInBounds,List.map_set]at ht |-
  rw[List.take_set,ht]
theorem Zmi (w:World) (ob vb:Nat) (ov vv:Value) (L:List (Int×Int)) (Vs:List Int) (k p:Nat) (hob:w.cell? ⟨ob,0,none⟩=some ov) (hvb:w.cell? ⟨vb,0,none⟩=some vv) (hO:P2 w 47 ov L) (hV:R32 w vv Vs) (hk:k<Vs.length) (hp:p<L.length)
 (hne:∀t,vv.ownBlock=some t->t≠ob/\t≠vb/\ov.ownBlock≠some t) (h9:Vs.length<=1000000) (h8:L.length<=1000000):
 Calls Tryz.prog 188 #[.int .i64 (k:Int),.int .i64 (p:Int),.pointer (some ⟨ob,0,none⟩),.pointer (some ⟨vb,0,none⟩)] w fun e w'=>e= .returned (.tuple #[])/\R32 w' vv (Vs.set k (L.getD p (0,0)).2)/\Z01 (fun t=>vv.ownBlock=some t) w w':=by
 obtain⟨og,oc,rfl,hoc,hogl,hc,-⟩:=hO.pos (by omega)
 obtain⟨vg,vc,cur,rfl,hvg,-,hvc,hvx,hvf⟩:=hV.pos (by omega)
 obtain⟨-,c2⟩:=hc p hp
 rw[show 2*p+1=p*2+1 by omega]at c2
 have cv:=hvx k hk
 have fv:=hvf k
 obtain⟨x,hx⟩:∃x,(L.getD p (0,0)).2=x:=⟨_,rfl⟩
 rw[hx]at c2
 obtain⟨n1,n2,n3⟩:=hne vg rfl
 have n3':¬og=vg:=fun e=>n3 (by rw[e];rfl)
 have n3b:¬vg=og:=fun e=>n3' e.symm
 have n1b:¬ob=vg:=fun e=>n1 e.symm
 have n2b:¬vb=vg:=fun e=>n2 e.symm
 have hkl:(k:Int)<(Vs.length:Int):=by omega
 have hk0:(0:Int)<=(k:Int):=by omega
 have hpl:(p:Int)<(L.length:Int):=by omega
 have hp0:(0:Int)<=(p:Int):=by omega
 have H:=hi2 hV hx
 clear hc hvx hvf hV hne n3 hvg hx hO
 go_enter Tryz.func188,Tryz.ntmps188
 go_wp2_with fail
 go_region_held3 (fun wz=>wz.cell? ⟨ob,0,none⟩=some (.slice (some ⟨og,0,none⟩) L.length oc)/\wz.cell? ⟨vb,0,none⟩=some (.slice (some ⟨vg,0,none⟩) Vs.length vc)/\wz.cell? ⟨og,p*2+1,none⟩=some (.int .i32 x))
  (first|(exact⟨hob,hvb,c2⟩)|go_keep)
  (fail)
 all_goals
  go_wp2
  go_end0
  exact⟨rfl,by rw[H.out.2];exact(H.out.1.below (Brf _ _).drew).set rfl k (by omega) x,((Z01.refl (fun t=>(Value.slice (some ⟨vg,0,none⟩) Vs.length vc).ownBlock=some t) w).drew).setCell (p:=⟨vg,k,none⟩) (fun _=>rfl) _⟩
theorem Zmj (w:World) (sb vb s:Nat) (sv vv:Value) (xs:List Int) (z most:Int) (Vs:List Int) (k:Nat) (hsb:w.cell? ⟨sb,0,none⟩=some (.pointer (some ⟨s,0,none⟩))) (hvb:w.cell? ⟨vb,0,none⟩=some vv) (hS:Z2c w s sv (xs++ [z]) most) (hV:R32 w vv Vs) (hk:k<Vs.length)
 (hne:∀t,vv.ownBlock=some t->t≠sb/\t≠vb/\t≠s/\sv.ownBlock≠some t) (hs1:sb≠s) (hs2:vb≠s) (h9:Vs.length<=1000000) (h8:xs.length<=1000000):
 Calls Tryz.prog 189 #[.int .i64 (k:Int),.pointer (some ⟨sb,0,none⟩),.pointer (some ⟨vb,0,none⟩)] w fun e w'=>e= .returned (.tuple #[])/\R32 w' vv (Vs.set k z)/\∃sv',Z2c w' s sv' xs most/\sv'.ownBlock=sv.ownBlock/\Z01 (fun t=>t=s\/vv.ownBlock=some t) w w':=by
 obtain⟨vg,vc,cur,rfl,hvg,-,hvc,hvx,hvf⟩:=hV.pos (by omega)
 obtain⟨n1,n2,n3,n4⟩:=hne vg rfl
 have hkl:(k:Int)<(Vs.length:Int):=by omega
 have hk0:(0:Int)<=(k:Int):=by omega
 have n1b:¬sb=vg:=fun e=>n1 e.symm
 have n2b:¬vb=vg:=fun e=>n2 e.symm
 have H:=hi6 hV hS n3 hs1 hs2 n4
 have z1:=Blt w _ hsb
 have z2:=Blt w _ hvb
 have dsb:=((Brf w.heap.size w).drew.cell (p:=⟨sb,0,none⟩) z1).trans hsb
 have dvb:=((Brf w.heap.size w).drew.cell (p:=⟨vb,0,none⟩) z2).trans hvb
 have HD:=hi2 dsb dvb
 have hvo:∀t,(Value.slice (some ⟨vg,0,none⟩) Vs.length vc).ownBlock=some t->¬t=s:=fun t e hh=>n3 ((Option.some.inj e).trans hh)
 have HVO:=Hd hvo
 clear hvo
 have y1:sb<w.drew.heap.size:=z1
 have y2:vb<w.drew.heap.size:=z2
 clear hvx hvf hV hne hvg hS n3 n4 hs1 hs2 dsb dvb
 go_enter Tryz.func189,Tryz.ntmps189
 go_wp2_with fail
 go_region_held3 (fun wz=>wz.cell? ⟨sb,0,none⟩=some (.pointer (some ⟨s,0,none⟩))/\wz.cell? ⟨vb,0,none⟩=some (.slice (some ⟨vg,0,none⟩) Vs.length vc))
  (first|(exact⟨hsb,hvb⟩)|(exact⟨g1,g2⟩)|go_keep)
  (first|(go_at_call 190;go_split_ands;with_reducible refine(Z9p _ s sv xs z most (H.out.2.1.below (Brf _ _).drew) h8).mono ?_;rintro e w3 ⟨rfl,sv',h3,ho3,hk3⟩;have g1:=(hk3.cell (p:=⟨sb,0,none⟩) y1 H.out.2.2.2.1).trans HD.out.1;have g2:=(hk3.cell (p:=⟨vb,0,none⟩) y2 H.out.2.2.2.2.1).trans HD.out.2;have V3:=(H.out.1.below (Brf _ _).drew).kept hk3 HVO.out;obtain⟨vg',vc',cur',e3,hg3,-,-,hx3,hf3⟩:=V3.pos (by omega);cases e3;have cv:=hx3 k hk;have fv:=hf3 k;have H3:=hi4 h3 ho3 hk3 V3;clear h3 ho3 hk3 V3 hx3 hf3 hg3))
 all_goals
  go_wp2
  go_end0
  have KT:Z01 (fun t=>t=vg) w3 (w3.setCell ⟨vg,k,none⟩ (.int .i32 z)):=(Z01.refl (fun t=>t=vg) w3).setCell (p:=⟨vg,k,none⟩) (fun _=>rfl) _
  exact⟨rfl,H3.out.2.2.2.set rfl k (by omega) z,sv',H3.out.1.kept KT (fun e=>H.out.2.2.1 e.symm) (fun t e hh=>H.out.2.2.2.2.2 (by rw[<-H3.out.2.1,<-hh];exact e)),H3.out.2.1,((Z01.refl (fun t=>t=s\/(Value.slice (some ⟨vg,0,none⟩) Vs.length vc).ownBlock=some t) w).drew.trans (H3.out.2.2.1.mono (fun _ _ e=>.inl e))).trans (KT.mono (fun _ _ e=>.inr (by rw[e];rfl)))⟩
abbrev Z14 (v:Value):Nat->Prop:=fun k=>v.ownBlock=some k
abbrev BxF (sb ob vb:Nat):Nat->Prop:=fun k=>k=sb\/k=ob\/k=vb
def Dj (F G:Nat->Prop):Prop:=∀k,F k->¬G k
theorem Dj.symm {F G:Nat->Prop} (h:Dj F G):Dj G F:=fun k hg hf=>h k hf hg
theorem Dj.mono {F G F':Nat->Prop} (h:Dj F G) (hs:∀k,F' k->F k):Dj F' G:=fun k hf=>h k (hs k hf)
theorem Dj.grow {F G F':Nat->Prop} {n:Nat} (h:Dj F G) (hs:∀k,F' k->F k\/n<=k) (hg:∀k,G k->k<n):Dj F' G:=fun k hf hgk=>by
 rcases hs k hf with h1|h1
 ·exact h k h1 hgk
 ·have:=hg k hgk;omega
structure Bx (w:World) (sb ob vb s:Nat) (ov vv:Value):Prop where
 cs:w.cell? ⟨sb,0,none⟩=some (.pointer (some ⟨s,0,none⟩))
 co:w.cell? ⟨ob,0,none⟩=some ov
 cv:w.cell? ⟨vb,0,none⟩=some vv
section
variable {w w':World} {sb ob vb s:Nat} {ov vv:Value}
theorem Bx.kept {F:Nat->Prop} (h:Bx w sb ob vb s ov vv) (hk:Z01 F w w') (hd:Dj F (BxF sb ob vb)):Bx w' sb ob vb s ov vv:=
 ⟨(hk.cell (p:=⟨sb,0,none⟩) (Blt w _ h.cs) (fun e=>hd _ e (.inl rfl))).trans h.cs,(hk.cell (p:=⟨ob,0,none⟩) (Blt w _ h.co) (fun e=>hd _ e (.inr (.inl rfl)))).trans h.co,(hk.cell (p:=⟨vb,0,none⟩) (Blt w _ h.cv) (fun e=>hd _ e (.inr (.inr rfl)))).trans h.cv⟩
theorem Bx.lt (h:Bx w sb ob vb s ov vv):∀k,BxF sb ob vb k->k<w.heap.size:=fun k e=>by
 rcases e with rfl|rfl|rfl
 ·exact Blt w _ h.cs
 ·exact Blt w _ h.co
 ·exact Blt w _ h.cv
end
structure AP (w:World) (s m sb ob vb:Nat) (sv wv vv ov tv:Value) (xs W Vs:List Int) (L RR:List (Int×Int)) (most bl:Int):Prop where
 S:Z2c w s sv xs most
 M:MtP w m wv W bl most
 V:R32 w vv Vs
 O:P2 w 47 ov L
 T:P2 w 43 tv RR
 B:Bx w sb ob vb s ov vv
 dSM:Dj (Z0r s sv) (Z0r m wv)
 dSV:Dj (Z0r s sv) (Z14 vv)
 dSO:Dj (Z0r s sv) (Z14 ov)
 dST:Dj (Z0r s sv) (Z14 tv)
 dSB:Dj (Z0r s sv) (BxF sb ob vb)
 dMV:Dj (Z0r m wv) (Z14 vv)
 dMO:Dj (Z0r m wv) (Z14 ov)
 dMT:Dj (Z0r m wv) (Z14 tv)
 dMB:Dj (Z0r m wv) (BxF sb ob vb)
 dVO:Dj (Z14 vv) (Z14 ov)
 dVT:Dj (Z14 vv) (Z14 tv)
 dVB:Dj (Z14 vv) (BxF sb ob vb)
 dOT:Dj (Z14 ov) (Z14 tv)
 dOB:Dj (Z14 ov) (BxF sb ob vb)
 dTB:Dj (Z14 tv) (BxF sb ob vb)
section
variable {w w':World} {s m sb ob vb:Nat} {sv wv vv ov tv:Value} {xs W Vs:List Int} {L RR:List (Int×Int)} {most bl:Int}
theorem AP.below (h:AP w s m sb ob vb sv wv vv ov tv xs W Vs L RR most bl) (hb:Below w.heap.size w w'):AP w' s m sb ob vb sv wv vv ov tv xs W Vs L RR most bl where
 S:=h.S.below hb
 M:=h.M.below hb
 V:=h.V.below hb
 O:=h.O.below hb
 T:=h.T.below hb
 B:=h.B.kept (Z0b (F:=fun _=>False) hb) (fun k e=>e.elim)
 dSM:=h.dSM
 dSV:=h.dSV
 dSO:=h.dSO
 dST:=h.dST
 dSB:=h.dSB
 dMV:=h.dMV
 dMO:=h.dMO
 dMT:=h.dMT
 dMB:=h.dMB
 dVO:=h.dVO
 dVT:=h.dVT
 dVB:=h.dVB
 dOT:=h.dOT
 dOB:=h.dOB
 dTB:=h.dTB
theorem AP.turnM (h:AP w s m sb ob vb sv wv vv ov tv xs W Vs L RR most bl) {wv':Value} {W':List Int} {bl':Int} (h2:MtP w' m wv' W' bl' most) (ho:Z39 w wv wv') (hk:Z01 (Z0r m wv) w w'):AP w' s m sb ob vb sv wv' vv ov tv xs W' Vs L RR most bl' where
 S:=h.S.kept hk (fun e=>h.dSM.symm _ e (.inl rfl)) (fun t e hh=>h.dSM.symm _ hh (.inr e))
 M:=h2
 V:=h.V.kept hk (fun t e hh=>h.dMV _ hh e)
 O:=h.O.kept hk (fun t e hh=>h.dMO _ hh e)
 T:=h.T.kept hk (fun t e hh=>h.dMT _ hh e)
 B:=h.B.kept hk h.dMB
 dSM:=(h.dSM.symm.grow (fun k e=>by rcases e with e|e;exact .inl (.inl e);rcases ho with h3|h3;exact .inl (.inr (h3 ▸ e));exact .inr (h3 k e)) (fun k e=>by rcases e with e|e;rw[e];exact h.S.lt;exact h.S.row.lt e)).symm
 dSV:=h.dSV
 dSO:=h.dSO
 dST:=h.dST
 dSB:=h.dSB
 dMV:=h.dMV.grow (fun k e=>by rcases e with e|e;exact .inl (.inl e);rcases ho with h3|h3;exact .inl (.inr (h3 ▸ e));exact .inr (h3 k e)) (fun k e=>h.V.lt e)
 dMO:=h.dMO.grow (fun k e=>by rcases e with e|e;exact .inl (.inl e);rcases ho with h3|h3;exact .inl (.inr (h3 ▸ e));exact .inr (h3 k e)) (fun k e=>h.O.lt e)
 dMT:=h.dMT.grow (fun k e=>by rcases e with e|e;exact .inl (.inl e);rcases ho with h3|h3;exact .inl (.inr (h3 ▸ e));exact .inr (h3 k e)) (fun k e=>h.T.lt e)
 dMB:=h.dMB.grow (fun k e=>by rcases e with e|e;exact .inl (.inl e);rcases ho with h3|h3;exact .inl (.inr (h3 ▸ e));exact .inr (h3 k e)) h.B.lt
 dVO:=h.dVO
 dVT:=h.dVT
 dVB:=h.dVB
 dOT:=h.dOT
 dOB:=h.dOB
 dTB:=h.dTB
theorem AP.turnV (h:AP w s m sb ob vb sv wv vv ov tv xs W Vs L RR most bl) {Vs':List Int} (h2:R32 w' vv Vs') (hk:Z01 (Z14 vv) w w'):AP w' s m sb ob vb sv wv vv ov tv xs W Vs' L RR most bl where
 S:=h.S.kept hk (fun e=>h.dSV.symm _ e (.inl rfl)) (fun t e hh=>h.dSV.symm _ hh (.inr e))
 M:=h.M.kept hk (fun e=>h.dMV.symm _ e (.inl rfl)) (fun t e hh=>h.dMV.symm _ hh (.inr e))
 V:=h2
 O:=h.O.kept hk (fun t e hh=>h.dVO _ hh e)
 T:=h.T.kept hk (fun t e hh=>h.dVT _ hh e)
 B:=h.B.kept hk h.dVB
 dSM:=h.dSM
 dSV:=(h.dSV.symm.grow (fun k e=>.inl e) (fun k e=>by rcases e with e|e;rw[e];exact h.S.lt;exact h.S.row.lt e)).symm
 dSO:=h.dSO
 dST:=h.dST
 dSB:=h.dSB
 dMV:=(h.dMV.symm.grow (fun k e=>.inl e) (fun k e=>by rcases e with e|e;rw[e];exact h.M.lt;exact h.M.row.lt e)).symm
 dMO:=h.dMO
 dMT:=h.dMT
 dMB:=h.dMB
 dVO:=h.dVO.grow (fun k e=>.inl e) (fun k e=>h.O.lt e)
 dVT:=h.dVT.grow (fun k e=>.inl e) (fun k e=>h.T.lt e)
 dVB:=h.dVB.grow (fun k e=>.inl e) h.B.lt
 dOT:=h.dOT
 dOB:=h.dOB
 dTB:=h.dTB
theorem AP.turnT (h:AP w s m sb ob vb sv wv vv ov tv xs W Vs L RR most bl) {RR':List (Int×Int)} (h2:P2 w' 43 tv RR') (hk:Z01 (Z14 tv) w w'):AP w' s m sb ob vb sv wv vv ov tv xs W Vs L RR' most bl where
 S:=h.S.kept hk (fun e=>h.dST.symm _ e (.inl rfl)) (fun t e hh=>h.dST.symm _ hh (.inr e))
 M:=h.M.kept hk (fun e=>h.dMT.symm _ e (.inl rfl)) (fun t e hh=>h.dMT.symm _ hh (.inr e))
 V:=h.V.kept hk (fun t e hh=>h.dVT.symm _ hh e)
 O:=h.O.kept hk (fun t e hh=>h.dOT.symm _ hh e)
 T:=h2
 B:=h.B.kept hk h.dTB
 dSM:=h.dSM
 dSV:=h.dSV
 dSO:=h.dSO
 dST:=(h.dST.symm.grow (fun k e=>.inl e) (fun k e=>by rcases e with e|e;rw[e];exact h.S.lt;exact h.S.row.lt e)).symm
 dSB:=h.dSB
 dMV:=h.dMV
 dMO:=h.dMO
 dMT:=(h.dMT.symm.grow (fun k e=>.inl e) (fun k e=>by rcases e with e|e;rw[e];exact h.M.lt;exact h.M.row.lt e)).symm
 dMB:=h.dMB
 dVO:=h.dVO
 dVT:=(h.dVT.symm.grow (fun k e=>.inl e) (fun k e=>h.V.lt e)).symm
 dVB:=h.dVB
 dOT:=(h.dOT.symm.grow (fun k e=>.inl e) (fun k e=>h.O.lt e)).symm
 dOB:=h.dOB
 dTB:=h.dTB.grow (fun k e=>.inl e) h.B.lt
theorem AP.turnSV (h:AP w s m sb ob vb sv wv vv ov tv xs W Vs L RR most bl) {sv':Value} {xs' Vs':List Int} (h2:Z2c w' s sv' xs' most) (hV2:R32 w' vv Vs') (ho:Z39 w sv sv') (hk:Z01 (fun k=>Z0r s sv k\/Z14 vv k) w w'):AP w' s m sb ob vb sv' wv vv ov tv xs' W Vs' L RR most bl where
 S:=h2
 M:=h.M.kept hk (fun e=>(show Dj (fun k=>Z0r s sv k\/Z14 vv k) _ from fun k e=>e.elim (h.dSM k) (h.dMV.symm k)) _ e (.inl rfl)) (fun t e hh=>(show Dj (fun k=>Z0r s sv k\/Z14 vv k) _ from fun k e=>e.elim (h.dSM k) (h.dMV.symm k)) _ hh (.inr e))
 V:=hV2
 O:=h.O.kept hk (fun t e hh=>(show Dj (fun k=>Z0r s sv k\/Z14 vv k) _ from fun k e=>e.elim (h.dSO k) (h.dVO k)) _ hh e)
 T:=h.T.kept hk (fun t e hh=>(show Dj (fun k=>Z0r s sv k\/Z14 vv k) _ from fun k e=>e.elim (h.dST k) (h.dVT k)) _ hh e)
 B:=h.B.kept hk (show Dj (fun k=>Z0r s sv k\/Z14 vv k) _ from fun k e=>e.elim (h.dSB k) (h.dVB k))
 dSM:=h.dSM.grow (fun k e=>by rcases e with e|e;exact .inl (.inl e);rcases ho with h3|h3;exact .inl (.inr (h3 ▸ e));exact .inr (h3 k e)) (fun k e=>by rcases e with e|e;rw[e];exact h.M.lt;exact h.M.row.lt e)
 dSV:=h.dSV.grow (fun k e=>by rcases e with e|e;exact .inl (.inl e);rcases ho with h3|h3;exact .inl (.inr (h3 ▸ e));exact .inr (h3 k e)) (fun k e=>h.V.lt e)
 dSO:=h.dSO.grow (fun k e=>by rcases e with e|e;exact .inl (.inl e);rcases ho with h3|h3;exact .inl (.inr (h3 ▸ e));exact .inr (h3 k e)) (fun k e=>h.O.lt e)
 dST:=h.dST.grow (fun k e=>by rcases e with e|e;exact .inl (.inl e);rcases ho with h3|h3;exact .inl (.inr (h3 ▸ e));exact .inr (h3 k e)) (fun k e=>h.T.lt e)
 dSB:=h.dSB.grow (fun k e=>by rcases e with e|e;exact .inl (.inl e);rcases ho with h3|h3;exact .inl (.inr (h3 ▸ e));exact .inr (h3 k e)) h.B.lt
 dMV:=(h.dMV.symm.grow (fun k e=>.inl e) (fun k e=>by rcases e with e|e;rw[e];exact h.M.lt;exact h.M.row.lt e)).symm
 dMO:=h.dMO
 dMT:=h.dMT
 dMB:=h.dMB
 dVO:=h.dVO.grow (fun k e=>.inl e) (fun k e=>h.O.lt e)
 dVT:=h.dVT.grow (fun k e=>.inl e) (fun k e=>h.T.lt e)
 dVB:=h.dVB.grow (fun k e=>.inl e) h.B.lt
 dOT:=h.dOT
 dOB:=h.dOB
 dTB:=h.dTB
end
theorem Z7o:∀(L:List (Int×Int)) (j:Nat) (c:Int),Z1o (L.set j (c,(L.getD j (0,0)).2))=(Z1o L).set (2*j) (.int .u8 c)
 | [],j,c=>by simp[Z1o]
 |q::l,0,c=>by simp[Z1o]
 |q::l,j+1,c=>by
  rw[show 2*(j+1)=2*j+1+1 by omega]
  have:=Z7o l j c
  simp only[List.set_cons_succ,Z1o,List.getD_cons_succ,this]
theorem Z7p:∀(L:List (Int×Int)) (j:Nat) (d:Int),Z1o (L.set j ((L.getD j (0,0)).1,d))=(Z1o L).set (2*j+1) (.int .i32 d)
 | [],j,d=>by simp[Z1o]
 |q::l,0,d=>by simp[Z1o]
 |q::l,j+1,d=>by
  rw[show 2*(j+1)+1=2*j+1+1+1 by omega]
  have:=Z7p l j d
  simp only[List.set_cons_succ,Z1o,List.getD_cons_succ,this]
section
variable {w w':World} {t:TypeId} {v:Value} {L:List (Int×Int)}
theorem P2.set1 {g:Nat} (h:P2 w t v L) (hk:v.ownBlock=some g) (j:Nat) (hj:j<L.length) (c:Int):P2 (w.setCell ⟨g,2*j,none⟩ (.int .u8 c)) t v (L.set j (c,(L.getD j (0,0)).2)):=by
 rcases h.2 with⟨rfl,_⟩|⟨g',cap,cur,rfl,hb,hg,hn,hm,hc,ht⟩
 ·cases hk
 ·simp only[Value.ownBlock,Option.some.injEq]at hk
  subst hk
  refine⟨by rw[Z1e,Lls],.inr ⟨g',cap,_,by simp,hb,Z00 hg (2*j) _,by simpa using hn,hm,by simpa using hc,?_⟩⟩
  simp only[Lls,Array.toList_setIfInBounds]at ht |-
  rw[List.take_set,ht,Z7o]
theorem P2.set2 {g:Nat} (h:P2 w t v L) (hk:v.ownBlock=some g) (j:Nat) (hj:j<L.length) (d:Int):P2 (w.setCell ⟨g,2*j+1,none⟩ (.int .i32 d)) t v (L.set j ((L.getD j (0,0)).1,d)):=by
 rcases h.2 with⟨rfl,_⟩|⟨g',cap,cur,rfl,hb,hg,hn,hm,hc,ht⟩
 ·cases hk
 ·simp only[Value.ownBlock,Option.some.injEq]at hk
  subst hk
  refine⟨by rw[Z1e,Lls],.inr ⟨g',cap,_,by simp,hb,Z00 hg (2*j+1) _,by simpa using hn,hm,by simpa using hc,?_⟩⟩
  simp only[Lls,Array.toList_setIfInBounds]at ht |-
  rw[List.take_set,ht,Z7p]
end
theorem AP.newT {w w':World} {s m sb ob vb:Nat} {sv wv vv ov tv:Value} {xs W Vs:List Int} {L RR:List (Int×Int)} {most bl:Int} {tv':Value} {RR':List (Int×Int)} (h:AP w s m sb ob vb sv wv vv ov tv xs W Vs L RR most bl) (hb:Below w.heap.size w w') (hT:P2 w' 43 tv' RR') (hn:∀k,Z14 tv' k->w.heap.size<=k):AP w' s m sb ob vb sv wv vv ov tv' xs W Vs L RR' most bl where
 S:=(h.below hb).S
 M:=(h.below hb).M
 V:=(h.below hb).V
 O:=(h.below hb).O
 T:=hT
 B:=(h.below hb).B
 dSM:=h.dSM
 dSV:=h.dSV
 dSO:=h.dSO
 dST:=fun k hk hn'=>absurd ((show ∀k,(Z0r s sv) k->k<w.heap.size from(fun k e=>by rcases e with rfl|e;exact h.S.lt;exact h.S.row.lt e)) k hk) (by have:=hn k hn';omega)
 dSB:=h.dSB
 dMV:=h.dMV
 dMO:=h.dMO
 dMT:=fun k hk hn'=>absurd ((show ∀k,(Z0r m wv) k->k<w.heap.size from(fun k e=>by rcases e with rfl|e;exact h.M.lt;exact h.M.row.lt e)) k hk) (by have:=hn k hn';omega)
 dMB:=h.dMB
 dVO:=h.dVO
 dVT:=fun k hk hn'=>absurd ((show ∀k,(Z14 vv) k->k<w.heap.size from(fun k e=>h.V.lt e)) k hk) (by have:=hn k hn';omega)
 dVB:=h.dVB
 dOT:=fun k hk hn'=>absurd ((show ∀k,(Z14 ov) k->k<w.heap.size from(fun k e=>h.O.lt e)) k hk) (by have:=hn k hn';omega)
 dOB:=h.dOB
 dTB:=fun k hn' hk=>absurd ((show ∀k,(BxF sb ob vb) k->k<w.heap.size from h.B.lt) k hk) (by have:=hn k hn';omega)
structure Met (most:Int) (xs0:List Int) (L:List (Int×Int)) (i:Nat) (xs W Vs:List Int) (RR:List (Int×Int)):Prop where
 st:(Z09 (Z08 most) xs0 (L.take i)).1=xs++W.map fun p=>(L.getD p.toNat (0,0)).2
 wl:∀p ∈ W,0<=p/\p<(i:Int)
 rl:RR.length=L.length
 vl:Vs.length=L.length
 r2:∀j,(RR.getD j (0,0)).2=0
 v0:∀j,i<=j->Vs.getD j 0=0
 eq:∀j,j<i->(Z09 (Z08 most) xs0 (L.take i)).2.getD j (0,0)=((RR.getD j (0,0)).1,Vs.getD j 0)
theorem Z0i {α:Type} (l:List α) (i j:Nat) (x d:α) (h:i<l.length):(l.set i x).getD j d=if j=i then x else l.getD j d:=by
 rw[Lgd,Lgd,List.getElem?_set]
 by_cases e:i=j
 ·subst e;rw[if_pos rfl,if_pos h,if_pos rfl];rfl
 ·rw[if_neg e,if_neg (fun h=>e h.symm)]
theorem Met.step {most:Int} {xs0 xs W Vs xs' W' Vs':List Int} {L RR RR':List (Int×Int)} {i:Nat} (h:Met most xs0 L i xs W Vs RR) (hi:i<L.length) {k y c d:Int} (hk:L.getD i (0,0)=(k,y))
 (hst:Z08 most (xs++W.map fun p=>(L.getD p.toNat (0,0)).2) (k,y)=(xs'++W'.map fun p=>(L.getD p.toNat (0,0)).2,(c,d)))
 (hw:∀p ∈ W',p ∈ W\/p=(i:Int)) (hr:RR'=RR.set i (c,0)) (hv:Vs'=Vs.set i d):Met most xs0 L (i+1) xs' W' Vs' RR':=by
 have hs:Z09 (Z08 most) xs0 (L.take (i+1))=(xs'++W'.map fun p=>(L.getD p.toNat (0,0)).2,(Z09 (Z08 most) xs0 (L.take i)).2++ [(c,d)]):=by
  rw[Z34 hi,hk,Z1t,h.st,hst]
 have hl:(Z09 (Z08 most) xs0 (L.take i)).2.length=i:=by rw[Z1i,List.length_take];omega
 have hrl:=h.rl
 have hvl:=h.vl
 subst hr hv
 refine⟨by rw[hs],fun p hp=>?_,by rw[Lls];exact h.rl,by rw[Lls];exact h.vl,fun j=>?_,fun j hj=>?_,fun j hj=>?_⟩
 ·rcases hw p hp with h1|h1
  ·have:=h.wl p h1;omega
  ·omega
 ·rw[Z0i _ _ _ _ _ (by omega)]
  split
  ·rfl
  ·exact h.r2 j
 ·rw[Z0i _ _ _ _ _ (by omega),if_neg (by omega)]
  exact h.v0 j (by omega)
 ·rw[hs,Z0i _ _ _ _ _ (by omega),Z0i _ _ _ _ _ (by omega)]
  by_cases e:j=i
  ·subst e
   rw[if_pos rfl,if_pos rfl,Lgd,Ler (by omega),hl,Nat.sub_self]
   rfl
  ·rw[if_neg e,if_neg e,<-h.eq j (by omega),Lgd,Lgd,Lel (by omega)]
theorem Z9t {l:List Int} {i:Nat} (h:i<l.length) (e:l.getD i 0=0):l=l.set i 0:=by
 refine List.ext_getElem (by simp) (fun j h1 h2=>?_)
 rw[List.getElem_set]
 split
 ·subst_vars
  rw[Lgd,Lge h]at e
  exact e
 ·rfl
section
variable {most:Int} {ys:List Int} {y:Int}
theorem Zj5 (h:most<=(ys.length:Int)):Z08 most ys (1,y)=(ys,(3,0)):=by unfold Z08;rw[if_pos rfl,if_pos h]
theorem Zj6 (h:¬most<=(ys.length:Int)):Z08 most ys (1,y)=(ys++ [y],(1,0)):=by unfold Z08;rw[if_pos rfl,if_neg h]
end
theorem Zj7 {most:Int} {y:Int}:Z08 most [] (2,y)=([],(4,0)):=by unfold Z08;rw[if_neg (show ¬(2:Int)=1 by decide),if_pos rfl];rfl
theorem Zfs {most:Int} {ys:List Int} {z y:Int}:Z08 most (ys++ [z]) (2,y)=(ys,(2,z)):=by
 unfold Z08
 rw[if_neg (show ¬(2:Int)=1 by decide),if_pos rfl,if_neg (by simp)]
 simp
theorem Zmk {most:Int} {ys:List Int} {k y:Int} (h1:k≠1) (h2:k≠2):Z08 most ys (k,y)=(ys,(5,0)):=by
 unfold Z08;rw[if_neg h1,if_neg h2]
section
variable {w:World} {t:TypeId} {g n cap j:Nat} {L:List (Int×Int)}
theorem P2.at_ (h:P2 w t (.slice (some ⟨g,0,none⟩) n cap) L) (hj:j<L.length):w.cell? ⟨g,j*2,none⟩=some (.int .u8 (L.getD j (0,0)).1)/\w.cell? ⟨g,j*2+1,none⟩=some (.int .i32 (L.getD j (0,0)).2)/\(∀i,w.frozen? ⟨g,i,none⟩=false):=by
 obtain⟨g',cap',e,-,-,hc,hf⟩:=h.pos (by omega)
 cases e
 obtain⟨c1,c2⟩:=hc j hj
 rw[show 2*j=j*2 by omega]at c1 c2
 exact⟨c1,c2,hf⟩
theorem P2.set1' (h:P2 w t (.slice (some ⟨g,0,none⟩) n cap) L) (hj:j<L.length) (c:Int) (h0:(L.getD j (0,0)).2=0):P2 (w.setCell ⟨g,j*2,none⟩ (.int .u8 c)) t (.slice (some ⟨g,0,none⟩) n cap) (L.set j (c,0)):=by
 have:=h.set1 rfl j hj c
 rw[h0,show 2*j=j*2 by omega]at this
 exact this
end
theorem Zkw {w w1 w2:World} {s m:Nat} {sv wv vv sv1:Value} (h1:Z01 (fun k=>Z0r s sv k\/Z0r m wv k\/Z14 vv k) w w1) (ho:Z39 w sv sv1) (h2:Z01 (fun k=>Z0r s sv1 k\/Z14 vv k) w1 w2):Z01 (fun k=>Z0r s sv k\/Z0r m wv k\/Z14 vv k) w w2:=
 h1.step h2 (fun i hi e=>by
  rcases e with(e|e)|e
  ·exact .inl (.inl e)
  ·rcases ho with h|h
   ·exact .inl (.inr (h ▸ e))
   ·have:=h i e;omega
  ·exact .inr (.inr e))
theorem Zft {w w1 w2:World} {s m:Nat} {sv wv vv wv1:Value} (h1:Z01 (fun k=>Z0r s sv k\/Z0r m wv k\/Z14 vv k) w w1) (ho:Z39 w wv wv1) (h2:Z01 (Z0r m wv1) w1 w2):Z01 (fun k=>Z0r s sv k\/Z0r m wv k\/Z14 vv k) w w2:=
 h1.step h2 (fun i hi e=>by
  rcases e with e|e
  ·exact .inr (.inl (.inl e))
  ·rcases ho with h|h
   ·exact .inr (.inl (.inr (h ▸ e)))
   ·have:=h i e;omega)
theorem Z9u {w w1 w2:World} {F:Nat->Prop} {B:Nat} (h1:Z01 F w w1) (hB:w.heap.size<=B) (h2:Z01 (fun k=>k=B) w1 w2):Z01 F w w2:=h1.step h2 (fun i hi e=>by omega)
theorem Zoz (w:World) (s m sb ob vb:Nat) (sv wv vv ov:Value) (xs0 Vs0:List Int) (L:List (Int×Int)) (most:Int) (h:AP w s m sb ob vb sv wv vv ov (.slice none 0 0) xs0 [] Vs0 L [] most (xs0.length:Int)) (hV:Vs0=List.replicate L.length 0) (hk:∀p ∈ L,0<=p.1/\p.1<=255) (hl:xs0.length+L.length<=1000000):
 Calls Tryz.prog 187 #[.pointer (some ⟨m,0,none⟩),ov,.func (.func 188) #[] #[.pointer (some ⟨ob,0,none⟩),.pointer (some ⟨vb,0,none⟩)],.func (.func 189) #[] #[.pointer (some ⟨sb,0,none⟩),.pointer (some ⟨vb,0,none⟩)]] w fun e w'=>∃tv sv1 wv1 xs W Vs RR,e= .returned tv/\AP w' s m sb ob vb sv1 wv1 vv ov tv xs W Vs L RR most (xs.length:Int)/\Met most xs0 L L.length xs W Vs RR/\Z39 w sv sv1/\Z39 w wv wv1/\Z01 (fun k=>Z0r s sv k\/Z0r m wv k\/Z14 vv k) w w'/\(∀t,tv.ownBlock=some t->w.heap.size<=t):=by
 obtain⟨n,hn⟩:∃n,L.length=n:=⟨_,rfl⟩
 obtain⟨oo,oc,hov⟩:=h.O.shape
 rw[hn]at hov
 subst hov
 have H:=hi5 h hV hk hl hn
 have hn9:(n:Int)<=1000000:=by omega
 obtain⟨i0,hi,hz0,hz1,hz2⟩:=info_parts Tryz.infoRes
 have hmk:=Z1f 212 43 i0 Tryz.underlying212 hi hz0 hz1 hz2 n (by omega)
 clear h hV hk hl hn hi hz0 hz1 hz2
 go_enter Tryz.func187,Tryz.ntmps187
 go_wp2_with fail
 generalize hB:w.heap.size=B
 generalize hW1:World.alloc _ _=w1
 have T1:P2 w1 43 (.slice (some ⟨B,0,none⟩) n n) (List.replicate n (0,0)):=by rw[<-hW1,<-hB];exact Z3p _ _ _ (by omega)
 have B1:Below w.heap.size w w1:=by rw[<-hW1];go_grown
 have A1:=H.out.1.newT B1 T1 (fun k e=>by have h1:B=k:=Option.some.inj e;omega)
 have M1:Met most xs0 L 0 xs0 [] Vs0 (List.replicate n (0,0)):=⟨by simp[Z09],fun p hp=>(by cases hp),by rw[Llr];exact H.out.2.2.2.2.symm,by rw[H.out.2.1,Llr],fun j=>by
  rw[Lgd,List.getElem?_replicate];split<;>rfl,fun j _=>by
  rw[H.out.2.1,Lgd,List.getElem?_replicate];split<;>rfl,fun j hj=>by omega⟩
 have H1:=hi4 A1 M1 B1 hB
 clear hW1 T1 B1 hB hmk A1 M1
 go_loopw [20] (fun k wr=>∃(i:Nat) (sv1 wv1:Value) (xs W Vs:List Int) (RR:List (Int×Int)),i<=n/\k= .int .i64 i/\AP wr s m sb ob vb sv1 wv1 vv (.slice oo n oc) (.slice (some ⟨B,0,none⟩) n n) xs W Vs L RR most (xs.length:Int)/\Met most xs0 L i xs W Vs RR/\Z39 w sv sv1/\Z39 w wv wv1/\Z01 (fun k=>Z0r s sv k\/Z0r m wv k\/Z14 vv k) w wr) (fun k _=>n-(intOf k).toNat)
 case atStart=>exact⟨0,sv,wv,xs0,[],Vs0,List.replicate n (0,0),Nat.zero_le _,rfl,H1.out.1,H1.out.2.1,.inl rfl,.inl rfl,Z0b H1.out.2.2.1⟩
 case round=>
  obtain⟨i,sv1,wv1,xs,W,Vs,RR,hin,rfl,hA,hMt,hO1,hO2,hK⟩:=hrel
  have yi:(0:Int)<=(i:Int):=by omega
  have HR:=hi5 hA hMt hO1 hO2 hK
  by_cases hlt:i<n
  ·have hlt':(i:Int)<(n:Int):=by omega
   have hlL:i<L.length:=by have:=H.out.2.2.2.2;omega
   obtain⟨og,oc2,hs,-,hgl,hc,-⟩:=hA.O.pos (by omega)
   rw[H.out.2.2.2.2]at hs
   cases hs
   obtain⟨c1,c2⟩:=hc i hlL
   have hkb:=H.out.2.2.1 (L.getD i (0,0)) (by
    rw[Lgd,Lge hlL]
    exact List.getElem_mem _)
   obtain⟨⟨k,y⟩,hky⟩:∃p,L.getD i (0,0)=p:=⟨_,rfl⟩
   rw[hky]at c1 c2 hkb
   rw[show 2*i=i*2 by omega]at c1 c2
   have hrl:i<RR.length:=by have:=hMt.rl;omega
   have zB:B<wr.heap.size:=hA.T.lt rfl
   have HK:=hi4 hkb hky hlL hrl
   obtain⟨t1,t2,tf⟩:=hA.T.at_ hrl
   have tf1:=tf (i*2)
   clear hA hMt hO1 hO2 hK hc hkb hky tf
   go_upto_region 5 with fail
   generalize hQ:wr.heap.size=Q
   generalize hW2:World.alloc _ _=W2
   have BQ:W2.heap[Q]?=some (.cells #[.int .u8 k,.int .i32 y] 47 (0,0)):=by rw[<-hW2];exact Z3a hQ _
   have B2:Below wr.heap.size wr W2:=by rw[<-hW2];go_grown
   have A2:=HR.out.1.below B2
   obtain⟨⟨a0,a1⟩,zQ⟩:=Z0g BQ
   have hBQ:¬B=Q:=by omega
   have hQB:¬Q=B:=by omega
   have r20:=HR.out.2.1.r2 i
   have hWB:w.heap.size<=B:=by have:=H1.out.2.2.2;omega
   have hv0:=Z9t (l:=Vs) (i:=i) (by have:=HR.out.2.1.vl;omega) (HR.out.2.1.v0 i (Nat.le_refl _))
   obtain⟨u1,u2,uf⟩:=A2.T.at_ hrl
   have uf1:=uf (i*2)
   have HS:=hi5 A2 (HR.out.2.2.2.2.trans (Z0b B2)) r20 hv0 hWB
   have hlxs:xs.length+W.length<=1000000:=by
    have h1:=Z41 most (L.take i) xs0
    rw[HR.out.2.1.st,Lla,Llm,List.length_take]at h1
    have h2:=H.out.2.2.2.1
    omega
   clear hQ hW2 BQ B2 A2 c1 c2 t1 t2 tf1 r20 hv0 hWB uf hgl
   by_cases hk1:k=1
   ·subst hk1
    go_wp2_with fail
    generalize hW3:World.setCell _ _ _=W3
    have T3:=HS.out.1.T.set1' (j:=i) hrl 3 HS.out.2.2.1
    have K3:Z01 (fun k=>k=B) W2 W3:=by rw[<-hW3];exact(Z01.refl (fun k=>k=B) W2).setCell (p:=⟨B,i*2,none⟩) (fun _=>rfl) _
    rw[hW3]at T3
    have A3:=HS.out.1.turnT T3 (K3.mono (fun _ _ e=>by rw[e];rfl))
    have HA3:=hi2 A3 (Z9u HS.out.2.1 HS.out.2.2.2.2 K3)
    clear hW3 T3 K3 A3
    by_cases hm:most<=(xs.length:Int)+(W.length:Int)
    ·refine(Zdd W3 m wv1 W (xs.length:Int) most (i:Int) HA3.out.1.M hm (by omega) (by omega) (by omega)).mono ?_
     rintro e w4 ⟨rfl,hb4⟩
     have A4:=Hd (HA3.out.1.below hb4)
     have K4:=Hd (HA3.out.2.trans (Z0b hb4))
     clear hb4
     go_wp2
     go_roundw
     case rel=>exact⟨i+1,sv1,wv1,xs,W,Vs,RR.set i (3,0),by omega,by go_num,A4.out,HR.out.2.1.step hlL HK.out.2.1 (Zj5 (by rw[Lla,Llm];omega)) (fun p hp=>.inl hp) rfl HS.out.2.2.2.1,HR.out.2.2.1,HR.out.2.2.2.1,K4.out⟩
     case measure=>simp[intOf];omega
    ·refine(Zde W3 m wv1 W (xs.length:Int) most (i:Int) HA3.out.1.M (by omega) (by omega) (by omega) (by omega)).mono ?_
     rintro e w4 ⟨rfl,wv2,h4,ho4,hk4⟩
     have A4:=HA3.out.1.turnM h4 ho4 hk4
     obtain⟨u1,u2,uf⟩:=A4.T.at_ (j:=i) (by rw[Lls];exact hrl)
     have uf1:=uf (i*2)
     have HA4:=hi3 A4 (Zft HA3.out.2 HR.out.2.2.2.1 hk4) (HR.out.2.2.2.1.trans ho4 HA3.out.2.size)
     clear A4 h4 ho4 hk4 uf
     go_wp2
     go_roundw
     case rel=>
      have T5:=HA4.out.1.T.set1' (j:=i) (by rw[Lls];exact hrl) 1 (by rw[Z0i _ _ _ _ _ hrl,if_pos rfl])
      rw[List.set_set]at T5
      have K5:Z01 (fun k=>k=B) w4 (w4.setCell ⟨B,i*2,none⟩ (.int .u8 1)):=(Z01.refl (fun k=>k=B) w4).setCell (p:=⟨B,i*2,none⟩) (fun _=>rfl) _
      exact⟨i+1,sv1,wv2,xs,W++ [(i:Int)],Vs,RR.set i (1,0),by omega,by go_num,HA4.out.1.turnT T5 (K5.mono (fun _ _ e=>by rw[e];rfl)),HR.out.2.1.step hlL HK.out.2.1 (by rw[Zj6 (by rw[Lla,Llm];omega),List.map_append,List.append_assoc];simp only[List.map_cons,List.map_nil,Int.toNat_natCast,HK.out.2.1]) (fun p hp=>by rcases List.mem_append.1 hp with h|h;exact .inl h;exact .inr (List.mem_singleton.1 h)) rfl HS.out.2.2.2.1,HR.out.2.2.1,HA4.out.2.2,Z9u HA4.out.2.1 HS.out.2.2.2.2 K5⟩
     case measure=>simp[intOf];omega
   ·by_cases hk2:k=2
    ·subst hk2
     go_wp2_with fail
     generalize hW3:World.setCell _ _ _=W3
     have T3:=HS.out.1.T.set1' (j:=i) hrl 2 HS.out.2.2.1
     have K3:Z01 (fun k=>k=B) W2 W3:=by rw[<-hW3];exact(Z01.refl (fun k=>k=B) W2).setCell (p:=⟨B,i*2,none⟩) (fun _=>rfl) _
     rw[hW3]at T3
     have A3:=HS.out.1.turnT T3 (K3.mono (fun _ _ e=>by rw[e];rfl))
     have HA3:=hi2 A3 (Z9u HS.out.2.1 HS.out.2.2.2.2 K3)
     clear hW3 T3 K3 A3
     have hiV:i<Vs.length:=by have:=HR.out.2.1.vl;omega
     by_cases hW:W.length=0
     ·have hW0:=Lnl hW
      subst hW0
      refine(Zfm W3 m wv1 (xs.length:Int) most HA3.out.1.M).mono ?_
      rintro e w' ⟨rfl,rfl⟩
      go_wp2_with fail
      by_cases hx:xs.length=0
      ·have hx0:=Lnl hx
       subst hx0
       refine(Zbf W3 m wv1 [] most (by simpa using HA3.out.1.M)).mono ?_
       rintro e w' ⟨rfl,rfl⟩
       obtain⟨u1,u2,uf⟩:=HA3.out.1.T.at_ (j:=i) (by rw[Lls];exact hrl)
       have uf1:=uf (i*2)
       clear uf
       go_wp2
       go_roundw
       case rel=>
        have T5:=HA3.out.1.T.set1' (j:=i) (by rw[Lls];exact hrl) 4 (by rw[Z0i _ _ _ _ _ hrl,if_pos rfl])
        rw[List.set_set]at T5
        have K5:Z01 (fun k=>k=B) W3 (W3.setCell ⟨B,i*2,none⟩ (.int .u8 4)):=(Z01.refl (fun k=>k=B) W3).setCell (p:=⟨B,i*2,none⟩) (fun _=>rfl) _
        exact⟨i+1,sv1,wv1,[],[],Vs,RR.set i (4,0),by omega,by go_num,HA3.out.1.turnT T5 (K5.mono (fun _ _ e=>by rw[e];rfl)),HR.out.2.1.step hlL HK.out.2.1 Zj7 (fun p hp=>.inl hp) rfl HS.out.2.2.2.1,HR.out.2.2.1,HR.out.2.2.2.1,Z9u HA3.out.2 HS.out.2.2.2.2 K5⟩
       case measure=>simp[intOf];omega
      ·obtain⟨xs',z,hxz⟩:∃xs' z,xs=xs'++ [z]:=by
        have h2:xs≠[]:=fun e=>hx (by rw[e];rfl)
        exact⟨_,_,(List.dropLast_concat_getLast h2).symm⟩
       subst hxz
       have hbl:((xs'++ [z]).length:Int)=(xs'.length:Int)+1:=by simp
       have hl1:xs'.length<=1000000:=by simp at hlxs;omega
       have hM3:=HA3.out.1.M
       rw[hbl]at hM3
       refine(Zbg W3 m wv1 [] (xs'.length:Int) most hM3 (by omega) (by omega)).mono ?_
       rintro e w4 ⟨rfl,h4,hk4⟩
       have A4:=HA3.out.1.turnM h4 (.inl rfl) (hk4.mono (fun _ _ e=>.inl e))
       have HA4:=hi2 A4 (Zft HA3.out.2 HR.out.2.2.2.1 (hk4.mono (fun _ _ e=>.inl e)))
       clear A4 h4 hk4 hM3 hbl
       go_wp2_with fail
       refine(Zmj w4 sb vb s sv1 vv xs' z most Vs i HA4.out.1.B.cs HA4.out.1.B.cv HA4.out.1.S HA4.out.1.V hiV (fun t e=>⟨fun h=>HA4.out.1.dVB t e (.inl h),fun h=>HA4.out.1.dVB t e (.inr (.inr h)),fun h=>HA4.out.1.dSV t (.inl h) e,fun h=>HA4.out.1.dSV t (.inr h) e⟩) (fun h=>HA4.out.1.dSB s (.inl rfl) (.inl h.symm)) (fun h=>HA4.out.1.dSB s (.inl rfl) (.inr (.inr h.symm))) (by have:=HR.out.2.1.vl;have:=H.out.2.2.2.2;omega) hl1).mono ?_
       rintro e w5 ⟨rfl,V5,sv2,h5,ho5,hk5⟩
       have A5:=HA4.out.1.turnSV h5 V5 (.inl ho5) (hk5.mono (fun _ _ e=>by rcases e with e|e;exact .inl (.inl e);exact .inr e))
       have HA5:=hi3 A5 (Zkw HA4.out.2 HR.out.2.2.1 (hk5.mono (fun _ _ e=>by rcases e with e|e;exact .inl (.inl e);exact .inr e))) (HR.out.2.2.1.trans (.inl ho5) (Nat.le_refl _))
       clear A5 V5 h5 ho5 hk5
       go_wp2
       go_roundw
       case rel=>exact⟨i+1,sv2,wv1,xs',[],Vs.set i z,RR.set i (2,0),by omega,by go_num,HA5.out.1,HR.out.2.1.step hlL HK.out.2.1 (by rw[List.map_nil,List.append_nil,Zfs,List.append_nil]) (fun p hp=>.inl hp) rfl rfl,HA5.out.2.2,HR.out.2.2.2.1,HA5.out.2.1⟩
       case measure=>simp[intOf];omega
     ·obtain⟨W',p,hWp⟩:∃W' p,W=W'++ [p]:=by
       have h2:W≠[]:=fun e=>hW (by rw[e];rfl)
       exact⟨_,_,(List.dropLast_concat_getLast h2).symm⟩
      subst hWp
      obtain⟨hp0,hp1⟩:=HR.out.2.1.wl p (by simp)
      obtain⟨pn,hpn⟩:∃pn:Nat,p=(pn:Int):=⟨p.toNat,by omega⟩
      subst hpn
      have hl2:W'.length<=1000000:=by simp at hlxs;omega
      refine(Zfn W3 m wv1 W' (pn:Int) (xs.length:Int) most HA3.out.1.M hl2).mono ?_
      rintro e w4 ⟨rfl,wv2,h4,ho4,hk4⟩
      have A4:=HA3.out.1.turnM h4 (.inl ho4) (hk4.mono (fun _ _ e=>.inl e))
      have HA4:=hi3 A4 (Zft HA3.out.2 HR.out.2.2.2.1 (hk4.mono (fun _ _ e=>.inl e))) (HR.out.2.2.2.1.trans (.inl ho4) (Nat.le_refl _))
      clear A4 h4 ho4 hk4
      go_wp2_with fail
      refine(Zmi w4 ob vb _ vv L Vs i pn HA4.out.1.B.co HA4.out.1.B.cv HA4.out.1.O HA4.out.1.V hiV (by omega) (fun t e=>⟨fun h=>HA4.out.1.dVB t e (.inr (.inl h)),fun h=>HA4.out.1.dVB t e (.inr (.inr h)),fun h=>HA4.out.1.dVO t e h⟩) (by have:=HR.out.2.1.vl;have:=H.out.2.2.2.2;omega) (by have:=H.out.2.2.2.2;omega)).mono ?_
      rintro e w5 ⟨rfl,V5,hk5⟩
      have A5:=HA4.out.1.turnV V5 hk5
      have HA5:=hi2 A5 (Zkw HA4.out.2.1 HR.out.2.2.1 (hk5.mono (fun _ _ e=>.inr e)))
      clear A5 V5 hk5
      go_wp2
      go_roundw
      case rel=>exact⟨i+1,sv1,wv2,xs,W',Vs.set i (L.getD pn (0,0)).2,RR.set i (2,0),by omega,by go_num,HA5.out.1,HR.out.2.1.step hlL HK.out.2.1 (by rw[List.map_append,<-List.append_assoc,List.map_cons,List.map_nil,Zfs,Int.toNat_natCast]) (fun p hp=>.inl (by simp[hp])) rfl rfl,HR.out.2.2.1,HA4.out.2.2,HA5.out.2⟩
      case measure=>simp[intOf];omega
    ·have hb1:(k == 1)=false:=beq_eq_false_iff_ne.2 hk1
     have hb2:(k == 2)=false:=beq_eq_false_iff_ne.2 hk2
     go_wp2
     go_roundw
     case rel=>
      have T5:=HS.out.1.T.set1' (j:=i) hrl 5 HS.out.2.2.1
      have K5:Z01 (fun k=>k=B) W2 (W2.setCell ⟨B,i*2,none⟩ (.int .u8 5)):=(Z01.refl (fun k=>k=B) W2).setCell (p:=⟨B,i*2,none⟩) (fun _=>rfl) _
      exact⟨i+1,sv1,wv1,xs,W,Vs,RR.set i (5,0),by omega,by go_num,HS.out.1.turnT T5 (K5.mono (fun _ _ e=>by rw[e];rfl)),HR.out.2.1.step hlL HK.out.2.1 (Zmk hk1 hk2) (fun p hp=>.inl hp) rfl HS.out.2.2.2.1,HR.out.2.2.1,HR.out.2.2.2.1,Z9u HS.out.2.1 HS.out.2.2.2.2 K5⟩
     case measure=>simp[intOf];omega
  ·obtain rfl:i=n:=by omega
   have HZ:=hi5 hA hMt hO1 hO2 hK
   clear hA hMt hO1 hO2 hK
   go_wp2
   go_ret
   exact⟨_,sv1,wv1,xs,W,Vs,RR,rfl,HZ.out.1,by have h1:=HZ.out.2.1;rwa [<-H.out.2.2.2.2]at h1,HZ.out.2.2.1,HZ.out.2.2.2.1,HZ.out.2.2.2.2,fun t e=>by have h1:B=t:=Option.some.inj e;have:=H1.out.2.2.2;omega⟩
theorem Z1j.cellAt {w:World} {g n cap j:Nat} {xs:List Int} (h:Z1j w (.slice (some ⟨g,0,none⟩) n cap) xs) (hj:j<xs.length):w.cell? ⟨g,j,none⟩=some (.int .i64 (xs.getD j 0)):=by
 obtain⟨g',cap',cur,e,hg,-,-,hc,-⟩:=h.pos (by omega)
 cases e
 exact hc j hj
theorem Z5a {l:List Int} {i:Nat} (h:i<l.length):l.take (i+1)=l.take i++ [l.getD i 0]:=by
 rw[List.take_succ_eq_append_getElem h,Lgd,Lge h];rfl
theorem Zml (w:World) (mb s m sb ob vb:Nat) (sv wv vv ov tv:Value) (xs W Vs:List Int) (L RR:List (Int×Int)) (most bl:Int) (h:AP w s m sb ob vb sv wv vv ov tv xs W Vs L RR most bl) (hmb:w.cell? ⟨mb,0,none⟩=some (.pointer (some ⟨m,0,none⟩))) (hms:¬Z0r s sv mb) (hroom:(xs.length:Int)+(W.length:Int)<=most) (hw:∀p ∈ W,0<=p/\p<(L.length:Int)) (hl:xs.length+W.length<=1000000) (hl2:L.length<=1000000) (u:FrameMode):
 CallsD Tryz.prog 185 #[.pointer (some ⟨mb,0,none⟩),.pointer (some ⟨sb,0,none⟩),.pointer (some ⟨ob,0,none⟩)] u w fun e u' w'=>u'=u/\(e= .returned (.tuple #[])/\∃sv',Z2c w' s sv' (xs++W.map (fun p:Int=>(L.getD p.toNat (0,0)).2)) most/\Z39 w sv sv'/\Z01 (Z0r s sv) w w'):=by
 obtain⟨wo,wc,hwv⟩:=h.M.row.shape
 obtain⟨n,hn⟩:∃n,W.length=n:=⟨_,rfl⟩
 rw[hn]at hwv
 subst hwv
 obtain⟨c0,c1,c2,-,hml⟩:=h.M.cells
 have H:=hi5 h hmb hms hw hn
 have hn9:(n:Int)<=1000000:=by omega
 have hr9:(xs.length:Int)+(n:Int)<=most:=by omega
 have hx9:xs.length+n<=1000000:=by omega
 clear h hms hroom hw hl hn
 go_enter_d Tryz.func185,Tryz.ntmps185
 go_wp2_with fail
 go_loopw [10] (fun k wr=>∃(j:Nat) (sv1:Value),j<=n/\k= .int .i64 j/\Z2c wr s sv1 (xs++(W.take j).map (fun p:Int=>(L.getD p.toNat (0,0)).2)) most/\Z39 w sv sv1/\Z01 (Z0r s sv) w wr) (fun k _=>n-(intOf k).toNat)
 case atStart=>exact⟨0,sv,Nat.zero_le _,rfl,by simpa using H.out.1.S,.inl rfl,Z01.refl _ _⟩
 case round=>
  obtain⟨j,sv1,hjn,rfl,hS,hO,hK⟩:=hrel
  have yj:(0:Int)<=(j:Int):=by omega
  have HR:=hi3 hS hO hK
  by_cases hlt:j<n
  ·have hlt':(j:Int)<(n:Int):=by omega
   have hjW:j<W.length:=by have:=H.out.2.2.2.2;omega
   have hMr:=H.out.1.M.row.kept hK (fun t e hh=>H.out.1.dSM t hh (.inr e))
   obtain⟨wg,wc2,cur,hs,-,-,-,hc,-⟩:=hMr.pos (by omega)
   rw[H.out.2.2.2.2]at hs
   cases hs
   have cw:=hc j hjW
   have hpm:=H.out.2.2.2.1 (W.getD j 0) (by
    rw[Lgd,Lge hjW]
    exact List.getElem_mem _)
   have hsn:=Z5a hjW
   obtain⟨p,hp⟩:∃p,W.getD j 0=p:=⟨_,rfl⟩
   rw[hp]at cw hpm hsn
   obtain⟨pn,rfl⟩:∃pn:Nat,p=(pn:Int):=⟨p.toNat,by omega⟩
   have hpL:pn<L.length:=by omega
   have hOr:=H.out.1.O.kept hK (fun t e hh=>H.out.1.dSO t hh e)
   obtain⟨oo,oc,hov⟩:=hOr.shape
   have hBr:=H.out.1.B.kept hK H.out.1.dSB
   obtain⟨og,oc2,hs2,-,-,hc2,-⟩:=hOr.pos (by omega)
   obtain⟨-,d2⟩:=hc2 pn hpL
   rw[show 2*pn+1=pn*2+1 by omega]at d2
   obtain⟨y,hy⟩:∃y,(L.getD pn (0,0)).2=y:=⟨_,rfl⟩
   rw[hy]at d2
   have b1:=hBr.cs
   have b2:=hBr.co
   rw[hs2]at b2
   have hpi:(pn:Int)<(L.length:Int):=by omega
   have hp0:(0:Int)<=(pn:Int):=by omega
   have hoS:¬Z0r s sv og:=fun e=>H.out.1.dSO og e (by rw[hs2];rfl)
   have hz1:=Blt wr _ b1
   have hz2:=Blt wr _ b2
   have hz3:=Blt wr _ d2
   have hF1:∀b,b<w.heap.size->¬Z0r s sv b->¬Z0r s sv1 b:=fun b hb hn' e=>by
    rcases e with e|e
    ·exact hn' (.inl e)
    ·rcases hO with h|h
     ·exact hn' (.inr (h ▸ e))
     ·have:=h b e;omega
   have g1:¬Z0r s sv1 sb:=hF1 sb (H.out.1.B.lt sb (.inl rfl)) (fun e=>H.out.1.dSB sb e (.inl rfl))
   have g2:¬Z0r s sv1 ob:=hF1 ob (H.out.1.B.lt ob (.inr (.inl rfl))) (fun e=>H.out.1.dSB ob e (.inr (.inl rfl)))
   have g3:¬Z0r s sv1 og:=hF1 og (H.out.1.O.lt (by rw[hs2];rfl)) hoS
   have e1:=((Brf wr.heap.size wr).drew.cell (p:=⟨sb,0,none⟩) hz1).trans b1
   have e2:=((Brf wr.heap.size wr).drew.cell (p:=⟨ob,0,none⟩) hz2).trans b2
   have e3:=((Brf wr.heap.size wr).drew.cell (p:=⟨og,pn*2+1,none⟩) hz3).trans d2
   have z1:sb<wr.drew.heap.size:=hz1
   have z2:ob<wr.drew.heap.size:=hz2
   have z3:og<wr.drew.heap.size:=hz3
   have hml:(xs++(W.take j).map (fun p:Int=>(L.getD p.toNat (0,0)).2)).length=xs.length+j:=by rw[Lla,Llm,List.length_take];omega
   have HG:=hi9 hsn hy hpL g1 g2 g3 e1 e2 e3
   have hrm:((xs++(W.take j).map (fun p:Int=>(L.getD p.toNat (0,0)).2)).length:Int)<most:=by rw[hml];omega
   have hln:(xs++(W.take j).map (fun p:Int=>(L.getD p.toNat (0,0)).2)).length<=1000000:=by rw[hml];omega
   clear hS hO hK hc hc2 hMr hOr hBr hov hs2 hsn hy hpm hp hoS hF1 g1 g2 g3 e1 e2 e3 hml hz1 hz2 hz3 c0 c1 c2 hpL
   go_wp2_with fail
   go_region_held3 (fun wz=>wz.cell? ⟨sb,0,none⟩=some (.pointer (some ⟨s,0,none⟩))/\wz.cell? ⟨ob,0,none⟩=some (.slice (some ⟨og,0,none⟩) L.length oc2)/\wz.cell? ⟨og,pn*2+1,none⟩=some (.int .i32 y))
    (first|(exact⟨b1,b2,d2⟩)|(exact⟨v1,v2,v3⟩))
    (first|(go_at_call 186;go_split_ands;with_reducible refine(Z7m _ s sv1 _ most y (HR.out.1.below (Brf _ _).drew) hrm hln).mono ?_;rintro e w3 ⟨rfl,sv2,h3,ho3,hk3⟩;have v1:=(hk3.cell (p:=⟨sb,0,none⟩) z1 HG.out.2.2.2.1).trans HG.out.2.2.2.2.2.2.1;have v2:=(hk3.cell (p:=⟨ob,0,none⟩) z2 HG.out.2.2.2.2.1).trans HG.out.2.2.2.2.2.2.2.1;have v3:=(hk3.cell (p:=⟨og,pn*2+1,none⟩) z3 HG.out.2.2.2.2.2.1).trans HG.out.2.2.2.2.2.2.2.2;have H3:=hi3 h3 ho3 hk3;clear h3 ho3 hk3))
   all_goals
    go_wp2_with fail
    go_roundw
    case rel=>exact⟨j+1,sv2,by omega,by go_num,by
     have h1:=H3.out.1
     rw[List.append_assoc]at h1
     rw[HG.out.1,List.map_append,List.map_cons,List.map_nil,Int.toNat_natCast,HG.out.2.1]
     exact h1,HR.out.2.1.trans H3.out.2.1 HR.out.2.2.size,Z8a HR.out.2.2 HR.out.2.1 ((Z01.refl (Z0r s sv1) wr).drew.trans H3.out.2.2)⟩
    case measure=>simp[intOf];omega
  ·obtain rfl:j=n:=by omega
   have hWt:W.take j=W:=List.take_of_length_le (by have:=H.out.2.2.2.2;omega)
   rw[hWt]at hS
   have HZ:=hi3 hS hO hK
   clear hS hO hK
   go_wp2
   go_end0
   exact⟨rfl,sv1,HZ.out⟩
end
end Go.Proofs.YtihljjgmkaeohaaGreat
