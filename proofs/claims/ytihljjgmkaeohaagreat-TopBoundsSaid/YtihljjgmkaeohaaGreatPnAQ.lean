/- part 17 -/
import Derived.OrdersIn
import Derived.Sort.LoopGhostIn
import Derived.Test.YtihljjgmkaeohaaGreatPnAL
import Derived.Test.YtihljjgmkaeohaaGreatPnAM
import Derived.Test.YtihljjgmkaeohaaGreatPnAO
set_option linter.all false
set_option maxHeartbeats 16000000
set_option maxRecDepth 100000
namespace Go.Proofs.YtihljjgmkaeohaaGreat
section
open Go.RowKit Go.ChangeShapes Go.WideShapes Go.ChangeAt Go.Deep
def Z2k (L:List (Int×Int)) (n:Nat):List Int:=(Z3j n).filter (fun a=>kOf L a == 1)
def Z3f (L:List (Int×Int)) (n:Nat):List Int:=(Z3j n).filter (fun a=>!(kOf L a == 1))
theorem Z3u (n:Nat):Z3j (n+1)=Z3j n++ [(n:Int)]:=by simp[Z3j,List.range_succ]
section
variable {L:List (Int×Int)} {n:Nat}
theorem Zgh (h:kOf L (n:Int)=1):Z2k L (n+1)=Z2k L n++ [(n:Int)]:=by
 unfold Z2k;rw[Z3u,List.filter_append,List.filter_cons,List.filter_nil,h];rfl
theorem Zjt (h:kOf L (n:Int)≠1):Z2k L (n+1)=Z2k L n:=by
 unfold Z2k;rw[Z3u,List.filter_append,List.filter_cons,List.filter_nil,beq_eq_false_iff_ne.2 h];simp
theorem Zju (h:kOf L (n:Int)=1):Z3f L (n+1)=Z3f L n:=by
 unfold Z3f;rw[Z3u,List.filter_append,List.filter_cons,List.filter_nil,h];simp
theorem Zn2 (h:kOf L (n:Int)≠1):Z3f L (n+1)=Z3f L n++ [(n:Int)]:=by
 unfold Z3f;rw[Z3u,List.filter_append,List.filter_cons,List.filter_nil,beq_eq_false_iff_ne.2 h];rfl
end
theorem Z5z (n:Nat):(Z3j n).Pairwise (fun a b=>a<b):=by
 refine List.pairwise_iff_getElem.2 (fun i j hi hj hij=>?_)
 have e1:=Z4u (n:=n) (j:=i) (by rw[Z4t]at hi;exact hi)
 have e2:=Z4u (n:=n) (j:=j) (by rw[Z4t]at hj;exact hj)
 unfold at0 at e1 e2
 rw[Lgd,Lge hi]at e1
 rw[Lgd,Lge hj]at e2
 have e1':(Z3j n)[i]=(i:Int):=e1
 have e2':(Z3j n)[j]=(j:Int):=e2
 rw[e1',e2'];omega
section
variable (L:List (Int×Int)) (n:Nat)
theorem Zgi:∀i j,i<j->j<(Z2k L n).length->at0 (Z2k L n) i<at0 (Z2k L n) j:=fun i j hij hj=>by
 have:=List.pairwise_iff_getElem.1 ((Z5z n).filter (fun a=>kOf L a == 1)) i j (by unfold Z2k at hj;omega) (by unfold Z2k at hj;exact hj) hij
 unfold at0
 rw[Lgd,Lgd,Lge (show i<(Z2k L n).length by omega),Lge hj]
 exact this
theorem Za5:(Z2k L n).length<=n:=by
 have:=List.length_filter_le (fun a=>kOf L a == 1) (Z3j n)
 rwa [Z4t]at this
theorem Z4x:(Z3f L n).length<=n:=by
 have:=List.length_filter_le (fun a=>!(kOf L a == 1)) (Z3j n)
 rwa [Z4t]at this
end
theorem Z31.of_parts {L:List (Int×Int)} {ys:List Int} (h32:Z8f L) (hp:ys.Perm (Z2k L L.length)) (hs:ys.Pairwise (Rk (vOf L))):Z31 3 L (ys++Z3f L L.length):=by
 refine⟨fun h=>absurd rfl h,fun _=>⟨?_,?_⟩⟩
 ·refine(List.Perm.append_right _ hp).trans ?_
  exact List.filter_append_perm _ _
 ·have hy:∀a ∈ ys,kOf L a=1:=fun a ha=>by
   have:=(List.mem_filter.1 (hp.subset ha)).2
   simpa using this
  have ho:∀a ∈ Z3f L L.length,kOf L a≠1:=fun a ha=>by
   have:=(List.mem_filter.1 ha).2
   simpa using this
  refine List.pairwise_append.2 ⟨?_,?_,fun a ha b hb=>?_⟩
  ·refine hs.imp_of_mem (fun {a b} ha hb h=>?_)
   unfold Rk Zj3 at*
   rw[if_pos (hy a ha),if_pos (hy b hb)];exact h
  ·refine((Z5z L.length).filter _).imp_of_mem (fun {a b} ha hb h=>?_)
   unfold Rk Zj3
   rw[if_neg (ho a ha),if_neg (ho b hb)];exact .inr ⟨rfl,h⟩
  ·unfold Rk Zj3
   rw[if_pos (hy a ha),if_neg (ho b hb)]
   have:=h32.at_ a
   exact .inl (by omega)
theorem Zcl (w:World) (ov:Value) (L:List (Int×Int)) (hO:P2 w 47 ov L) (h9:L.length<=1000000):
 Calls Tryz.prog 232 #[ov] w fun e w'=>∃pv qv ys,e= .returned (.tuple #[pv,qv])/\Z1j w' pv ys/\ys.Perm (Z2k L L.length)/\ys.Pairwise (Rk (vOf L))/\Z1j w' qv (Z3f L L.length)/\(∀t,pv.ownBlock=some t->w.heap.size<=t/\qv.ownBlock≠some t)/\(∀t,qv.ownBlock=some t->w.heap.size<=t)/\Below w.heap.size w w':=by
 obtain⟨n,hn⟩:∃n,L.length=n:=⟨_,rfl⟩
 obtain⟨oo,oc,hov⟩:=hO.shape
 rw[hn]at hov
 subst hov
 have H:=hi2 hO hn
 rw[hn]at h9 |-
 obtain⟨i0,hi,hz0,hz1,hz2⟩:=info_parts Tryz.infoIntM
 clear hO hn
 go_enter Tryz.func232,Tryz.ntmps232
 go_wp2_with fail
 go_loopw [2,3,8] (fun k2 k3 k8 wr=>∃(i:Nat),i<=n/\k8= .int .i64 i/\Z1j wr k2 (Z2k L i)/\Z1j wr k3 (Z3f L i)/\(∀t,k2.ownBlock=some t->w.heap.size<=t/\k3.ownBlock≠some t)/\(∀t,k3.ownBlock=some t->w.heap.size<=t)/\Below w.heap.size w wr) (fun _ _ k8 _=>n-(intOf k8).toNat)
 case atStart=>exact⟨0,Nat.zero_le _,rfl,Z1j.nil _,Z1j.nil _,fun t e=>(by cases e),fun t e=>(by cases e),Brf _ _⟩
 case round=>
  obtain⟨i,hin,rfl,hP,hQ,hd,hq,hB⟩:=hrel
  have yi:(0:Int)<=(i:Int):=by omega
  obtain⟨pa,pc,rfl⟩:=hP.shape
  obtain⟨qa,qc,rfl⟩:=hQ.shape
  have lp:=Za5 L i
  have lq:=Z4x L i
  by_cases hlt:i<n
  ·have hlt':(i:Int)<(n:Int):=by omega
   have hlL:i<L.length:=by have:=H.out.2;omega
   have hOr:=H.out.1.below hB
   obtain⟨og,oc2,hs,-,hgl,hc,-⟩:=hOr.pos (by omega)
   rw[H.out.2]at hs
   cases hs
   obtain⟨c1,c2⟩:=hc i hlL
   have hkd:kOf L (i:Int)=(L.getD i (0,0)).1:=by unfold kOf;rw[Int.toNat_natCast]
   obtain⟨⟨k,y⟩,hky⟩:∃p,L.getD i (0,0)=p:=⟨_,rfl⟩
   rw[hky]at c1 c2 hkd
   rw[show 2*i=i*2 by omega]at c1 c2
   have wz:IntKind.i64.wrap ((i:Int)+1)=((i+1:Nat):Int):=by rw[show(i:Int)+1=((i+1:Nat):Int) by omega];exact I6n _ (by omega)
   have HR:=hi6 hP hQ hd hq hB hkd
   clear hP hQ hd hq hB hOr hc hkd hky hgl
   go_upto_region 4 with fail
   generalize hW2:World.alloc _ _=W2
   have B2:Below wr.heap.size wr W2:=by rw[<-hW2];go_grown
   have BQ:W2.heap[wr.heap.size]?=some (.cells #[.int .u8 k,.int .i32 y] 47 (0,0)):=by rw[<-hW2];exact Han _ _
   obtain⟨⟨a0,a1⟩,zQ⟩:=Z0g BQ
   have HB2:=Hd B2
   clear hW2 B2 BQ c1 c2
   by_cases hk1:k=1
   ·subst hk1
    have hP2:=HR.out.1.below HB2.out
    have HU:=Hd (fun(u:World) (hu:Below W2.heap.size W2 u)=>hP2.below hu)
    clear hP2
    go_wp2_with (at_builtin;refine Z0c _ rfl _ _ 33 rfl 0 0 3 i0 (.int .i64 0) 1 8 Tryz.underlying33 hi hz0 hz1 hz2 rfl (by decide) _ _ _ rfl (HU.out _ (by go_grown)) _ 1 _ rfl (Z3e (vs:= [(i:Int)]) (Han _ _) rfl (by omega)) (fun v hv=>(by obtain⟨q,_,rfl⟩:=List.mem_map.1 hv;rfl)) ?c3 ?c4 ?c5 ?_)
    try case c3=>unfold maxLen;omega
    try case c4=>omega
    try case c5=>exact Nat.zero_le _
    intro v5 w5 own5 gr5 _ loc5
    have R5:Z1j w5 v5 ((Z2k L i)++ [(i:Int)]):=Z1j.of own5 (by simp) (by simp)
    have K5:Z01 (fun k=>(Value.slice pa (Z2k L i).length pc).ownBlock=some k) W2 w5:=((Z01.refl _ W2).alloc _).grown gr5 (fun k e _=>e)
    have L5:∀t,v5.ownBlock=some t->(Value.slice pa (Z2k L i).length pc).ownBlock=some t\/W2.heap.size<=t:=fun t e=>by
     rcases loc5 with h|h
     ·exact .inl (h ▸ e)
     ·rw[e]at h;simp at h;exact .inr (by omega)
    have H5:=hi3 R5 K5 L5
    clear own5 gr5 loc5 R5 K5 L5
    go_wp2
    go_roundw
    case rel=>
     obtain⟨R5,K5,L5⟩:=H5.out
     obtain⟨hP,hQ,hd,hq,hB,hkd⟩:=HR.out
     have hs2:=HB2.out.size
     have hs1:=hB.size
     refine⟨i+1,by omega,by go_num,by rw[Zgh hkd];exact R5,by rw[Zju hkd];exact(hQ.below HB2.out).kept K5 (fun t e f=>(hd t f).2 e),fun t e=>?_,hq,(hB.trans (HB2.out.mono hB.size)).trans (K5.below (Nat.le_trans hs1 hs2) (fun k hk e=>by have:=(hd k e).1;omega))⟩
     rcases L5 t e with h|h
     ·exact hd t h
     ·exact⟨by omega,fun e2=>by have:=hQ.lt e2;omega⟩
    case measure=>simp[intOf];omega
   ·have hb1:(k == 1)=false:=beq_eq_false_iff_ne.2 hk1
    have hQ2:=HR.out.2.1.below HB2.out
    have HU:=Hd (fun(u:World) (hu:Below W2.heap.size W2 u)=>hQ2.below hu)
    clear hQ2
    go_wp2_with (at_builtin;refine Z0c _ rfl _ _ 33 rfl 0 0 3 i0 (.int .i64 0) 1 8 Tryz.underlying33 hi hz0 hz1 hz2 rfl (by decide) _ _ _ rfl (HU.out _ (by go_grown)) _ 1 _ rfl (Z3e (vs:= [(i:Int)]) (Han _ _) rfl (by omega)) (fun v hv=>(by obtain⟨q,_,rfl⟩:=List.mem_map.1 hv;rfl)) ?c3 ?c4 ?c5 ?_)
    try case c3=>unfold maxLen;omega
    try case c4=>omega
    try case c5=>exact Nat.zero_le _
    intro v5 w5 own5 gr5 _ loc5
    have R5:Z1j w5 v5 ((Z3f L i)++ [(i:Int)]):=Z1j.of own5 (by simp) (by simp)
    have K5:Z01 (fun k=>(Value.slice qa (Z3f L i).length qc).ownBlock=some k) W2 w5:=((Z01.refl _ W2).alloc _).grown gr5 (fun k e _=>e)
    have L5:∀t,v5.ownBlock=some t->(Value.slice qa (Z3f L i).length qc).ownBlock=some t\/W2.heap.size<=t:=fun t e=>by
     rcases loc5 with h|h
     ·exact .inl (h ▸ e)
     ·rw[e]at h;simp at h;exact .inr (by omega)
    have H5:=hi3 R5 K5 L5
    clear own5 gr5 loc5 R5 K5 L5
    go_wp2
    go_roundw
    case rel=>
     obtain⟨R5,K5,L5⟩:=H5.out
     obtain⟨hP,hQ,hd,hq,hB,hkd⟩:=HR.out
     have hs2:=HB2.out.size
     have hs1:=hB.size
     have hkd':kOf L (i:Int)≠1:=by rw[hkd];exact hk1
     refine⟨i+1,by omega,by go_num,by rw[Zjt hkd'];exact(hP.below HB2.out).kept K5 (fun t e f=>(hd t e).2 f),by rw[Zn2 hkd'];exact R5,fun t e=>⟨(hd t e).1,fun e2=>?_⟩,fun t e=>?_,(hB.trans (HB2.out.mono hB.size)).trans (K5.below (Nat.le_trans hs1 hs2) (fun k hk e=>by have:=hq k e;omega))⟩
     ·rcases L5 t e2 with h|h
      ·exact(hd t e).2 h
      ·have:=hP.lt e;omega
     ·rcases L5 t e with h|h
      ·exact hq t h
      ·omega
    case measure=>simp[intOf];omega
  ·obtain rfl:i=n:=by omega
   have hin2:∀x ∈ Z2k L i,0<=x/\x<(L.length:Int):=fun x hx=>by
    have:=Z4v.1 (List.mem_filter.1 hx).1
    have:=H.out.2;omega
   have cB:=Zp8 wr _ _ L (Z2k L i) (H.out.1.below hB) hP hin2 (Zgi L i) (fun t e f=>by have:=(hd t e).1;have:=H.out.1.lt f;omega) (by have:=H.out.2;omega) (by omega)
   have HR:=hi4 hQ hd hq hB
   clear hP hQ hd hq hB hin2
   go_wp2_with fail
   refine cB.mono ?_
   rintro e w3 ⟨rfl,ys,h3,r3,r4,k3⟩
   have H3:=hi4 h3 r3 r4 k3
   clear h3 r3 r4 k3 cB
   go_wp2
   refine bodyPost_ret (v:=.tuple #[.slice pa (Z2k L i).length pc,.slice qa (Z3f L i).length qc]) (by simp[results,Tryz.results232,go_sem]) rfl ?_
   exact⟨_,_,ys,rfl,H3.out.1,H3.out.2.1,H3.out.2.2.1,HR.out.1.kept H3.out.2.2.2 (fun t e f=>(HR.out.2.1 t f).2 e),HR.out.2.1,HR.out.2.2.1,HR.out.2.2.2.trans (H3.out.2.2.2.below HR.out.2.2.2.size (fun k hk e=>by have:=(HR.out.2.1 k e).1;omega))⟩
def Z0u (most:Int) (xs:List Int) (o:Int×Int):List Int×(Int×Int):=
 if o.1=1 then(if most<=(xs.length:Int)then(xs,(3,0))else(Z5t o.2 xs,(1,0)))
 else if o.1=2 then(if xs.length=0 then(xs,(4,0))else(xs.tail,(2,xs.getD 0 0)))else(xs,(5,0))
def Za6 (most:Int) (L:List (Int×Int)) (st:List Int×List (Int×Int)) (a:Int):List Int×List (Int×Int):=
 ((Z0u most st.1 (L.getD a.toNat (0,0))).1,st.2.set a.toNat (Z0u most st.1 (L.getD a.toNat (0,0))).2)
def Z0n (most:Int) (L:List (Int×Int)) (st:List Int×List (Int×Int)) (ord:List Int):List Int×List (Int×Int):=ord.foldl (Za6 most L) st
section
variable (most:Int) (L:List (Int×Int)) (st:List Int×List (Int×Int))
theorem Z27 (ord:List Int) (a:Int):Z0n most L st (ord++ [a])=Za6 most L (Z0n most L st ord) a:=by
 unfold Z0n;rw[List.foldl_append];rfl
theorem Z4y (o1 o2:List Int):Z0n most L st (o1++o2)=Z0n most L (Z0n most L st o1) o2:=by
 unfold Z0n;rw[List.foldl_append]
end
theorem Z20 (most:Int) (L:List (Int×Int)):∀(ord:List Int) (st:List Int×List (Int×Int)),(Z0n most L st ord).2.length=st.2.length
 | [],st=>rfl
 |a::l,st=>by
  have:=Z20 most L l (Za6 most L st a)
  unfold Z0n at this |-
  rw[List.foldl_cons,this]
  simp[Za6]
theorem Z4z (most:Int) (L:List (Int×Int)) (p:Nat):∀(ord:List Int) (st:List Int×List (Int×Int)),(∀x ∈ ord,x.toNat≠p)->(Z0n most L st ord).2.getD p (0,0)=st.2.getD p (0,0)
 | [],st,_=>rfl
 |a::l,st,h=>by
  have:=Z4z most L p l (Za6 most L st a) (fun x hx=>h x (List.mem_cons_of_mem _ hx))
  unfold Z0n at this |-
  rw[List.foldl_cons,this]
  have h2:=h a List.mem_cons_self
  simp only[Za6]
  rw[Lgd,List.getElem?_set,if_neg h2,Lgd]
theorem Zp9 {most:Int} {xs:List Int} {k y:Int} (h1:k≠1) (h2:k≠2):Z0u most xs (k,y)=(xs,(5,0)):=by unfold Z0u;rw[if_neg h1,if_neg h2]
section
variable {most:Int} {xs:List Int} {y:Int}
theorem Zn3 (h:xs.length=0):Z0u most xs (2,y)=(xs,(4,0)):=by unfold Z0u;rw[if_neg (show ¬(2:Int)=1 by decide),if_pos rfl,if_pos h]
theorem Zpa (h:¬xs.length=0):Z0u most xs (2,y)=(xs.tail,(2,xs.getD 0 0)):=by unfold Z0u;rw[if_neg (show ¬(2:Int)=1 by decide),if_pos rfl,if_neg h]
theorem Zgj (h:most<=(xs.length:Int)):Z0u most xs (1,y)=(xs,(3,0)):=by unfold Z0u;rw[if_pos rfl,if_pos h]
theorem Zl2 (h:¬most<=(xs.length:Int)):Z0u most xs (1,y)=(Z5t y xs,(1,0)):=by unfold Z0u;rw[if_pos rfl,if_neg h]
end
theorem Z3g {most:Int} {L:List (Int×Int)} {xs xs':List Int} {T:List (Int×Int)} {a:Nat} {k y c d:Int} (hk:L.getD a (0,0)=(k,y)) (hs:Z0u most xs (k,y)=(xs',(c,d))):Za6 most L (xs,T) (a:Int)=(xs',T.set a (c,d)):=by
 unfold Za6;rw[Int.toNat_natCast,hk];simp only[hs]
section
variable {w:World} {t:TypeId} {g n cap j:Nat} {L:List (Int×Int)}
theorem Z43 (h:P2 w t (.slice (some ⟨g,0,none⟩) n cap) L) (hj:j<L.length) (c:Int) (h0:(L.getD j (0,0)).2=0):P2 (w.setCell ⟨g,j*2,none⟩ (.int .u8 c)) t (.slice (some ⟨g,0,none⟩) n cap) (L.set j (c,0)):=by
 have:=h.set1 (g:=g) rfl j hj c
 rw[h0]at this
 rwa [Nat.mul_comm]at this
theorem Zn4 (h:P2 w t (.slice (some ⟨g,0,none⟩) n cap) L) (hj:j<L.length) (c d:Int):P2 ((w.setCell ⟨g,j*2,none⟩ (.int .u8 c)).setCell ⟨g,j*2+1,none⟩ (.int .i32 d)) t (.slice (some ⟨g,0,none⟩) n cap) (L.set j (c,d)):=by
 have:=h.set (g:=g) rfl j hj c d
 rwa [Nat.mul_comm]at this
end
theorem Zdt (ts:List Tw) (h:0<ts.length):(ts.map (·.v)).getD 0 0=(ts.getD 0 twD).v:=by
 cases ts with
 |nil=>simp at h
 |cons t l=>rfl
theorem Zcm {s:Nat} {ts:List Tw}:∀k,SkF s ts.tail k->SkF s ts k:=fun k e=>by
 rcases e with e|⟨j,hj,e⟩
 ·exact .inl e
 ·refine .inr ⟨j+1,by rw[List.length_tail]at hj;omega,?_⟩
  cases ts with
  |nil=>simp at hj
  |cons t l=>exact e
theorem Z8p {α:Type} (l:List α) (n:Nat) (a b:α):(l.set n a).set n b=l.set n b:=by simp
abbrev RsF (s:Nat) (ts:List Tw) (tv:Value):Nat->Prop:=fun k=>SkF s ts k\/tv.ownBlock=some k
theorem Zcn (w:World) (s:Nat) (ts:List Tw) (most:Int) (nx:Nat->Nat->Option Nat) (ov qv tv:Value) (L T0:List (Int×Int)) (oth:List Int) (hS:SkP w s ts most nx) (hO:P2 w 47 ov L) (hQ:Z1j w qv oth) (hT:P2 w 43 tv T0) (hl:T0.length=L.length)
 (hin:∀x ∈ oth,0<=x/\x<(L.length:Int)/\kOf L x≠1) (hz:∀x ∈ oth,(T0.getD x.toNat (0,0)).2=0) (hnd:∀i j,i<j->j<oth.length->at0 oth i<at0 oth j)
 (d1:∀t,tv.ownBlock=some t->qv.ownBlock≠some t/\ov.ownBlock≠some t/\¬SkF s ts t) (d2:∀t,SkF s ts t->qv.ownBlock≠some t/\ov.ownBlock≠some t) (h9:oth.length<=1000000):
 Calls Tryz.prog 236 #[.pointer (some ⟨s,0,none⟩),ov,qv,tv] w fun e w'=>e= .returned tv/\P2 w' 43 tv (Z0n most L (ts.map (·.v),T0) oth).2/\∃ts' nx',SkP w' s ts' most nx'/\ts'.map (·.v)=(Z0n most L (ts.map (·.v),T0) oth).1/\(∀k,SkF s ts' k->SkF s ts k)/\Z01 (RsF s ts tv) w w':=by
 obtain⟨n,hn⟩:∃n,oth.length=n:=⟨_,rfl⟩
 obtain⟨qa,qc,hqv⟩:=hQ.shape
 rw[hn]at hqv
 subst hqv
 obtain⟨oa,oc,rfl⟩:=hO.shape
 obtain⟨ta,tc,htv⟩:=hT.shape
 rw[hl]at htv
 subst htv
 have H:=hi11 hS hO hQ hT hl hin hz hnd d1 d2 hn
 have n9:n<=1000000:=by omega
 clear hS hO hQ hT hin hz hnd d1 d2 hn hl h9
 go_enter Tryz.func236,Tryz.ntmps236
 go_wp2_with fail
 go_loopw [15] (fun k wr=>∃(i:Nat) (ts':List Tw) (nx':Nat->Nat->Option Nat),i<=n/\k= .int .i64 i/\P2 wr 43 (.slice ta L.length tc) (Z0n most L (ts.map (·.v),T0) (oth.take i)).2/\SkP wr s ts' most nx'/\ts'.map (·.v)=(Z0n most L (ts.map (·.v),T0) (oth.take i)).1/\(∀k,SkF s ts' k->SkF s ts k)/\Z01 (RsF s ts (.slice ta L.length tc)) w wr) (fun k _=>n-(intOf k).toNat)
 case atStart=>exact⟨0,ts,nx,Nat.zero_le _,rfl,H.out.2.2.2.1,H.out.1,rfl,fun k e=>e,Z01.refl _ _⟩
 case round=>
  obtain⟨i,ts1,nx1,hin,rfl,hT,hS,hv,hF,hK⟩:=hrel
  have yi:(0:Int)<=(i:Int):=by omega
  by_cases hlt:i<n
  ·have hlt':(i:Int)<(n:Int):=by omega
   have hio:i<oth.length:=by have:=H.out.2.2.2.2.2.2.2.2.2.2;omega
   have hQr:=H.out.2.2.1.kept hK (fun t e f=>by
    rcases f with f|f
    ·exact(H.out.2.2.2.2.2.2.2.2.2.1 t f).1 e
    ·exact(H.out.2.2.2.2.2.2.2.2.1 t f).1 e)
   have hOr:=H.out.2.1.kept hK (fun t e f=>by
    rcases f with f|f
    ·exact(H.out.2.2.2.2.2.2.2.2.2.1 t f).2 e
    ·exact(H.out.2.2.2.2.2.2.2.2.1 t f).2.1 e)
   have hm:at0 oth i ∈ oth:=by unfold at0;rw[Lgd,Lge hio];exact List.getElem_mem _
   have hai:=H.out.2.2.2.2.2.1 _ hm
   have haz:=H.out.2.2.2.2.2.2.1 _ hm
   have hnot:∀x ∈ oth.take i,x.toNat≠(at0 oth i).toNat:=fun x hx=>by
    obtain⟨j,hj,rfl⟩:=List.mem_iff_getElem.1 hx
    rw[List.length_take]at hj
    have e1:=H.out.2.2.2.2.2.2.2.1 j i (by omega) hio
    have e2:=H.out.2.2.2.2.2.1 (at0 oth j) (by unfold at0;rw[Lgd,Lge (by omega)];exact List.getElem_mem _)
    rw[List.getElem_take]
    have e3:oth[j]=at0 oth j:=by unfold at0;rw[Lgd,Lge (by omega)];rfl
    rw[e3];omega
   have hTz:=Z4z most L _ (oth.take i) (ts.map (·.v),T0) hnot
   rw[show((ts.map (·.v),T0):List Int×List (Int×Int)).2=T0 from rfl]at hTz
   have hTl:=Z20 most L (oth.take i) (ts.map (·.v),T0)
   rw[show((ts.map (·.v),T0):List Int×List (Int×Int)).2=T0 from rfl,H.out.2.2.2.2.1]at hTl
   have hsn:oth.take (i+1)=oth.take i++ [at0 oth i]:=by
    rw[List.take_succ_eq_append_getElem hio]
    congr 2
    unfold at0;rw[Lgd,Lge hio];rfl
   obtain⟨a,ha⟩:∃a:Nat,at0 oth i=(a:Int):=⟨(at0 oth i).toNat,by omega⟩
   rw[ha]at hai haz hTz hsn
   rw[Int.toNat_natCast]at haz hTz
   have haL:a<L.length:=by omega
   have zaL:(a:Int)<(L.length:Int):=hai.2.1
   have za0:(0:Int)<=(a:Int):=by omega
   obtain⟨st,hst⟩:∃st,Z0n most L (ts.map (·.v),T0) (oth.take i)=st:=⟨_,rfl⟩
   rw[hst]at hT hv hTz hTl
   obtain⟨X1,T1⟩:=st
   replace hT:P2 wr 43 (.slice ta L.length tc) T1:=hT
   replace hv:ts1.map (·.v)=X1:=hv
   replace hTz:T1.getD a (0,0)=T0.getD a (0,0):=hTz
   replace hTl:T1.length=L.length:=hTl
   have hT0:(T1.getD a (0,0)).2=0:=by rw[hTz];exact haz
   subst hv
   obtain⟨tg,tc2,htv,-,htl,-,hfz⟩:=hT.pos (by omega)
   rw[hTl]at htv
   cases htv
   obtain⟨og,oc2,hov,-,hol,hoc,-⟩:=hOr.pos (by omega)
   cases hov
   obtain⟨qg,qc2,qcur,hqv,hqg,-,-,hqc,-⟩:=hQr.pos (by omega)
   rw[H.out.2.2.2.2.2.2.2.2.2.2]at hqv
   cases hqv
   have ca:=hqc i hio
   rw[show oth.getD i 0=at0 oth i from rfl,ha]at ca
   obtain⟨c0,c1⟩:=hoc a haL
   obtain⟨⟨k,y⟩,hky⟩:∃p,L.getD a (0,0)=p:=⟨_,rfl⟩
   have hk1:k≠1:=by
    have:=hai.2.2
    unfold kOf at this
    rw[Int.toNat_natCast,hky]at this
    exact this
   rw[hky]at c0 c1
   rw[show 2*a=a*2 by omega]at c0 c1
   have ft:=hfz (a*2)
   have nto:¬og=tg:=fun e=>(H.out.2.2.2.2.2.2.2.2.1 tg rfl).2.1 (by rw[e];rfl)
   have zqg:qg<wr.heap.size:=(Gl hqg)
   have nsk:∀k,SkF s ts1 k->¬k=tg:=fun k e e2=>(H.out.2.2.2.2.2.2.2.2.1 tg rfl).2.2 (e2 ▸ hF k e)
   have ct1:=hT.at_ (j:=a) (by omega)
   have wz:IntKind.i64.wrap ((i:Int)+1)=((i+1:Nat):Int):=by rw[show(i:Int)+1=((i+1:Nat):Int) by omega];exact I6n _ (by omega)
   have T5:=Z43 hT (j:=a) (by omega) 5 hT0
   have S5:SkP (wr.setCell ⟨tg,a*2,none⟩ (.int .u8 5)) s ts1 most nx1:=hS.kept (Z02 wr ⟨tg,a*2,none⟩ _) nsk
   have K5:Z01 (RsF s ts (.slice (some ⟨tg,0,none⟩) L.length tc)) w (wr.setCell ⟨tg,a*2,none⟩ (.int .u8 5)):=hK.setCell (p:=⟨tg,a*2,none⟩) (fun _=>.inr rfl) _
   have cM0:∀(W:World),Z01 (fun k=>k=tg) wr W->SkP W s ts1 most nx1:=fun W hW=>hS.kept hW nsk
   have HR:=hi10 T5 S5 K5 hst hky hTl hF nsk hsn cM0
   clear hT hS hF hK hQr hOr hoc hqc hqg hfz nsk hai haz hTz hTl hst hky hm hnot T5 S5 K5 hsn ha cM0 hT0
   go_upto_region 5 with fail
   generalize hW5:World.setCell _ _ _=W5
   obtain⟨T5,S5,K5,hst,hky,hTl,hF,nsk,hsn,-⟩:=HR.out
   have kw:Z01 (fun k=>k=tg) wr W5:=by rw[<-hW5];exact Z02 wr ⟨tg,a*2,none⟩ _
   rw[hW5]at T5 S5 K5
   have c05:=(kw.cell (p:=⟨og,a*2,none⟩) hol nto).trans c0
   have hTl5:(T1.set a (5,0)).length=L.length:=by rw[Lls];exact hTl
   have T4:=Z43 T5 (j:=a) (by omega) 4 (by rw[Lgd,List.getElem?_set_self (by omega)];rfl)
   rw[Z8p]at T4
   obtain⟨ct5,ct6,hfz5⟩:=T5.at_ (j:=a) (by omega)
   have f50:=hfz5 (a*2)
   have zt5:tg<W5.heap.size:=Blt W5 _ ct5
   have S4:SkP (W5.setCell ⟨tg,a*2,none⟩ (.int .u8 4)) s ts1 most nx1:=S5.kept (Z02 W5 ⟨tg,a*2,none⟩ _) nsk
   have K4:Z01 (RsF s ts (.slice (some ⟨tg,0,none⟩) L.length tc)) w (W5.setCell ⟨tg,a*2,none⟩ (.int .u8 4)):=K5.setCell (p:=⟨tg,a*2,none⟩) (fun _=>.inr rfl) _
   have zo5:og<W5.heap.size:=Nlt hol kw.size
   have H5:=hi7 T5 S5 K5 T4 S4 K4 hTl5
   clear hfz5 T5 S5 K5 hst hky hTl hF nsk hsn hW5 kw c0 c1 T4 S4 K4 hTl5
   by_cases hk2:k=2
   ·subst hk2
    go_upto_region 7 with fail
    generalize hW4:World.setCell _ _ _=W4
    obtain⟨-,-,-,T4,S4,K4,hTl5⟩:=H5.out
    rw[hW4]at T4 S4 K4
    obtain⟨ct7,ct8,-⟩:=T4.at_ (j:=a) (by rw[Lls]at hTl5 |-;omega)
    have zt4:tg<W4.heap.size:=Blt W4 _ ct7
    have H4:=hi4 T4 S4 K4 hTl5
    clear hW4 ct5 ct6 c05 ct1 ct7 ct8 ft
    by_cases h0:ts1.length=0
    ·have cM:=Zg3 W4 s ts1 most nx1 S4 h0
     clear T4 S4 K4 hTl5
     go_wp2_with fail
     refine cM.mono ?_
     rintro e w' ⟨rfl,rfl⟩
     go_wp2
     go_roundw
     case rel=>
      obtain⟨-,-,-,hst,hky,hTl,hF,nsk,hsn,-⟩:=HR.out
      have e1:Z0n most L (ts.map (·.v),T0) (oth.take (i+1))=(ts1.map (·.v),T1.set a (4,0)):=by
       rw[hsn,Z27,hst];exact Z3g hky (Zn3 (by simpa using h0))
      exact⟨i+1,ts1,nx1,by omega,by go_num,by rw[e1];exact H4.out.1,H4.out.2.1,by rw[e1],hF,H4.out.2.2.1⟩
     case measure=>simp[intOf];omega
    ·have cM:=Zg4 W4 s ts1 most nx1 S4 (by omega)
     clear T4 S4 K4 hTl5
     go_wp2_with fail
     refine cM.mono ?_
     rintro e W6 ⟨rfl,nx6,S6,k6⟩
     obtain⟨T4,S4,K4,hTl5⟩:=H4.out
     have nsk:=HR.out.2.2.2.2.2.2.2.1
     have hF:=HR.out.2.2.2.2.2.2.1
     have T6:=T4.kept k6 (fun t e f=>by
      have e2:tg=t:=Option.some.inj e
      exact nsk t f e2.symm)
     obtain⟨ct5,ct6,hfz6⟩:=T6.at_ (j:=a) (by rw[Lls]at hTl5 |-;omega)
     have f60:=hfz6 (a*2)
     have f61:=hfz6 (a*2+1)
     have zt6:tg<W6.heap.size:=Blt W6 _ ct5
     have K6:Z01 (RsF s ts (.slice (some ⟨tg,0,none⟩) L.length tc)) w W6:=K4.step k6 (fun t ht e=>.inl (hF t e))
     obtain⟨v,hv⟩:∃v,(ts1.getD 0 twD).v=v:=⟨_,rfl⟩
     rw[hv]
     have H6:=hi4 T6 S6 K6 hv
     clear T4 S4 K4 hTl5 nsk hF T6 S6 k6 K6 hv hfz6 cM
     go_wp2
     go_roundw
     case rel=>
      obtain⟨-,-,-,hst,hky,hTl,hF,nsk,hsn,-⟩:=HR.out
      obtain⟨T6,S6,K6,hv⟩:=H6.out
      have e1:Z0n most L (ts.map (·.v),T0) (oth.take (i+1))=(ts1.tail.map (·.v),T1.set a (2,v)):=by
       rw[hsn,Z27,hst]
       refine Z3g hky ?_
       rw[Zpa (by simpa using h0),Zdt ts1 (by omega),hv,List.map_tail]
      have T7:=Zn4 T6 (j:=a) (by rw[Lls];omega) 2 v
      rw[Z8p]at T7
      exact⟨i+1,ts1.tail,nx6,by omega,by go_num,by rw[e1];exact T7,S6.kept ((Z02 W6 ⟨tg,a*2,none⟩ _).trans (Z02 _ ⟨tg,a*2+1,none⟩ _)) (fun k e f=>nsk k (Zcm k e) f),by rw[e1],fun k e=>hF k (Zcm k e),(K6.setCell (p:=⟨tg,a*2,none⟩) (fun _=>.inr rfl) _).setCell (p:=⟨tg,a*2+1,none⟩) (fun _=>.inr rfl) _⟩
     case measure=>simp[intOf];omega
   ·have hb2:(k != 2)=true:=by simp[hk2]
    go_wp2
    go_roundw
    case rel=>
     obtain⟨-,-,-,hst,hky,hTl,hF,nsk,hsn,-⟩:=HR.out
     have e1:Z0n most L (ts.map (·.v),T0) (oth.take (i+1))=(ts1.map (·.v),T1.set a (5,0)):=by
      rw[hsn,Z27,hst];exact Z3g hky (Zp9 hk1 hk2)
     exact⟨i+1,ts1,nx1,by omega,by go_num,by rw[e1];exact H5.out.1,H5.out.2.1,by rw[e1],hF,H5.out.2.2.1⟩
    case measure=>simp[intOf];omega
  ·obtain rfl:i=n:=by omega
   have HZ:=hi5 hT hS hv hF hK
   clear hT hS hv hF hK
   have ht:oth.take i=oth:=List.take_of_length_le (by have:=H.out.2.2.2.2.2.2.2.2.2.2;omega)
   rw[ht]at HZ
   go_wp2
   go_ret
   exact⟨rfl,HZ.out.1,ts1,⟨nx1,HZ.out.2.1⟩,HZ.out.2.2⟩
theorem Z8q {l:List Int} {i:Nat} (h:i<l.length):at0 l i ∈ l:=by unfold at0;rw[Lgd,Lge h];exact List.getElem_mem _
theorem Z8r {l:List Int} {i:Nat} (h:i<l.length):l.take (i+1)=l.take i++ [at0 l i]:=by
 rw[List.take_succ_eq_append_getElem h]
 congr 2
 unfold at0;rw[Lgd,Lge h];rfl
theorem Zjv {l:List Int} (h:l.Nodup) (hp:∀x ∈ l,0<=x) {i:Nat} (hi:i<l.length):∀x ∈ l.take i,x.toNat≠(at0 l i).toNat:=fun x hx=>by
 obtain⟨j,hj,rfl⟩:=List.mem_iff_getElem.1 hx
 rw[List.length_take]at hj
 have e1:=List.pairwise_iff_getElem.1 h j i (by omega) hi (by omega)
 rw[List.getElem_take]
 have e2:=hp _ (List.getElem_mem (l:=l) (n:=j) (by omega))
 have e3:=hp _ (Z8q hi)
 have e4:at0 l i=l[i]:=by unfold at0;rw[Lgd,Lge hi];rfl
 rw[e4]at e3 |-
 omega
section
variable (L:List (Int×Int)) (n:Nat)
theorem Zbt:(Z2k L n).Nodup:=((Z5z n).filter _).imp (fun h=>by omega)
theorem Z60:∀i j,i<j->j<(Z3f L n).length->at0 (Z3f L n) i<at0 (Z3f L n) j:=fun i j hij hj=>by
 have:=List.pairwise_iff_getElem.1 ((Z5z n).filter (fun a=>!(kOf L a == 1))) i j (by unfold Z3f at hj;omega) (by unfold Z3f at hj;exact hj) hij
 unfold at0
 rw[Lgd,Lgd,Lge (show i<(Z3f L n).length by omega),Lge hj]
 exact this
end
structure Z5u (L:List (Int×Int)) (n:Nat) (ys:List Int):Prop where
 perm:ys.Perm (Z2k L n)
 len:L.length=n
section
variable {L:List (Int×Int)} {n:Nat} {ys:List Int}
theorem Z5u.mem (h:Z5u L n ys):∀x ∈ ys,0<=x/\x<(n:Int)/\kOf L x=1:=fun x hx=>by
 have h1:=List.mem_filter.1 (h.perm.subset hx)
 have h2:=Z4v.1 h1.1
 exact⟨h2.1,h2.2,by simpa using h1.2⟩
theorem Z5u.nodup (h:Z5u L n ys):ys.Nodup:=h.perm.nodup_iff.2 (Zbt L n)
theorem Z5u.slen (h:Z5u L n ys):ys.length<=n:=by rw[h.perm.length_eq];exact Za5 L n
theorem Z5u.zero (h:Z5u L n ys) (most:Int) (xs:List Int) {i:Nat} (hi:i<ys.length):(Z0n most L (xs,List.replicate n (0,0)) (ys.take i)).2.getD (at0 ys i).toNat (0,0)=(0,0):=by
 rw[Z4z most L _ (ys.take i) _ (Zjv h.nodup (fun x hx=>(h.mem x hx).1) hi)]
 show(List.replicate n ((0:Int),(0:Int))).getD _ _=_
 rw[Lgd,List.getElem?_replicate]
 split<;>rfl
theorem Z5u.zero_oth (h:Z5u L n ys) (most:Int) (xs:List Int):∀x ∈ Z3f L n,((Z0n most L (xs,List.replicate n (0,0)) ys).2.getD x.toNat (0,0)).2=0:=fun x hx=>by
 have h1:=List.mem_filter.1 hx
 have h2:=Z4v.1 h1.1
 rw[Z4z most L _ ys _ (fun y hy e=>by
  have h3:=h.mem y hy
  have e2:x=y:=by omega
  have h4:=h1.2
  rw[e2,h3.2.2]at h4
  exact absurd h4 (by decide))]
 show((List.replicate n ((0:Int),(0:Int))).getD _ _).2=_
 rw[Lgd,List.getElem?_replicate]
 split<;>rfl
end
theorem Z8s (L:List (Int×Int)):∀x ∈ Z3f L L.length,0<=x/\x<(L.length:Int)/\kOf L x≠1:=fun x hx=>by
 have h1:=List.mem_filter.1 hx
 have h2:=Z4v.1 h1.1
 exact⟨h2.1,h2.2,by simpa using h1.2⟩
def Z0d (object most:Int) (xs:List Int) (o:Int×Int):List Int×(Int×Int):=
 if object=1 then Z08 most xs o else if object=2 then Z07 most xs o else Z0u most xs o
def Z50 (f:List Int->Int×Int->List Int×(Int×Int)) (L:List (Int×Int)) (st:List Int×List (Int×Int)) (a:Int):List Int×List (Int×Int):=
 ((f st.1 (L.getD a.toNat (0,0))).1,st.2.set a.toNat (f st.1 (L.getD a.toNat (0,0))).2)
def Z0m (f:List Int->Int×Int->List Int×(Int×Int)) (L:List (Int×Int)) (st:List Int×List (Int×Int)) (ord:List Int):List Int×List (Int×Int):=ord.foldl (Z50 f L) st
theorem Zdu (f:List Int->Int×Int->List Int×(Int×Int)) (L:List (Int×Int)) (st:List Int×List (Int×Int)) (ord:List Int) (a:Int):Z0m f L st (ord++ [a])=Z50 f L (Z0m f L st ord) a:=by
 unfold Z0m;rw[List.foldl_append];rfl
theorem Z7t (f:List Int->Int×Int->List Int×(Int×Int)) (L:List (Int×Int)) (xs:List Int):∀n,n<=L.length->Z0m f L (xs,List.replicate L.length (0,0)) (Z3j n)=((Z09 f xs (L.take n)).1,(Z09 f xs (L.take n)).2++List.replicate (L.length-n) (0,0))
 |0,_=>by simp[Z3j,Z0m,Z09]
 |n+1,h=>by
  have hl:(Z09 f xs (L.take n)).2.length=n:=by rw[Z1i,List.length_take];omega
  rw[Z3u,Zdu,Z7t f L xs n (by omega),Z34 (by omega),Z1t]
  unfold Z50
  rw[Int.toNat_natCast]
  simp only
  rw[Z4q _ hl (by omega)]
theorem Z21 (f:List Int->Int×Int->List Int×(Int×Int)) (L:List (Int×Int)) (xs:List Int):Z0m f L (xs,List.replicate L.length (0,0)) (Z3j L.length)=Z09 f xs L:=by
 rw[Z7t f L xs L.length (Nat.le_refl _),List.take_length,Nat.sub_self,List.replicate_zero,List.append_nil]
inductive Z1w (w:World) (most:Int):Int->Value->List Int->(Nat->Prop)->Prop
 |stk (s:Nat) (v:Value) (xs:List Int) (h:Z2c w s v xs most) (hm:(xs.length:Int)<=most):Z1w w most 1 (.iface 114 (.agg #[.pointer (some ⟨s,0,none⟩)])) xs (Z0r s v)
 |rg (s:Nat) (v:Value) (xs:List Int) (h:RgS w s v xs most):Z1w w most 2 (.iface 118 (.agg #[.pointer (some ⟨s,0,none⟩)])) xs (Z0r s v)
 |sk (s:Nat) (ts:List Tw) (nx:Nat->Nat->Option Nat) (h:SkP w s ts most nx):Z1w w most 3 (.iface 122 (.agg #[.pointer (some ⟨s,0,none⟩)])) (ts.map (·.v)) (SkF s ts)
theorem Z1w.lt {w:World} {most ob:Int} {b:Value} {xs:List Int} {G:Nat->Prop} (h:Z1w w most ob b xs G):∀k,G k->k<w.heap.size:=by
 cases h with
 |stk s v xs h hm=>exact fun k e=>e.elim (fun e=>e ▸ h.lt) (fun e=>h.row.lt e)
 |rg s v xs h=>exact fun k e=>e.elim (fun e=>e ▸ h.lt) (fun e=>h.vlt k e)
 |sk s ts nx h=>exact h.lt
section
variable {w w':World} {most ob:Int} {b:Value} {xs:List Int}
theorem Z1w.kept {G F:Nat->Prop} (h:Z1w w most ob b xs G) (hk:Z01 F w w') (hd:∀k,G k->¬F k):Z1w w' most ob b xs G:=by
 cases h with
 |stk s v xs h hm=>exact .stk s v xs (h.kept hk (hd s (.inl rfl)) (fun t e=>hd t (.inr e))) hm
 |rg s v xs h=>exact .rg s v xs (h.kept hk (hd s (.inl rfl)) (fun t e=>hd t (.inr e)))
 |sk s ts nx h=>exact .sk s ts nx (h.kept hk hd)
theorem Z1w.below {G:Nat->Prop} (h:Z1w w most ob b xs G) (hb:Below w.heap.size w w'):Z1w w' most ob b xs G:=h.kept (Z01.of_below (S:=fun _=>False) hb (fun k h1 h2=>by omega)) (fun _ _ h=>h)
end
theorem Z1w.le {w:World} {most ob:Int} {b:Value} {xs:List Int} {G:Nat->Prop} (h:Z1w w most ob b xs G):(xs.length:Int)<=most:=by
 cases h with
 |stk s v xs h hm=>exact hm
 |rg s v xs h=>exact h.le
 |sk s ts nx h=>simpa using h.le
section
variable {a b c:String×Nat} {s t:String} {k l:Nat} (h:Tryz.prog.underlying 110=some (.interface #[a,b,(s,k),c,(t,l)])) (v:Value) (args:Array Value) (w:World)
include h
theorem Z8t:(callMethod (.iface 114 v) t args).run Tryz.prog w= .ok (.enter 180 (#[v]++args)) w:=by cases h.symm.trans Tryz.underlying110;kernel_rfl
theorem Z8u:(callMethod (.iface 114 v) s args).run Tryz.prog w= .ok (.enter 178 (#[v]++args)) w:=by cases h.symm.trans Tryz.underlying110;kernel_rfl
theorem Za7:(callMethod (.iface 118 v) t args).run Tryz.prog w= .ok (.enter 204 (#[v]++args)) w:=by cases h.symm.trans Tryz.underlying110;kernel_rfl
theorem Za8:(callMethod (.iface 118 v) s args).run Tryz.prog w= .ok (.enter 202 (#[v]++args)) w:=by cases h.symm.trans Tryz.underlying110;kernel_rfl
theorem Za9:(callMethod (.iface 122 v) t args).run Tryz.prog w= .ok (.enter 229 (#[v]++args)) w:=by cases h.symm.trans Tryz.underlying110;kernel_rfl
theorem Zaa:(callMethod (.iface 122 v) s args).run Tryz.prog w= .ok (.enter 227 (#[v]++args)) w:=by cases h.symm.trans Tryz.underlying110;kernel_rfl
end
def Z2l (xs:List Int):Prop:=∀x ∈ xs,-2147483648<=x/\x<=2147483647
def Zn9 (T:List (Int×Int)):Prop:=∀p ∈ T,(0<=p.1/\p.1<=255)/\-2147483648<=p.2/\p.2<=2147483647
theorem Z2l.getD {xs:List Int} (h:Z2l xs) (i:Nat): -2147483648<=xs.getD i 0/\xs.getD i 0<=2147483647:=by
 rw[Lgd]
 cases e:xs[i]? with
 |none=>simp
 |some x=>exact h x (List.mem_of_getElem? e)
theorem Zco {v x:Int}:∀{xs:List Int},x ∈ Z5t v xs->x=v\/x ∈ xs
 | [],h=>by simp[Z5t]at h;exact .inl h
 |y::l,h=>by
  unfold Z5t at h
  split at h
  ·rcases List.mem_cons.1 h with h|h
   ·exact .inl h
   ·exact .inr h
  ·rcases List.mem_cons.1 h with h|h
   ·exact .inr (h ▸ List.mem_cons_self)
   ·exact(Zco h).imp id (List.mem_cons_of_mem _)
theorem Zgr {xs:List Int} {y:Int} (h:Z2l xs) (hy: -2147483648<=y/\y<=2147483647):Z2l (xs++ [y]):=fun x hx=>by
 rcases List.mem_append.1 hx with hx|hx
 ·exact h x hx
 ·rw[List.mem_singleton.1 hx];exact hy
theorem Zgs {xs:List Int} {y:Int} (h:Z2l xs) (hy: -2147483648<=y/\y<=2147483647):Z2l (y::xs):=fun x hx=>by
 rcases List.mem_cons.1 hx with hx|hx
 ·rw[hx];exact hy
 ·exact h x hx
theorem Zgt (ob most:Int) {xs:List Int} {o:Int×Int} (h:Z2l xs) (ho: -2147483648<=o.2/\o.2<=2147483647):Z2l (Z0d ob most xs o).1/\(1<=(Z0d ob most xs o).2.1/\(Z0d ob most xs o).2.1<=5)/\-2147483648<=(Z0d ob most xs o).2.2/\(Z0d ob most xs o).2.2<=2147483647:=by
 have hg:=fun i=>h.getD i
 have hd:Z2l xs.dropLast:=fun x hx=>h x (List.dropLast_subset _ hx)
 have ht:Z2l xs.tail:=fun x hx=>h x (List.mem_of_mem_tail hx)
 have hi:Z2l (Z5t o.2 xs):=fun x hx=>by
  rcases Zco hx with e|e
  ·rw[e];exact ho
  ·exact h x e
 have h1:=Zgr h ho
 have h2:=Zgs h ho
 unfold Z0d Z08 Z07 Z0u
 repeat' split
 all_goals dsimp only
 all_goals
  first
  |exact⟨h,by omega,by omega⟩
  |exact⟨h1,by omega,by omega⟩
  |exact⟨h2,by omega,by omega⟩
  |exact⟨hi,by omega,by omega⟩
  |exact⟨hd,by omega,hg _⟩
  |exact⟨ht,by omega,hg _⟩
theorem Z61 (ob most:Int) (L:List (Int×Int)) (hL:Z8f L):∀(ord:List Int) (st:List Int×List (Int×Int)),Z2l st.1->Zn9 st.2->Z2l (Z0m (Z0d ob most) L st ord).1/\Zn9 (Z0m (Z0d ob most) L st ord).2
 | [],st,h1,h2=>⟨h1,h2⟩
 |a::l,st,h1,h2=>by
  have ha: -2147483648<=(L.getD a.toNat (0,0)).2/\(L.getD a.toNat (0,0)).2<=2147483647:=hL.at_ a
  have hs:=Zgt ob most h1 ha
  refine Z61 ob most L hL l _ hs.1 (fun p hp=>?_)
  rcases List.mem_or_eq_of_mem_set hp with h|h
  ·exact h2 p h
  ·rw[h];exact⟨⟨by have:=hs.2.1;omega,by have:=hs.2.1;omega⟩,hs.2.2⟩
theorem Z6q (f:List Int->Int×Int->List Int×(Int×Int)) (L:List (Int×Int)):∀(ord:List Int) (st:List Int×List (Int×Int)),(Z0m f L st ord).2.length=st.2.length
 | [],st=>rfl
 |a::l,st=>by
  have:=Z6q f L l (Z50 f L st a)
  unfold Z0m at this |-
  rw[List.foldl_cons,this];simp[Z50]
theorem Z5i (n:Nat):Zn9 (List.replicate n (0,0)):=fun p hp=>by rw[List.eq_of_mem_replicate hp];decide
def Z0k (n:Nat) (F:Nat->Int):List (Int×Int):=(List.range n).map fun j=>(wk (F (3*j+1)),wv (F (3*j+1)))
theorem Z13 (n:Nat) (F:Nat->Int):(Z0k n F).length=n:=by simp[Z0k]
theorem Z7u (n:Nat) (F:Nat->Int):Z0k (n+1) F=Z0k n F++ [(wk (F (3*n+1)),wv (F (3*n+1)))]:=by simp[Z0k,List.range_succ]
theorem Z36 (n:Nat) (F:Nat->Int):Z8f (Z0k n F):=fun p hp=>by
 obtain⟨j,_,rfl⟩:=List.mem_map.1 hp
 exact Zoi _
theorem Zna (n:Nat) (F:Nat->Int):∀p ∈ Z0k n F,0<=p.1/\p.1<=255:=fun p hp=>by
 obtain⟨j,_,rfl⟩:=List.mem_map.1 hp
 exact Zoh _
def Z48 (i:Nat) (F:Nat->Int) (T:List (Int×Int)):Nat->Int:=fun j=>if j%3=2/\j/3<i then Z0o (T.getD (j/3) (0,0)).1 (T.getD (j/3) (0,0)).2 else F j
theorem Zgu (F:Nat->Int) (T:List (Int×Int)):Z48 0 F T=F:=by funext j;unfold Z48;rw[if_neg (by omega)]
theorem Zgv (i:Nat) (F:Nat->Int) (T:List (Int×Int)):(fun j=>if j=i*3+2 then Z0o (T.getD i (0,0)).1 (T.getD i (0,0)).2 else Z48 i F T j)=Z48 (i+1) F T:=by
 funext j
 unfold Z48
 by_cases e:j=i*3+2
 ·subst e
  have e3:(i*3+2)/3=i:=by omega
  rw[if_pos rfl,if_pos ⟨by omega,by omega⟩,e3]
 ·rw[if_neg e]
  by_cases h:j%3=2/\j/3<i
  ·rw[if_pos h,if_pos ⟨h.1,by omega⟩]
  ·rw[if_neg h,if_neg (fun h2=>by omega)]
theorem IRw.at_ {w:World} {g n cap:Nat} {F:Nat->Int} (h:IRw w (.slice (some ⟨g,0,none⟩) n cap) n F) {i:Nat} (hi:i<n):w.cell? ⟨g,i*3,none⟩=some (.int .i64 (F (3*i)))/\w.cell? ⟨g,i*3+1,none⟩=some (.int .i64 (F (3*i+1)))/\w.cell? ⟨g,i*3+2,none⟩=some (.int .i64 (F (3*i+2))):=by
 have h1:=fun j (hj:j<3*n)=>World.ownsRow.cells h (g:=g) rfl j _ (Z58 hj)
 have h2:=h1 (3*i) (by omega)
 have h3:=h1 (3*i+1) (by omega)
 have h4:=h1 (3*i+2) (by omega)
 rw[Z2t,Nat.zero_add]at h2 h3 h4
 rw[show i*3=3*i by omega]
 exact⟨h2,h3,h4⟩
theorem IRw.shp {w:World} {v:Value} {n:Nat} {F:Nat->Int} (h:IRw w v n F) (hn:0<n):∃g cap,v= .slice (some ⟨g,0,none⟩) n cap/\g<w.heap.size/\n<=cap/\(∀j,w.frozen? ⟨g,j,none⟩=false):=by
 rcases h.2 with⟨_,h0⟩|⟨g,cap,cur,rfl,_,hg,hle,_⟩
 ·omega
 ·exact⟨g,cap,rfl,(Gl hg),hle,fun j=>by simp[World.frozen?,hg]⟩
theorem Zk7 (n:Nat) (F:Nat->Int) (i:Nat) (y:Int) (hi:i<3*n):(Zb2 n F).set i (.int .i64 y)=Zb2 n (fun j=>if j=i then y else F j):=by
 refine List.ext_getElem? (fun j=>?_)
 rw[List.getElem?_set]
 by_cases e:i=j
 ·subst e
  rw[if_pos rfl,if_pos (by rw[Z3z];omega),Z58 hi,if_pos rfl]
 ·rw[if_neg e]
  by_cases hj:j<3*n
  ·rw[Z58 hj,Z58 hj,if_neg (fun h=>e h.symm)]
  ·rw[List.getElem?_eq_none (by rw[Z3z];omega),List.getElem?_eq_none (by rw[Z3z];omega)]
theorem IRw.setAt {w:World} {g n cap:Nat} {F:Nat->Int} (h:IRw w (.slice (some ⟨g,0,none⟩) n cap) n F) {i:Nat} (hi:i<3*n) (y:Int):IRw (w.setCell ⟨g,i,none⟩ (.int .i64 y)) (.slice (some ⟨g,0,none⟩) n cap) n (fun j=>if j=i then y else F j):=by
 rcases h.2 with⟨e,_⟩|⟨g',cap',cur,e,hb,hg,hn,hm,hc,ht⟩
 ·cases e
 ·cases e
  refine⟨by rw[Z3z],.inr ⟨g,cap,_,rfl,hb,Z00 hg i _,hn,hm,by simpa using hc,?_⟩⟩
  rw[<-Zk7 n F i y hi,Array.toList_setIfInBounds,List.take_set,ht]
end
end Go.Proofs.YtihljjgmkaeohaaGreat
