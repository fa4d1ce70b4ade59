/- part 12 -/
import Derived.Test.YtihljjgmkaeohaaGreatPnAF
import Derived.Test.YtihljjgmkaeohaaGreatPnAG
import Derived.Test.YtihljjgmkaeohaaGreatPnAJ
set_option linter.all false
set_option maxHeartbeats 16000000
set_option maxRecDepth 100000
namespace Go.Proofs.YtihljjgmkaeohaaGreat
section
open Go.RowKit Go.ChangeShapes Go.WideShapes Go.ChangeAt Go.Deep
theorem Zl0 (w:World) (s:Nat) (ts:List Tw) (many most:Int) (nx:Nat->Nat->Option Nat) (f:Nat->Value) (mm:Nat->Nat) (v:Int) (q T h:Nat) (hS:SkG w s ts many most (fun i k=>tpt ts (nx i k))) (o:SkO s ts nx) (hq:Qn ts v q) (hp:PaP ts s q f mm) (hG:∀j,j<8->∀t,nx (mm j) j=some t->q<=t)
 (hT:w.heap[T]?=some (.cells (twA v (h:Int) (fun _=>.pointer none)) 152 (0,0))) (h1:1<=h) (h8:h<=8) (hTF:¬SkF s ts T):
 Calls Tryz.prog 244 #[.agg (paA f),.pointer (some ⟨T,0,none⟩)] w fun e w'=>∃f',e= .returned (.agg (paA f'))/\(∀j,j<8->f' j=if j<h then .pointer (some ⟨T,0,none⟩)else f j)/\SkG w' s (Z3r ts q ⟨T,v,h⟩) many most (fun i k=>tpt (Z3r ts q ⟨T,v,h⟩) (nxI mm nx q h i k))/\Z01 (fun k=>SkF s ts k\/k=T) w w':=by
 have H:=hi7 hS o hq hp hG hT hTF
 have zT:T<w.heap.size:=(Gl hT)
 clear hS o hq hp hG hT hTF
 unfold paA
 go_enter Tryz.func244,Tryz.ntmps244
 go_upto_region 1 with fail
 generalize hW:World.alloc _ _=w1
 have X:w1.heap[w.heap.size]?=some (.cells (paA f) 297 (0,0))/\w1.heap[w.heap.size+1]?=some (.cells (paA (fun _=>.pointer none)) 297 (0,0)):=by rw[<-hW];exact Z05 _ _ _
 have BW:Below w.heap.size w w1:=by rw[<-hW];go_grown
 have T1:=(BW.block T zT).trans H.out.2.2.2.2.2.1
 have cT:w1.cell? ⟨T,1,none⟩=some (.int .i64 (h:Int)):=by simp only[World.cell?,T1];rfl
 have zT1:T<w1.heap.size:=(Gl T1)
 have H1:=hi3 X BW T1
 clear hW X BW T1
 go_wp2_with fail
 go_loopw [10] (fun k wr=>∃(i:Nat),i<=h/\k= .int .i64 i/\wr.heap[w.heap.size]?=some (.cells (paA (fun j=>if j<i then .pointer (some ⟨T,0,none⟩)else f j)) 297 (0,0))/\wr.heap[w.heap.size+1]?=some (.cells (paA (fun _=>.pointer none)) 297 (0,0))/\wr.heap[T]?=some (.cells (twA v (h:Int) (fun l=>if l<i then tpt ts (nx (mm l) l)else .pointer none)) 152 (0,0))/\SkG wr s ts many most (fun a l=>if l<i/\a=mm l then .pointer (some ⟨T,0,none⟩)else tpt ts (nx a l))/\Z01 (fun k=>SkF s ts k\/k=T) w wr) (fun k _=>h-(intOf k).toNat)
 case atStart=>
  refine⟨0,Nat.zero_le _,rfl,?_,H1.out.1.2,?_,?_,Z0b H1.out.2.1⟩
  ·exact H1.out.1.1.trans (congrArg (fun a=>some (Obj.cells a 297 (0,0))) (Z6g (fun j _=>by simp)))
  ·exact H1.out.2.2.trans (congrArg (fun g=>some (Obj.cells (twA v (h:Int) g) 152 (0,0))) (funext (fun l=>by simp)))
  ·exact(H.out.1.below H1.out.2.1).congr (fun a _ l _=>by rw[if_neg (by omega)])
 case round=>
  obtain⟨i,hi,rfl,hP,hR,hT,hS,hK⟩:=hrel
  have yi:(0:Int)<=(i:Int):=by omega
  have zPB:w.heap.size<wr.heap.size:=(Gl hP)
  have hSF:∀k,SkF s ts k->k<w.heap.size:=fun k e=>H.out.1.lt k e
  by_cases hlt:i<h
  ·have hlt':(i:Int)<(h:Int):=by omega
   have xi8:i<8:=by omega
   have xi8':(i:Int)<8:=by omega
   have hmq:=H.out.2.2.2.1.le i xi8
   have hml:mm i<=ts.length:=Nat.le_trans hmq H.out.2.2.1.le
   obtain⟨B,hB⟩:∃B,ndB ts s (mm i)=B:=⟨_,rfl⟩
   have cp:wr.cell? ⟨w.heap.size,i,none⟩=some (.pointer (some ⟨B,0,none⟩)):=by
    have:=Zbk hP xi8
    rw[if_neg (Nat.lt_irrefl i),H.out.2.2.2.1.eq i xi8]at this
    rw[this];unfold ndP;rw[hB]
   have cB:=hS.cell (i:=mm i) (k:=i) hml xi8
   rw[if_neg (fun e=>Nat.lt_irrefl i e.1),hB]at cB
   have fB:=hS.fz (i:=mm i) hml (2+i)
   rw[hB]at fB
   obtain⟨x,hx⟩:∃x:Option Addr,tpt ts (nx (mm i) i)= .pointer x:=⟨_,rfl⟩
   rw[hx]at cB
   have cT:wr.cell? ⟨T,2+i,none⟩=some (.pointer none):=by
    simp only[World.cell?,hT]
    exact(Zfv _ _ _ i xi8).trans (congrArg some (if_neg (Nat.lt_irrefl i)))
   have fT:=Z06 hT (2+i)
   have fP:=Z06 hP i
   have hBF:SkF s ts B:=hB ▸ ndF (mm i) hml
   have zB:=hSF B hBF
   have n1:¬w.heap.size=T:=by omega
   have n2:¬T=w.heap.size:=by omega
   have n3:¬w.heap.size=B:=by omega
   have n4:¬B=w.heap.size:=by omega
   have n5:¬B=T:=fun e=>H.out.2.2.2.2.2.2 (e ▸ hBF)
   have n6:¬T=B:=fun e=>n5 e.symm
   have zTr:T<wr.heap.size:=by omega
   have zBr:B<wr.heap.size:=by omega
   have HR:=hi8 hP hR hT hS hK hB hx hBF
   clear hP hR hT hS hK hB hx hBF hSF
   go_wp2_with fail
   go_region
   all_goals
    go_wp2
    go_roundw
    case rel=>
     obtain⟨hP,hR,hT,hS,hK,hB,hx,hBF⟩:=HR.out
     have K2:=Z02 wr ⟨T,2+i,none⟩ (.pointer x)
     have K3:=Z02 (wr.setCell ⟨T,2+i,none⟩ (.pointer x)) ⟨B,2+i,none⟩ (.pointer (some ⟨T,0,none⟩))
     have K4:=Z02 ((wr.setCell ⟨T,2+i,none⟩ (.pointer x)).setCell ⟨B,2+i,none⟩ (.pointer (some ⟨T,0,none⟩))) ⟨w.heap.size,i,none⟩ (.pointer (some ⟨T,0,none⟩))
     have zR:w.heap.size+1<wr.heap.size:=(Gl hR)
     have hP2:=(K2.block w.heap.size zPB n1).trans hP
     have hP3:=(K3.block w.heap.size (Nlt zPB K2.size) n3).trans hP2
     have hT2:=Z00 hT (2+i) (.pointer x)
     rw[Zfw _ _ _ _ i xi8]at hT2
     have hT3:=(K3.block T (Nlt zTr K2.size) n6).trans hT2
     have hT4:=(K4.block T (Nlt zTr (Nat.le_trans K2.size K3.size)) n2).trans hT3
     have hR4:=(K4.block (w.heap.size+1) (Nlt zR (Nat.le_trans K2.size K3.size)) (by show ¬w.heap.size+1=w.heap.size;omega)).trans ((K3.block (w.heap.size+1) (Nlt zR K2.size) (by show ¬w.heap.size+1=B;omega)).trans ((K2.block (w.heap.size+1) zR (by show ¬w.heap.size+1=T;omega)).trans hR))
     have hS2:=hS.kept K2 (fun k e f=>H.out.2.2.2.2.2.2 (by have f2:k=T:=f;rwa [f2]at e))
     have hS3:=hS2.set H.out.2.1 hml xi8 (.pointer (some ⟨T,0,none⟩))
     rw[hB]at hS3
     have hS4:=hS3.kept K4 (fun k e f=>by have f2:k=w.heap.size:=f;have:=H.out.1.lt k e;omega)
     refine⟨i+1,by omega,by go_num,?_,hR4,?_,(hS4.below (Brf _ _).drew).congr (fun a ha l hl=>?_),((hK.trans (K2.mono (fun k _ e=>.inr e))).trans (K3.mono (fun k _ e=>.inl (by have e2:k=B:=e;rw[e2];exact hBF)))).step K4 (fun k hk e=>by have e2:k=w.heap.size:=e;omega) |>.drew⟩
     ·refine(Z3q hP3 xi8 _).trans ?_
      congr 2
      refine Z6g (fun j hj=>?_)
      unfold Z76
      by_cases e:j=i
      ·rw[if_pos e,if_pos (by omega)]
      ·rw[if_neg e]
       show(if j<i then _ else _:Value)=_
       by_cases e2:j<i
       ·rw[if_pos e2,if_pos (by omega)]
       ·rw[if_neg e2,if_neg (by omega)]
     ·refine hT4.trans ?_
      congr 3
      funext l
      unfold Z76
      by_cases e:l=i
      ·rw[if_pos e,if_pos (by omega),e,hx]
      ·rw[if_neg e]
       show(if l<i then _ else _:Value)=_
       by_cases e2:l<i
       ·rw[if_pos e2,if_pos (by omega)]
       ·rw[if_neg e2,if_neg (by omega)]
     ·by_cases e:a=mm i/\l=i
      ·obtain⟨e1,e2⟩:=e
       subst e2
       rw[if_pos ⟨e1,rfl⟩,if_pos ⟨by omega,e1⟩]
      ·rw[if_neg e]
       by_cases e2:l<i/\a=mm l
       ·rw[if_pos e2,if_pos ⟨by omega,e2.2⟩]
       ·rw[if_neg e2,if_neg (fun h=>by
         by_cases e3:l=i
         ·exact e ⟨e3 ▸ h.2,e3⟩
         ·exact e2 ⟨by omega,h.2⟩)]
    case measure=>simp[intOf];omega
  ·obtain rfl:i=h:=by omega
   obtain⟨g,hg⟩:∃g:Nat->Value,g=fun j=>if j<i then .pointer (some ⟨T,0,none⟩)else .pointer (some ⟨ndB ts s (mm j),0,none⟩):=⟨_,rfl⟩
   obtain⟨gb,hgb⟩:∃gb:Nat->Nat,gb=fun j=>if j<i then T else ndB ts s (mm j):=⟨_,rfl⟩
   have e1:∀j,j<8->(if j<i then .pointer (some ⟨T,0,none⟩)else f j:Value)= .pointer (some ⟨gb j,0,none⟩):=fun j hj=>by
    rw[hgb]
    show _=Value.pointer (some ⟨if j<i then T else ndB ts s (mm j),0,none⟩)
    split
    ·rfl
    ·rw[H.out.2.2.2.1.eq j hj];rfl
   have e2:paA (fun j=>if j<i then .pointer (some ⟨T,0,none⟩)else f j)=paA (fun j=>.pointer (some ⟨gb j,0,none⟩)):=Z6g e1
   rw[e2]at hP
   obtain⟨⟨c0,c1,c2,c3,c4,c5,c6,c7⟩,zb⟩:=Z6h hP
   obtain⟨⟨d0,d1,d2,d3,d4,d5,d6,d7⟩,zr⟩:=Z6h hR
   have f0:=Z06 hR 0
   have f1:=Z06 hR 1
   have f2:=Z06 hR 2
   have f3:=Z06 hR 3
   have f4:=Z06 hR 4
   have f5:=Z06 hR 5
   have f6:=Z06 hR 6
   have f7:=Z06 hR 7
   have HR:=hi6 hP hR hT hS hK e1
   clear hP hR hT hS hK e1 e2 hg hgb hSF
   go_wp2
   generalize hw7:World.setCell _ _ _=w7
   have E7:w7.heap[w.heap.size+1]?=some (.cells (paA (fun j=>.pointer (some ⟨gb j,0,none⟩))) 297 (0,0)):=by rw[<-hw7];exact Zja HR.out.2.1 rfl
   have K7:Z01 (fun k=>k=w.heap.size+1) wr w7:=by rw[<-hw7];exact Z42 _ _ _ _ _ _ _ _ _ _
   obtain⟨⟨r0,r1,r2,r3,r4,r5,r6,r7⟩,-⟩:=Z6h E7
   refine bodyPost_ret (v:=.agg (paA (fun j=>.pointer (some ⟨gb j,0,none⟩)))) (by simp[results,Tryz.results244,go_sem,paA,r0,r1,r2,r3,r4,r5,r6,r7]) rfl ?_
   obtain⟨hP,hR,hT,hS,hK,e1⟩:=HR.out
   have hql:=H.out.2.2.1.le
   have hS7:=hS.kept K7 (fun k e f=>by have f2:k=w.heap.size+1:=f;have:=H.out.1.lt k e;omega)
   have hT7:=(K7.block T (by have:=hK.size;omega) (by show ¬T=w.heap.size+1;omega)).trans hT
   refine⟨fun j=>.pointer (some ⟨gb j,0,none⟩),rfl,fun j hj=>(e1 j hj).symm,⟨?_,fun j hj=>?_⟩,hK.step K7 (fun k hk e=>by omega)⟩
   ·have hz:∀l,(if l<i/\0=mm l then .pointer (some ⟨T,0,none⟩)else tpt ts (nx 0 l):Value)=tpt (Z3r ts q ⟨T,v,i⟩) (nxI mm nx q i 0 l):=fun l=>by
     unfold nxI
     rw[if_pos (Nat.zero_le _)]
     by_cases e:l<i/\0=mm l
     ·rw[if_pos e,if_pos e];unfold tpt;simp only[Option.map_some];rw[Z3s hql]
     ·rw[if_neg e,if_neg e,Zcf hql]
    exact hS7.hd.trans (congrArg (fun g=>some (Obj.cells (skA g many most) 154 (0,0))) (funext hz))
   ·have hz:∀a l,a<=q->(if l<i/\a=mm l then .pointer (some ⟨T,0,none⟩)else tpt ts (nx a l):Value)=tpt (Z3r ts q ⟨T,v,i⟩) (nxI mm nx q i a l):=fun a l ha=>by
     unfold nxI
     rw[if_pos ha]
     by_cases e:l<i/\a=mm l
     ·rw[if_pos e,if_pos e];unfold tpt;simp only[Option.map_some];rw[Z3s hql]
     ·rw[if_neg e,if_neg e,Zcf hql]
    rcases Z1v (t:=⟨T,v,i⟩) hql hj with⟨a,e⟩|⟨a,e⟩|⟨a,b,e⟩<;>rw[e]
    ·rw[hS7.tw j (by omega)]
     congr 3
     funext l
     exact hz (j+1) l (by omega)
    ·subst a
     show w7.heap[T]?=_
     rw[hT7]
     congr 3
     funext l
     unfold nxI
     rw[if_neg (show ¬j+1<=j by omega),if_pos (show j+1=j+1 from rfl)]
     by_cases e:l<i
     ·rw[if_pos e,if_pos e,Zcf hql]
     ·rw[if_neg e,if_neg e];rfl
    ·rw[hS7.tw (j-1) b]
     congr 3
     funext l
     unfold nxI
     rw[if_neg (show ¬j+1<=q by omega),if_neg (show ¬j+1=q+1 by omega),show j+1-1=j-1+1 by omega,Zcf hql,if_neg (fun e=>by
      by_cases hl:l<8
      ·have:=H.out.2.2.2.1.le l hl;have:=e.2;omega
      ·have:=e.1;omega)]
def Z5t (v:Int):List Int->List Int
 | []=> [v]
 |x::l=>if v<x then v::x::l else x::Z5t v l
theorem Z8i (v:Int):∀xs:List Int,(Z5t v xs).length=xs.length+1
 | []=>rfl
 |x::l=>by
  unfold Z5t
  split
  ·simp
  ·simp[Z8i v l]
theorem Zg0 (v:Int):∀(xs:List Int) (q:Nat),q<=xs.length->(∀j,j<q->xs.getD j 0<=v)->(∀j,q<=j->j<xs.length->v<xs.getD j 0)->xs.take q++v::xs.drop q=Z5t v xs
 | [],q,hq,_,_=>by
   have:q=0:=by simpa using hq
   subst this;rfl
 |x::l,0,_,_,h2=>by
  have:=h2 0 (Nat.le_refl _) (by simp)
  have h3:v<x:=this
  unfold Z5t;rw[if_pos h3];rfl
 |x::l,q+1,hq,h1,h2=>by
  have h3:x<=v:=h1 0 (by omega)
  unfold Z5t
  rw[if_neg (by omega),List.take_succ_cons,List.drop_succ_cons,List.cons_append]
  rw[Zg0 v l q (by simpa using hq) (fun j hj=>by have:=h1 (j+1) (by omega);simpa using this) (fun j hj hl=>by have:=h2 (j+1) (by omega) (by simpa using hl);simpa using this)]
theorem Zg1 {ts:List Tw} {j:Nat} (hj:j<ts.length):(ts.map (·.v)).getD j 0=(ts.getD j twD).v:=by
 rw[Lgd,Lgd,List.getElem?_map,Lge hj];rfl
theorem Z9v {ts:List Tw} {q T h:Nat} {v:Int} (hq:Qn ts v q):(Z3r ts q ⟨T,v,h⟩).map (·.v)=Z5t v (ts.map (·.v)):=by
 rw[<-Zg0 v (ts.map (·.v)) q (by simpa using hq.le) (fun j hj=>by rw[Zg1 (by have:=hq.le;omega)];exact hq.lo j hj) (fun j hj hl=>by rw[Llm]at hl;rw[Zg1 hl];exact hq.hi j hj hl)]
 unfold Z3r
 rw[List.map_append,List.map_cons,List.map_take,List.map_drop]
theorem Qn.ex {s:Nat} {ts:List Tw} {nx:Nat->Nat->Option Nat} (o:SkO s ts nx) (v:Int):∃q,Qn ts v q:=by
 have:∀n,n<=ts.length->∃q,q<=n/\(∀j,j<q->(ts.getD j twD).v<=v)/\(q<n->v<(ts.getD q twD).v):=fun n=>by
  induction n with
  |zero=>intro _;exact⟨0,Nat.le_refl _,fun j h=>by omega,fun h=>by omega⟩
  |succ n ih=>
   intro hn
   obtain⟨q,h1,h2,h3⟩:=ih (by omega)
   by_cases hq:q<n
   ·exact⟨q,by omega,h2,fun _=>h3 hq⟩
   ·have e:q=n:=by omega
    subst e
    by_cases hv:(ts.getD q twD).v<=v
    ·refine⟨q+1,Nat.le_refl _,fun j hj=>?_,fun h=>by omega⟩
     by_cases e:j=q
     ·rw[e];exact hv
     ·exact h2 j (by omega)
    ·exact⟨q,by omega,h2,fun _=>by omega⟩
 obtain⟨q,h1,h2,h3⟩:=this _ (Nat.le_refl _)
 refine⟨q,h1,h2,fun j hj hl=>?_⟩
 have h4:=h3 (by omega)
 by_cases e:j=q
 ·rw[e];exact h4
 ·have:=o.so q j (by omega) hl;omega
theorem SkG.many {w:World} {s:Nat} {ts:List Tw} {many most:Int} {g:Nat->Nat->Value} {nx:Nat->Nat->Option Nat} (h:SkG w s ts many most g) (o:SkO s ts nx) (m2:Int):SkG (w.setCell ⟨s,10,none⟩ (.int .i64 m2)) s ts m2 most g:=by
 refine⟨by rw[Z00 h.hd];rfl,fun j hj=>?_⟩
 exact((Z02 w ⟨s,10,none⟩ _).block _ (h.lt _ (.inr ⟨j,hj,rfl⟩)) (fun e=>o.ns j hj e)).trans (h.tw j hj)
theorem Z9w {ts:List Tw} {s q:Nat} {t:Tw} (hq:q<=ts.length):∀k,SkF s (Z3r ts q t) k->SkF s ts k\/k=t.b:=fun k e=>by
 rcases e with e|⟨j,hj,e⟩
 ·exact .inl (.inl e)
 ·rcases Z1v (t:=t) hq hj with⟨a,e2⟩|⟨a,e2⟩|⟨a,b,e2⟩<;>rw[e2]at e
  ·exact .inl (.inr ⟨j,by omega,e⟩)
  ·exact .inr e.symm
  ·exact .inl (.inr ⟨j-1,b,e⟩)
theorem Zg2 (w:World) (s:Nat) (ts:List Tw) (most:Int) (nx:Nat->Nat->Option Nat) (v:Int) (h:Nat) (hS:SkP w s ts most nx) (hr:(ts.length:Int)<most) (h1:1<=h) (h8:h<=8):
 Calls Tryz.prog 237 #[.pointer (some ⟨s,0,none⟩),.int .i32 v,.int .i64 (h:Int)] w fun e w'=>e= .returned (.bool true)/\∃ts' nx',SkP w' s ts' most nx'/\ts'.map (·.v)=Z5t v (ts.map (·.v))/\(∀k,SkF s ts' k->SkF s ts k\/w.heap.size<=k)/\Z01 (SkF s ts) w w':=by
 obtain⟨c0,c1,-,hs⟩:=hS.mc
 obtain⟨q,hq⟩:=Qn.ex hS.ord v
 have hd:decide (most<=(ts.length:Int))=false:=decide_eq_false (by omega)
 have hr':¬most<=(ts.length:Int):=by omega
 have H:=hi3 hS hq hr
 clear hS hq hr
 go_enter Tryz.func237,Tryz.ntmps237
 go_wp2_with fail
 go_quiet (fail)
 have B1:=below_drewN (Brf w.heap.size w) nq
 generalize w.drewN nq=w1 at B1 |-
 have S1:=H.out.1.below B1
 have HB1:=Hd B1
 have cB:=Zce w1 s (S1.lt s (.inl rfl)) ⟨_,by simp only[World.cell?,S1.hd];rfl⟩
 clear S1 B1 c0 c1 hs
 go_wp2_with fail
 refine cB.mono ?_
 rintro e w2 ⟨rfl,b2⟩
 have HB2:=Hd (HB1.out.trans (b2.mono HB1.out.size))
 clear b2 cB
 have hp0:PaP ts s q (fun _=>.pointer (some ⟨s,0,none⟩)) (fun _=>0):=⟨fun j _=>rfl,fun j _=>Nat.zero_le _,fun j hj=>hj⟩
 have cO:=Zp4 w2 s ts most nx _ _ v q (H.out.1.below HB2.out) H.out.2.1 hp0
 clear hp0
 go_wp2_with fail
 refine cO.mono ?_
 rintro e w3 ⟨f,mm,rfl,p3,g3,b3⟩
 have HB3:=Hd (HB2.out.trans (b3.mono HB2.out.size))
 have H3:=hi2 p3 g3
 clear b3 p3 g3 cO
 have cT:=Zkz w3 v (h:Int) (by omega) (by omega)
 go_wp2_with fail
 refine cT.mono ?_
 rintro e w4 ⟨rfl,t4,b4⟩
 have HB4:=Hd (HB3.out.trans (b4.mono HB3.out.size))
 have S4:=H.out.1.below HB4.out
 have hTn:¬SkF s ts w3.heap.size:=fun e=>by have:=H.out.1.lt _ e;have:=HB3.out.size;omega
 have cP:=Zl0 w4 s ts _ most nx f mm v q w3.heap.size h S4.raw S4.ord H.out.2.1 H3.out.1 H3.out.2 t4 h1 h8 hTn
 clear b4 t4 cT S4
 go_wp2_with fail
 refine cP.mono ?_
 rintro e w5 ⟨f',rfl,-,g5,k5⟩
 have o5:=(H.out.1.ord).put (T:=w3.heap.size) H.out.2.1 H3.out.1 H3.out.2 h1 h8 hTn
 have m5:w5.cell? ⟨s,10,none⟩=some (.int .i64 (ts.length:Int)):=by simp only[World.cell?,g5.hd];rfl
 have fz5:w5.frozen? ⟨s,10,none⟩=false:=by simp[World.frozen?,g5.hd]
 have z5:s<w5.heap.size:=g5.lt s (.inl rfl)
 have hm9:=H.out.1.m9
 have wz:IntKind.i64.wrap ((ts.length:Int)+1)=(ts.length:Int)+1:=I6n _ (by omega)
 have H5:=hi3 g5 k5 o5
 clear g5 k5 o5 cP
 go_wp2
 go_ret
 have hql:=H.out.2.1.le
 have hL:=Z5y (t:=⟨w3.heap.size,v,h⟩) hql
 have G6:=H5.out.1.many H5.out.2.2 ((ts.length:Int)+1)
 refine⟨rfl,Z3r ts q ⟨w3.heap.size,v,h⟩,nxI mm nx q h,SkP.of (by rw[hL];exact G6) H5.out.2.2 (by rw[hL];have:=H.out.2.2;omega) hm9,Z9v H.out.2.1,fun k e=>?_,?_⟩
 ·rcases Z9w hql k e with e|e
  ·exact .inl e
  ·refine .inr ?_
   have e2:k=w3.heap.size:=e
   have:=HB3.out.size
   omega
 ·have K6:Z01 (SkF s ts) w w5:=(Z0b (F:=SkF s ts) HB4.out).step H5.out.2.1 (fun i hi e=>by
   rcases e with e|e
   ·exact e
   ·have:=HB3.out.size;omega)
  exact K6.setCell (p:=⟨s,10,none⟩) (fun _=>.inl rfl) _
def nxM (h:Nat) (nx:Nat->Nat->Option Nat) (a k:Nat):Option Nat:=(if a=0 then(if k<h then nx 1 k else nx 0 k)else nx (a+1) k).map (· -1)
theorem Z16 (ts:List Tw) (j:Nat):ts.tail.getD j twD=ts.getD (j+1) twD:=by
 cases ts with
 |nil=>rfl
 |cons a l=>simp
theorem SkO.tail {s:Nat} {ts:List Tw} {nx:Nat->Nat->Option Nat} (o:SkO s ts nx) (hn:0<ts.length):SkO s ts.tail (nxM (ts.getD 0 twD).h nx):=by
 have hL:ts.tail.length=ts.length-1:=List.length_tail
 have hh0:=o.hh 0 hn
 have hH1:ndH ts 1=(ts.getD 0 twD).h:=rfl
 refine⟨fun i j hij hj=>?_,fun j hj=>?_,fun j hj=>?_,fun i j hij hj=>?_,fun i hi=>?_,fun i hi k hk hkh j hj=>?_,fun i hi k hk hkh=>?_⟩
 ·rw[Z16,Z16];exact o.nd _ _ (by omega) (by omega)
 ·rw[Z16];exact o.ns _ (by omega)
 ·rw[Z16];exact o.hh _ (by omega)
 ·rw[Z16,Z16];exact o.so _ _ (by omega) (by omega)
 ·rw[hL]at hi |-
  unfold nxM
  by_cases e:i=0
  ·rw[if_pos e,if_pos (by omega),o.l0 1 (by omega)]
   subst e
   by_cases e2:1<ts.length
   ·rw[if_pos e2,if_pos (by omega)];rfl
   ·rw[if_neg e2,if_neg (by omega)];rfl
  ·rw[if_neg e,o.l0 (i+1) (by omega)]
   by_cases e2:i+1<ts.length
   ·rw[if_pos e2,if_pos (by omega)];rfl
   ·rw[if_neg e2,if_neg (by omega)];rfl
 ·rw[hL]at hi |-
  unfold nxM at hj
  obtain⟨j',hj',rfl⟩:=Option.map_eq_some_iff.1 hj
  by_cases e:i=0
  ·subst e
   rw[if_pos rfl]at hj'
   by_cases e2:k<(ts.getD 0 twD).h
   ·rw[if_pos e2]at hj'
    obtain⟨b1,b2,b3⟩:=o.ln 1 (by omega) k hk (by rw[hH1];exact e2) j' hj'
    refine⟨Nat.zero_le _,by omega,?_⟩
    rw[Z16,show j'-1+1=j' by omega];exact b3
   ·rw[if_neg e2]at hj'
    obtain⟨b1,b2,b3⟩:=o.ln 0 (by omega) k hk hk j' hj'
    have:j'≠0:=fun h=>by subst h;omega
    refine⟨Nat.zero_le _,by omega,?_⟩
    rw[Z16,show j'-1+1=j' by omega];exact b3
  ·rw[if_neg e]at hj'
   have hH:ndH ts.tail i=ndH ts (i+1):=by
    unfold ndH
    rw[if_neg e,if_neg (by omega),Z16,show i-1+1=i+1-1 by omega]
   rw[hH]at hkh
   obtain⟨b1,b2,b3⟩:=o.ln (i+1) (by omega) k hk hkh j' hj'
   refine⟨by omega,by omega,?_⟩
   rw[Z16,show j'-1+1=j' by omega];exact b3
 ·rw[hL]at hi
  unfold nxM
  by_cases e:i=0
  ·subst e
   have:ndH ts.tail 0=8:=rfl
   omega
  ·have hH:ndH ts.tail i=ndH ts (i+1):=by
    unfold ndH
    rw[if_neg e,if_neg (by omega),Z16,show i-1+1=i+1-1 by omega]
   rw[hH]at hkh
   rw[if_neg e,o.lz (i+1) (by omega) k hk hkh];rfl
theorem Z8j {ts:List Tw} {o:Option Nat} (h:∀j,o=some j->1<=j):tpt ts.tail (o.map (· -1))=tpt ts o:=by
 cases o with
 |none=>rfl
 |some j=>unfold tpt;simp only[Option.map_some];rw[Z16,show j-1+1=j by have:=h j rfl;omega]
theorem SkG.tail {w:World} {s:Nat} {ts:List Tw} {many most:Int} {nx:Nat->Nat->Option Nat} (o:SkO s ts nx) (hn:0<ts.length) (h:SkG w s ts many most (fun a l=>if a=0/\l<(ts.getD 0 twD).h then tpt ts (nx 1 l)else tpt ts (nx a l))):
 SkG w s ts.tail many most (fun i k=>tpt ts.tail (nxM (ts.getD 0 twD).h nx i k)):=by
 have hh0:=o.hh 0 hn
 have e0:∀l,l<8->(if (0:Nat)=0/\l<(ts.getD 0 twD).h then tpt ts (nx 1 l)else tpt ts (nx 0 l))=tpt ts.tail (nxM (ts.getD 0 twD).h nx 0 l):=fun l hl=>by
  unfold nxM
  rw[if_pos (rfl:(0:Nat)=0)]
  by_cases e:l<(ts.getD 0 twD).h
  ·rw[if_pos ⟨rfl,e⟩,if_pos e,Z8j (fun j hj=>(o.ln 1 (by omega) l hl e j hj).1)]
  ·rw[if_neg (fun h=>e h.2),if_neg e,Z8j (fun j hj=>by
    obtain⟨-,-,b3⟩:=o.ln 0 (by omega) l hl hl j hj
    have:j≠0:=fun h=>by subst h;omega
    omega)]
 refine⟨?_,fun j hj=>?_⟩
 ·refine h.hd.trans (congrArg (fun a=>some (Obj.cells a 154 (0,0))) ?_)
  unfold skA
  dsimp only
  rw[e0 0 (by omega),e0 1 (by omega),e0 2 (by omega),e0 3 (by omega),e0 4 (by omega),e0 5 (by omega),e0 6 (by omega),e0 7 (by omega)]
 ·rw[Z16]
  have hl:ts.tail.length=ts.length-1:=List.length_tail
  refine(h.tw (j+1) (by omega)).trans (congrArg (fun a=>some (Obj.cells a 152 (0,0))) ?_)
  have e1:∀l,l<8->(if j+1+1=0/\l<(ts.getD 0 twD).h then tpt ts (nx 1 l)else tpt ts (nx (j+1+1) l))=tpt ts.tail (nxM (ts.getD 0 twD).h nx (j+1) l):=fun l hl8=>by
   unfold nxM
   rw[if_neg (by omega),if_neg (show ¬j+1=0 by omega)]
   rw[Z8j (fun j' hj'=>by
    by_cases e:l<ndH ts (j+1+1)
    ·have:=(o.ln (j+1+1) (by omega) l hl8 e j' hj').1;omega
    ·rw[o.lz (j+1+1) (by omega) l hl8 (by omega)]at hj';cases hj')]
  unfold twA
  dsimp only
  rw[e1 0 (by omega),e1 1 (by omega),e1 2 (by omega),e1 3 (by omega),e1 4 (by omega),e1 5 (by omega),e1 6 (by omega),e1 7 (by omega)]
section
variable (w:World) (s:Nat) (ts:List Tw) (most:Int) (nx:Nat->Nat->Option Nat)
theorem Zg3 (hS:SkP w s ts most nx) (hn:ts.length=0):
 Calls Tryz.prog 246 #[.pointer (some ⟨s,0,none⟩)] w fun e w'=>e= .returned (.tuple #[.int .i32 0,.bool false])/\w=w':=by
 have cL:=Zcd w s ts most nx hS
 rw[hn]at cL
 clear hS
 go_enter Tryz.func246,Tryz.ntmps246
 go_wp2_with fail
 refine cL.mono ?_
 rintro e w' ⟨rfl,rfl⟩
 go_wp2
 refine bodyPost_ret (v:=.tuple #[.int .i32 0,.bool false]) (by simp[results,Tryz.results246,go_sem]) rfl ⟨rfl,rfl⟩
theorem Zg4 (hS:SkP w s ts most nx) (hn:0<ts.length):
 Calls Tryz.prog 246 #[.pointer (some ⟨s,0,none⟩)] w fun e w'=>e= .returned (.tuple #[.int .i32 (ts.getD 0 twD).v,.bool true])/\∃nx',SkP w' s ts.tail most nx'/\Z01 (SkF s ts) w w':=by
 have cL:=Zcd w s ts most nx hS
 have hn0:¬(ts.length:Int)=0:=by omega
 have H:=Hd hS
 have hh0:=hS.hh 0 hn
 have hm9:=hS.m9
 have hle:=hS.le
 obtain⟨B,hB⟩:∃B,(ts.getD 0 twD).b=B:=⟨_,rfl⟩
 obtain⟨h,hh⟩:∃h,(ts.getD 0 twD).h=h:=⟨_,rfl⟩
 obtain⟨v,hv⟩:∃v,(ts.getD 0 twD).v=v:=⟨_,rfl⟩
 have c0:w.cell? ⟨s,2,none⟩=some (.pointer (some ⟨B,0,none⟩)):=by
  have:=hS.raw.cell (i:=0) (k:=0) (Nat.zero_le _) (by omega)
  rw[show nx 0 0=some 0 from by rw[hS.l0 0 (Nat.zero_le _),if_pos hn]]at this
  rw[<-hB];exact this
 obtain⟨cv,ch⟩:=hS.twc hn
 rw[hB,hv]at cv
 rw[hB,hh]at ch
 rw[hv]
 rw[hh]at hh0
 have zs:s<w.heap.size:=hS.lt s (.inl rfl)
 have zB:B<w.heap.size:=hS.lt B (.inr ⟨0,hn,hB⟩)
 have HB:=hi3 hB hh hv
 clear hS hB hh hv
 go_enter Tryz.func246,Tryz.ntmps246
 go_wp2_with fail
 refine cL.mono ?_
 rintro e w' ⟨rfl,rfl⟩
 clear cL
 go_wp2_with fail
 go_loopw [19] (fun k wr=>∃(i:Nat),i<=h/\k= .int .i64 i/\SkG wr s ts (ts.length:Int) most (fun a l=>if a=0/\l<i then tpt ts (nx 1 l)else tpt ts (nx a l))/\Z01 (SkF s ts) w wr) (fun k _=>h-(intOf k).toNat)
 case atStart=>exact⟨0,Nat.zero_le _,rfl,H.out.raw.congr (fun a _ l _=>by rw[if_neg (by omega)]),Z01.refl _ _⟩
 case round=>
  obtain⟨i,hi,rfl,hG,hK⟩:=hrel
  have yi:(0:Int)<=(i:Int):=by omega
  by_cases hlt:i<h
  ·have hlt':(i:Int)<(h:Int):=by omega
   have xi8:i<8:=by omega
   have xi8':(i:Int)<8:=by omega
   have eB:ndB ts s 1=B:=by rw[<-HB.out.1];rfl
   have c1:=hG.cell (i:=1) (k:=i) (by omega) xi8
   rw[if_neg (by omega),eB]at c1
   have c2:=hG.cell (i:=0) (k:=i) (Nat.zero_le _) xi8
   rw[if_neg (by omega),show ndB ts s 0=s from rfl]at c2
   have f2:=hG.fz (i:=0) (Nat.zero_le _) (2+i)
   rw[show ndB ts s 0=s from rfl]at f2
   obtain⟨x,hx⟩:∃x:Option Addr,tpt ts (nx 1 i)= .pointer x:=⟨_,rfl⟩
   rw[hx]at c1
   have zsr:s<wr.heap.size:=hG.lt s (.inl rfl)
   have zBr:B<wr.heap.size:=Nlt zB hK.size
   have HR:=hi3 hG hK hx
   have eBH:=Hd eB
   clear hG hK hx eB
   go_wp2_with fail
   go_region
   all_goals
    go_wp2
    go_roundw
    case rel=>
     obtain⟨hG,hK,hx⟩:=HR.out
     have G2:=hG.set H.out.ord (a:=0) (k:=i) (Nat.zero_le _) xi8 (.pointer x)
     rw[show ndB ts s 0=s from rfl]at G2
     refine⟨i+1,by omega,by go_num,(G2.below (Brf _ _).drew).congr (fun a ha l hl=>?_),(hK.setCell (p:=⟨s,2+i,none⟩) (fun _=>.inl rfl) _).drew⟩
     by_cases e:a=0/\l=i
     ·rw[if_pos e,if_pos ⟨e.1,by omega⟩,<-hx,e.2]
     ·rw[if_neg e]
      by_cases e2:a=0/\l<i
      ·rw[if_pos e2,if_pos ⟨e2.1,by omega⟩]
      ·rw[if_neg e2,if_neg (fun h=>by
        by_cases e3:l=i
        ·exact e ⟨h.1,e3⟩
        ·exact e2 ⟨h.1,by omega⟩)]
    case measure=>simp[intOf];omega
  ·obtain rfl:i=h:=by omega
   have m5:wr.cell? ⟨s,10,none⟩=some (.int .i64 (ts.length:Int)):=by simp only[World.cell?,hG.hd];rfl
   have fz5:wr.frozen? ⟨s,10,none⟩=false:=by simp[World.frozen?,hG.hd]
   have z5:s<wr.heap.size:=hG.lt s (.inl rfl)
   have cv5:wr.cell? ⟨B,0,none⟩=some (.int .i32 v):=by
    have:=hG.tw 0 hn
    rw[HB.out.1,HB.out.2.2]at this
    simp only[World.cell?,this];rfl
   have nBs:¬B=s:=fun e=>H.out.ns 0 hn (HB.out.1.trans e)
   have wz:IntKind.i64.wrap ((ts.length:Int)-1)=(ts.length:Int)-1:=I6n _ (by omega)
   have HR:=hi2 hG hK
   clear hG hK
   go_wp2
   refine bodyPost_ret (v:=.tuple #[.int .i32 v,.bool true]) (by simp[results,Tryz.results246,go_sem]) rfl ?_
   obtain⟨hG,hK⟩:=HR.out
   have hL:ts.tail.length=ts.length-1:=List.length_tail
   have hG2:=hG.many H.out.ord ((ts.length:Int)-1)
   rw[<-HB.out.2.1]at hG2
   have hG3:=hG2.tail H.out.ord hn
   refine⟨rfl,nxM (ts.getD 0 twD).h nx,SkP.of (by rw[hL,show((ts.length-1:Nat):Int)=(ts.length:Int)-1 by omega];exact hG3) (H.out.ord.tail hn) (by rw[hL];omega) hm9,hK.setCell (p:=⟨s,10,none⟩) (fun _=>.inl rfl) _⟩
end
theorem Zjc (w:World) (x y:Int):Calls Tryz.prog 249 #[.int .i32 x,.int .i32 y] w fun e w'=>e= .returned (.bool (decide (x<y)))/\Below w.heap.size w w':=by
 go_enter Tryz.func249,Tryz.ntmps249
 go_wp2_with (go_at_call 151;refine Go.Calls.mono (Z8e _ _) ?_;rintro e w' ⟨rfl,rfl⟩)
 go_ret
 exact⟨rfl,Brf _ _⟩
theorem Z7q (w:World) (v:Value) (xs:List Int) (h:R32 w v xs) (hs:∀i j,i<j->j<xs.length->xs.getD i 0<=xs.getD j 0) (h9:xs.length<=1000000):
 Calls Tryz.prog 241 #[v] w fun e w'=>e= .returned (.bool true)/\Below w.heap.size w w':=by
 obtain⟨ao,cap,rfl⟩:=h.shape
 have H:=hi2 h hs
 obtain⟨n,hn⟩:∃n,xs.length=n:=⟨_,rfl⟩
 rw[hn]at h9 |-
 have w1:IntKind.i64.wrap ((n:Int)-1)=(n:Int)-1:=I6n _ (by omega)
 have HN:=Hd hn
 clear h hs hn
 go_enter Tryz.func241,Tryz.ntmps241
 go_wp2_with fail
 go_loopw [3] (fun k wr=>∃z:Int,-1<=z/\z<(n:Int)/\k= .int .i64 z/\Below w.heap.size w wr) (fun k _=>(intOf k).toNat)
 case atStart=>exact⟨(n:Int)-1,by omega,by omega,rfl,Brf _ _⟩
 case round=>
  obtain⟨z,hz1,hz2,rfl,hB⟩:=hrel
  by_cases hz:0<z
  ·obtain⟨j,rfl⟩:∃j:Nat,z=(j:Int):=⟨z.toNat,by omega⟩
   obtain⟨p,hp⟩:∃p,p+1=j:=⟨j-1,by omega⟩
   have wp:IntKind.i64.wrap ((j:Int)-1)=(p:Int):=by rw[show(j:Int)-1=(p:Int) by omega];exact I6n _ (by omega)
   have hr:=H.out.1.below hB
   obtain⟨g,cp,cur,hv,hg,-,-,hc,-⟩:=hr.pos (by have:=HN.out;omega)
   rw[HN.out]at hv
   cases hv
   have cx:=hc j (by have:=HN.out;omega)
   have cy:=hc p (by have:=HN.out;omega)
   have hle:=H.out.2 p j (by omega) (by have:=HN.out;omega)
   obtain⟨x,hx⟩:∃x,xs.getD j 0=x:=⟨_,rfl⟩
   obtain⟨y,hy⟩:∃y,xs.getD p 0=y:=⟨_,rfl⟩
   rw[hx]at cx hle
   rw[hy]at cy hle
   have zg:g<wr.heap.size:=(Gl hg)
   have x0:=Bel.cell zg cx
   have x1:=Bel.cell zg cy
   have hxy:decide (x<y)=false:=decide_eq_false (by omega)
   have cL:∀u,Below wr.heap.size wr u->Calls Tryz.prog 249 #[.int .i32 x,.int .i32 y] u fun e u'=>e= .returned (.bool false)/\Below wr.heap.size wr u':=fun u hu=>(Zjc u x y).mono fun e u' ⟨h1,h2⟩=>⟨by rw[h1,hxy],hu.trans (h2.mono hu.size)⟩
   have cA:=Hd cL
   have zj:(j:Int)<(n:Int):=hz2
   have zp:(p:Int)<(n:Int):=by omega
   have zp0:(0:Int)<=(p:Int):=by omega
   have HB:=hi2 hB hp
   clear hB hr hc hg hx hy hle cL cx cy hp
   go_wp2_with fail
   refine Z0p (by kernel_rfl) (by kernel_rfl) wr (Brf _ _).drew ?_
   repeat (go_big_quiet_step ((with_reducible refine(cA.out _ (Bel.h _)).mono ?_;rintro e w9 ⟨rfl,hb⟩;exact⟨rfl,⟨w9,hb⟩,rfl⟩)))
   refine wpQuiet_nil ?_
   rintro _ ⟨⟨u,hu⟩,rfl⟩
   have HU:=Hd hu
   clear hu x0 x1
   go_wp2
   go_roundw
   case rel=>exact⟨(p:Int),by omega,by omega,by go_num,HB.out.1.trans (HU.out.mono HB.out.1.size)⟩
   case measure=>
    have:=HB.out.2
    simp[intOf];omega
  ·have HB:=Hd hB
   clear hB
   go_wp2
   go_ret
   exact⟨rfl,HB.out⟩
def Z4a:List Int->List Int->List Int
 | [],xs=>xs
 |v::vs,xs=>Z4a vs (Z5t v xs)
theorem Z4g (v:Int):∀(vs xs:List Int),Z4a (vs++ [v]) xs=Z5t v (Z4a vs xs)
 | [],xs=>rfl
 |u::vs,xs=>by simp only[List.cons_append,Z4a];exact Z4g v vs _
theorem Qn.mono {ts:List Tw} {v:Int} {q q0:Nat} (h:Qn ts v q) (h0:q0<=ts.length) (hl:∀j,j<q0->(ts.getD j twD).v<=v):q0<=q:=by
 rcases Nat.lt_or_ge q q0 with e|e
 ·have h1:=hl q e
  have h2:=h.hi q (Nat.le_refl _) (by omega)
  omega
 ·exact e
theorem PaP.up {ts:List Tw} {s q q0:Nat} {f:Nat->Value} {mm:Nat->Nat} (h:PaP ts s q0 f mm) (hq:q0<=q):PaP ts s q f mm:=⟨h.eq,fun j hj=>Nat.le_trans (h.le j hj) hq,h.ht⟩
theorem PaP.put {ts:List Tw} {s q T h:Nat} {v:Int} {f f':Nat->Value} {mm:Nat->Nat} (p:PaP ts s q f mm) (hq:q<=ts.length) (hf:∀j,j<8->f' j=if j<h then .pointer (some ⟨T,0,none⟩)else f j):PaP (Z3r ts q ⟨T,v,h⟩) s (q+1) f' (fun j=>if j<h then q+1 else mm j):=by
 refine⟨fun j hj=>?_,fun j hj=>?_,fun j hj=>?_⟩
 ·rw[hf j hj]
  split
  ·rw[Zp3,Z3s hq]
  ·rw[p.eq j hj];unfold ndP;rw[Zjb hq s (p.le j hj)]
 ·show(if j<h then q+1 else mm j)<=q+1
  split
  ·exact Nat.le_refl _
  ·have:=p.le j hj;omega
 ·show j<ndH _ (if j<h then q+1 else mm j)
  split
  ·unfold ndH
   rw[if_neg (by omega),Nat.add_sub_cancel,Z3s hq];assumption
  ·rw[Z8h hq (p.le j hj)];exact p.ht j hj
theorem Z9x {P:Program} (s t:TypeId) (i:TypeInfo) (hs:P.underlying s=some (.slice t)) (hi:P.info? t=some i) (hz:i.zero=some (.bool false)) (hsz:i.size=1) (hby:i.bytes=1) (n:Nat) (hn:n<=1000000) (w:World):
 (Instr.makeSlice s (.int .i64 (n:Int)) (.int .i64 (n:Int))).run P w= .ok (.slice (some ⟨w.heap.size,0,none⟩) n n) (w.alloc (.cells (madeCells #[.bool false] n) t)):=by
 have:=run_makeSlice (P:=P) w s t i (.bool false) hs hi hz .i64 .i64 (n:Int) (n:Int) (by omega) (Int.le_refl _) (by rw[hsz,Int.toNat_natCast];omega) (by rw[hby];omega) (by omega)
 rw[hsz,Int.toNat_natCast,Nat.mul_one]at this
 exact this
theorem Tryz.infoBool:(Tryz.prog.info? 4).map (fun i=>(i.zero,i.size,i.bytes))=some (some (.bool false),1,1):=by kernel_rfl
theorem Zcg (w:World) (s:Nat) (ts:List Tw) (most:Int) (nx:Nat->Nat->Option Nat) (vv hv:Value) (vs hs:List Int) (hS:SkP w s ts most nx) (hV:R32 w vv vs) (hH:Z1j w hv hs) (hl:hs.length=vs.length) (hh:∀x ∈ hs,1<=x/\x<=8) (hr:(ts.length:Int)+(vs.length:Int)<=most) (hso:∀i j,i<j->j<vs.length->vs.getD i 0<=vs.getD j 0)
 (dV:∀t,vv.ownBlock=some t->¬SkF s ts t) (dH:∀t,hv.ownBlock=some t->¬SkF s ts t):
 Calls Tryz.prog 235 #[.pointer (some ⟨s,0,none⟩),vv,hv] w fun e w'=>(∃u,e= .returned u)/\∃ts' nx',SkP w' s ts' most nx'/\ts'.map (·.v)=Z4a vs (ts.map (·.v))/\(∀k,SkF s ts' k->SkF s ts k\/w.heap.size<=k)/\Z01 (SkF s ts) w w':=by
 obtain⟨vo,vc,rfl⟩:=hV.shape
 obtain⟨ho,hc,rfl⟩:=hH.shape
 obtain⟨n,hn⟩:∃n,vs.length=n:=⟨_,rfl⟩
 have hm9:=hS.m9
 have hn9:n<=1000000:=by omega
 have H:=hi10 hS hV hH hl hh hr hso dV dH hn
 have cI:=Z7q w _ vs hV hso (by omega)
 rw[hn]at hl cI |-
 rw[hl]
 obtain⟨i0,hi,hz0,hz1,hz2⟩:=info_parts Tryz.infoBool
 have hmk:=Z9x 155 4 i0 Tryz.underlying155 hi hz0 hz1 hz2 n hn9
 have zs:=hS.lt s (.inl rfl)
 clear hS hV hH hh hr hso dV dH hn hi hz0 hz1 hz2 hl cI
 go_enter Tryz.func235,Tryz.ntmps235
 go_upto_region 2 with fail
 generalize hG:w.heap.size=G
 generalize hW:World.alloc _ _=w1
 have bG:w1.heap[G]?=some (.cells (madeCells #[.bool false] n) 4 (0,0)):=by rw[<-hW,<-hG];exact Han _ _
 have B1:Below w.heap.size w w1:=by rw[<-hW];go_grown
 have H1:=hi3 bG B1 hG
 clear hW bG B1 hmk hG
 have cI:=Z7q w1 _ vs (H.out.2.1.below H1.out.2.1) H.out.2.2.2.2.2.2.1 (by have:=H.out.2.2.2.2.2.2.2.2.2;omega)
 rw[H.out.2.2.2.2.2.2.2.2.2]at cI
 go_wp2_with fail
 refine cI.mono ?_
 rintro e w2 ⟨rfl,b2⟩
 have B2:=H1.out.2.1.trans (b2.mono H1.out.2.1.size)
 have bG2:=(b2.block G (Gl H1.out.1)).trans H1.out.1
 have S2:=H.out.1.below B2
 have cB:=Zce w2 s (S2.lt s (.inl rfl)) ⟨_,by simp only[World.cell?,S2.hd];rfl⟩
 have H2:=hi2 bG2 B2
 clear b2 cI bG2 S2 B2
 go_wp2_with fail
 refine cB.mono ?_
 rintro e w3 ⟨rfl,b3⟩
 have B3:=H2.out.2.trans (b3.mono H2.out.2.size)
 have bG3:=(b3.block G (Gl H2.out.1)).trans H2.out.1
 have H3:=hi2 bG3 B3
 clear b3 cB bG3 B3
 unfold paA
 go_wp2_with fail
 generalize hPB:w3.heap.size=PB
 generalize hW4:World.alloc _ _=w4
 have x4:w4.heap[PB]?=some (.cells (paA (fun _=>.pointer (some ⟨s,0,none⟩))) 297 (0,0)):=by rw[<-hW4,<-hPB];exact Han _ _
 have b4:Below w3.heap.size w3 w4:=by rw[<-hW4];go_grown
 have B4:=H3.out.2.trans (b4.mono H3.out.2.size)
 have bG4:=(b4.block G (Gl H3.out.1)).trans H3.out.1
 have zGP:G<PB:=by rw[<-hPB];exact(Gl H3.out.1)
 have hFw:∀k,SkF s ts k->k<w.heap.size:=fun k e=>H.out.1.lt k e
 have hwG:=H1.out.2.2
 have H4:=hi5 x4 bG4 B4 hFw hwG
 clear hPB hW4 x4 b4 B4 bG4 hFw hwG
 go_loopw [27] (fun k wr=>∃(i:Nat) (ts':List Tw) (nx':Nat->Nat->Option Nat) (f:Nat->Value) (mm:Nat->Nat) (q0:Nat) (bc:Array Value),i<=n/\k= .int .i64 i/\SkP wr s ts' most nx'/\ts'.map (·.v)=Z4a (vs.take i) (ts.map (·.v))/\ts'.length=ts.length+i/\wr.heap[PB]?=some (.cells (paA f) 297 (0,0))/\PaP ts' s q0 f mm/\q0<=ts'.length/\(∀j,j<q0->i<n->(ts'.getD j twD).v<=vs.getD i 0)/\wr.heap[G]?=some (.cells bc 4 (0,0))/\bc.size=n/\(∀k,SkF s ts' k->SkF s ts k\/w.heap.size<=k)/\¬SkF s ts' PB/\¬SkF s ts' G/\Z01 (SkF s ts) w wr) (fun k _=>n-(intOf k).toNat)
 case atStart=>exact⟨0,ts,nx,_,fun _=>0,0,_,Nat.zero_le _,rfl,H.out.1.below H4.out.2.2.1,rfl,rfl,H4.out.1,⟨fun j _=>rfl,fun j _=>Nat.le_refl _,fun j hj=>hj⟩,Nat.zero_le _,fun j hj=>by omega,H4.out.2.1,by rw[size_madeCells],fun k e=>.inl e,fun e=>by have:=H4.out.2.2.2.1 _ e;have:=H4.out.2.2.2.2;omega,fun e=>by have:=H4.out.2.2.2.1 _ e;have:=H4.out.2.2.2.2;omega,Z0b H4.out.2.2.1⟩
 case round=>
  obtain⟨i,ts1,nx1,f,mm,q0,bc,hin,rfl,S1,e1,l1,p1,P1,q1,v1,g1,s1,F1,nP,nG,K1⟩:=hrel
  have yi:(0:Int)<=(i:Int):=by omega
  by_cases hlt:i<n
  ·have hlt':(i:Int)<(n:Int):=by omega
   have hV1:=H.out.2.1.kept K1 H.out.2.2.2.2.2.2.2.1
   have hH1:=H.out.2.2.1.kept K1 H.out.2.2.2.2.2.2.2.2.1
   obtain⟨vg,vc2,vcur,hvv,hvg,-,-,hvc,-⟩:=hV1.pos (by have:=H.out.2.2.2.2.2.2.2.2.2;omega)
   rw[H.out.2.2.2.2.2.2.2.2.2]at hvv
   cases hvv
   obtain⟨hg,hc2,hcur,hhv,hhg,-,-,hhc,-⟩:=hH1.pos (by have:=H.out.2.2.2.2.2.2.2.2.2;have:=H.out.2.2.2.1;omega)
   rw[H.out.2.2.2.1,H.out.2.2.2.2.2.2.2.2.2]at hhv
   cases hhv
   have cv:=hvc i (by have:=H.out.2.2.2.2.2.2.2.2.2;omega)
   have ch:=hhc i (by have:=H.out.2.2.2.2.2.2.2.2.2;have:=H.out.2.2.2.1;omega)
   have hhb:=H.out.2.2.2.2.1 (hs.getD i 0) (by
    rw[Lgd,Lge (by have:=H.out.2.2.2.2.2.2.2.2.2;have:=H.out.2.2.2.1;omega)]
    exact List.getElem_mem _)
   obtain⟨v,hv⟩:∃v,vs.getD i 0=v:=⟨_,rfl⟩
   obtain⟨hz,hhz⟩:∃h,hs.getD i 0=h:=⟨_,rfl⟩
   rw[hv]at cv v1
   rw[hhz]at ch hhb
   obtain⟨h,rfl⟩:∃h:Nat,hz=(h:Int):=⟨hz.toNat,by omega⟩
   obtain⟨c10,c11,-,zsr⟩:=S1.mc
   have hrm:¬most<=(ts1.length:Int):=by have:=H.out.2.2.2.2.2.1;have:=H.out.2.2.2.2.2.2.2.2.2;omega
   have hdm:decide (most<=(ts1.length:Int))=false:=decide_eq_false hrm
   have zvg:vg<wr.heap.size:=(Gl hvg)
   have zhg:hg<wr.heap.size:=(Gl hhg)
   have zPr:PB<wr.heap.size:=(Gl p1)
   have HR:=Hd (And.intro S1 (And.intro e1 (And.intro l1 (And.intro p1 (And.intro P1 (And.intro q1 (And.intro v1 (And.intro g1 (And.intro s1 (And.intro F1 (And.intro nP (And.intro nG (And.intro K1 (And.intro hv hhb))))))))))))))
   clear S1 e1 l1 p1 P1 q1 v1 g1 s1 F1 nP nG K1 hV1 hH1 hvc hhc hvg hhg hhz hv
   go_wp2_with fail
   go_quiet (fail)
   have hbq:=below_drewN (Brf wr.heap.size wr) nq
   generalize wr.drewN nq=w5 at hbq |-
   have cv5:=(hbq.cell (p:=⟨vg,i,none⟩) zvg).trans cv
   have ch5:=(hbq.cell (p:=⟨hg,i,none⟩) zhg).trans ch
   have p5:=(hbq.block PB zPr).trans HR.out.2.2.2.1
   have g5:=(hbq.block G (Gl HR.out.2.2.2.2.2.2.2.1)).trans HR.out.2.2.2.2.2.2.2.1
   have e5:paA f=paA (fun j=>.pointer (some ⟨ndB ts1 s (mm j),0,none⟩)):=Z6g (fun j hj=>HR.out.2.2.2.2.1.eq j hj)
   rw[e5]at p5
   obtain⟨⟨c0,c1,c2,c3,c4,c5,c6,c7⟩,zP5⟩:=Z6h p5
   have S5:=HR.out.1.below hbq
   obtain⟨q,hq⟩:=Qn.ex S5.ord v
   have hqq:=hq.mono HR.out.2.2.2.2.2.1 (fun j hj=>HR.out.2.2.2.2.2.2.1 j hj hlt)
   have P5:PaP ts1 s q (fun j=>.pointer (some ⟨ndB ts1 s (mm j),0,none⟩)) mm:=⟨fun j _=>rfl,(HR.out.2.2.2.2.1.up hqq).le,HR.out.2.2.2.2.1.ht⟩
   have H5:=hi6 S5 hq P5 p5 g5 (HR.out.2.2.2.2.2.2.2.2.2.2.2.2.1.trans (Z0b hbq))
   have cO:=Zp4 w5 s ts1 most nx1 _ _ v q S5 hq P5
   clear cv ch c10 c11 hbq p5 g5 e5 S5 hq hqq P5
   go_wp2_with fail
   refine cO.mono ?_
   rintro e w6 ⟨f6,m6,rfl,p6,g6,b6⟩
   have H6:=hi3 p6 g6 b6
   have cT:=Zkz w6 v (h:Int) HR.out.2.2.2.2.2.2.2.2.2.2.2.2.2.2.1 HR.out.2.2.2.2.2.2.2.2.2.2.2.2.2.2.2
   clear p6 g6 b6 cO
   go_wp2_with fail
   refine cT.mono ?_
   rintro e w7 ⟨rfl,t7,b7⟩
   have B7:=H6.out.2.2.trans (b7.mono H6.out.2.2.size)
   have S7:=H5.out.1.below B7
   have hTn:¬SkF s ts1 w6.heap.size:=fun e=>by have:=H5.out.1.lt _ e;have:=H6.out.2.2.size;omega
   have h18:1<=h/\h<=8:=by have:=HR.out.2.2.2.2.2.2.2.2.2.2.2.2.2.2;omega
   have cP:=Zl0 w7 s ts1 _ most nx1 f6 m6 v q w6.heap.size h S7.raw S7.ord H5.out.2.1 H6.out.1 H6.out.2.1 t7 h18.1 h18.2 hTn
   have o7:=(S7.ord).put (T:=w6.heap.size) H5.out.2.1 H6.out.1 H6.out.2.1 h18.1 h18.2 hTn
   have H7:=hi4 B7 o7 hTn h18
   clear b7 t7 cT S7 B7 o7 hTn h18
   go_wp2_with fail
   refine cP.mono ?_
   rintro e w8 ⟨f8,rfl,he8,g8,k8⟩
   have hql:=H5.out.2.1.le
   have P8:=H6.out.1.put (T:=w6.heap.size) (h:=h) (v:=v) hql he8
   obtain⟨gb,hgb⟩:∃gb:Nat->Nat,∀j,gb j=ndB (Z3r ts1 q ⟨w6.heap.size,v,h⟩) s (if j<h then q+1 else m6 j):=⟨_,fun _=>rfl⟩
   have e8:paA f8=paA (fun j=>.pointer (some ⟨gb j,0,none⟩)):=Z6g (fun j hj=>by rw[P8.eq j hj,hgb];rfl)
   have P8:PaP (Z3r ts1 q ⟨w6.heap.size,v,h⟩) s (q+1) (fun j=>.pointer (some ⟨gb j,0,none⟩)) (fun j=>if j<h then q+1 else m6 j):=⟨fun j _=>by show Value.pointer (some ⟨gb j,0,none⟩)=_;rw[hgb];rfl,P8.le,P8.ht⟩
   rw[e8]
   have nP7:¬(SkF s ts1 PB\/PB=w6.heap.size):=fun e=>by
    rcases e with e|e
    ·exact HR.out.2.2.2.2.2.2.2.2.2.2.1 e
    ·have:=H6.out.2.2.size;omega
   have nG7:¬(SkF s ts1 G\/G=w6.heap.size):=fun e=>by
    rcases e with e|e
    ·exact HR.out.2.2.2.2.2.2.2.2.2.2.2.1 e
    ·have:=H6.out.2.2.size;omega
   have p8:=(k8.block PB (Nlt zP5 H7.out.1.size) nP7).trans ((H7.out.1.block PB zP5).trans H5.out.2.2.2.1)
   have zG5:G<w5.heap.size:=by omega
   have g8G:=(k8.block G (Nlt zG5 H7.out.1.size) nG7).trans ((H7.out.1.block G zG5).trans H5.out.2.2.2.2.1)
   have ns8:¬s=PB:=fun e=>HR.out.2.2.2.2.2.2.2.2.2.2.1 (.inl e.symm)
   have ns8b:¬PB=s:=fun e=>ns8 e.symm
   have nsG:¬s=G:=fun e=>HR.out.2.2.2.2.2.2.2.2.2.2.2.1 (.inl e.symm)
   have nsGb:¬G=s:=fun e=>nsG e.symm
   have nPG:¬PB=G:=by omega
   have nGP:¬G=PB:=by omega
   have m8:w8.cell? ⟨s,10,none⟩=some (.int .i64 (ts1.length:Int)):=by simp only[World.cell?,g8.hd];rfl
   have fz8:w8.frozen? ⟨s,10,none⟩=false:=by simp[World.frozen?,g8.hd]
   have zs8:s<w8.heap.size:=g8.lt s (.inl rfl)
   have wz:IntKind.i64.wrap ((ts1.length:Int)+1)=(ts1.length:Int)+1:=I6n _ (by omega)
   have hbs:bc.size=n:=HR.out.2.2.2.2.2.2.2.2.1
   obtain⟨bi,hbi⟩:∃b,bc[i]?=some b:=⟨_,Array.getElem?_eq_getElem (by omega)⟩
   have cG:w8.cell? ⟨G,i,none⟩=some bi:=by simp only[World.cell?,g8G];exact hbi
   have fG:=Z06 g8G i
   have zG8:G<w8.heap.size:=(Gl g8G)
   have fp0:=Z06 p8 0
   have fp1:=Z06 p8 1
   have fp2:=Z06 p8 2
   have fp3:=Z06 p8 3
   have fp4:=Z06 p8 4
   have fp5:=Z06 p8 5
   have fp6:=Z06 p8 6
   have fp7:=Z06 p8 7
   obtain⟨⟨d0,d1,d2,d3,d4,d5,d6,d7⟩,zP8⟩:=Z6h p8
   have H8:=hi5 g8 k8 P8 p8 g8G
   clear g8 k8 P8 p8 g8G he8 e8 cP nP7 nG7 hbi hgb
   unfold paA
   go_upto_region 13 with fail
   generalize hw9:World.setCell _ _ _=w9
   have p9:w9.heap[PB]?=some (.cells (paA (fun j=>.pointer (some ⟨gb j,0,none⟩))) 297 (0,0)):=by rw[<-hw9];exact Zja H8.out.2.2.2.1 rfl
   have k9:Z01 (fun k=>k=PB) w8 w9:=by rw[<-hw9];exact Z42 _ _ _ _ _ _ _ _ _ _
   have g9:=H8.out.1.kept k9 (fun k e f=>by
    have f2:k=PB:=f
    rw[f2]at e
    rcases Z9w H5.out.2.1.le PB e with e3|e3
    ·exact HR.out.2.2.2.2.2.2.2.2.2.2.1 e3
    ·have e4:PB=w6.heap.size:=e3;have:=H6.out.2.2.size;omega)
   have m9:=(k9.cell (p:=⟨s,10,none⟩) zs8 ns8).trans m8
   have fz9:=(k9.frozen (p:=⟨s,10,none⟩) zs8 ns8).trans fz8
   have cG9:=(k9.cell (p:=⟨G,i,none⟩) zG8 nGP).trans cG
   have fG9:=(k9.frozen (p:=⟨G,i,none⟩) zG8 nGP).trans fG
   have zs9:=Nlt zs8 k9.size
   have zG9:=Nlt zG8 k9.size
   have gG9:=(k9.block G zG8 nGP).trans H8.out.2.2.2.2
   have H9:=hi4 p9 k9 g9 gG9
   clear hw9 p9 k9 g9 gG9 m8 fz8 cG fG d0 d1 d2 d3 d4 d5 d6 d7 fp0 fp1 fp2 fp3 fp4 fp5 fp6 fp7
   go_wp2
   go_roundw
   case rel=>
    obtain⟨p9,k9,g9,gG9⟩:=H9.out
    have hql:=H5.out.2.1.le
    have hL:=Z5y (t:=⟨w6.heap.size,v,h⟩) hql
    have o7:=H7.out.2.1
    have G10:=g9.many o7 ((ts1.length:Int)+1)
    have KS:=Z02 w9 ⟨s,10,none⟩ (.int .i64 ((ts1.length:Int)+1))
    have KG:=Z02 (w9.setCell ⟨s,10,none⟩ (.int .i64 ((ts1.length:Int)+1))) ⟨G,i,none⟩ (.bool true)
    have nGF:¬SkF s (Z3r ts1 q ⟨w6.heap.size,v,h⟩) G:=fun e=>by
     rcases Z9w hql G e with e3|e3
     ·exact HR.out.2.2.2.2.2.2.2.2.2.2.2.1 e3
     ·have e4:G=w6.heap.size:=e3;have:=H6.out.2.2.size;omega
    have nPF:¬SkF s (Z3r ts1 q ⟨w6.heap.size,v,h⟩) PB:=fun e=>by
     rcases Z9w hql PB e with e3|e3
     ·exact HR.out.2.2.2.2.2.2.2.2.2.2.1 e3
     ·have e4:PB=w6.heap.size:=e3;have:=H6.out.2.2.size;omega
    have G11:=G10.kept KG (fun k e f=>by have f2:k=G:=f;rw[f2]at e;exact nGF e)
    have p10:=(KS.block PB (Gl p9) ns8b).trans p9
    have p11:=(KG.block PB (Nlt (Gl p9) KS.size) nPG).trans p10
    have gG10:=(KS.block G zG9 nsGb).trans gG9
    have gG11:=Z00 gG10 i (.bool true)
    have hwb:=H3.out.2.size
    have hwG:=H4.out.2.2.2.2
    have K8w:Z01 (SkF s ts) w w8:=(HR.out.2.2.2.2.2.2.2.2.2.2.2.2.1.step (Z0b (F:=fun _=>False) (Brf _ _)) (fun i hi e=>e.elim) |>.trans (Z01.refl _ _)).step (Z01.refl (fun _=>False) _) (fun i hi e=>e.elim) |> fun _=>(H5.out.2.2.2.2.2.trans (Z0b H7.out.1)).step H8.out.2.1 (fun i hi e=>by
     rcases e with e|e
     ·rcases HR.out.2.2.2.2.2.2.2.2.2.1 i e with e2|e2
      ·exact e2
      ·omega
     ·have:=H5.out.2.2.2.2.2.size;have:=H6.out.2.2.size;omega)
    refine⟨i+1,Z3r ts1 q ⟨w6.heap.size,v,h⟩,nxI m6 nx1 q h,_,_,q+1,_,by omega,by go_num,SkP.of (by rw[hL];exact G11) o7 (by rw[hL];have:=H.out.2.2.2.2.2.1;have:=H.out.2.2.2.2.2.2.2.2.2;have:=HR.out.2.2.1;omega) hm9,?_,by rw[hL];have:=HR.out.2.2.1;omega,p11,H8.out.2.2.1,by rw[hL];omega,fun j hj hn2=>?_,gG11,by simpa using hbs,fun k e=>?_,nPF,nGF,?_⟩
    ·rw[Z9v H5.out.2.1,HR.out.2.1,List.take_succ_eq_append_getElem (by have:=H.out.2.2.2.2.2.2.2.2.2;omega),Z4g]
     congr 1
     have:=HR.out.2.2.2.2.2.2.2.2.2.2.2.2.2.1
     rw[Lgd,Lge (by have:=H.out.2.2.2.2.2.2.2.2.2;omega)]at this
     exact this.symm
    ·have hvn:v<=vs.getD (i+1) 0:=by
      rw[<-HR.out.2.2.2.2.2.2.2.2.2.2.2.2.2.1]
      exact H.out.2.2.2.2.2.2.1 i (i+1) (by omega) (by have:=H.out.2.2.2.2.2.2.2.2.2;omega)
     by_cases e:j=q
     ·subst e;rw[Z3s hql];exact hvn
     ·rw[Z6i hql (by omega)]
      have:=H5.out.2.1.lo j (by omega);omega
    ·rcases Z9w hql k e with e3|e3
     ·exact HR.out.2.2.2.2.2.2.2.2.2.1 k e3
     ·have e4:k=w6.heap.size:=e3
      have:=H5.out.2.2.2.2.2.size;have:=H6.out.2.2.size
      exact .inr (by omega)
    ·have K9w:=K8w.step k9 (fun k hk e=>by have e2:k=PB:=e;omega)
     exact(K9w.setCell (p:=⟨s,10,none⟩) (fun _=>.inl rfl) _).step KG (fun k hk e=>by have e2:k=G:=e;omega)
   case measure=>simp[intOf];omega
  ·obtain rfl:i=n:=by omega
   have HZ:=hi4 S1 e1 F1 K1
   clear S1 e1 l1 p1 P1 q1 v1 g1 s1 F1 nP nG K1
   go_wp2
   go_ret
   exact⟨⟨_,rfl⟩,ts1,⟨nx1,HZ.out.1⟩,by have:=HZ.out.2.1;rwa [List.take_of_length_le (by have:=H.out.2.2.2.2.2.2.2.2.2;omega)]at this,HZ.out.2.2.1,HZ.out.2.2.2⟩
end
end Go.Proofs.YtihljjgmkaeohaaGreat
