/- part 9 -/
import Derived.ArgAppend
import Derived.BigFrameIn
import Derived.Deep.CutBlock
import Derived.Deep.DeepCutAuto
import Derived.Deep.LoopGhost
import Derived.Defers
import Derived.LaidEqlPtr
import Derived.Laws.MakeOwn
import Derived.LoopIn
import Derived.LoopNIn
import Derived.OwnWalkIn
import Derived.RangeFuncBound
import Derived.RangeFuncCalls
import Derived.RangeFuncFrom
import Derived.RangeFuncKeeps
import Derived.RangeFuncLeaves
import Derived.RangeFuncMany
import Derived.RangeFuncNested
import Derived.Shelf.Abstract
import Derived.Shelf.RegionOpen
import Derived.TacticsInMore
import Derived.Test.YtihljjgmkaeohaaGreatPnAD
set_option linter.all false
set_option maxHeartbeats 16000000
set_option maxRecDepth 100000
namespace Go.Proofs.YtihljjgmkaeohaaGreat
section
open Go.RowKit Go.ChangeShapes Go.WideShapes Go.ChangeAt Go.Deep
def Z2b (w:World) (e:TypeId) (v:Value) (ys:List Value):Prop:=
 (v= .slice none 0 0/\ys= [])\/∃g off cap cur,v= .slice (some ⟨g,off,none⟩) ys.length cap/\w.heap[g]?=some (.cells cur e (0,0))/\ys.length<=cap/\cap<=maxLen/\off+cap<=cur.size/\∀j u,ys[j]?=some u->cur[off+j]?=some u
section
variable {w w':World} {e:TypeId} {v:Value} {ys:List Value}
theorem Z2b.nil (w:World) (e:TypeId):Z2b w e (.slice none 0 0) []:=.inl ⟨rfl,rfl⟩
theorem Z2b.lt (h:Z2b w e v ys) {g:Nat} (hg:v.ownBlock=some g):g<w.heap.size:=by
 rcases h with⟨rfl,_⟩|⟨g',off,cap,cur,rfl,hb,_⟩
 ·cases hg
 ·simp only[Value.ownBlock,Option.some.injEq]at hg
  subst hg
  exact(Gl hb)
theorem Z2b.kept {S:Nat->Prop} (h:Z2b w e v ys) (hk:Z01 S w w') (hs:∀g,v.ownBlock=some g->¬S g):Z2b w' e v ys:=by
 rcases h with h|⟨g,off,cap,cur,rfl,hb,r⟩
 ·exact .inl h
 ·exact .inr ⟨g,off,cap,cur,rfl,(hk.block g (Gl hb) (hs g rfl)).trans hb,r⟩
theorem Z2b.below (h:Z2b w e v ys) (hb:Below w.heap.size w w'):Z2b w' e v ys:=h.kept (Z01.of_below (S:=fun _=>False) hb (fun k h1 h2=>by omega)) (fun _ _ h=>h)
theorem Z2b.shape (h:Z2b w e v ys):∃ao cap,v= .slice ao ys.length cap:=by
 rcases h with⟨rfl,rfl⟩|⟨g,off,cap,cur,rfl,_⟩
 ·exact⟨none,0,rfl⟩
 ·exact⟨_,cap,rfl⟩
theorem Z2b.pos (h:Z2b w e v ys) (hp:0<ys.length):∃g off cap,v= .slice (some ⟨g,off,none⟩) ys.length cap/\ys.length<=cap/\cap<=maxLen/\g<w.heap.size/\(∀j u,ys[j]?=some u->w.cell? ⟨g,off+j,none⟩=some u)/\(∀j,w.frozen? ⟨g,j,none⟩=false):=by
 rcases h with⟨rfl,rfl⟩|⟨g,off,cap,cur,rfl,hb,hn,hm,hc,hv⟩
 ·simp at hp
 ·exact⟨g,off,cap,rfl,hn,hm,(Gl hb),fun j u hj=>by simp[World.cell?,hb,hv j u hj],fun j=>by simp[World.frozen?,hb]⟩
theorem Z2b.room {g off n cap:Nat} (h:Z2b w e (.slice (some ⟨g,off,none⟩) n cap) ys):(∀j,j<cap->(w.cell? ⟨g,off+j,none⟩).isSome=true)/\(∀j,w.frozen? ⟨g,j,none⟩=false)/\cap<=maxLen/\n=ys.length/\g<w.heap.size/\n<=cap/\(∀j u,ys[j]?=some u->w.cell? ⟨g,off+j,none⟩=some u):=by
 rcases h with⟨hv,_⟩|⟨g',off',cap',cur,hv,hb,hn,hm,hc,hx⟩
 ·cases hv
 ·cases hv
  exact⟨fun j hj=>by simp[World.cell?,hb];omega,fun j=>by simp[World.frozen?,hb],hm,rfl,(Gl hb),hn,fun j u hj=>by simp[World.cell?,hb,hx j u hj]⟩
section
variable {g off n cap:Nat} {y:Value}
theorem Z2b.tail (h:Z2b w e (.slice (some ⟨g,off,none⟩) n cap) (y::ys)):Z2b w e (.slice (some ⟨g,if cap=1 then off else off+1,none⟩) ys.length (cap-1)) ys:=by
 rcases h with⟨hv,_⟩|⟨g',off',cap',cur,hv,hb,hn,hm,hc,hx⟩
 ·cases hv
 ·cases hv
  rw[Llc]at hn
  refine .inr ⟨g,_,cap-1,cur,rfl,hb,by omega,by omega,by split<;>omega,fun j u hj=>?_⟩
  have h1:=hx (j+1) u (by simpa using hj)
  have h2:j<ys.length:=(List.getElem?_eq_some_iff.1 hj).1
  rw[if_neg (by omega),show off+1+j=off+(j+1) by omega]
  exact h1
theorem Z2b.front (h:Z2b w e (.slice (some ⟨g,off,none⟩) n cap) (ys++ [y])):Z2b w e (.slice (some ⟨g,off,none⟩) ys.length cap) ys:=by
 rcases h with⟨hv,_⟩|⟨g',off',cap',cur,hv,hb,hn,hm,hc,hx⟩
 ·cases hv
 ·cases hv
  rw[Lla,List.length_singleton]at hn
  refine .inr ⟨g,off,cap,cur,rfl,hb,by omega,hm,hc,fun j u hj=>hx j u ?_⟩
  have h2:j<ys.length:=(List.getElem?_eq_some_iff.1 hj).1
  rw[Lel h2];exact hj
end
theorem Z2b.snoc {g off n cap:Nat} (h:Z2b w e (.slice (some ⟨g,off,none⟩) n cap) ys) (hn:n<cap) (u:Value):Z2b (w.setCell ⟨g,off+n,none⟩ u) e (.slice (some ⟨g,off,none⟩) (n+1) cap) (ys++ [u]):=by
 rcases h with⟨hv,_⟩|⟨g',off',cap',cur,hv,hb,hn',hm,hc,hx⟩
 ·cases hv
 ·cases hv
  refine .inr ⟨g,off,cap,_,by simp,Z00 hb _ u,by simp;omega,hm,by simpa using hc,fun j x hj=>?_⟩
  rw[Array.getElem?_setIfInBounds]
  by_cases e:j=ys.length
  ·subst e
   rw[if_pos rfl,if_pos (by omega)]
   simpa using hj
  ·have h2:j<(ys++ [u]).length:=(List.getElem?_eq_some_iff.1 hj).1
   rw[Lla,List.length_singleton]at h2
   rw[if_neg (by omega)]
   rw[Lel (by omega)]at hj
   exact hx j x hj
theorem Z2b.of {base n:Nat} (h:w.ownsRow base e 1 v n ys):Z2b w e v ys:=by
 have hl:=h.1
 rcases h.2 with⟨rfl,h0⟩|⟨g,cap,cur,rfl,_,hg,hn,hm,hc,ht⟩
 ·exact .inl ⟨rfl,Lnl (by rw[hl,h0])⟩
 ·refine .inr ⟨g,0,cap,cur,by rw[show ys.length=n by omega],hg,by omega,hm,by omega,fun j u hj=>?_⟩
  have h2:j<ys.length:=(List.getElem?_eq_some_iff.1 hj).1
  rw[Nat.zero_add,<-Array.getElem?_toList,<-hj,<-ht,List.getElem?_take,if_pos (by omega)]
end
abbrev Z0w (W:List Int):List Value:=W.map (Value.int .i64)
structure EnP (w:World) (m:Nat) (v0 v1:Value) (W0 W1:List Int) (be most:Int):Prop where
 blk:w.heap[m]?=some (.cells #[v0,v1,.int .i64 be,.int .i64 most] 269 (0,0))
 row0:Z2b w 3 v0 (Z0w W0)
 row1:Z2b w 3 v1 (Z0w W1)
 ne0:∀t,v0.ownBlock=some t->t≠m
 ne1:∀t,v1.ownBlock=some t->t≠m
 ne:∀t,v0.ownBlock=some t->v1.ownBlock≠some t
abbrev EnF (m:Nat) (v0 v1:Value):Nat->Prop:=fun k=>k=m\/v0.ownBlock=some k\/v1.ownBlock=some k
section
variable {w w':World} {m:Nat} {v0 v1:Value} {W0 W1:List Int} {be most:Int}
theorem EnP.lt (h:EnP w m v0 v1 W0 W1 be most):m<w.heap.size:=(Gl h.blk)
theorem EnP.kept {S:Nat->Prop} (h:EnP w m v0 v1 W0 W1 be most) (hk:Z01 S w w') (hs:∀t,EnF m v0 v1 t->¬S t):EnP w' m v0 v1 W0 W1 be most:=⟨(hk.block m h.lt (hs m (.inl rfl))).trans h.blk,h.row0.kept hk (fun t e=>hs t (.inr (.inl e))),h.row1.kept hk (fun t e=>hs t (.inr (.inr e))),h.ne0,h.ne1,h.ne⟩
theorem EnP.below (h:EnP w m v0 v1 W0 W1 be most) (hb:Below w.heap.size w w'):EnP w' m v0 v1 W0 W1 be most:=⟨(hb.block m h.lt).trans h.blk,h.row0.below hb,h.row1.below hb,h.ne0,h.ne1,h.ne⟩
theorem EnP.flt (h:EnP w m v0 v1 W0 W1 be most):∀t,EnF m v0 v1 t->t<w.heap.size:=fun t e=>by
 rcases e with rfl|e|e
 ·exact h.lt
 ·exact h.row0.lt e
 ·exact h.row1.lt e
theorem EnP.cells (h:EnP w m v0 v1 W0 W1 be most):w.cell? ⟨m,0,none⟩=some v0/\w.cell? ⟨m,1,none⟩=some v1/\w.cell? ⟨m,2,none⟩=some (.int .i64 be)/\w.cell? ⟨m,3,none⟩=some (.int .i64 most)/\(∀j,w.frozen? ⟨m,j,none⟩=false)/\m<w.heap.size:=by
 have hb:=h.blk
 refine⟨by simp[World.cell?,hb],by simp[World.cell?,hb],by simp[World.cell?,hb],by simp[World.cell?,hb],fun j=>by simp[World.frozen?,hb],h.lt⟩
theorem EnP.set0 (h:EnP w m v0 v1 W0 W1 be most) {v':Value} {W':List Int} (hr:Z2b w 3 v' (Z0w W')) (hn:∀t,v'.ownBlock=some t->t≠m/\v1.ownBlock≠some t):EnP (w.setCell ⟨m,0,none⟩ v') m v' v1 W' W1 be most:=
 ⟨by rw[Z00 h.blk];rfl,hr.kept (Z02 w ⟨m,0,none⟩ _) (fun t e f=>(hn t e).1 f),h.row1.kept (Z02 w ⟨m,0,none⟩ _) (fun t e f=>h.ne1 t e f),fun t e=>(hn t e).1,h.ne1,fun t e=>(hn t e).2⟩
theorem EnP.set1 (h:EnP w m v0 v1 W0 W1 be most) {v':Value} {W':List Int} (hr:Z2b w 3 v' (Z0w W')) (hn:∀t,v'.ownBlock=some t->t≠m/\v0.ownBlock≠some t):EnP (w.setCell ⟨m,1,none⟩ v') m v0 v' W0 W' be most:=
 ⟨by rw[Z00 h.blk];rfl,h.row0.kept (Z02 w ⟨m,1,none⟩ _) (fun t e f=>h.ne0 t e f),hr.kept (Z02 w ⟨m,1,none⟩ _) (fun t e f=>(hn t e).1 f),h.ne0,fun t e=>(hn t e).1,fun t e f=>(hn t f).2 e⟩
end
section
variable (w:World) (m:Nat) (v0 v1:Value) (W W1:List Int) (y be most:Int)
theorem Zjg (h:EnP w m v0 v1 (W++ [y]) W1 be most) (hn:W.length<=1000000):
 Calls Tryz.prog 220 #[.pointer (some ⟨m,0,none⟩)] w fun e w'=>e= .returned (.int .i64 y)/\∃v',EnP w' m v' v1 (W) W1 be most/\v'.ownBlock=v0.ownBlock/\Z01 (fun k=>k=m) w w':=by
 obtain⟨c0,c1,c2,c3,hf,hm⟩:=h.cells
 obtain⟨n,hn'⟩:∃n,W.length=n:=⟨_,rfl⟩
 have hlen:(Z0w (W++ [y])).length=n+1:=by simp[hn']
 obtain⟨g,off,cap,rfl,hle,hcm,hgl,hc,-⟩:=h.row0.pos (by omega)
 rw[hlen]at hle
 have cy:=hc n (.int .i64 y) (by simp[<-hn'])
 have f0:=hf 0
 rw[hlen]at c0
 have hr:=h.row0
 rw[hlen]at hr
 have hr2:=(show Z2b w 3 (.slice (some ⟨g,off,none⟩) (n+1) cap) (Z0w W++ [.int .i64 y])from by simpa using hr).front
 have hiv:(Z0w W).length=n:=by simp[hn']
 rw[hiv]at hr2
 have H:=hi3 h hn' hr2
 have zc:(n:Int)+1<=(cap:Int):=by omega
 have z0:(0:Int)<=(n:Int):=by omega
 have zn:¬(n:Int)<0:=by omega
 have zw:IntKind.i64.wrap (n:Int)=(n:Int):=I6n _ (by omega)
 have zcn:n<=cap:=by omega
 have zc1:(n:Int)<=(cap:Int):=by omega
 have zs:1<=cap:=by omega
 clear h hc hf hlen hn' hr hr2 hiv
 go_enter Tryz.func220,Tryz.ntmps220
 go_wp2_with fail
 go_quiet (fail)
 go_wp2_with fail
 go_region
 all_goals
  go_wp2
  go_ret
  refine⟨rfl,_,(H.out.1.below (below_drewN (Brf _ _) nq).drew).set0 (H.out.2.2.below (below_drewN (Brf _ _) nq).drew) (fun t e=>?_),?_,(Z0b (F:=fun k=>k=m) (below_drewN (Brf _ _) nq).drew).setCell (p:=⟨m,0,none⟩) (fun _=>rfl) _⟩
  ·have h3:t=g:=by simpa [Value.ownBlock,eq_comm]using e
   subst h3
   exact⟨H.out.1.ne0 t rfl,H.out.1.ne t rfl⟩
  ·rfl
theorem Zjh (h:EnP w m v0 v1 (y::W) W1 be most) (hn:W.length<=1000000):
 Calls Tryz.prog 221 #[.pointer (some ⟨m,0,none⟩)] w fun e w'=>e= .returned (.int .i64 y)/\∃v',EnP w' m v' v1 (W) W1 be most/\v'.ownBlock=v0.ownBlock/\Z01 (fun k=>k=m) w w':=by
 obtain⟨c0,c1,c2,c3,hf,hm⟩:=h.cells
 obtain⟨n,hn'⟩:∃n,W.length=n:=⟨_,rfl⟩
 have hlen:(Z0w (y::W)).length=n+1:=by simp[hn']
 obtain⟨g,off,cap,rfl,hle,hcm,hgl,hc,-⟩:=h.row0.pos (by omega)
 rw[hlen]at hle
 have cy:=hc 0 (.int .i64 y) (by simp[<-hn'])
 have f0:=hf 0
 rw[hlen]at c0
 have hr:=h.row0
 rw[hlen]at hr
 have hr2:=(show Z2b w 3 (.slice (some ⟨g,off,none⟩) (n+1) cap) (.int .i64 y::Z0w W)from by simpa using hr).tail
 have cy:w.cell? ⟨g,off,none⟩=some (.int .i64 y):=cy
 have hiv:(Z0w W).length=n:=by simp[hn']
 rw[hiv]at hr2
 have H:=hi3 h hn' hr2
 have zc:(n:Int)+1<=(cap:Int):=by omega
 have z0:(0:Int)<=(n:Int):=by omega
 have zn:¬(n:Int)<0:=by omega
 have zw:IntKind.i64.wrap (n:Int)=(n:Int):=I6n _ (by omega)
 have zcn:n<=cap:=by omega
 have zc1:(n:Int)<=(cap:Int):=by omega
 have zs:1<=cap:=by omega
 clear h hc hf hlen hn' hr hr2 hiv
 go_enter Tryz.func221,Tryz.ntmps221
 by_cases hc1:cap=1
 ·subst hc1
  have h0:n=0:=by omega
  subst h0
  have H2:Z2b w 3 (.slice (some ⟨g,off,none⟩) 0 0) (Z0w W):=by simpa using H.out.2.2
  go_wp2
  go_ret
  refine⟨rfl,_,(H.out.1).set0 (H2) (fun t e=>?_),?_,(Z01.refl (fun k=>k=m) w).setCell (p:=⟨m,0,none⟩) (fun _=>rfl) _⟩
  ·have h3:t=g:=by simpa [Value.ownBlock,eq_comm]using e
   subst h3
   exact⟨H.out.1.ne0 t rfl,H.out.1.ne t rfl⟩
  ·rfl
 ·rw[if_neg hc1]at H
  go_wp2
  go_ret
  refine⟨rfl,_,(H.out.1).set0 (H.out.2.2) (fun t e=>?_),?_,(Z01.refl (fun k=>k=m) w).setCell (p:=⟨m,0,none⟩) (fun _=>rfl) _⟩
  ·have h3:t=g:=by simpa [Value.ownBlock,eq_comm]using e
   subst h3
   exact⟨H.out.1.ne0 t rfl,H.out.1.ne t rfl⟩
  ·rfl
end
section
variable (w:World) (m:Nat) (v0 v1:Value) (W W0:List Int) (y be most:Int)
theorem Zji (h:EnP w m v0 v1 W0 (W++ [y]) be most) (hn:W.length<=1000000):
 Calls Tryz.prog 220 #[.pointer (some ⟨m,1,none⟩)] w fun e w'=>e= .returned (.int .i64 y)/\∃v',EnP w' m v0 v' W0 (W) be most/\v'.ownBlock=v1.ownBlock/\Z01 (fun k=>k=m) w w':=by
 obtain⟨c0,c1,c2,c3,hf,hm⟩:=h.cells
 obtain⟨n,hn'⟩:∃n,W.length=n:=⟨_,rfl⟩
 have hlen:(Z0w (W++ [y])).length=n+1:=by simp[hn']
 obtain⟨g,off,cap,rfl,hle,hcm,hgl,hc,-⟩:=h.row1.pos (by omega)
 rw[hlen]at hle
 have cy:=hc n (.int .i64 y) (by simp[<-hn'])
 have f0:=hf 1
 rw[hlen]at c1
 have hr:=h.row1
 rw[hlen]at hr
 have hr2:=(show Z2b w 3 (.slice (some ⟨g,off,none⟩) (n+1) cap) (Z0w W++ [.int .i64 y])from by simpa using hr).front
 have hiv:(Z0w W).length=n:=by simp[hn']
 rw[hiv]at hr2
 have H:=hi3 h hn' hr2
 have zc:(n:Int)+1<=(cap:Int):=by omega
 have z0:(0:Int)<=(n:Int):=by omega
 have zn:¬(n:Int)<0:=by omega
 have zw:IntKind.i64.wrap (n:Int)=(n:Int):=I6n _ (by omega)
 have zcn:n<=cap:=by omega
 have zc1:(n:Int)<=(cap:Int):=by omega
 have zs:1<=cap:=by omega
 clear h hc hf hlen hn' hr hr2 hiv
 go_enter Tryz.func220,Tryz.ntmps220
 go_wp2_with fail
 go_quiet (fail)
 go_wp2_with fail
 go_region
 all_goals
  go_wp2
  go_ret
  refine⟨rfl,_,(H.out.1.below (below_drewN (Brf _ _) nq).drew).set1 (H.out.2.2.below (below_drewN (Brf _ _) nq).drew) (fun t e=>?_),?_,(Z0b (F:=fun k=>k=m) (below_drewN (Brf _ _) nq).drew).setCell (p:=⟨m,1,none⟩) (fun _=>rfl) _⟩
  ·have h3:t=g:=by simpa [Value.ownBlock,eq_comm]using e
   subst h3
   exact⟨H.out.1.ne1 t rfl,fun f=>H.out.1.ne t f rfl⟩
  ·rfl
theorem Zjj (h:EnP w m v0 v1 W0 (y::W) be most) (hn:W.length<=1000000):
 Calls Tryz.prog 221 #[.pointer (some ⟨m,1,none⟩)] w fun e w'=>e= .returned (.int .i64 y)/\∃v',EnP w' m v0 v' W0 (W) be most/\v'.ownBlock=v1.ownBlock/\Z01 (fun k=>k=m) w w':=by
 obtain⟨c0,c1,c2,c3,hf,hm⟩:=h.cells
 obtain⟨n,hn'⟩:∃n,W.length=n:=⟨_,rfl⟩
 have hlen:(Z0w (y::W)).length=n+1:=by simp[hn']
 obtain⟨g,off,cap,rfl,hle,hcm,hgl,hc,-⟩:=h.row1.pos (by omega)
 rw[hlen]at hle
 have cy:=hc 0 (.int .i64 y) (by simp[<-hn'])
 have f0:=hf 1
 rw[hlen]at c1
 have hr:=h.row1
 rw[hlen]at hr
 have hr2:=(show Z2b w 3 (.slice (some ⟨g,off,none⟩) (n+1) cap) (.int .i64 y::Z0w W)from by simpa using hr).tail
 have cy:w.cell? ⟨g,off,none⟩=some (.int .i64 y):=cy
 have hiv:(Z0w W).length=n:=by simp[hn']
 rw[hiv]at hr2
 have H:=hi3 h hn' hr2
 have zc:(n:Int)+1<=(cap:Int):=by omega
 have z0:(0:Int)<=(n:Int):=by omega
 have zn:¬(n:Int)<0:=by omega
 have zw:IntKind.i64.wrap (n:Int)=(n:Int):=I6n _ (by omega)
 have zcn:n<=cap:=by omega
 have zc1:(n:Int)<=(cap:Int):=by omega
 have zs:1<=cap:=by omega
 clear h hc hf hlen hn' hr hr2 hiv
 go_enter Tryz.func221,Tryz.ntmps221
 by_cases hc1:cap=1
 ·subst hc1
  have h0:n=0:=by omega
  subst h0
  have H2:Z2b w 3 (.slice (some ⟨g,off,none⟩) 0 0) (Z0w W):=by simpa using H.out.2.2
  go_wp2
  go_ret
  refine⟨rfl,_,(H.out.1).set1 (H2) (fun t e=>?_),?_,(Z01.refl (fun k=>k=m) w).setCell (p:=⟨m,1,none⟩) (fun _=>rfl) _⟩
  ·have h3:t=g:=by simpa [Value.ownBlock,eq_comm]using e
   subst h3
   exact⟨H.out.1.ne1 t rfl,fun f=>H.out.1.ne t f rfl⟩
  ·rfl
 ·rw[if_neg hc1]at H
  go_wp2
  go_ret
  refine⟨rfl,_,(H.out.1).set1 (H.out.2.2) (fun t e=>?_),?_,(Z01.refl (fun k=>k=m) w).setCell (p:=⟨m,1,none⟩) (fun _=>rfl) _⟩
  ·have h3:t=g:=by simpa [Value.ownBlock,eq_comm]using e
   subst h3
   exact⟨H.out.1.ne1 t rfl,fun f=>H.out.1.ne t f rfl⟩
  ·rfl
end
theorem EnP.setBe {w:World} {m:Nat} {v0 v1:Value} {W0 W1:List Int} {be most:Int} (h:EnP w m v0 v1 W0 W1 be most) (b2:Int):EnP (w.setCell ⟨m,2,none⟩ (.int .i64 b2)) m v0 v1 W0 W1 b2 most:=
 ⟨by rw[Z00 h.blk];rfl,h.row0.kept (Z02 w ⟨m,2,none⟩ _) (fun t e f=>h.ne0 t e f),h.row1.kept (Z02 w ⟨m,2,none⟩ _) (fun t e f=>h.ne1 t e f),h.ne0,h.ne1,h.ne⟩
theorem Zdm (w:World) (m:Nat) (v0 v1:Value) (W Wo:List Int) (y be most:Int) (h:EnP w m v0 v1 (W++ [y]) (Wo) be most) (hn:W.length<=1000000):
 Calls Tryz.prog 219 #[.pointer (some ⟨m,0,none⟩),.int .i64 0] w fun e w'=>e= .returned (.tuple #[.int .i64 y,.bool true])/\∃v',EnP w' m v' v1 (W) (Wo) be most/\v'.ownBlock=v0.ownBlock/\Z01 (fun k=>k=m) w w':=by
 obtain⟨c0,c1,c2,c3,hf,hs⟩:=h.cells
 obtain⟨a0,p0,e0⟩:=h.row0.shape
 obtain⟨a1,p1,e1⟩:=h.row1.shape
 have f2:=hf 2
 rw[e0]at c0
 rw[e1]at c1
 have z0:(0:Int)<=(W.length:Int):=by omega
 have z1:(0:Int)<=(Wo.length:Int):=by omega
 have hp:0<(W.length:Int)+1:=by omega
 simp only[Z0w,List.map_append,List.map_cons,List.map_nil,Lla,Llm,Llc,List.length_nil]at c0 c1
 have H:=hi3 h e0 e1
 clear h hf e0 e1 f2
 go_enter Tryz.func219,Tryz.ntmps219
 go_wp2_with fail
 go_quiet (fail)
 have h1:=H.out.1.below (below_drewN (Brf _ _) nq)
 have hB:=below_drewN (Brf w.heap.size w) nq
 generalize w.drewN nq=w1 at h1 hB |-
 clear c0 c1 c2 c3 hs
 obtain⟨c0,c1,c2,c3,hf,hs⟩:=h1.cells
 rw[H.out.2.1]at c0
 rw[H.out.2.2]at c1
 simp only[Z0w,List.map_append,List.map_cons,List.map_nil,Lla,Llm,Llc,List.length_nil]at c0 c1
 have f2:=hf 2
 have H1:=hi2 h1 hB
 clear h1 hB hf
 go_wp2_with fail
 refine(Zjg w1 m v0 v1 W Wo y be most H1.out.1 hn).mono ?_
 rintro e w2 ⟨rfl,v',h2,o2,k2⟩
 have H2:=hi3 h2 o2 k2
 clear h2 o2 k2
 go_wp2
 refine bodyPost_ret (v:=.tuple #[.int .i64 y,.bool true]) (by simp[results,Tryz.results219,go_sem]) rfl ⟨rfl,v',H2.out.1,H2.out.2.1,(Z0b H1.out.2).trans H2.out.2.2⟩
section
variable (w:World) (m:Nat) (v0 v1:Value)
theorem Zg8 (W Wo:List Int) (y be most:Int) (h:EnP w m v0 v1 ([]) (Wo) (be+1) most) (h0:0<=be) (h9:be<=1000000):
 Calls Tryz.prog 219 #[.pointer (some ⟨m,0,none⟩),.int .i64 0] w fun e w'=>e= .returned (.tuple #[.int .i64 (-1),.bool true])/\EnP w' m v0 v1 ([]) (Wo) be most/\Z01 (fun k=>k=m) w w':=by
 obtain⟨c0,c1,c2,c3,hf,hs⟩:=h.cells
 obtain⟨a0,p0,e0⟩:=h.row0.shape
 obtain⟨a1,p1,e1⟩:=h.row1.shape
 have f2:=hf 2
 rw[e0]at c0
 rw[e1]at c1
 have z0:(0:Int)<=(W.length:Int):=by omega
 have z1:(0:Int)<=(Wo.length:Int):=by omega
 have hp:0<(W.length:Int)+1:=by omega
 have hbe:0<be+1:=by omega
 have hw:IntKind.i64.wrap be=be:=I6n _ (by omega)
 simp only[Z0w,List.map_append,List.map_cons,List.map_nil,Lla,Llm,Llc,List.length_nil]at c0 c1
 have H:=hi3 h e0 e1
 clear h hf e0 e1 f2
 go_enter Tryz.func219,Tryz.ntmps219
 go_wp2_with fail
 go_quiet (fail)
 have h1:=H.out.1.below (below_drewN (Brf _ _) nq)
 have hB:=below_drewN (Brf w.heap.size w) nq
 generalize w.drewN nq=w1 at h1 hB |-
 clear c0 c1 c2 c3 hs
 obtain⟨c0,c1,c2,c3,hf,hs⟩:=h1.cells
 rw[H.out.2.1]at c0
 rw[H.out.2.2]at c1
 simp only[Z0w,List.map_append,List.map_cons,List.map_nil,Lla,Llm,Llc,List.length_nil]at c0 c1
 have f2:=hf 2
 have H1:=hi2 h1 hB
 clear h1 hB hf
 go_wp2_with fail
 go_wp2
 refine bodyPost_ret (v:=.tuple #[.int .i64 (-1),.bool true]) (by simp[results,Tryz.results219,go_sem]) rfl ⟨rfl,H1.out.1.setBe be,(Z0b (F:=fun k=>k=m) H1.out.2).setCell (p:=⟨m,2,none⟩) (fun _=>rfl) _⟩
theorem Zg9 (W Wo:List Int) (y be most:Int) (h:EnP w m v0 v1 ([]) (y::W) 0 most) (hn:W.length<=1000000):
 Calls Tryz.prog 219 #[.pointer (some ⟨m,0,none⟩),.int .i64 0] w fun e w'=>e= .returned (.tuple #[.int .i64 y,.bool true])/\∃v',EnP w' m v0 v' ([]) (W) 0 most/\v'.ownBlock=v1.ownBlock/\Z01 (fun k=>k=m) w w':=by
 obtain⟨c0,c1,c2,c3,hf,hs⟩:=h.cells
 obtain⟨a0,p0,e0⟩:=h.row0.shape
 obtain⟨a1,p1,e1⟩:=h.row1.shape
 have f2:=hf 2
 rw[e0]at c0
 rw[e1]at c1
 have z0:(0:Int)<=(W.length:Int):=by omega
 have z1:(0:Int)<=(Wo.length:Int):=by omega
 have hp:0<(W.length:Int)+1:=by omega
 simp only[Z0w,List.map_append,List.map_cons,List.map_nil,Lla,Llm,Llc,List.length_nil]at c0 c1
 have H:=hi3 h e0 e1
 clear h hf e0 e1 f2
 go_enter Tryz.func219,Tryz.ntmps219
 go_wp2_with fail
 go_quiet (fail)
 have h1:=H.out.1.below (below_drewN (Brf _ _) nq)
 have hB:=below_drewN (Brf w.heap.size w) nq
 generalize w.drewN nq=w1 at h1 hB |-
 clear c0 c1 c2 c3 hs
 obtain⟨c0,c1,c2,c3,hf,hs⟩:=h1.cells
 rw[H.out.2.1]at c0
 rw[H.out.2.2]at c1
 simp only[Z0w,List.map_append,List.map_cons,List.map_nil,Lla,Llm,Llc,List.length_nil]at c0 c1
 have f2:=hf 2
 have H1:=hi2 h1 hB
 clear h1 hB hf
 go_wp2_with fail
 refine(Zjj w1 m v0 v1 W [] y 0 most H1.out.1 hn).mono ?_
 rintro e w2 ⟨rfl,v',h2,o2,k2⟩
 have H2:=hi3 h2 o2 k2
 clear h2 o2 k2
 go_wp2
 refine bodyPost_ret (v:=.tuple #[.int .i64 y,.bool true]) (by simp[results,Tryz.results219,go_sem]) rfl ⟨rfl,v',H2.out.1,H2.out.2.1,(Z0b H1.out.2).trans H2.out.2.2⟩
theorem Zdn (W Wo:List Int) (y be most:Int) (h:EnP w m v0 v1 ([]) ([]) 0 most):
 Calls Tryz.prog 219 #[.pointer (some ⟨m,0,none⟩),.int .i64 0] w fun e w'=>e= .returned (.tuple #[.int .i64 0,.bool false])/\Below w.heap.size w w':=by
 obtain⟨c0,c1,c2,c3,hf,hs⟩:=h.cells
 obtain⟨a0,p0,e0⟩:=h.row0.shape
 obtain⟨a1,p1,e1⟩:=h.row1.shape
 have f2:=hf 2
 rw[e0]at c0
 rw[e1]at c1
 have z0:(0:Int)<=(W.length:Int):=by omega
 have z1:(0:Int)<=(Wo.length:Int):=by omega
 have hp:0<(W.length:Int)+1:=by omega
 simp only[Z0w,List.map_append,List.map_cons,List.map_nil,Lla,Llm,Llc,List.length_nil]at c0 c1
 have H:=hi3 h e0 e1
 clear h hf e0 e1 f2
 go_enter Tryz.func219,Tryz.ntmps219
 go_wp2_with fail
 go_quiet (fail)
 have h1:=H.out.1.below (below_drewN (Brf _ _) nq)
 have hB:=below_drewN (Brf w.heap.size w) nq
 generalize w.drewN nq=w1 at h1 hB |-
 clear c0 c1 c2 c3 hs
 obtain⟨c0,c1,c2,c3,hf,hs⟩:=h1.cells
 rw[H.out.2.1]at c0
 rw[H.out.2.2]at c1
 simp only[Z0w,List.map_append,List.map_cons,List.map_nil,Lla,Llm,Llc,List.length_nil]at c0 c1
 have f2:=hf 2
 have H1:=hi2 h1 hB
 clear h1 hB hf
 go_wp2_with fail
 go_wp2
 refine bodyPost_ret (v:=.tuple #[.int .i64 0,.bool false]) (by simp[results,Tryz.results219,go_sem]) rfl ⟨rfl,H1.out.2⟩
theorem Zdo (W Wo:List Int) (y be most:Int) (h:EnP w m v0 v1 (Wo) (W++ [y]) be most) (hn:W.length<=1000000):
 Calls Tryz.prog 219 #[.pointer (some ⟨m,0,none⟩),.int .i64 1] w fun e w'=>e= .returned (.tuple #[.int .i64 y,.bool true])/\∃v',EnP w' m v0 v' (Wo) (W) be most/\v'.ownBlock=v1.ownBlock/\Z01 (fun k=>k=m) w w':=by
 obtain⟨c0,c1,c2,c3,hf,hs⟩:=h.cells
 obtain⟨a0,p0,e0⟩:=h.row0.shape
 obtain⟨a1,p1,e1⟩:=h.row1.shape
 have f2:=hf 2
 rw[e0]at c0
 rw[e1]at c1
 have z0:(0:Int)<=(W.length:Int):=by omega
 have z1:(0:Int)<=(Wo.length:Int):=by omega
 have hp:0<(W.length:Int)+1:=by omega
 simp only[Z0w,List.map_append,List.map_cons,List.map_nil,Lla,Llm,Llc,List.length_nil]at c0 c1
 have H:=hi3 h e0 e1
 clear h hf e0 e1 f2
 go_enter Tryz.func219,Tryz.ntmps219
 go_wp2_with fail
 go_quiet (fail)
 have h1:=H.out.1.below (below_drewN (Brf _ _) nq)
 have hB:=below_drewN (Brf w.heap.size w) nq
 generalize w.drewN nq=w1 at h1 hB |-
 clear c0 c1 c2 c3 hs
 obtain⟨c0,c1,c2,c3,hf,hs⟩:=h1.cells
 rw[H.out.2.1]at c0
 rw[H.out.2.2]at c1
 simp only[Z0w,List.map_append,List.map_cons,List.map_nil,Lla,Llm,Llc,List.length_nil]at c0 c1
 have f2:=hf 2
 have H1:=hi2 h1 hB
 clear h1 hB hf
 go_wp2_with fail
 refine(Zji w1 m v0 v1 W Wo y be most H1.out.1 hn).mono ?_
 rintro e w2 ⟨rfl,v',h2,o2,k2⟩
 have H2:=hi3 h2 o2 k2
 clear h2 o2 k2
 go_wp2
 refine bodyPost_ret (v:=.tuple #[.int .i64 y,.bool true]) (by simp[results,Tryz.results219,go_sem]) rfl ⟨rfl,v',H2.out.1,H2.out.2.1,(Z0b H1.out.2).trans H2.out.2.2⟩
theorem Zga (W Wo:List Int) (y be most:Int) (h:EnP w m v0 v1 (Wo) ([]) (be+1) most) (h0:0<=be) (h9:be<=1000000):
 Calls Tryz.prog 219 #[.pointer (some ⟨m,0,none⟩),.int .i64 1] w fun e w'=>e= .returned (.tuple #[.int .i64 (-1),.bool true])/\EnP w' m v0 v1 (Wo) ([]) be most/\Z01 (fun k=>k=m) w w':=by
 obtain⟨c0,c1,c2,c3,hf,hs⟩:=h.cells
 obtain⟨a0,p0,e0⟩:=h.row0.shape
 obtain⟨a1,p1,e1⟩:=h.row1.shape
 have f2:=hf 2
 rw[e0]at c0
 rw[e1]at c1
 have z0:(0:Int)<=(W.length:Int):=by omega
 have z1:(0:Int)<=(Wo.length:Int):=by omega
 have hp:0<(W.length:Int)+1:=by omega
 have hbe:0<be+1:=by omega
 have hw:IntKind.i64.wrap be=be:=I6n _ (by omega)
 simp only[Z0w,List.map_append,List.map_cons,List.map_nil,Lla,Llm,Llc,List.length_nil]at c0 c1
 have H:=hi3 h e0 e1
 clear h hf e0 e1 f2
 go_enter Tryz.func219,Tryz.ntmps219
 go_wp2_with fail
 go_quiet (fail)
 have h1:=H.out.1.below (below_drewN (Brf _ _) nq)
 have hB:=below_drewN (Brf w.heap.size w) nq
 generalize w.drewN nq=w1 at h1 hB |-
 clear c0 c1 c2 c3 hs
 obtain⟨c0,c1,c2,c3,hf,hs⟩:=h1.cells
 rw[H.out.2.1]at c0
 rw[H.out.2.2]at c1
 simp only[Z0w,List.map_append,List.map_cons,List.map_nil,Lla,Llm,Llc,List.length_nil]at c0 c1
 have f2:=hf 2
 have H1:=hi2 h1 hB
 clear h1 hB hf
 go_wp2_with fail
 go_wp2
 refine bodyPost_ret (v:=.tuple #[.int .i64 (-1),.bool true]) (by simp[results,Tryz.results219,go_sem]) rfl ⟨rfl,H1.out.1.setBe be,(Z0b (F:=fun k=>k=m) H1.out.2).setCell (p:=⟨m,2,none⟩) (fun _=>rfl) _⟩
theorem Zgb (W Wo:List Int) (y be most:Int) (h:EnP w m v0 v1 (y::W) ([]) 0 most) (hn:W.length<=1000000):
 Calls Tryz.prog 219 #[.pointer (some ⟨m,0,none⟩),.int .i64 1] w fun e w'=>e= .returned (.tuple #[.int .i64 y,.bool true])/\∃v',EnP w' m v' v1 (W) ([]) 0 most/\v'.ownBlock=v0.ownBlock/\Z01 (fun k=>k=m) w w':=by
 obtain⟨c0,c1,c2,c3,hf,hs⟩:=h.cells
 obtain⟨a0,p0,e0⟩:=h.row0.shape
 obtain⟨a1,p1,e1⟩:=h.row1.shape
 have f2:=hf 2
 rw[e0]at c0
 rw[e1]at c1
 have z0:(0:Int)<=(W.length:Int):=by omega
 have z1:(0:Int)<=(Wo.length:Int):=by omega
 have hp:0<(W.length:Int)+1:=by omega
 simp only[Z0w,List.map_append,List.map_cons,List.map_nil,Lla,Llm,Llc,List.length_nil]at c0 c1
 have H:=hi3 h e0 e1
 clear h hf e0 e1 f2
 go_enter Tryz.func219,Tryz.ntmps219
 go_wp2_with fail
 go_quiet (fail)
 have h1:=H.out.1.below (below_drewN (Brf _ _) nq)
 have hB:=below_drewN (Brf w.heap.size w) nq
 generalize w.drewN nq=w1 at h1 hB |-
 clear c0 c1 c2 c3 hs
 obtain⟨c0,c1,c2,c3,hf,hs⟩:=h1.cells
 rw[H.out.2.1]at c0
 rw[H.out.2.2]at c1
 simp only[Z0w,List.map_append,List.map_cons,List.map_nil,Lla,Llm,Llc,List.length_nil]at c0 c1
 have f2:=hf 2
 have H1:=hi2 h1 hB
 clear h1 hB hf
 go_wp2_with fail
 refine(Zjh w1 m v0 v1 W [] y 0 most H1.out.1 hn).mono ?_
 rintro e w2 ⟨rfl,v',h2,o2,k2⟩
 have H2:=hi3 h2 o2 k2
 clear h2 o2 k2
 go_wp2
 refine bodyPost_ret (v:=.tuple #[.int .i64 y,.bool true]) (by simp[results,Tryz.results219,go_sem]) rfl ⟨rfl,v',H2.out.1,H2.out.2.1,(Z0b H1.out.2).trans H2.out.2.2⟩
theorem Zdp (W Wo:List Int) (y be most:Int) (h:EnP w m v0 v1 ([]) ([]) 0 most):
 Calls Tryz.prog 219 #[.pointer (some ⟨m,0,none⟩),.int .i64 1] w fun e w'=>e= .returned (.tuple #[.int .i64 0,.bool false])/\Below w.heap.size w w':=by
 obtain⟨c0,c1,c2,c3,hf,hs⟩:=h.cells
 obtain⟨a0,p0,e0⟩:=h.row0.shape
 obtain⟨a1,p1,e1⟩:=h.row1.shape
 have f2:=hf 2
 rw[e0]at c0
 rw[e1]at c1
 have z0:(0:Int)<=(W.length:Int):=by omega
 have z1:(0:Int)<=(Wo.length:Int):=by omega
 have hp:0<(W.length:Int)+1:=by omega
 simp only[Z0w,List.map_append,List.map_cons,List.map_nil,Lla,Llm,Llc,List.length_nil]at c0 c1
 have H:=hi3 h e0 e1
 clear h hf e0 e1 f2
 go_enter Tryz.func219,Tryz.ntmps219
 go_wp2_with fail
 go_quiet (fail)
 have h1:=H.out.1.below (below_drewN (Brf _ _) nq)
 have hB:=below_drewN (Brf w.heap.size w) nq
 generalize w.drewN nq=w1 at h1 hB |-
 clear c0 c1 c2 c3 hs
 obtain⟨c0,c1,c2,c3,hf,hs⟩:=h1.cells
 rw[H.out.2.1]at c0
 rw[H.out.2.2]at c1
 simp only[Z0w,List.map_append,List.map_cons,List.map_nil,Lla,Llm,Llc,List.length_nil]at c0 c1
 have f2:=hf 2
 have H1:=hi2 h1 hB
 clear h1 hB hf
 go_wp2_with fail
 go_wp2
 refine bodyPost_ret (v:=.tuple #[.int .i64 0,.bool false]) (by simp[results,Tryz.results219,go_sem]) rfl ⟨rfl,H1.out.2⟩
end
abbrev Z6n (bs:List Bool):List Value:=bs.map Value.bool
structure CoP (w:World) (c:Nat) (cv:Value) (bs:List Bool):Prop where
 blk:w.heap[c]?=some (.cells #[cv] 157 (0,0))
 row:Z2b w 4 cv (Z6n bs)
 ne:∀t,cv.ownBlock=some t->t≠c
 le:bs.length<=20000
abbrev CoF (c:Nat) (cv:Value):Nat->Prop:=fun k=>k=c\/cv.ownBlock=some k
section
variable {w w':World} {c:Nat} {cv:Value} {bs:List Bool}
theorem CoP.lt (h:CoP w c cv bs):∀k,CoF c cv k->k<w.heap.size:=fun k e=>by
 rcases e with rfl|e
 ·exact(Gl h.blk)
 ·exact h.row.lt e
theorem CoP.kept {F:Nat->Prop} (h:CoP w c cv bs) (hk:Z01 F w w') (hd:∀k,CoF c cv k->¬F k):CoP w' c cv bs:=⟨(hk.block c (h.lt c (.inl rfl)) (hd c (.inl rfl))).trans h.blk,h.row.kept hk (fun t e=>hd t (.inr e)),h.ne,h.le⟩
theorem CoP.below (h:CoP w c cv bs) (hb:Below w.heap.size w w'):CoP w' c cv bs:=h.kept (Z01.of_below (S:=fun _=>False) hb (fun k h1 h2=>by omega)) (fun _ _ h=>h)
theorem CoP.cells (h:CoP w c cv bs):w.cell? ⟨c,0,none⟩=some cv/\(∀j,w.frozen? ⟨c,j,none⟩=false)/\c<w.heap.size:=by
 have hb:=h.blk
 exact⟨by simp[World.cell?,hb],fun j=>by simp[World.frozen?,hb],h.lt c (.inl rfl)⟩
theorem CoP.set (h:CoP w c cv bs) {v':Value} {bs':List Bool} (hr:Z2b w 4 v' (Z6n bs')) (hn:∀t,v'.ownBlock=some t->t≠c) (hl:bs'.length<=20000):CoP (w.setCell ⟨c,0,none⟩ v') c v' bs':=
 ⟨by rw[Z00 h.blk];rfl,hr.kept (Z02 w ⟨c,0,none⟩ _) (fun t e f=>hn t e f),hn,hl⟩
end
section
variable (w:World) (c:Nat) (cv:Value) (bs:List Bool)
theorem Zmz (h:CoP w c cv bs):Calls Tryz.prog 248 #[.pointer (some ⟨c,0,none⟩)] w fun e w'=>e= .returned (.int .i64 (bs.length:Int))/\w=w':=by
 obtain⟨c0,-,hc⟩:=h.cells
 obtain⟨ao,cap,e0⟩:=h.row.shape
 rw[show(Z6n bs).length=bs.length by simp]at e0
 rw[e0]at c0
 clear h e0
 go_enter Tryz.func248,Tryz.ntmps248
 go_wp2
 go_ret
 exact⟨rfl,rfl⟩
theorem Zn0 (h:CoP w c cv bs):Calls Tryz.prog 240 #[.pointer (some ⟨c,0,none⟩)] w fun e w'=>(∃b,e= .returned (.bool b))/\∃v' bs',CoP w' c v' bs'/\v'.ownBlock=cv.ownBlock/\Z01 (fun k=>k=c) w w':=by
 have cL:=Zmz w c cv bs h
 cases bs with
 |nil=>
  have H:=Hd h
  clear h
  go_enter Tryz.func240,Tryz.ntmps240
  go_wp2_with fail
  refine cL.mono ?_
  rintro e w' ⟨rfl,rfl⟩
  go_wp2
  go_ret
  exact⟨⟨_,rfl⟩,cv,[],H.out,rfl,Z01.refl _ _⟩
 |cons b bs=>
  obtain⟨c0,hf,hc⟩:=h.cells
  have f0:=hf 0
  obtain⟨n,hn⟩:∃n,bs.length=n:=⟨_,rfl⟩
  have hlen:(Z6n (b::bs)).length=n+1:=by simp[hn]
  obtain⟨g,off,cap,rfl,hle,hcm,hgl,hx,-⟩:=h.row.pos (by omega)
  rw[hlen]at hle c0
  have cy:w.cell? ⟨g,off,none⟩=some (.bool b):=hx 0 _ rfl
  have hr:=h.row
  rw[hlen]at hr
  have hr2:=(show Z2b w 4 (.slice (some ⟨g,off,none⟩) (n+1) cap) (.bool b::Z6n bs)from hr).tail
  rw[show(Z6n bs).length=n by simp[hn]]at hr2
  have hn0:¬((n:Int)+1)=0:=by omega
  rw[show((b::bs).length:Int)=(n:Int)+1 by simp[hn]]at cL
  have zc:(n:Int)+1<=(cap:Int):=by omega
  have z0:(0:Int)<=(n:Int):=by omega
  have H:=hi3 h hn hr2
  clear h hx hf hlen hn hr hr2
  go_enter Tryz.func240,Tryz.ntmps240
  go_wp2_with fail
  refine cL.mono ?_
  rintro e w' ⟨rfl,rfl⟩
  clear cL
  by_cases hc1:cap=1
  ·subst hc1
   have h0:n=0:=by omega
   subst h0
   have H2:Z2b w 4 (.slice (some ⟨g,off,none⟩) 0 0) (Z6n bs):=by simpa using H.out.2.2
   go_wp2
   go_ret
   exact⟨⟨_,rfl⟩,_,bs,H.out.1.set H2 (fun t e=>H.out.1.ne t e) (by have:=H.out.1.le;simp at this;omega),rfl,(Z01.refl (fun k=>k=c) w).setCell (p:=⟨c,0,none⟩) (fun _=>rfl) _⟩
  ·rw[if_neg hc1]at H
   go_wp2
   go_ret
   exact⟨⟨_,rfl⟩,_,bs,H.out.1.set H.out.2.2 (fun t e=>H.out.1.ne t e) (by have:=H.out.1.le;simp at this;omega),rfl,(Z01.refl (fun k=>k=c) w).setCell (p:=⟨c,0,none⟩) (fun _=>rfl) _⟩
theorem Za3 (h:CoP w c cv bs):Calls Tryz.prog 234 #[.pointer (some ⟨c,0,none⟩)] w fun e w'=>∃n:Nat,e= .returned (.int .i64 (n:Int))/\1<=n/\n<=8/\∃v' bs',CoP w' c v' bs'/\v'.ownBlock=cv.ownBlock/\Z01 (fun k=>k=c) w w':=by
 have H:=Hd h
 clear h
 go_enter Tryz.func234,Tryz.ntmps234
 go_wp2_with fail
 go_step3
 go_wp2_with fail
 go_step3
 go_wp2_with fail
 go_loopw [3] (fun k wr=>∃(n:Nat) (v':Value) (bs':List Bool),1<=n/\n<=8/\k= .int .i64 n/\CoP wr c v' bs'/\v'.ownBlock=cv.ownBlock/\Z01 (fun k=>k=c) w wr) (fun k _=>8-(intOf k).toNat)
 case atStart=>exact⟨1,cv,bs,by omega,by omega,rfl,H.out,rfl,Z01.refl _ _⟩
 case round=>
  obtain⟨n,v1,b1,h1,h8,rfl,hC,hO,hK⟩:=hrel
  by_cases hn:n=8
  ·subst hn
   rw[show(((8:Nat)):Int)=8 from rfl]
   have HC:=hi3 hC hO hK
   clear hC hO hK
   go_wp2
   try rw[Exit.noGoto_ret]
   go_ret
   exact⟨8,rfl,by omega,by omega,v1,b1,HC.out⟩
  ·have hn':¬(n:Int)=8:=by omega
   have hb8:((n:Int) == 8)=false:=by simp[hn']
   have wz:IntKind.i64.wrap ((n:Int)+1)=((n+1:Nat):Int):=by rw[show(n:Int)+1=((n+1:Nat):Int) by omega];exact I6n _ (by omega)
   have cT:=Zn0 wr c v1 b1 hC
   have HC:=hi2 hO hK
   clear hC hO hK
   go_wp2_with fail
   refine cT.mono ?_
   rintro e w3 ⟨⟨b,rfl⟩,v3,b3,h3,o3,k3⟩
   have H3:=hi3 h3 (o3.trans HC.out.1) (HC.out.2.trans k3)
   clear h3 o3 k3 cT
   cases b
   ·go_wp2
    try rw[Exit.noGoto_ret]
    go_ret
    exact⟨n,rfl,h1,h8,v3,b3,H3.out⟩
   ·go_wp2
    go_roundw
    case rel=>exact⟨n+1,v3,b3,by omega,by omega,by go_num,H3.out.1,H3.out.2.1,H3.out.2.2⟩
    case measure=>simp[intOf];omega
end
structure RgP (w:World) (r:Nat) (v:Value) (cs:List Int) (f:Nat) (xs:List Int):Prop where
 blk:w.heap[r]?=some (.cells #[v,.int .i64 (f:Int),.int .i64 (xs.length:Int)] 148 (0,0))
 row:R32 w v cs
 ne:∀t,v.ownBlock=some t->t≠r
 hf:f<cs.length
 hm:xs.length<=cs.length
 h9:cs.length<=1000
 hc:∀i,i<xs.length->cs.getD ((f+i)%cs.length) 0=xs.getD i 0
section
variable {w w':World} {r:Nat} {v:Value} {cs:List Int} {f:Nat} {xs:List Int}
theorem RgP.lt (h:RgP w r v cs f xs):r<w.heap.size:=(Gl h.blk)
theorem RgP.kept {S:Nat->Prop} (h:RgP w r v cs f xs) (hk:Z01 S w w') (h1:¬S r) (h2:∀t,v.ownBlock=some t->¬S t):RgP w' r v cs f xs:=⟨(hk.block r h.lt h1).trans h.blk,h.row.kept hk h2,h.ne,h.hf,h.hm,h.h9,h.hc⟩
theorem RgP.below (h:RgP w r v cs f xs) (hb:Below w.heap.size w w'):RgP w' r v cs f xs:=⟨(hb.block r h.lt).trans h.blk,h.row.below hb,h.ne,h.hf,h.hm,h.h9,h.hc⟩
theorem RgP.cells (h:RgP w r v cs f xs):w.cell? ⟨r,0,none⟩=some v/\w.cell? ⟨r,1,none⟩=some (.int .i64 (f:Int))/\w.cell? ⟨r,2,none⟩=some (.int .i64 (xs.length:Int))/\(∀j,w.frozen? ⟨r,j,none⟩=false)/\r<w.heap.size:=by
 have hb:=h.blk
 refine⟨by simp[World.cell?,hb],by simp[World.cell?,hb],by simp[World.cell?,hb],fun j=>by simp[World.frozen?,hb],h.lt⟩
end
section
variable (w:World) (r:Nat) (v:Value) (cs:List Int) (f:Nat) (xs:List Int)
theorem Z2j (h:RgP w r v cs f xs):
 Calls Tryz.prog 198 #[.pointer (some ⟨r,0,none⟩)] w fun e w'=>e= .returned (.int .i64 xs.length)/\w=w':=by
 obtain⟨c0,c1,c2,-,hs⟩:=h.cells
 clear h
 go_enter Tryz.func198,Tryz.ntmps198
 go_wp2
 go_ret
 exact⟨rfl,rfl⟩
theorem Z3t (h:RgP w r v cs f xs):
 Calls Tryz.prog 207 #[.pointer (some ⟨r,0,none⟩)] w fun e w'=>e= .returned (.int .i64 cs.length)/\w=w':=by
 obtain⟨c0,c1,c2,-,hs⟩:=h.cells
 obtain⟨ao,cap,rfl⟩:=h.row.shape
 clear h
 go_enter Tryz.func207,Tryz.ntmps207
 go_wp2
 go_ret
 exact⟨rfl,rfl⟩
end
theorem Z9y (a n:Nat):Int.tmod ((a:Int)+(n:Int)) (n:Int)=((a%n:Nat):Int):=by
 have h1:((a:Int)+(n:Int))=((a+n:Nat):Int):=by omega
 rw[h1,show Int.tmod ((a+n:Nat):Int) (n:Int)=(((a+n)%n:Nat):Int)from rfl,Nat.add_mod_right]
theorem Zg5 (w:World) (r g n cap f k:Nat) (m:Int) (hb:w.heap[r]?=some (.cells #[.slice (some ⟨g,0,none⟩) n cap,.int .i64 (f:Int),.int .i64 m] 148 (0,0))) (hf:f<n) (h9:n<=1000) (hk:k<=1000):
 Calls Tryz.prog 201 #[.pointer (some ⟨r,0,none⟩),.int .i64 (k:Int)] w fun e w'=>e= .returned (.pointer (some ⟨g,(f+k)%n,none⟩))/\Below w.heap.size w w':=by
 have c0:w.cell? ⟨r,0,none⟩=some (.slice (some ⟨g,0,none⟩) n cap):=by simp[World.cell?,hb]
 have c1:w.cell? ⟨r,1,none⟩=some (.int .i64 (f:Int)):=by simp[World.cell?,hb]
 have w1:IntKind.i64.wrap ((f:Int)+(k:Int))=(f:Int)+(k:Int):=I6n _ (by omega)
 have w2:IntKind.i64.wrap ((f:Int)+(k:Int)+(n:Int))=(f:Int)+(k:Int)+(n:Int):=I6n _ (by omega)
 have w3:Int.tmod ((f:Int)+(k:Int)+(n:Int)) (n:Int)=(((f+k)%n:Nat):Int):=by
  have:=Z9y (f+k) n
  rwa [show((f+k:Nat):Int)=(f:Int)+(k:Int) by omega]at this
 obtain⟨q,hq⟩:∃q,(f+k)%n=q:=⟨_,rfl⟩
 have hqn:q<n:=by rw[<-hq];exact Nat.mod_lt _ (by omega)
 rw[hq]at w3 |-
 clear hq hb
 have hn0:¬(n:Int)=0:=by omega
 have q0:(0:Int)<=(q:Int):=by omega
 have q1:(q:Int)<(n:Int):=by omega
 have w4:IntKind.i64.wrap (q:Int)=(q:Int):=I6n _ (by omega)
 go_enter Tryz.func201,Tryz.ntmps201
 go_wp2_with fail
 go_quiet (fail)
 go_wp2
 go_ret
 exact⟨rfl,by first|exact below_drewN (Brf _ _) _|exact(Brf _ _).drew⟩
section
variable (w:World) (r g n cap f:Nat) (m:Int)
theorem Zjf (hb:w.heap[r]?=some (.cells #[.slice (some ⟨g,0,none⟩) n cap,.int .i64 (f:Int),.int .i64 m] 148 (0,0))) (hf:f<n) (h9:n<=1000):
 Calls Tryz.prog 216 #[.pointer (some ⟨r,0,none⟩),.int .i64 (1)] w fun e w'=>e= .returned (.tuple #[])/\w'.heap[r]?=some (.cells #[.slice (some ⟨g,0,none⟩) n cap,.int .i64 (((f+1)%n:Nat):Int),.int .i64 m] 148 (0,0))/\Z01 (fun k=>k=r) w w':=by
 have c0:w.cell? ⟨r,0,none⟩=some (.slice (some ⟨g,0,none⟩) n cap):=by simp[World.cell?,hb]
 have c1:w.cell? ⟨r,1,none⟩=some (.int .i64 (f:Int)):=by simp[World.cell?,hb]
 have f1:w.frozen? ⟨r,1,none⟩=false:=by simp[World.frozen?,hb]
 have w1:IntKind.i64.wrap ((f:Int)+1)=(f:Int)+1:=I6n _ (by omega)
 have w2:IntKind.i64.wrap ((f:Int)+1+(n:Int))=(f:Int)+1+(n:Int):=I6n _ (by omega)
 have w3:Int.tmod ((f:Int)+1+(n:Int)) (n:Int)=(((f+1)%n:Nat):Int):=by
  have:=Z9y (f+1) n
  rwa [show((f+1:Nat):Int)=(f:Int)+1 by omega]at this
 obtain⟨q,hq⟩:∃q,(f+1)%n=q:=⟨_,rfl⟩
 have hqn:q<n:=by rw[<-hq];exact Nat.mod_lt _ (by omega)
 rw[hq]at w3 |-
 have H:=Hd hb
 clear hq hb
 have hn0:¬(n:Int)=0:=by omega
 have q0:(0:Int)<=(q:Int):=by omega
 have q1:(q:Int)<(n:Int):=by omega
 have w4:IntKind.i64.wrap (q:Int)=(q:Int):=I6n _ (by omega)
 go_enter Tryz.func216,Tryz.ntmps216
 go_wp2_with fail
 go_region
 all_goals
  go_wp2
  go_end0
  refine⟨rfl,?_,((Z01.refl (fun k=>k=r) w).drew).setCell (p:=⟨r,1,none⟩) (fun _=>rfl) _⟩
  show(World.setCell _ _ _).heap[r]?=_
  rw[Z00 H.out]
  rfl
theorem Zdh (hb:w.heap[r]?=some (.cells #[.slice (some ⟨g,0,none⟩) n cap,.int .i64 (f:Int),.int .i64 m] 148 (0,0))) (hf:f<n) (h9:n<=1000):
 Calls Tryz.prog 216 #[.pointer (some ⟨r,0,none⟩),.int .i64 (-1)] w fun e w'=>e= .returned (.tuple #[])/\w'.heap[r]?=some (.cells #[.slice (some ⟨g,0,none⟩) n cap,.int .i64 (((f+(n-1))%n:Nat):Int),.int .i64 m] 148 (0,0))/\Z01 (fun k=>k=r) w w':=by
 have c0:w.cell? ⟨r,0,none⟩=some (.slice (some ⟨g,0,none⟩) n cap):=by simp[World.cell?,hb]
 have c1:w.cell? ⟨r,1,none⟩=some (.int .i64 (f:Int)):=by simp[World.cell?,hb]
 have f1:w.frozen? ⟨r,1,none⟩=false:=by simp[World.frozen?,hb]
 have w1:IntKind.i64.wrap ((f:Int)+ -1)=(f:Int)+ -1:=I6n _ (by omega)
 have w2:IntKind.i64.wrap ((f:Int)+ -1+(n:Int))=(f:Int)+ -1+(n:Int):=I6n _ (by omega)
 have w3:Int.tmod ((f:Int)+ -1+(n:Int)) (n:Int)=(((f+(n-1))%n:Nat):Int):=by
  rw[show(f:Int)+ -1+(n:Int)=((f+(n-1):Nat):Int) by omega];rfl
 obtain⟨q,hq⟩:∃q,(f+(n-1))%n=q:=⟨_,rfl⟩
 have hqn:q<n:=by rw[<-hq];exact Nat.mod_lt _ (by omega)
 rw[hq]at w3 |-
 have H:=Hd hb
 clear hq hb
 have hn0:¬(n:Int)=0:=by omega
 have q0:(0:Int)<=(q:Int):=by omega
 have q1:(q:Int)<(n:Int):=by omega
 have w4:IntKind.i64.wrap (q:Int)=(q:Int):=I6n _ (by omega)
 go_enter Tryz.func216,Tryz.ntmps216
 go_wp2_with fail
 go_region
 all_goals
  go_wp2
  go_end0
  refine⟨rfl,?_,((Z01.refl (fun k=>k=r) w).drew).setCell (p:=⟨r,1,none⟩) (fun _=>rfl) _⟩
  show(World.setCell _ _ _).heap[r]?=_
  rw[Z00 H.out]
  rfl
end
end
section
open Go.RowKit Go.ChangeShapes Go.WideShapes Go.ChangeAt Go.Shelf
attribute [local go_sem] Oper.semAt_some
structure KpC (s B B':Nat) (t t':TypeId) (W W':World):Prop where
 walks:KeepsWalks W W'
 below:Below s W W'
 box:∀v,Boxed W B t v->Boxed W' B t v
 box':∀v,Boxed W B' t' v->Boxed W' B' t' v
section
variable {s B B':Nat} {t t':TypeId}
theorem Zpf {A C D:World} (h:KpC s B B' t t' A C) (k:KpC s B B' t t' C D):KpC s B B' t t' A D:=⟨h.walks.trans k.walks,h.below.trans k.below,fun v e=>k.box v (h.box v e),fun v e=>k.box' v (h.box' v e)⟩
theorem Zpg {w:World} (hs:s<=w.heap.size) (W:World) (l:Nat) (o o':Obj) (hl:w.heap.size<=l) (h:W.heap[l]?=some o) (hc:o.isCells=false) (hw:o.isWalk=false):KpC s B B' t t' W (W.putObj l o'):=by
 refine⟨KeepsWalks.putObj o' h hw,belowK_b hs W l o o' hl h hc hw,fun v e=>(World.putObj_heap_other ?_).trans e,fun v e=>(World.putObj_heap_other ?_).trans e⟩
 ·rintro rfl;rw[show W.heap[B]?=_ from e]at h;cases h;cases hc
 ·rintro rfl;rw[show W.heap[B']?=_ from e]at h;cases h;cases hc
end
theorem Z3v {w:World} {b b' e size:Nat} {v:Value} {n:Nat} {xs:List Value} (h:w.ownsRow b e size v n xs) (hb:b'<=b):w.ownsRow b' e size v n xs:=by
 refine⟨h.1,?_⟩
 rcases h.2 with h|⟨g,cap,cur,e1,e2,r⟩
 ·exact .inl h
 ·exact .inr ⟨g,cap,cur,e1,Nat.le_trans hb e2,r⟩
theorem RgP.keptB {w w':World} {r:Nat} {v:Value} {cs:List Int} {f:Nat} {xs:List Int} {s:Nat} (h:RgP w r v cs f xs) (hb:Below s w w') (hr:r<s) (hv:∀t,v.ownBlock=some t->t<s):RgP w' r v cs f xs:=
 h.kept (Z01.of_below (S:=fun k=>s<=k) hb (fun k h1 h2=>by omega)) (by omega) (fun t e=>by have:=hv t e;omega)
theorem Zk2 (n:Nat) (hn:1<=n) (l B B' s r:Nat) (v:Value) (cs:List Int) (f:Nat) (xs:List Int) (t':TypeId) (J Jx:List Int->World->Prop) (W:World) (hJ:AbidesFrom W.heap.size J) (hB:Boxed W B 260 (.pointer (some ⟨r,0,none⟩))) (hR:RgP W r v cs f xs) (hrs:r<s) (hvs:∀t,v.ownBlock=some t->t<s)
 (hY:∀pre x W1,J pre W1->pre.length<xs.length->YieldAt Fence.wide (n-1) Tryz.prog l #[.int .i32 x] W1 fun e W'=>
   (e= .returned (.bool true)/\J (pre++ [x]) W'/\KpC s B B' 260 t' W1 W')\/(e= .returned (.bool false)/\Jx (pre++ [x]) W')) (h0:J [] W):
 CallsIn Fence.wide n Tryz.prog 200 #[.func (.yield l) #[] #[],.pointer (some ⟨B,0,none⟩)] W fun e W'=>(∃v,e= .returned v)/\
  ((∃ys,ys=xs/\J ys W')\/(∃pre,pre <+:xs/\Jx pre W')):=by
 have c0:=hB.cell
 have zB:=hB.lt
 obtain⟨r0,r1,r2,rf,zr⟩:=hR.cells
 obtain⟨m,hm⟩:∃m,xs.length=m:=⟨_,rfl⟩
 have hm9:m<=1000:=by have:=hR.hm;have:=hR.h9;omega
 rw[hm]at r2
 have H:=hi4 hB hR h0 hm
 have HY:=Hd hY
 have HJ:=Hd hJ
 clear hB hR h0 hY hJ r0 r1 rf hm
 refine callsIn_of_wp Tryz.func200 rfl trivial ?_ rfl
 simp only[Tryz.ntmps200,List.size_toArray,Llc,List.length_nil,Nat.reduceAdd,Nat.reduceSub,Array.replicate_succ,Array.replicate_zero,List.push_toArray,List.append_toArray,List.nil_append,List.cons_append]
 gi_wp2
 gi_loopw [8] (fun k wr=>∃i:Nat,i<=m/\k= .int .i64 i/\J (xs.take i) wr/\Boxed wr B 260 (.pointer (some ⟨r,0,none⟩))/\RgP wr r v cs f xs/\W.heap.size<=wr.heap.size) (fun k _=>m-(intOf k).toNat)
 case atStart=>exact⟨0,Nat.zero_le _,rfl,H.out.2.2.1,H.out.1,H.out.2.1,Nat.le_refl _⟩
 case round=>
  obtain⟨i,hi,rfl,hJ1,hB1,hR1,hz1⟩:=hrel
  have yi:(0:Int)<=(i:Int):=by omega
  by_cases hlt:i<m
  ·have hlt':(i:Int)<(m:Int):=by omega
   have c1:=hB1.cell
   obtain⟨g,cap,ecur,hv0,hg,hle,-,hc,-⟩:=hR1.row.pos (by have:=hR1.hf;omega)
   have hxi:=hR1.hc i (by have:=H.out.2.2.2;omega)
   have hbb:=hR1.blk
   rw[hv0]at hbb
   have hlt2:(f+i)%cs.length<cs.length:=Nat.mod_lt _ (by have:=hR1.hf;omega)
   have cx:=hc _ hlt2
   rw[hxi]at cx
   have zg:g<wr.heap.size:=(Gl hg)
   have hsn:xs.take (i+1)=xs.take i++ [xs.getD i 0]:=by
    rw[List.take_succ_eq_append_getElem (by have:=H.out.2.2.2;omega),Lgd,Lge (by have:=H.out.2.2.2;omega)];rfl
   obtain⟨x,hx⟩:∃x,xs.getD i 0=x:=⟨_,rfl⟩
   rw[hx]at cx hsn
   have cA:=Zg5 wr r g cs.length cap f i _ hbb hR1.hf hR1.h9 (by omega)
   obtain⟨p,hp⟩:∃p,(f+i)%cs.length=p:=⟨_,rfl⟩
   rw[hp]at cx cA
   have HR:=hi5 hJ1 hB1 hR1 hsn hz1
   clear hJ1 hB1 hR1 hsn hbb hc hg hv0 hxi hx hz1
   gi_wp2_with (refine⟨trivial,?_⟩;gi_at_call 201;refine(callsIn_wide.2 cA).mono ?_;rintro e w1 ⟨rfl,hb1⟩;have cx1:=(hb1.cell (p:=⟨g,p,none⟩) zg).trans cx)
   have HS:=hi2 (HJ.out (xs.take i) wr w1 none HR.out.1 ⟨hb1.1,hb1.2,hb1.3,hb1.size,fun k hk _=>hb1.block k hk⟩ (fun r e=>by cases e)) hb1
   clear hb1 cx1 c1
   obtain⟨fn,tmps,assign,body,hy,hRd⟩:=HY.out (xs.take i) x w1 HS.out.1 (by rw[List.length_take];have:=H.out.2.2.2;omega)
   rw[hy,Oper.uponIn_round]
   refine⟨fun _=>hn,hRd.mono ?_⟩
   rintro e W3 (⟨rfl,hJ3,hk3⟩|⟨rfl,hJx3⟩)
   ·have B3:Boxed W3 B 260 (.pointer (some ⟨r,0,none⟩)):=hk3.box _ ((HS.out.2.block B HR.out.2.1.lt).trans HR.out.2.1)
    have R3:=(HR.out.2.2.1.below HS.out.2).keptB hk3.below hrs hvs
    have z3:W.heap.size<=W3.heap.size:=Nat.le_trans HR.out.2.2.2.2 (Nat.le_trans HS.out.2.size hk3.walks.size)
    have wz:IntKind.i64.wrap ((i:Int)+1)=((i+1:Nat):Int):=by rw[show(i:Int)+1=((i+1:Nat):Int) by omega];exact I6n _ (by omega)
    have HX:=hi4 hJ3 B3 R3 z3
    clear hJ3 B3 R3 hk3 z3
    gi_wp2
    go_roundw
    case rel=>exact⟨i+1,by omega,by go_num,by rw[HR.out.2.2.2.1];exact HX.out.1,HX.out.2⟩
    case measure=>simp[intOf];omega
   ·have HX:=Hd hJx3
    clear hJx3
    gi_wp2
    refine bodyPost_ret (results_none rfl _ _ _) rfl ?_
    exact⟨⟨_,rfl⟩,.inr ⟨_,by rw[<-HR.out.2.2.2.1];exact List.take_prefix _ _,HX.out⟩⟩
  ·obtain rfl:i=m:=by omega
   have HX:=Hd hJ1
   have ht:xs.take i=xs:=List.take_of_length_le (by have:=H.out.2.2.2;omega)
   clear hJ1 hB1 hR1
   gi_wp2
   go_end0
   exact⟨⟨_,rfl⟩,.inl ⟨xs,rfl,by rw[ht]at HX;exact HX.out⟩⟩
end
end Go.Proofs.YtihljjgmkaeohaaGreat
