/- part 30 -/
import Derived.Test.YtihljjgmkaeohaaGreatPnBC
set_option linter.all false
set_option maxHeartbeats 16000000
set_option maxRecDepth 100000
namespace Go.Proofs.YtihljjgmkaeohaaGreat
section
open Go.RowKit Go.ChangeShapes Go.WideShapes Go.ChangeAt Go.Deep
def Bs (m:Nat) (z:Int):Prop:=∃j:Nat,j<m/\z=3+5*(j:Int)
def B0 (m:Nat) (z:Int):Prop:=z=0\/Bs m z
theorem Bs.mono {m m':Nat} {z:Int} (h:Bs m z) (hm:m<=m'):Bs m' z:=by obtain⟨j,h1,h2⟩:=h;exact⟨j,by omega,h2⟩
theorem B0.mono {m m':Nat} {z:Int} (h:B0 m z) (hm:m<=m'):B0 m' z:=h.imp id (fun h=>h.mono hm)
theorem B0.bs {m:Nat} {z:Int} (h:B0 m z) (hz:z≠0):Bs m z:=h.resolve_left hz
theorem Bs.b0 {m:Nat} {z:Int} (h:Bs m z):B0 m z:=.inr h
theorem Bs.rng {m:Nat} {z:Int} (h:Bs m z):3<=z/\z+5<=3+5*(m:Int):=by obtain⟨j,h1,h2⟩:=h;omega
theorem B0.rng {m:Nat} {z:Int} (h:B0 m z):0<=z/\z<=3+5*(m:Int):=by
 rcases h with h|h
 ·omega
 ·have:=h.rng;omega
structure Z0v (m n:Nat) (xs:List Int):Prop where
 len:xs.length=3+5*m
 hd:B0 m (xs.getD 1 0)
 nx:∀j,j<m->B0 m (xs.getD (3+5*j+3) 0)
 ag:0<=xs.getD 2 0/\xs.getD 2 0<=n
theorem Z70 (xs:List Int) (i j:Nat) (y:Int):(xs.set i y).getD j 0=if i=j/\i<xs.length then y else xs.getD j 0:=by
 rw[Lgd,Lgd,List.getElem?_set]
 by_cases h:i=j
 ·subst h
  by_cases h2:i<xs.length
  ·rw[if_pos rfl,if_pos h2,if_pos ⟨rfl,h2⟩];rfl
  ·rw[if_pos rfl,if_neg h2,if_neg (fun h=>h2 h.2),List.getElem?_eq_none (by omega)]
 ·rw[if_neg h,if_neg (fun e=>h e.1)]
theorem Z0v.set {m n:Nat} {xs:List Int} (h:Z0v m n xs) (a y:Int) (h1:a=1->B0 m y) (h2:a=2->0<=y/\y<=(n:Int)) (h3:∀j:Nat,j<m->a=3+5*(j:Int)+3->B0 m y):Z0v m n (Z0j xs a y):=by
 unfold Z0j
 split
 ·rename_i ha
  refine⟨by rw[Lls];exact h.len,?_,fun j hj=>?_,?_⟩
  ·rw[Z70]
   split
   ·exact h1 (by omega)
   ·exact h.hd
  ·rw[Z70]
   split
   ·exact h3 j hj (by omega)
   ·exact h.nx j hj
  ·rw[Z70]
   split
   ·exact h2 (by omega)
   ·exact h.ag
 ·exact h
theorem Z0v.swap {m n:Nat} {xs:List Int} (h:Z0v m n xs) (a o y:Int) (h1:a=1->B0 m y) (h2:a=2->0<=y/\y<=(n:Int)) (h3:∀j:Nat,j<m->a=3+5*(j:Int)+3->B0 m y):Z0v m n (Z0s xs a o y):=by
 unfold Z0s
 split
 ·exact h.set a y h1 h2 h3
 ·exact h
theorem Z0v.more {m n n':Nat} {xs:List Int} (h:Z0v m n xs) (hn:n<=n'):Z0v m n' xs:=⟨h.len,h.hd,h.nx,by have:=h.ag;omega⟩
theorem Z0v.head {m n:Nat} {xs:List Int} (h:Z0v m n xs):B0 m (cellAt xs 1):=by
 rw[Z3y (by omega) (by have:=h.len;omega)];exact h.hd
theorem Z0v.age {m n:Nat} {xs:List Int} (h:Z0v m n xs):0<=cellAt xs 2/\cellAt xs 2<=n:=by
 rw[Z3y (by omega) (by have:=h.len;omega)];exact h.ag
theorem Z0v.next {m n:Nat} {xs:List Int} (h:Z0v m n xs) (hm:m<=64) {z:Int} (hz:Bs m z):B0 m (cellAt xs (wrap64 (z+3))):=by
 obtain⟨j,hj,rfl⟩:=hz
 rw[Z22 (by omega) (by omega),Z3y (by omega) (by have:=h.len;omega),show(3+5*(j:Int)+3).toNat=3+5*j+3 by omega]
 exact h.nx j hj
theorem Z0v.grow {m n th:Nat} {xs:List Int} (h:Z0v m n xs) (hm:m<=th):∃m',m<=m'/\m'<=th/\Z0v m' n (Z2m xs (3+5*(th:Int)) 5)/\(Z1x xs (3+5*(th:Int)) 5=true->Bs m' (xs.length:Int)):=by
 have hl:=h.len
 by_cases ha:Z1x xs (3+5*(th:Int)) 5=true
 ·have hd:0<=(5:Int)/\(5:Int)<=3+5*(th:Int)-(xs.length:Int):=of_decide_eq_true ha
  have e:Z2m xs (3+5*(th:Int)) 5=xs++List.replicate 5 0:=by unfold Z2m;rw[if_pos ha];rfl
  have hg:∀i,i<xs.length->(xs++List.replicate 5 (0:Int)).getD i 0=xs.getD i 0:=fun i hi=>by
   rw[Lgd,Lgd,Lel hi]
  refine⟨m+1,by omega,by omega,?_,fun _=>⟨m,by omega,by omega⟩⟩
  rw[e]
  refine⟨by rw[Lla,Llr];omega,?_,fun j hj=>?_,?_⟩
  ·rw[hg 1 (by omega)];exact h.hd.mono (by omega)
  ·by_cases hjm:j<m
   ·rw[hg _ (by omega)];exact(h.nx j hjm).mono (by omega)
   ·left
    rw[Lgd,Ler (by omega),List.getElem?_replicate]
    split<;>rfl
  ·rw[hg 2 (by omega)];exact h.ag
 ·have e:Z2m xs (3+5*(th:Int)) 5=xs:=by unfold Z2m;rw[if_neg ha]
  rw[e]
  exact⟨m,by omega,hm,h,fun h2=>absurd h2 ha⟩
structure Zax (m n:Nat) (t:Th):Prop where
 pc:(0<=t.i1/\t.i1<=16)\/(20<=t.i1/\t.i1<=48)
 rec0:B0 m t.i2
 rcd:t.i1≠0->t.i1≠1->Bs m t.i2
 cur0:B0 m t.i6
 prv0:B0 m t.i7
 cur:(24<=t.i1/\t.i1<=32)\/t.i1=34\/t.i1=35\/(42<=t.i1/\t.i1<=47)->Bs m t.i6
 prv:(29<=t.i1/\t.i1<=31)\/(41<=t.i1/\t.i1<=47)->Bs m t.i7
 look:t.i1=8\/t.i1=9\/t.i1=30\/t.i1=46->B0 m t.i5
 ks:23<=t.i1/\t.i1<=32->0<=t.i8/\t.i8<t.i9/\t.i9<=m
 st:t.i1=21->0<=t.i5/\t.i5<=n
theorem Zax.mono {m m' n n':Nat} {t:Th} (h:Zax m n t) (hm:m<=m') (hn:n<=n'):Zax m' n' t where
 pc:=h.pc
 rec0:=h.rec0.mono hm
 rcd:=fun a b=>(h.rcd a b).mono hm
 cur0:=h.cur0.mono hm
 prv0:=h.prv0.mono hm
 cur:=fun a=>(h.cur a).mono hm
 prv:=fun a=>(h.prv a).mono hm
 look:=fun a=>(h.look a).mono hm
 ks:=fun a=>by have:=h.ks a;omega
 st:=fun a=>by have:=h.st a;omega
theorem Zpv (k:Nat):Zax 0 0 (th0 k) where
 pc:=.inl (by simp[th0])
 rec0:=.inl rfl
 rcd:=fun a=>absurd rfl a
 cur0:=.inl rfl
 prv0:=.inl rfl
 cur:=fun a=>by simp[th0]at a
 prv:=fun a=>by simp[th0]at a
 look:=fun a=>by simp[th0]at a
 ks:=fun a=>by simp[th0]at a
 st:=fun a=>by simp[th0]at a
theorem Znu {m n:Nat} {t:Th} (h:Zax m n t) (ok ov:Int):Zax m n (Zct t ok ov):=by
 have e2:(Zct t ok ov).i2=t.i2:=rfl
 have e6:(Zct t ok ov).i6=t.i6:=rfl
 have e7:(Zct t ok ov).i7=t.i7:=rfl
 by_cases hz:t.i2=0
 ·have e1:(Zct t ok ov).i1=1:=if_pos hz
  exact⟨by omega,e2 ▸ h.rec0,fun a b=>absurd e1 b,e6 ▸ h.cur0,e7 ▸ h.prv0,fun a=>by omega,fun a=>by omega,fun a=>by omega,fun a=>by omega,fun a=>by omega⟩
 ·have e1:(Zct t ok ov).i1=2:=if_neg hz
  exact⟨by omega,e2 ▸ h.rec0,fun a b=>e2 ▸ h.rec0.bs hz,e6 ▸ h.cur0,e7 ▸ h.prv0,fun a=>by omega,fun a=>by omega,fun a=>by omega,fun a=>by omega,fun a=>by omega⟩
theorem Zhy {m n:Nat} {xs:List Int} (h:Z0v m n xs):Z32 xs.length=m:=by unfold Z32;rw[h.len];omega
theorem Zqm {m n th:Nat} {xs:List Int} {t:Th} (hx:Z0v m n xs) (ht:Zax m n t) (hm:m<=th) (hth:th<=64) (h1:1<=t.i1) (h2:t.i1<=16):
 ∃m',m<=m'/\m'<=th/\Z0v m' n (owX (3+5*(th:Int)) xs t)/\Zax m' n (owT (3+5*(th:Int)) xs t):=by
 obtain⟨i0,i1,i2,i3,i4,i5,i6,i7,i8,i9,i10,i11⟩:=t
 have hH:=hx.head
 have hA:=hx.age
 have hNx:=fun z=>hx.next (z:=z) (by omega)
 obtain⟨hp,r0,r1,c0,p0,c1,p1,lk,kk,ss⟩:=ht
 simp only[]at hp r0 r1 c0 p0 c1 p1 lk kk ss h1 h2
 by_cases e1:i1=1
 ·subst e1
  obtain⟨m',g1,g2,g3,g4⟩:=hx.grow hm
  refine⟨m',g1,g2,by simpa [owX]using g3,?_⟩
  have r0:=r0.mono g1
  have c0:=c0.mono g1
  have p0:=p0.mono g1
  by_cases ha:Z1x xs (3+5*(th:Int)) 5=true
  ·have g5:=g4 ha
   have g6:=g5.b0
   simp only[owT,ha,Bool.false_eq_true,if_true,if_false]
   constructor<;>(try dsimp only)<;>(try intro q1)<;>(try intro q2)<;>first|omega|assumption|(exact r1 (by omega) (by omega))|(exact c1 (by omega))|(exact p1 (by omega))|(exact lk (by omega))
  ·simp only[owT,ha,Bool.false_eq_true,if_true,if_false]
   constructor<;>(try dsimp only)<;>(try intro q1)<;>(try intro q2)<;>first|omega|assumption|(exact r1 (by omega) (by omega))|(exact c1 (by omega))|(exact p1 (by omega))|(exact lk (by omega))
 have hr:=r1 (by omega) e1
 have hrr:=hr.rng
 obtain⟨jr,hjr,hzr⟩:=id hr
 have hk:i1=2\/i1=3\/i1=4\/i1=5\/i1=6\/i1=7\/i1=8\/i1=9\/i1=10\/i1=11\/i1=12\/i1=13\/i1=14\/i1=15\/i1=16:=by omega
 rcases hk with rfl|rfl|rfl|rfl|rfl|rfl|rfl|rfl|rfl|rfl|rfl|rfl|rfl|rfl|rfl
 all_goals
  refine⟨m,Nat.le_refl _,hm,?_,?_⟩
  ·simp +decide only[owX,if_true,if_false]
   first
   |exact hx
   |((try rw[Z22 (by omega) (by omega)])
     first
     |exact hx.swap _ _ _ (fun q=>by first|omega|exact hr.b0|exact(c1 (by omega)).b0) (fun q=>by omega) (fun j hj q=>by first|omega|exact lk (by omega)|exact .inl rfl|exact(c1 (by omega)).b0)
     |exact hx.set _ _ (fun q=>by first|omega|exact hr.b0|exact(c1 (by omega)).b0) (fun q=>by omega) (fun j hj q=>by first|omega|exact lk (by omega)|exact .inl rfl|exact(c1 (by omega)).b0))
  ·simp +decide only[owT,owA,if_true,if_false]
   repeat' split
   all_goals constructor<;>(try dsimp only)<;>(try intro q1)<;>(try intro q2)<;>first|omega|assumption|(exact r1 (by omega) (by omega))|(exact c1 (by omega))|(exact p1 (by omega))|(exact lk (by omega))|(exact hH.bs (by omega))|(exact hNx _ (c1 (by omega)))|(exact hNx _ (p1 (by omega)))|(exact(hNx _ (c1 (by omega))).bs (by omega))|(exact(hNx _ (p1 (by omega))).bs (by omega))|(exact((hNx _ (c1 (by omega))).bs (by omega)).b0)|(exact((hNx _ (p1 (by omega))).bs (by omega)).b0)
theorem Zqn {m n:Nat} {xs:List Int} {t:Th} {age:Int} (hx:Z0v m n xs) (ht:Zax m n t) (hm:m<=64) (h1:40<=t.i1) (h2:t.i1<=48):
 Z0v m n (swX xs t)/\Zax m n (swT xs age t):=by
 obtain⟨i0,i1,i2,i3,i4,i5,i6,i7,i8,i9,i10,i11⟩:=t
 have hH:=hx.head
 have hA:=hx.age
 have hNx:=fun z=>hx.next (z:=z) (by omega)
 obtain⟨hp,r0,r1,c0,p0,c1,p1,lk,kk,ss⟩:=ht
 simp only[]at hp r0 r1 c0 p0 c1 p1 lk kk ss h1 h2
 have hr:=r1 (by omega) (by omega)
 have hk:i1=40\/i1=41\/i1=42\/i1=43\/i1=44\/i1=45\/i1=46\/i1=47\/i1=48:=by omega
 rcases hk with rfl|rfl|rfl|rfl|rfl|rfl|rfl|rfl|rfl
 all_goals
  try (have hc:=c1 (by omega);obtain⟨jc,hjc,hzc⟩:=id hc)
  try (have hpv:=p1 (by omega);obtain⟨jp,hjp,hzp⟩:=id hpv)
  refine⟨?_,?_⟩
  ·simp +decide only[swX,if_true,if_false]
   first
   |exact hx
   |((try rw[Z22 (by omega) (by omega)])
     first
     |exact hx.swap _ _ _ (fun q=>by first|omega|exact hr.b0|exact(c1 (by omega)).b0) (fun q=>by omega) (fun j hj q=>by first|omega|exact lk (by omega)|exact .inl rfl|exact(c1 (by omega)).b0)
     |exact hx.set _ _ (fun q=>by first|omega|exact hr.b0|exact(c1 (by omega)).b0) (fun q=>by omega) (fun j hj q=>by first|omega|exact lk (by omega)|exact .inl rfl|exact(c1 (by omega)).b0))
  ·simp +decide only[swT,swA,if_true,if_false]
   repeat' split
   all_goals constructor<;>(try dsimp only)<;>(try intro q1)<;>(try intro q2)<;>first|omega|assumption|(exact r1 (by omega) (by omega))|(exact c1 (by omega))|(exact p1 (by omega))|(exact lk (by omega))|(exact hH.bs (by omega))|(exact hNx _ (c1 (by omega)))|(exact hNx _ (p1 (by omega)))|(exact(hNx _ (c1 (by omega))).bs (by omega))|(exact(hNx _ (p1 (by omega))).bs (by omega))|(exact((hNx _ (c1 (by omega))).bs (by omega)).b0)|(exact((hNx _ (p1 (by omega))).bs (by omega)).b0)
theorem Zqo {m n nb:Nat} {xs:List Int} {t:Th} {ps:Int} {F:Nat->Int} (hx:Z0v m n xs) (ht:Zax m n t) (hm:m<=64) (hn:n<=1000000) (hF:∀j,j<nb->Bs m (F (3*j))) (h1:20<=t.i1) (h2:t.i1<=39):
 Z0v m (n+1) (cbX xs t nb F)/\Zax m n (cbT ps xs t nb):=by
 obtain⟨i0,i1,i2,i3,i4,i5,i6,i7,i8,i9,i10,i11⟩:=t
 have hH:=hx.head
 have hA:=hx.age
 have hNx:=fun z=>hx.next (z:=z) (by omega)
 obtain⟨hp,r0,r1,c0,p0,c1,p1,lk,kk,ss⟩:=ht
 simp only[]at hp r0 r1 c0 p0 c1 p1 lk kk ss h1 h2
 have hr:=r1 (by omega) (by omega)
 have hy:=hx.more (Nat.le_succ n)
 have hmy:=Zhy hx
 have hw: -1<=i8->i8<=100->wrap64 (i8+1)=i8+1:=fun a b=>Z22 (by omega) (by omega)
 have hB:0<=i8->i8<m->Bs m (3+5*i8):=fun a b=>⟨i8.toNat,by omega,by omega⟩
 have hk:i1=20\/i1=21\/i1=22\/i1=23\/i1=24\/i1=25\/i1=26\/i1=27\/i1=28\/i1=29\/i1=30\/i1=31\/i1=32\/i1=33\/i1=34\/i1=35\/i1=36\/i1=37\/i1=38\/i1=39:=by omega
 rcases hk with rfl|rfl|rfl|rfl|rfl|rfl|rfl|rfl|rfl|rfl|rfl|rfl|rfl|rfl|rfl|rfl|rfl|rfl|rfl|rfl
 all_goals
  try (have hc:=c1 (by omega);obtain⟨jc,hjc,hzc⟩:=id hc)
  try (have hpv:=p1 (by omega);obtain⟨jp,hjp,hzp⟩:=id hpv)
  try (have hk:=kk (by omega);have hw:=hw (by omega) (by omega);have hB:=hB (by omega) (by omega);have hB0:=hB.b0)
  try (have hq:=ss (by omega))
  refine⟨?_,?_⟩
  ·by_cases hq:0<=i8/\i8<nb
   ·have hB:=hF i8.toNat (by omega)
    obtain⟨jb,hjb,hzb⟩:=id hB
    simp +decide only[cbX,hq,and_self,true_and,or_true,true_or,if_true,if_false]
    first
   |exact hy
   |((try rw[Z22 (by omega) (by omega)])
     first
     |exact hy.swap _ _ _ (fun q=>by first|omega|exact hr.b0|exact(c1 (by omega)).b0) (fun q=>by omega) (fun j hj q=>by first|omega|exact lk (by omega)|exact .inl rfl|exact(c1 (by omega)).b0)
     |exact hy.set _ _ (fun q=>by first|omega|exact hr.b0|exact(c1 (by omega)).b0) (fun q=>by omega) (fun j hj q=>by first|omega|exact lk (by omega)|exact .inl rfl|exact(c1 (by omega)).b0))
   ·simp +decide only[cbX,hq,and_false,if_true,if_false]
    first
   |exact hy
   |((try rw[Z22 (by omega) (by omega)])
     first
     |exact hy.swap _ _ _ (fun q=>by first|omega|exact hr.b0|exact(c1 (by omega)).b0) (fun q=>by omega) (fun j hj q=>by first|omega|exact lk (by omega)|exact .inl rfl|exact(c1 (by omega)).b0)
     |exact hy.set _ _ (fun q=>by first|omega|exact hr.b0|exact(c1 (by omega)).b0) (fun q=>by omega) (fun j hj q=>by first|omega|exact lk (by omega)|exact .inl rfl|exact(c1 (by omega)).b0))
  ·simp +decide only[cbT,if_true,if_false]
   repeat' split
   all_goals constructor<;>(try dsimp only)<;>(try intro q1)<;>(try intro q2)<;>first|omega|assumption|(exact r1 (by omega) (by omega))|(exact c1 (by omega))|(exact p1 (by omega))|(exact lk (by omega))|(exact hH.bs (by omega))|(exact hNx _ (c1 (by omega)))|(exact hNx _ (p1 (by omega)))|(exact(hNx _ (c1 (by omega))).bs (by omega))|(exact(hNx _ (p1 (by omega))).bs (by omega))|(exact((hNx _ (c1 (by omega))).bs (by omega)).b0)|(exact((hNx _ (p1 (by omega))).bs (by omega)).b0)
theorem Zpw {m n nb:Nat} {xs:List Int} {t:Th} {F:Nat->Int} (ht:Zax m n t) (hF:∀j,j<nb->Bs m (F (3*j))):∀j,j<cbN xs t nb->Bs m (cbF xs t nb F (3*j)):=by
 intro j hj
 unfold cbF
 unfold cbN at hj
 by_cases h:t.i1=34/\0<cellAt xs (wrap64 t.i6)
 ·rw[if_neg (by omega),if_pos h]at hj
  rw[if_pos h]
  unfold Z3m
  by_cases hl:3*j<3*nb
  ·rw[if_pos hl];exact hF j (by omega)
  ·rw[if_neg hl,if_pos (by omega)];exact ht.cur (by omega)
 ·rw[if_neg h]at hj |-
  split at hj
  ·omega
  ·exact hF j hj
section
variable (xs:List Int) (t:Th) (nb:Nat)
theorem Zl7:cbN xs t nb<=nb+1:=by
 unfold cbN
 repeat' split
 all_goals omega
theorem Zl8 (h:t.i1=36):cbN xs t nb=nb:=by unfold cbN;rw[if_neg (by omega),if_neg (by omega)]
end
theorem Z7w (f:List Int->Int×Int->List Int×(Int×Int)) (L:List (Int×Int)) (a:Int) (ha:0<=a):∀(ord:List Int) (st:List Int×List (Int×Int)),a ∉ ord->(∀b ∈ ord,0<=b)->(Z0m f L st ord).2.getD a.toNat (0,0)=st.2.getD a.toNat (0,0)
 | [],st,_,_=>rfl
 |b::l,st,h,h0=>by
  have h1:=Z7w f L a ha l (Z50 f L st b) (fun e=>h (List.mem_cons_of_mem _ e)) (fun c hc=>h0 c (List.mem_cons_of_mem _ hc))
  have hb:=h0 b List.mem_cons_self
  have hne:a≠b:=fun e=>h (e ▸ List.mem_cons_self)
  unfold Z0m at h1 |-
  rw[List.foldl_cons,h1]
  unfold Z50
  simp only[Lgd]
  rw[List.getElem?_set_ne (by omega)]
theorem Zas (f:List Int->Int×Int->List Int×(Int×Int)) (L:List (Int×Int)):∀(ord:List Int) (st:List Int×List (Int×Int)),ord.Nodup->(∀b ∈ ord,0<=b/\b<(st.2.length:Int))->
 Z09 f st.1 (ord.map fun a=>L.getD a.toNat (0,0))=((Z0m f L st ord).1,ord.map fun a=>(Z0m f L st ord).2.getD a.toNat (0,0))
 | [],st,_,_=>rfl
 |a::l,st,h,h0=>by
  obtain⟨h1,h2⟩:=List.nodup_cons.1 h
  have ha:=h0 a List.mem_cons_self
  have hl:(Z50 f L st a).2.length=st.2.length:=by simp[Z50]
  have ih:=Zas f L l (Z50 f L st a) h2 (fun b hb=>by rw[hl];exact h0 b (List.mem_cons_of_mem _ hb))
  have hk:=Z7w f L a ha.1 l (Z50 f L st a) h1 (fun b hb=>(h0 b (List.mem_cons_of_mem _ hb)).1)
  have e:Z0m f L st (a::l)=Z0m f L (Z50 f L st a) l:=rfl
  rw[e,List.map_cons,List.map_cons,hk]
  unfold Z09
  have e1:(Z50 f L st a).1=(f st.1 (L.getD a.toNat (0,0))).1:=rfl
  rw[e1]at ih
  rw[ih]
  have e2:(Z50 f L st a).2.getD a.toNat (0,0)=(f st.1 (L.getD a.toNat (0,0))).2:=by
   show(st.2.set a.toNat _).getD a.toNat (0,0)=_
   rw[Lgd,List.getElem?_set,if_pos rfl,if_pos (by omega)]
   rfl
  rw[e2]
theorem Z5l {σ:Type} (f:σ->Int×Int->σ×(Int×Int)):∀(l k:List (Int×Int)) (x:σ),Z09 f x (l++k)=((Z09 f (Z09 f x l).1 k).1,(Z09 f x l).2++(Z09 f (Z09 f x l).1 k).2)
 | [],k,x=>rfl
 |o::l,k,x=>by simp only[List.cons_append,Z09,Z5l f l k]
theorem Z7x (n:Nat):(Z3j n).Nodup:=by
 unfold Z3j List.Nodup
 rw[List.pairwise_map]
 exact(List.nodup_range (n:=n)).imp (fun h e=>h (by omega))
theorem Z31.nodup {ob:Int} {L:List (Int×Int)} {ys:List Int} (h:Z31 ob L ys):ys.Nodup:=by
 by_cases e:ob=3
 ·exact(h.2 e).1.nodup_iff.2 (Z7x _)
 ·rw[h.1 e];exact Z7x _
theorem Zhz (ob most:Int) (its:List Int) (n:Nat) (F:Nat->Int) (ord:List Int) (ho:Z31 ob (Z0k n F) ord) (hi:Z2l its):
 Z09 (Z0d ob most) its ((ord.map (Z92 n (Z48 n F (Z0m (Z0d ob most) (Z0k n F) (its,List.replicate n (0,0)) ord).2))).map (·.1))=((Z0m (Z0d ob most) (Z0k n F) (its,List.replicate n (0,0)) ord).1,(ord.map (Z92 n (Z48 n F (Z0m (Z0d ob most) (Z0k n F) (its,List.replicate n (0,0)) ord).2))).map (·.2)):=by
 have hr:=ho.rng
 rw[Z13]at hr
 obtain⟨-,hok⟩:=Z61 ob most (Z0k n F) (Z36 n F) ord (its,List.replicate n (0,0)) hi (Z5i n)
 have hlen:(Z0m (Z0d ob most) (Z0k n F) (its,List.replicate n (0,0)) ord).2.length=n:=by rw[Z6q];simp
 have hlog:=Zas (Z0d ob most) (Z0k n F) ord (its,List.replicate n (0,0)) ho.nodup (fun b hb=>by rw[Llr];exact hr b hb)
 obtain⟨R,hR⟩:∃R,Z0m (Z0d ob most) (Z0k n F) (its,List.replicate n (0,0)) ord=R:=⟨_,rfl⟩
 rw[hR]at hok hlen hlog |-
 have e:∀a ∈ ord,Z92 n (Z48 n F R.2) a=((Z0k n F).getD a.toNat (0,0),R.2.getD a.toNat (0,0)):=fun a ha=>by
  have h1:=hr a ha
  have h2:R.2.getD a.toNat (0,0) ∈ R.2:=by
   rw[Lgd,Lge (by omega)]
   exact List.getElem_mem _
  have h3:=hok _ h2
  unfold Z92
  rw[Zao]
  have e3:Z48 n F R.2 (3*a.toNat+2)=Z0o (R.2.getD a.toNat (0,0)).1 (R.2.getD a.toNat (0,0)).2:=by
   unfold Z48
   rw[if_pos (by omega),show(3*a.toNat+2)/3=a.toNat by omega]
  rw[e3,Zlj h3.1.1 h3.1.2 h3.2.1 h3.2.2,Zlk h3.1.1 h3.1.2 h3.2.1 h3.2.2]
 rw[List.map_map,List.map_map]
 have e1:ord.map ((·.1) ∘ Z92 n (Z48 n F R.2))=ord.map fun a=>(Z0k n F).getD a.toNat (0,0):=List.map_congr_left fun a ha=>by simp[e a ha]
 have e2:ord.map ((·.2) ∘ Z92 n (Z48 n F R.2))=ord.map fun a=>R.2.getD a.toNat (0,0):=List.map_congr_left fun a ha=>by simp[e a ha]
 rw[e1,e2]
 exact hlog
structure Inv (c:Cfg) (m:Nat) (S:WM) (i:Nat):Prop where
 mth:(m:Int)<=c.th
 cel:Z0v m S.n S.xs
 len:(S.T.length:Int)=c.th
 thr:∀(k n:Nat) (t:Th) (F:Nat->Int),S.T[k]?=some ⟨t,n,F⟩->Zax m S.n t/\t.i0=k/\n<=i/\∀j,j<n->Bs m (F (3*j))
 ev:S.ev.length<=i
 n:S.n<=i
 lg:S.lg.length<=i*i
 i32:Z2l S.its
 log:Z09 (Z0d c.ob c.cap) [] (S.lg.map (·.1))=(S.its,S.lg.map (·.2))
theorem Zqp {c:Cfg} (hc:Z0e c=true):Inv c 0 (wm0 c) 0:=by
 have hr:=Z2r hc
 refine⟨by omega,⟨rfl,.inl rfl,fun j hj=>by omega,by show(0:Int)<=0/\(0:Int)<=0;omega⟩,?_,fun k n t F hk=>?_,Nat.le_refl _,Nat.le_refl _,Nat.le_refl _,fun x hx=>(by cases hx),rfl⟩
 ·simp[wm0];omega
 ·simp only[wm0,List.getElem?_map,Option.map_eq_some_iff]at hk
  obtain⟨q,hq,hx⟩:=hk
  obtain⟨rfl,rfl,rfl⟩:th0 q=t/\0=n/\(fun _=>0)=F:=by
   injection hx with h1 h2 h3;exact⟨h1,h2,h3⟩
  have:q=k:=by
   rw[List.getElem?_eq_some_iff]at hq
   obtain⟨h1,h2⟩:=hq
   rw[List.getElem_range]at h2;exact h2.symm
  exact⟨Zpv q,by rw[<-this];rfl,Nat.le_refl _,fun j hj=>by omega⟩
theorem Inv.good {c:Cfg} {m:Nat} {S:WM} {i:Nat} (hc:Z0e c=true) (h:Inv c m S i):Znl c S i:=by
 have hr:=Z2r hc
 have hm:=h.mth
 refine⟨fun k n t F hk=>?_,h.ev,h.n,h.lg,h.i32⟩
 obtain⟨h1,h2,h3,-⟩:=h.thr k n t F hk
 have hkl:=(List.getElem?_eq_some_iff.1 hk).1
 have hl:=h.len
 have a2:=h1.rec0.rng
 have a6:=h1.cur0.rng
 refine⟨?_,by omega,by omega,by omega,h3⟩
 by_cases e0:t.i1=0
 ·exact .inl e0
 have hp:=h1.pc
 by_cases e1:t.i1<=16
 ·exact .inr (.inl (decide_eq_true (by omega)))
 by_cases e2:t.i1<=39
 ·exact .inr (.inr (.inl (decide_eq_true (by omega))))
 exact .inr (.inr (.inr (decide_eq_true (by omega))))
theorem Zi0 {T:List TS} {k q:Nat} {x:TS} {y:TS} (h:(T.set k x)[q]?=some y) (hk:k<T.length):(q=k/\y=x)\/(q≠k/\T[q]?=some y):=by
 rw[List.getElem?_set]at h
 by_cases e:k=q
 ·rw[if_pos e,if_pos (by omega)]at h
  exact .inl ⟨e.symm,(Option.some.inj h).symm⟩
 ·rw[if_neg e]at h
  exact .inr ⟨fun h=>e h.symm,h⟩
theorem Inv.put {c:Cfg} {m m':Nat} {S:WM} {i nn k n n':Nat} {t':Th} {F F':Nat->Int} {t:Th} (h:Inv c m S i) (hk:S.T[k]?=some ⟨t,n,F⟩) (hm:m<=m') (hn:S.n<=nn) (ht:Zax m' nn t') (h0:t'.i0=t.i0) (hn':n'<=n+1) (hF:∀j,j<n'->Bs m' (F' (3*j))):
 ∀(q n:Nat) (t:Th) (F:Nat->Int),(S.T.set k ⟨t',n',F'⟩)[q]?=some ⟨t,n,F⟩->Zax m' nn t/\t.i0=q/\n<=i+1/\∀j,j<n->Bs m' (F (3*j)):=by
 intro q nq tq Fq hq
 have hkl:=(List.getElem?_eq_some_iff.1 hk).1
 obtain⟨g1,g2,g3,g4⟩:=h.thr k n t F hk
 rcases Zi0 hq hkl with⟨rfl,e⟩|⟨-,e⟩
 ·injection e with e1 e2 e3
  subst e1;subst e2;subst e3
  exact⟨ht,h0.trans g2,by omega,hF⟩
 ·obtain⟨a1,a2,a3,a4⟩:=h.thr q nq tq Fq e
  exact⟨a1.mono hm hn,a2,by omega,fun j hj=>(a4 j hj).mono hm⟩
theorem Znv {i n:Nat} (h:n<=i):i*i+n<=(i+1)*(i+1):=by
 have:(i+1)*(i+1)=i*i+i+i+1:=by rw[Nat.succ_mul,Nat.mul_succ];omega
 omega
theorem Zi1 (i:Nat):i*i<=(i+1)*(i+1):=Nat.mul_le_mul (Nat.le_succ i) (Nat.le_succ i)
theorem Zqq (N:Int) (xs:List Int) (t:Th):(owT N xs t).i0=t.i0:=(Zcr N xs t).1
theorem Zpx (ps:Int) (xs:List Int) (t:Th) (n:Nat):(cbT ps xs t n).i0=t.i0:=by
 have k0:∀(P:Prop) [Decidable P] (x y:Th),x.i0=t.i0->y.i0=t.i0->(if P then x else y).i0=t.i0:=fun P _ x y h1 h2=>by split<;>assumption
 unfold cbT
 dsimp only
 repeat' apply k0
 all_goals rfl
theorem Zqr (xs:List Int) (age:Int) (t:Th):(swT xs age t).i0=t.i0:=by
 have k0:∀(P:Prop) [Decidable P] (x y:Th),x.i0=t.i0->y.i0=t.i0->(if P then x else y).i0=t.i0:=fun P _ x y h1 h2=>by split<;>assumption
 unfold swT
 dsimp only
 repeat' apply k0
 all_goals rfl
theorem Zkn {c:Cfg} {m:Nat} {S S':WM} {i k n:Nat} {t:Th} {F:Nat->Int} (hc:Z0e c=true) (hi:i<=20000) (h:Inv c m S i) (hk:S.T[k]?=some ⟨t,n,F⟩) (hp:Z93 c S k t n F S'):∃m',Inv c m' {S' with n:=S'.n+1} (i+1):=by
 have hr:=Z2r hc
 have hm:=h.mth
 obtain⟨g1,g2,g3,g4⟩:=h.thr k n t F hk
 have hN:=h.n
 rcases hp with⟨ha,rfl⟩|⟨ha,its',F',lg',hs,rfl⟩|⟨ha,rfl⟩
 ·have ha2:1<=t.i1/\t.i1<=16:=of_decide_eq_true ha
  obtain⟨th,hth⟩:∃th:Nat,c.th=(th:Int):=⟨c.th.toNat,by omega⟩
  obtain⟨m',q1,q2,q3,q4⟩:=Zqm (th:=th) h.cel g1 (by omega) (by omega) ha2.1 ha2.2
  rw[<-hth]at q3 q4
  refine⟨m',by omega,q3.more (Nat.le_succ _),by rw[Lls];exact h.len,h.put hk q1 (Nat.le_succ _) (q4.mono (Nat.le_refl _) (Nat.le_succ _)) (Zqq _ _ _) (Nat.le_succ _) (fun j hj=>(g4 j hj).mono q1),?_,by show S.n+1<=i+1;omega,Nat.le_trans h.lg (Zi1 i),h.i32,h.log⟩
  show(Z6u S t).length<=i+1
  unfold Z6u
  have:=h.ev
  split
  ·rw[Lla];simp;omega
  ·omega
 ·have ha2:20<=t.i1/\t.i1<=39:=of_decide_eq_true ha
  obtain⟨q3,q4⟩:=Zqo (ps:=c.ps) (F:=F) h.cel g1 (by omega) (by omega) g4 ha2.1 ha2.2
  unfold Z6v at hs
  by_cases e36:t.i1=36
  ·rw[if_pos e36]at hs
   obtain⟨ord,o1,rfl,rfl,rfl⟩:=hs
   have hl:=o1.len
   rw[Z13]at hl
   refine⟨m,hm,q3,by rw[Lls];exact h.len,h.put hk (Nat.le_refl _) (Nat.le_succ _) (q4.mono (Nat.le_refl _) (Nat.le_succ _)) (Zpx _ _ _ _) (Zl7 _ _ _) (fun j hj=>?_),Nat.le_succ_of_le h.ev,by show S.n+1<=i+1;omega,?_,(Z61 _ _ _ (Z36 _ _) _ _ h.i32 (Z5i _)).1,?_⟩
   ·rw[Zl8 _ _ _ e36]at hj
    have e:Z48 n F (Z0m (Z0d c.ob c.cap) (Z0k n F) (S.its,List.replicate n (0,0)) ord).2 (3*j)=F (3*j):=by unfold Z48;rw[if_neg (by omega)]
    rw[e];exact g4 j hj
   ·show(S.lg++_).length<=_
    rw[Lla,Llm,hl]
    have:=Znv g3
    have:=h.lg
    omega
   ·show Z09 _ [] ((S.lg++_).map _)=(_,(S.lg++_).map _)
    rw[List.map_append,List.map_append,Z5l,h.log]
    simp only[]
    rw[Zhz _ _ _ _ _ _ o1 h.i32]
  ·rw[if_neg e36]at hs
   obtain⟨rfl,rfl,rfl⟩:=hs
   exact⟨m,hm,q3,by rw[Lls];exact h.len,h.put hk (Nat.le_refl _) (Nat.le_succ _) (q4.mono (Nat.le_refl _) (Nat.le_succ _)) (Zpx _ _ _ _) (Zl7 _ _ _) (Zpw g1 g4),Nat.le_succ_of_le h.ev,by show S.n+1<=i+1;omega,Nat.le_trans h.lg (Zi1 i),h.i32,h.log⟩
 ·have ha2:40<=t.i1/\t.i1<=48:=of_decide_eq_true ha
  obtain⟨q3,q4⟩:=Zqn (age:=c.age) h.cel g1 (by omega) ha2.1 ha2.2
  exact⟨m,hm,q3.more (Nat.le_succ _),by rw[Lls];exact h.len,h.put hk (Nat.le_refl _) (Nat.le_succ _) (q4.mono (Nat.le_refl _) (Nat.le_succ _)) (Zqr _ _ _) (Nat.le_succ _) g4,Nat.le_succ_of_le h.ev,by show S.n+1<=i+1;omega,Nat.le_trans h.lg (Zi1 i),h.i32,h.log⟩
theorem Inv.more {c:Cfg} {m:Nat} {S:WM} {i:Nat} (h:Inv c m S i) (b:Nat) (hb:b<=1):Inv c m {S with n:=S.n+b} (i+1) where
 mth:=h.mth
 cel:=h.cel.more (Nat.le_add_right _ _)
 len:=h.len
 thr:=fun k n t F hk=>by
  obtain⟨h1,h2,h3,h4⟩:=h.thr k n t F hk
  exact⟨h1.mono (Nat.le_refl _) (Nat.le_add_right _ _),h2,by omega,h4⟩
 ev:=Nat.le_succ_of_le h.ev
 n:=by show S.n+b<=i+1;have:=h.n;omega
 lg:=Nat.le_trans h.lg (Zi1 i)
 i32:=h.i32
 log:=h.log
theorem Znw {c:Cfg} {m:Nat} {S S':WM} {i:Nat} {e:Ent} (hc:Z0e c=true) (hi:i<=20000) (h:Inv c m S i) (hE:Ze5 c S e S'):(∃m',Inv c m' S' (i+1))/\S'.n=S.n+if e.k=2 then 1 else 0:=by
 unfold Ze5 at hE
 by_cases e1:e.k=1
 ·rw[if_pos e1]at hE
  subst hE
  have h2:¬e.k=2:=by omega
  rw[if_neg h2,Nat.add_zero]
  unfold Zap
  cases hth:thr S e.t with
  |none=>exact⟨⟨m,h.more 0 (by omega)⟩,rfl⟩
  |some x=>
   obtain⟨t,n,F⟩:=x
   obtain⟨j,hj,hjn,hT⟩:=Z64 hth
   dsimp only
   split
   ·rename_i h0
    obtain⟨g1,g2,g3,g4⟩:=h.thr j n t F hT
    unfold Z7e
    rw[if_pos rfl,hjn]
    refine⟨⟨m,h.mth,h.cel,by rw[Lls];exact h.len,h.put hT (Nat.le_refl _) (Nat.le_refl _) (Znu g1 e.ok e.ov) rfl (Nat.le_succ _) g4,?_,Nat.le_succ_of_le h.n,Nat.le_trans h.lg (Zi1 i),h.i32,h.log⟩,rfl⟩
    show(S.ev++ [_]).length<=i+1
    have:=h.ev
    rw[Lla];simp;omega
   ·exact⟨⟨m,h.more 0 (by omega)⟩,rfl⟩
 ·rw[if_neg e1]at hE
  by_cases e2:e.k=2
  ·rw[if_pos e2]at hE
   rw[if_pos e2]
   unfold Zaq at hE
   cases hth:thr S e.t with
   |none=>
    rw[hth]at hE
    dsimp only at hE
    subst hE
    exact⟨⟨m,h.more 1 (by omega)⟩,rfl⟩
   |some x=>
    obtain⟨t,n,F⟩:=x
    obtain⟨j,hj,hjn,hT⟩:=Z64 hth
    rw[hth]at hE
    dsimp only at hE
    split at hE
    ·subst hE
     exact⟨⟨m,h.more 1 (by omega)⟩,rfl⟩
    ·obtain⟨S1,hp,rfl⟩:=hE
     rw[hjn]at hp
     exact⟨Zkn hc hi h hT hp,by show S1.n+1=_;rw[hp.n]⟩
  ·rw[if_neg e2]at hE
   subst hE
   rw[if_neg e2]
   exact⟨⟨m,h.more 0 (by omega)⟩,rfl⟩
theorem Z71 {c:Cfg} {L:List Ent} (hc:Z0e c=true):∀(i:Nat) (S:WM),i<=20000->Z7f c L i S->(∃m,Inv c m S i)/\S.n=(L.take i).countP fun e=>e.k=2
 |0,S,_,h=>by
  have h:S=wm0 c:=h
  subst h
  exact⟨⟨0,Zqp hc⟩,by simp[wm0]⟩
 |i+1,S,hi,h=>by
  obtain⟨S0,e,h1,h2,h3⟩:=h
  obtain⟨⟨m,hI⟩,hn⟩:=Z71 hc i S0 (by omega) h1
  obtain⟨h4,h5⟩:=Znw hc (by omega) hI h3
  refine⟨h4,?_⟩
  rw[h5,hn,List.take_add_one,h2,List.countP_append]
  simp[List.countP_cons]
theorem Znx {c:Cfg} {L:List Ent} {S:WM} (hc:Z0e c=true) (hl:L.length<=20000) (h:Z7f c L L.length S):
 (∃m:Nat,(m:Int)<=c.th/\S.xs.length=3+5*m)/\(0<=S.xs.getD 2 0/\S.xs.getD 2 0<=((L.countP fun e=>e.k=2:Nat):Int))/\Z09 (Z0d c.ob c.cap) [] (S.lg.map (·.1))=(S.its,S.lg.map (·.2))/\S.lg.length<=L.length*L.length/\S.ev.length<=L.length/\Z2l S.its:=by
 obtain⟨⟨m,hI⟩,hn⟩:=Z71 hc L.length S hl h
 rw[List.take_length]at hn
 have ha:=hI.cel.ag
 rw[hn]at ha
 exact⟨⟨m,hI.mth,hI.cel.len⟩,ha,hI.log,hI.lg,hI.ev,hI.i32⟩
theorem Z95 {c:Cfg} {L:List Ent} (hc:Z0e c=true) (hl:L.length<=20000):∀i S,i<=L.length->Z7f c L i S->Znl c S i:=fun i S hi h=>by
 obtain⟨⟨m,hI⟩,-⟩:=Z71 hc i S (by omega) h
 exact hI.good hc
theorem Z7y (ob most:Int) (xs:List Int) (o:Int×Int) (h:(xs.length:Int)<=most):((Z0d ob most xs o).1.length:Int)<=most/\(3<=(Z0d ob most xs o).2.1->(Z0d ob most xs o).1=xs):=by
 have hi:=Z8i o.2 xs
 unfold Z0d Z08 Z07 Z0u
 repeat' split
 all_goals dsimp only
 all_goals
  refine⟨?_,fun q=>?_⟩
  ·first|omega|(simp;omega)|(rw[hi];omega)
  ·first|rfl|omega
structure KT where
 t:Th
 f:List Int
structure KS where
 xs:List Int
 T:List KT
 its:List Int
 ev:List Ev
 lg:Nat
 n:Nat
def fF (f:List Int):Nat->Int:=fun j=>f.getD j 0
def fN (f:List Int):Nat:=f.length/3
def Bat (n:Nat) (F:Nat->Int) (f:List Int):Prop:=f.length=3*n/\∀j,j<3*n->F j=f.getD j 0
theorem Bat.n {n:Nat} {F:Nat->Int} {f:List Int} (h:Bat n F f):fN f=n:=by unfold fN;rw[h.1];omega
theorem Zi7 {n:Nat} {F G:Nat->Int} (h:∀j,j<3*n->F j=G j):Z0k n F=Z0k n G:=by
 unfold Z0k
 refine List.map_congr_left (fun j hj=>?_)
 have:=List.mem_range.1 hj
 rw[h _ (by omega)]
theorem Zo0 {n:Nat} {F G:Nat->Int} (h:∀j,j<3*n->F j=G j) (xs:List Int) (t:Th):cbX xs t n F=cbX xs t n G:=by
 unfold cbX
 by_cases hc:(t.i1=37\/t.i1=38\/t.i1=39)/\0<=t.i8/\t.i8<n
 ·simp only[]
  rw[h (3*t.i8.toNat) (by omega),h (3*t.i8.toNat+2) (by omega)]
 ·rw[if_neg hc,if_neg hc]
def cbL (xs:List Int) (t:Th) (f:List Int):List Int:=if t.i1=22 then []else if t.i1=34/\0<cellAt xs (wrap64 t.i6)then f++ [t.i6,cellAt xs (wrap64 t.i6),0]else f
theorem Zo1 {n:Nat} {F:Nat->Int} {f:List Int} (h:Bat n F f) (xs:List Int) (t:Th):Bat (cbN xs t n) (cbF xs t n F) (cbL xs t f):=by
 unfold cbN cbF cbL
 by_cases e:t.i1=22
 ·rw[if_pos e,if_pos e];exact⟨rfl,fun j hj=>by omega⟩
 ·rw[if_neg e,if_neg e]
  by_cases e2:t.i1=34/\0<cellAt xs (wrap64 t.i6)
  ·rw[if_pos e2,if_pos e2,if_pos e2]
   refine⟨by simp[h.1];omega,fun j hj=>?_⟩
   unfold Z3m
   by_cases h1:j<3*n
   ·rw[if_pos h1,h.2 j h1,Lgd,Lgd,Lel (by rw[h.1];exact h1)]
   ·rw[if_neg h1,Lgd,Ler (by rw[h.1];omega),h.1]
    by_cases h2:j=3*n
    ·rw[if_pos h2,h2,Nat.sub_self];rfl
    ·rw[if_neg h2]
     by_cases h3:j=3*n+1
     ·rw[if_pos h3,h3,show 3*n+1-3*n=1 by omega];rfl
     ·rw[if_neg h3,show j-3*n=2 by omega];rfl
  ·rw[if_neg e2,if_neg e2,if_neg e2];exact h
def Zq4 (f:List Int) (R:List (Int×Int)):List Int:=(List.range f.length).map fun j=>Z48 (fN f) (fF f) R j
theorem Zkq {n:Nat} {F:Nat->Int} {f:List Int} (h:Bat n F f) (R:List (Int×Int)):Bat n (Z48 n F R) (Zq4 f R):=by
 refine⟨by simp[Zq4,h.1],fun j hj=>?_⟩
 unfold Zq4
 rw[Lgd,List.getElem?_map,List.getElem?_range (by rw[h.1];exact hj),h.n]
 show _=Z48 n (fF f) R j
 unfold Z48 fF
 rw[h.2 j hj]
def Zoc (K:KS) (k:Nat) (xs:List Int) (x:KT):KS:={K with xs:=xs,T:=K.T.set k x,n:=K.n+1}
def Zi8 (K:KS) (t:Th):List Ev:=if t.i1=14 then K.ev++ [⟨2,t.i0,t.i3,0,0,owK K.xs t,owV K.xs t,K.n⟩]else K.ev
def Zl9 (c:Cfg) (K:KS) (k:Nat) (t:Th) (f:List Int):KS:=
 if t.i1=36 then
  let R:=Z09 (Z08 c.cap) K.its (Z0k (fN f) (fF f))
  {Zoc K k (cbX K.xs t (fN f) (fF f)) ⟨cbT c.ps K.xs t (fN f),Zq4 f R.2⟩with its:=R.1,lg:=K.lg+fN f}
 else Zoc K k (cbX K.xs t (fN f) (fF f)) ⟨cbT c.ps K.xs t (fN f),cbL K.xs t f⟩
def Zc0 (c:Cfg) (K:KS) (k:Nat):KS:=match K.T[k]? with
 |none=>{K with n:=K.n+1}
 |some ⟨t,f⟩=>
  if t.i1=0 then {K with n:=K.n+1}
  else if Z52 t=true then {Zoc K k (owX (3+5*c.th) K.xs t) ⟨owT (3+5*c.th) K.xs t,f⟩with ev:=Zi8 K t}
  else if Z28 t=true then Zl9 c K k t f
  else Zoc K k (swX K.xs t) ⟨swT K.xs c.age t,f⟩
def Z97 (K:KS) (k:Nat) (ok ov:Int):KS:=match K.T[k]? with
 |none=>K
 |some ⟨t,f⟩=>if t.i1=0 then {K with T:=K.T.set k ⟨Zct t ok ov,f⟩,ev:=K.ev++ [⟨1,(k:Int),(Zct t ok ov).i3,ok,ov,0,0,K.n⟩]}else K
structure KR (S:WM) (K:KS):Prop where
 xs:S.xs=K.xs
 its:S.its=K.its
 ev:S.ev=K.ev
 lg:S.lg.length=K.lg
 n:S.n=K.n
 len:S.T.length=K.T.length
 T:∀(k n:Nat) (t:Th) (F:Nat->Int),S.T[k]?=some ⟨t,n,F⟩->∃f,K.T[k]?=some ⟨t,f⟩/\Bat n F f
theorem KR.put {S:WM} {K:KS} (h:KR S K) {k n n':Nat} {t t':Th} {F F':Nat->Int} {f':List Int} (hk:S.T[k]?=some ⟨t,n,F⟩) (hb:Bat n' F' f'):(S.T.set k ⟨t',n',F'⟩).length=(K.T.set k ⟨t',f'⟩).length/\∀(q n:Nat) (t:Th) (F:Nat->Int),(S.T.set k ⟨t',n',F'⟩)[q]?=some ⟨t,n,F⟩->∃f,(K.T.set k ⟨t',f'⟩)[q]?=some ⟨t,f⟩/\Bat n F f:=by
 have hkl:=(List.getElem?_eq_some_iff.1 hk).1
 have hl:=h.len
 refine⟨by rw[Lls,Lls];exact hl,fun q nq tq Fq hq=>?_⟩
 rcases Zi0 hq hkl with⟨rfl,e⟩|⟨e1,e⟩
 ·injection e with e1 e2 e3
  subst e1;subst e2;subst e3
  exact⟨f',by rw[List.getElem?_set,if_pos rfl,if_pos (by omega)],hb⟩
 ·obtain⟨f,g1,g2⟩:=h.T q nq tq Fq e
  exact⟨f,by rw[List.getElem?_set,if_neg (fun e=>e1 e.symm)];exact g1,g2⟩
theorem Zo2 {S:WM} {K:KS} (h:KR S K) (e:Ent) (k:Nat) (hk:e.t=(k:Int)):KR (Zap S e) (Z97 K k e.ok e.ov):=by
 unfold Zap Z97
 have ht:thr S e.t=S.T[k]?:=by unfold thr;rw[hk,if_pos (by omega)];rfl
 rw[ht]
 cases hS:S.T[k]? with
 |none=>
  have:K.T[k]?=none:=by rw[List.getElem?_eq_none_iff]at hS |-;rw[<-h.len];exact hS
  rw[this];exact h
 |some x=>
  obtain⟨t,n,F⟩:=x
  obtain⟨f,hf,hb⟩:=h.T k n t F hS
  rw[hf]
  dsimp only
  split
  ·unfold Z7e
   rw[if_pos rfl,show e.t.toNat=k by omega]
   obtain⟨g1,g2⟩:=h.put (t':=Zct t e.ok e.ov) hS hb
   exact⟨h.xs,h.its,by show S.ev++_=K.ev++_;rw[h.ev,h.n],h.lg,h.n,g1,g2⟩
  ·exact h
theorem Zo3 {c:Cfg} (hob:c.ob=1) {S S':WM} {K:KS} (h:KR S K) (e:Ent) (k:Nat) (hk:e.t=(k:Int)) (hp:Zaq c S e S'):KR S' (Zc0 c K k):=by
 unfold Zaq at hp
 unfold Zc0
 have ht:thr S e.t=S.T[k]?:=by unfold thr;rw[hk,if_pos (by omega)];rfl
 rw[ht]at hp
 have hn1:S.n+1=K.n+1:=by rw[h.n]
 cases hS:S.T[k]? with
 |none=>
  have:K.T[k]?=none:=by rw[List.getElem?_eq_none_iff]at hS |-;rw[<-h.len];exact hS
  rw[this]
  rw[hS]at hp
  dsimp only at hp
  subst hp
  exact⟨h.xs,h.its,h.ev,h.lg,hn1,h.len,h.T⟩
 |some x=>
  obtain⟨t,n,F⟩:=x
  obtain⟨f,hf,hb⟩:=h.T k n t F hS
  rw[hf]
  rw[hS]at hp
  dsimp only at hp |-
  by_cases h0:t.i1=0
  ·rw[if_pos h0]at hp |-
   subst hp
   exact⟨h.xs,h.its,h.ev,h.lg,hn1,h.len,h.T⟩
  ·rw[if_neg h0]at hp |-
   obtain⟨S1,hp,rfl⟩:=hp
   rw[show e.t.toNat=k by omega]at hp
   rcases hp with⟨ha,rfl⟩|⟨ha,its',F',lg',hs,rfl⟩|⟨ha,rfl⟩
   ·rw[if_pos ha]
    obtain⟨g1,g2⟩:=h.put (t':=owT (3+5*c.th) S.xs t) hS hb
    rw[<-h.xs]
    exact⟨rfl,h.its,by show Z6u S t=Zi8 K t;unfold Z6u Zi8;rw[h.ev,h.xs,h.n],h.lg,hn1,g1,g2⟩
   ·have hna:¬Z52 t=true:=fun h2=>by have h3:=of_decide_eq_true h2;have h4:=of_decide_eq_true ha;omega
    rw[if_neg hna,if_pos ha]
    unfold Zl9 Z6v at*
    have hX:cbX S.xs t n F=cbX K.xs t (fN f) (fF f):=by rw[hb.n,h.xs];exact Zo0 hb.2 _ _
    have hO:Z0k n F=Z0k (fN f) (fF f):=by rw[hb.n];exact Zi7 hb.2
    by_cases e36:t.i1=36
    ·rw[if_pos e36]at hs |-
     obtain⟨ord,o1,rfl,rfl,rfl⟩:=hs
     have ho:=o1.1 (by rw[hob];decide)
     have hl:=o1.len
     rw[Z13]at hl
     have hr:Z0m (Z0d c.ob c.cap) (Z0k n F) (S.its,List.replicate n (0,0)) ord=Z09 (Z08 c.cap) K.its (Z0k (fN f) (fF f)):=by
      rw[ho,hob,Z5e,h.its]
      have:=Z21 (Z08 c.cap) (Z0k n F) K.its
      rw[Z13]at this |-
      rw[this,hO]
     obtain⟨g1,g2⟩:=h.put (t':=cbT c.ps S.xs t n) hS (n':=cbN S.xs t n) (F':=Z48 n F (Z09 (Z08 c.cap) K.its (Z0k (fN f) (fF f))).2) (f':=Zq4 f (Z09 (Z08 c.cap) K.its (Z0k (fN f) (fF f))).2) (by rw[Zl8 _ _ _ e36];exact Zkq hb _)
     rw[hr]
     refine⟨hX,rfl,h.ev,?_,hn1,?_,?_⟩
     ·show(S.lg++_).length=K.lg+fN f
      rw[Lla,Llm,hl,h.lg,hb.n]
     ·rw[h.xs,<-hb.n]at g1;rw[h.xs,<-hb.n];exact g1
     ·rw[h.xs,<-hb.n]at g2;rw[h.xs,<-hb.n];exact g2
    ·rw[if_neg e36]at hs |-
     obtain⟨rfl,rfl,rfl⟩:=hs
     obtain⟨g1,g2⟩:=h.put (t':=cbT c.ps S.xs t n) hS (Zo1 hb S.xs t)
     refine⟨hX,h.its,h.ev,h.lg,hn1,?_,?_⟩
     ·unfold Zoc;rw[hb.n,<-h.xs];exact g1
     ·unfold Zoc;rw[hb.n,<-h.xs];exact g2
   ·have hna:¬Z52 t=true:=fun h2=>by have h3:=of_decide_eq_true h2;have h4:=of_decide_eq_true ha;omega
    have hns:¬Z28 t=true:=fun h2=>by have h3:=of_decide_eq_true h2;have h4:=of_decide_eq_true ha;omega
    rw[if_neg hna,if_neg hns]
    obtain⟨g1,g2⟩:=h.put (t':=swT S.xs c.age t) hS hb
    rw[<-h.xs]
    exact⟨rfl,h.its,h.ev,h.lg,hn1,g1,g2⟩
section
variable {β:Type}
def fI (x:Int) (k:Int->β):β:=match x with
 | .ofNat 0=>k (.ofNat 0)
 | .ofNat (m+1)=>k (.ofNat (m+1))
 | .negSucc 0=>k (.negSucc 0)
 | .negSucc (m+1)=>k (.negSucc (m+1))
theorem Zo4 (x:Int) (k:Int->β):fI x k=k x:=by unfold fI;split<;>rfl
def fL:List Int->(List Int->β)->β
 | [],k=>k []
 |x::l,k=>fI x fun y=>fL l fun m=>k (y::m)
theorem Zo5:∀(l:List Int) (k:List Int->β),fL l k=k l
 | [],k=>rfl
 |x::l,k=>by unfold fL;rw[Zo4,Zo5 l]
def fTh (t:Th) (k:Th->β):β:=fI t.i0 fun a0=>fI t.i1 fun a1=>fI t.i2 fun a2=>fI t.i3 fun a3=>fI t.i4 fun a4=>fI t.i5 fun a5=>fI t.i6 fun a6=>fI t.i7 fun a7=>fI t.i8 fun a8=>fI t.i9 fun a9=>fI t.i10 fun a10=>fI t.i11 fun a11=>k ⟨a0,a1,a2,a3,a4,a5,a6,a7,a8,a9,a10,a11⟩
theorem Zq5 (t:Th) (k:Th->β):fTh t k=k t:=by unfold fTh;simp only[Zo4]
def fT:List KT->(List KT->β)->β
 | [],k=>k []
 |x::l,k=>fTh x.t fun t=>fL x.f fun f=>fT l fun m=>k (⟨t,f⟩::m)
theorem Zq6:∀(l:List KT) (k:List KT->β),fT l k=k l
 | [],k=>rfl
 |x::l,k=>by unfold fT;rw[Zq5,Zo5,Zq6 l]
def fEv (e:Ev) (k:Ev->β):β:=fI e.k fun a=>fI e.t fun b=>fI e.s fun c=>fI e.ok fun d=>fI e.ov fun f=>fI e.rc fun g=>fI e.rv fun h=>fI e.at' fun i=>k ⟨a,b,c,d,f,g,h,i⟩
theorem Zq7 (e:Ev) (k:Ev->β):fEv e k=k e:=by unfold fEv;simp only[Zo4]
def fE:List Ev->(List Ev->β)->β
 | [],k=>k []
 |x::l,k=>fEv x fun y=>fE l fun m=>k (y::m)
theorem Zq8:∀(l:List Ev) (k:List Ev->β),fE l k=k l
 | [],k=>rfl
 |x::l,k=>by unfold fE;rw[Zq7,Zq8 l]
def fNt (x:Nat) (k:Nat->β):β:=match x with
 |0=>k 0
 |m+1=>k (m+1)
theorem Zq9 (x:Nat) (k:Nat->β):fNt x k=k x:=by unfold fNt;split<;>rfl
def fK (K:KS) (k:KS->β):β:=fL K.xs fun a=>fT K.T fun b=>fL K.its fun c=>fE K.ev fun d=>fNt K.lg fun e=>fNt K.n fun f=>k ⟨a,b,c,d,e,f⟩
theorem Zqa (K:KS) (k:KS->β):fK K k=k K:=by unfold fK;simp only[Zo5,Zq6,Zq8,Zq9]
def Zqg (c:Cfg):Nat->KS->(KS->β)->β
 |0,K,k=>k K
 |m+1,K,k=>fK (Zc0 c K 0) fun K1=>fK (Zc0 c K1 1) fun K2=>Zqg c m K2 k
end
def Zqh (c:Cfg):Nat->KS->KS
 |0,K=>K
 |m+1,K=>Zqh c m (Zc0 c (Zc0 c K 0) 1)
theorem Zi9 {β:Type} (c:Cfg):∀(m:Nat) (K:KS) (k:KS->β),Zqg c m K k=k (Zqh c m K)
 |0,K,k=>rfl
 |m+1,K,k=>by unfold Zqg Zqh;rw[Zqa,Zqa,Zi9 c m]
def kc:Cfg:=⟨1,2,1,1,1,false⟩
def k0:KS:=⟨[0,0,0],[⟨th0 0,[]⟩,⟨th0 1,[]⟩],[],[],0,0⟩
def kAsk (K:KS):Bool:=match Z6x K.ev with
 | [a,b]=>decide (0<a.til/\0<b.til/\K.lg=2)
 |_=>false
theorem Zqb:Zqg kc 120 (Z97 (Z97 k0 0 1 7) 1 2 0) kAsk=true:=by kernel_rfl
end
end Go.Proofs.YtihljjgmkaeohaaGreat
