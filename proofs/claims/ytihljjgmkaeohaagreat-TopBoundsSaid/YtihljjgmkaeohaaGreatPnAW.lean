/- part 23 -/
import Derived.Test.YtihljjgmkaeohaaGreatPnAT
import Derived.Test.YtihljjgmkaeohaaGreatPnAV
set_option linter.all false
set_option maxHeartbeats 16000000
set_option maxRecDepth 100000
namespace Go.Proofs.YtihljjgmkaeohaaGreat
section
open Go.RowKit Go.ChangeShapes Go.WideShapes Go.ChangeAt Go.Deep
def cbT (ps:Int) (xs:List Int) (t:Th) (n:Nat):Th:=
 if t.i1=20 then {t with i1:=21,i5:=cellAt xs 2}
 else if t.i1=21 then {t with i1:=22,i10:=wrap64 (t.i5+1),i11:=wrap64 (t.i11+1)}
 else if t.i1=22 then {t with i1:=if 0<Z32 xs.length then 23 else 33,i8:=0,i9:=Z32 xs.length}
 else if t.i1=23 then
  let b:=if t.i8<0\/1000<t.i8 then 0 else 3+5*t.i8
  let v:=cellAt xs (wrap64 (b+1))
  let k:=if v=0 then t.i8 else wrap64 (t.i8+1)
  {t with i1:=if v=0 then 24 else if k<t.i9 then 23 else 33,i5:=v,i6:=b,i8:=k}
 else if t.i1=24 then
  let v:=cellAt xs (wrap64 t.i6)
  let k:=if 0<v then t.i8 else wrap64 (t.i8+1)
  {t with i1:=if 0<v then 25 else if k<t.i9 then 23 else 33,i5:=v,i8:=k}
 else if t.i1=25 then
  let k:=if Z11 xs (wrap64 (t.i6+1)) 0=true then t.i8 else wrap64 (t.i8+1)
  {t with i1:=if Z11 xs (wrap64 (t.i6+1)) 0=true then 26 else if k<t.i9 then 23 else 33,i8:=k}
 else if t.i1=26 then
  let v:=cellAt xs 1
  {t with i1:=if v=0 then 27 else 29,i5:=v,i7:=if v=0 then t.i7 else v}
 else if t.i1=27 then {t with i1:=28}
 else if t.i1=28 then {t with i1:=if Z11 xs 1 0=true then 32 else 26}
 else if t.i1=29 then {t with i1:=30,i5:=cellAt xs (wrap64 (t.i7+3))}
 else if t.i1=30 then {t with i1:=31}
 else if t.i1=31 then {t with i1:=32}
 else if t.i1=32 then {t with i1:=if wrap64 (t.i8+1)<t.i9 then 23 else 33,i8:=wrap64 (t.i8+1)}
 else if t.i1=33 then
  let v:=cellAt xs 1
  {t with i1:=if v=0 then 40 else 34,i5:=v,i6:=if v=0 then t.i6 else v}
 else if t.i1=34 then {t with i1:=35,i5:=cellAt xs (wrap64 t.i6)}
 else if t.i1=35 then
  let v:=cellAt xs (wrap64 (t.i6+3))
  {t with i1:=if v=0 then if n=0 then 40 else 36 else 34,i5:=v,i6:=if v=0 then t.i6 else v}
 else if t.i1=36 then {t with i1:=37,i8:=0}
 else if t.i1=37 then {t with i1:=38}
 else if t.i1=38 then {t with i1:=39}
 else {t with i1:=if 0<=t.i8/\t.i8+1<n then 37 else if t.i11<ps then 20 else 40,i8:=wrap64 (t.i8+1)}
def cbX (xs:List Int) (t:Th) (n:Nat) (F:Nat->Int):List Int:=
 if t.i1=21 then Z0j xs 2 (wrap64 (t.i5+1))else if t.i1=25 then Z0s xs (wrap64 (t.i6+1)) 0 2
 else if t.i1=27 then Z0j xs (wrap64 (t.i6+3)) 0 else if t.i1=28 then Z0s xs 1 0 t.i6 else if t.i1=30 then Z0j xs (wrap64 (t.i6+3)) t.i5
 else if t.i1=31 then Z0j xs (wrap64 (t.i7+3)) t.i6 else if t.i1=32 then Z0j xs (wrap64 (t.i6+1)) 1
 else if (t.i1=37\/t.i1=38\/t.i1=39)/\0<=t.i8/\t.i8<n then
  let r:=F (3*t.i8.toNat)
  if t.i1=37 then Z0j xs (wrap64 (r+4)) (F (3*t.i8.toNat+2))else if t.i1=38 then Z0j xs (wrap64 (r+2)) t.i10 else Z0j xs (wrap64 r) 0
 else xs
def cbN (xs:List Int) (t:Th) (n:Nat):Nat:=if t.i1=22 then 0 else if t.i1=34/\0<cellAt xs (wrap64 t.i6)then n+1 else n
def cbF (xs:List Int) (t:Th) (n:Nat) (F:Nat->Int):Nat->Int:=if t.i1=34/\0<cellAt xs (wrap64 t.i6)then Z3m n F t.i6 (cellAt xs (wrap64 t.i6)) 0 else F
def Zim (ob most:Int) (xs:List Int) (t:Th) (n:Nat) (F:Nat->Int) (its its':List Int) (F':Nat->Int) (nd:Nat) (Fd:Nat->Int):Prop:=
 if t.i1=36 then ∃ord,Z31 ob (Z0k n F) ord/\its'=(Z0m (Z0d ob most) (Z0k n F) (its,List.replicate n (0,0)) ord).1/\F'=Z48 n F (Z0m (Z0d ob most) (Z0k n F) (its,List.replicate n (0,0)) ord).2/\nd=n/\Fd=F'
 else its'=its/\F'=cbF xs t n F/\nd=0
def Zak (W0 w:World) (b:Nat) (g:Option Nat) (N st:Int) (xs:List Int) (t:Th) (n:Nat) (F:Nat->Int) (ps:Int) (o:Nat) (ob most:Int) (pl:Bool) (its:List Int) (c:Nat) (cv:Value) (bd:Value) (G:Nat->Prop) (e:Ending) (w':World):Prop:=
 ∃(bt' dn':Value) (st':Int) (its':List Int) (F':Nat->Int) (nd:Nat) (Fd:Nat->Int) (cv':Value) (bs':List Bool) (G':Nat->Prop),e= .returned (.tuple #[thV (cbT ps xs t n) bt',dn'])/\MS W0 w' b g N (cbX xs t n F) st'/\st<=st'/\st'<=st+1/\IRw w' bt' (cbN xs t n) F'/\IRw w' dn' nd Fd/\Zim ob most xs t n F its its' F' nd Fd/\
  (∀k,bt'.ownBlock=some k\/dn'.ownBlock=some k->w.heap.size<=k)/\Z4j w' o ob most pl its' c cv' bs' bd G'/\(∀k,ObF o c cv' G' k->ObF o c cv G k\/w.heap.size<=k)/\(∀k,bt'.ownBlock=some k->¬ObF o c cv' G' k)/\(∀k,dn'.ownBlock=some k->¬ObF o c cv' G' k/\¬bt'.ownBlock=some k)/\Z01 (fun k=>Z18 b g k\/ObF o c cv G k) w w'
abbrev Zpk (w:World) (o:Nat) (ob most:Int) (pl:Bool) (c:Nat) (cv:Value) (bd:Value) (G:Nat->Prop) (R:Z9o->List Int->Prop) (r:Z9o) (v d:Value) (u:World):Prop:=
 ∃(its':List Int) (cv':Value) (bs':List Bool) (G':Nat->Prop),Z4j u o ob most pl its' c cv' bs' bd G'/\(∀k,ObF o c cv' G' k->ObF o c cv G k\/w.heap.size+1<k)/\(∀t,v.ownBlock=some t->¬ObF o c cv' G' t)/\(∀t,d.ownBlock=some t->¬ObF o c cv' G' t/\¬v.ownBlock=some t)/\R r its'
section
variable (W0 w:World) (b:Nat) (g:Option Nat) (N st:Int) (xs:List Int) (i0 i1 i2 i3 i4 i5 i6 i7 i8 i9 i10 i11:Int) (bt:Value) (ps:Int) (n:Nat) (F:Nat->Int) (o:Nat) (ob most:Int) (pl:Bool) (its:List Int) (c:Nat) (cv:Value) (bs:List Bool) (bd:Value) (G:Nat->Prop)
theorem Zcp (R:Z9o->List Int->Prop) (h:MS W0 w b g N xs st) (hI:IRw w bt n F) (hn:n<=900000) (s0:0<=st) (s1:st<1000000) (hO:Z4j w o ob most pl its c cv bs bd G) (dO:∀k,ObF o c cv G k->¬Z18 b g k/\W0.heap.size<=k) (hx:most<=1000) (h3:Z2l its) (f:Nat) (hk1:20<=i1) (hk2:i1<=39)
 (ent:∀(args:Array Value) (u:World),Sem.run Tryz.prog (callFunc f args) u= .ok (.enter f args) u) (hget:∀x,Z3i (Z55 x) i1=some (.func (.func f) #[.pointer (some ⟨x,0,none⟩)] #[]))
 (hM:∀(u:World) (x:Nat) (bt:Value),Below w.heap.size w u->w.heap.size+1<x->CT W0 u x g N st xs i0 i1 i2 i3 i4 i5 i6 i7 i8 i9 i10 i11 bt b (.pointer (some ⟨o,0,none⟩)) ps (.slice none 0 0)->IRw u bt n F->(∀t,bt.ownBlock=some t->w.heap.size+1<t/\t<x)->Calls Tryz.prog f #[.pointer (some ⟨x,0,none⟩)] u fun e u'=>e= .returned (.tuple #[])/\∃(r:Z9o) (bt' dn':Value),CT W0 u' x g N r.st r.xs r.t.i0 r.t.i1 r.t.i2 r.t.i3 r.t.i4 r.t.i5 r.t.i6 r.t.i7 r.t.i8 r.t.i9 r.t.i10 r.t.i11 bt' b (.pointer (some ⟨o,0,none⟩)) ps dn'/\IRw u' bt' r.n r.F/\IRw u' dn' r.nd r.Fd/\(∀t,bt'.ownBlock=some t\/dn'.ownBlock=some t->w.heap.size+1<t)/\Zpk w o ob most pl c cv bd G R r bt' dn' u'/\Z01 (fun k=>FX b g x k\/bt.ownBlock=some k\/ObF o c cv G k) u u')
 (hR:∀r its',R r its'->r.t=cbT ps xs ⟨i0,i1,i2,i3,i4,i5,i6,i7,i8,i9,i10,i11⟩ n/\r.xs=cbX xs ⟨i0,i1,i2,i3,i4,i5,i6,i7,i8,i9,i10,i11⟩ n F/\st<=r.st/\r.st<=st+1/\r.n=cbN xs ⟨i0,i1,i2,i3,i4,i5,i6,i7,i8,i9,i10,i11⟩ n/\Zim ob most xs ⟨i0,i1,i2,i3,i4,i5,i6,i7,i8,i9,i10,i11⟩ n F its its' r.F r.nd r.Fd):
 Calls Tryz.prog 77 #[.pointer (some ⟨b,0,none⟩),(.pointer (some ⟨o,0,none⟩)),.int .i64 ps,.agg #[.int .i64 i0,.int .i64 i1,.int .i64 i2,.int .i64 i3,.int .i64 i4,.int .i64 i5,.int .i64 i6,.int .i64 i7,.int .i64 i8,.int .i64 i9,.int .i64 i10,.int .i64 i11,bt]] w (Zak W0 w b g N st xs ⟨i0,i1,i2,i3,i4,i5,i6,i7,i8,i9,i10,i11⟩ n F ps o ob most pl its c cv bd G):=by
 refine(Zmc f W0 w b g N st xs i0 i1 i2 i3 i4 i5 i6 i7 i8 i9 i10 i11 bt o ps n F (ObF o c cv G) (Zpk w o ob most pl c cv bd G R) h hI.its (by omega) s0 (fun k e=>⟨hO.lt k e,(dO k e).2⟩) (fun r v d u u' ⟨its',cv',bs',G',a1,a2,a3,a3',a4⟩ hk=>⟨its',cv',bs',G',a1.kept hk (fun k e e2=>by
  rcases a2 k e with h1|h1
  ·have:=hO.lt k h1;omega
  ·omega),a2,a3,a3',a4⟩) hk1 hk2 ent hget hM).mono ?_
 rintro e w' ⟨r,bt',dn',e1,e2,e3,e4,e5,⟨its',cv',bs',G',a1,a2,a3,a3',a4⟩,e6⟩
 obtain⟨q1,q2,q3,q4,q5,q6⟩:=hR r its' a4
 exact⟨bt',dn',r.st,its',r.F,r.nd,r.Fd,cv',bs',G',q1 ▸ e1,q2 ▸ e2,q3,q4,q5 ▸ e3,e4,q6,e5,a1,fun k e=>(a2 k e).imp id (fun h=>by omega),a3,a3',e6⟩
theorem cGo (h:MS W0 w b g N xs st) (hI:IRw w bt n F) (hn:n<=900000) (s0:0<=st) (s1:st<1000000) (hO:Z4j w o ob most pl its c cv bs bd G) (dO:∀k,ObF o c cv G k->¬Z18 b g k/\W0.heap.size<=k) (hx:most<=1000) (h3:Z2l its) (f:Nat) (t1:Th) (st1:Int) (xs1:List Int) (hk1:20<=i1) (hk2:i1<=39)
 (ent:∀(args:Array Value) (u:World),Sem.run Tryz.prog (callFunc f args) u= .ok (.enter f args) u) (hget:∀x,Z3i (Z55 x) i1=some (.func (.func f) #[.pointer (some ⟨x,0,none⟩)] #[]))
 (hM:∀(u:World) (x:Nat) (bt:Value),CT W0 u x g N st xs i0 i1 i2 i3 i4 i5 i6 i7 i8 i9 i10 i11 bt b (.pointer (some ⟨o,0,none⟩)) ps (.slice none 0 0)->IRw u bt n F->(∀t,bt.ownBlock=some t->¬Z18 b g t)->Calls Tryz.prog f #[.pointer (some ⟨x,0,none⟩)] u fun e u'=>e= .returned (.tuple #[])/\CT W0 u' x g N st1 xs1 t1.i0 t1.i1 t1.i2 t1.i3 t1.i4 t1.i5 t1.i6 t1.i7 t1.i8 t1.i9 t1.i10 t1.i11 bt b (.pointer (some ⟨o,0,none⟩)) ps (.slice none 0 0)/\Z01 (FX b g x) u u')
 (e1:t1=cbT ps xs ⟨i0,i1,i2,i3,i4,i5,i6,i7,i8,i9,i10,i11⟩ n) (e2:xs1=cbX xs ⟨i0,i1,i2,i3,i4,i5,i6,i7,i8,i9,i10,i11⟩ n F) (e3:st<=st1/\st1<=st+1) (e4:cbN xs ⟨i0,i1,i2,i3,i4,i5,i6,i7,i8,i9,i10,i11⟩ n=n) (e5:i1≠36) (e6:cbF xs ⟨i0,i1,i2,i3,i4,i5,i6,i7,i8,i9,i10,i11⟩ n F=F):
 Calls Tryz.prog 77 #[.pointer (some ⟨b,0,none⟩),(.pointer (some ⟨o,0,none⟩)),.int .i64 ps,.agg #[.int .i64 i0,.int .i64 i1,.int .i64 i2,.int .i64 i3,.int .i64 i4,.int .i64 i5,.int .i64 i6,.int .i64 i7,.int .i64 i8,.int .i64 i9,.int .i64 i10,.int .i64 i11,bt]] w (Zak W0 w b g N st xs ⟨i0,i1,i2,i3,i4,i5,i6,i7,i8,i9,i10,i11⟩ n F ps o ob most pl its c cv bd G):=by
 have hpast:=h.past
 refine Zcp W0 w b g N st xs i0 i1 i2 i3 i4 i5 i6 i7 i8 i9 i10 i11 bt ps n F o ob most pl its c cv bs bd G (fun r its'=>r=⟨st1,xs1,t1,n,F,0,fun _=>0⟩/\its'=its) h hI hn s0 s1 hO dO hx h3 f hk1 hk2 ent hget (fun u x bt hu hx hC hI ho=>(hM u x bt hC hI (fun t e=>hpast t (by have:=(ho t e).1;omega))).mono fun e u' ⟨a1,a2,a3⟩=>⟨a1,⟨st1,xs1,t1,n,F,0,fun _=>0⟩,bt,_,a2,Z04 hI a3 (fun t e e2=>?_),IRw.nil _ _,fun t e=>?_,⟨its,cv,bs,G,(hO.below hu).kept a3 (fun k e e2=>?_),fun k e=>.inl e,fun t e e2=>?_,fun t e=>(by cases e),rfl,rfl⟩,a3.mono (fun _ _ e=>.inl e)⟩) ?_
 ·rcases e2 with e2|e2
  ·exact hpast t (by have:=(ho t e).1;omega) e2
  ·have:=ho t e;omega
 ·rcases e with e|e
  ·exact(ho t e).1
  ·cases e
 ·rcases e2 with e2|e2
  ·exact(dO k e).1 e2
  ·have:=hO.lt k e;omega
 ·have:=hO.lt t e2;have:=ho t e;omega
 ·rintro r its' ⟨rfl,rfl⟩
  exact⟨e1,e2,e3.1,e3.2,e4.symm,by unfold Zim;rw[if_neg e5];exact⟨rfl,e6.symm,rfl⟩⟩
end
theorem cG3 (xs:List Int) (a st:Int):st<=st+Z0h xs a/\st+Z0h xs a<=st+1:=by have:=Z0f xs a;omega
theorem Z62 {W0 w:World} {b:Nat} {g:Option Nat} {N st:Int} {xs:List Int} {i0 i1 i2 i3 i4 i5 i6 i7 i8 i9 i10 i11:Int} {bt:Value} {ps:Int} {n:Nat} {F:Nat->Int} {o:Nat} {ob most:Int} {pl:Bool} {its:List Int} {c:Nat} {cv:Value} {bs:List Bool} {bd:Value} {G:Nat->Prop} {st1:Int} (h:MS W0 w b g N xs st) (hI:IRw w bt n F) (hn:n<=900000) (s0:0<=st) (s1:st<1000000) (hO:Z4j w o ob most pl its c cv bs bd G) (dO:∀k,ObF o c cv G k->¬Z18 b g k/\W0.heap.size<=k) (hx:most<=1000) (h3:Z2l its) (f:Nat) (hk:20<=i1/\i1<=39/\i1≠22/\i1≠36) (hb:¬(i1=34/\0<cellAt xs (wrap64 i6))) (e3:st<=st1/\st1<=st+1)
 (ent:∀(args:Array Value) (u:World),Sem.run Tryz.prog (callFunc f args) u= .ok (.enter f args) u) (hget:∀x,Z3i (Z55 x) i1=some (.func (.func f) #[.pointer (some ⟨x,0,none⟩)] #[]))
 (hM:∀(u:World) (x:Nat) (bt:Value),CT W0 u x g N st xs i0 i1 i2 i3 i4 i5 i6 i7 i8 i9 i10 i11 bt b (.pointer (some ⟨o,0,none⟩)) ps (.slice none 0 0)->IRw u bt n F->(∀t,bt.ownBlock=some t->¬Z18 b g t)->Calls Tryz.prog f #[.pointer (some ⟨x,0,none⟩)] u fun e u'=>e= .returned (.tuple #[])/\CT W0 u' x g N st1 (cbX xs ⟨i0,i1,i2,i3,i4,i5,i6,i7,i8,i9,i10,i11⟩ n F) (cbT ps xs ⟨i0,i1,i2,i3,i4,i5,i6,i7,i8,i9,i10,i11⟩ n).i0 (cbT ps xs ⟨i0,i1,i2,i3,i4,i5,i6,i7,i8,i9,i10,i11⟩ n).i1 (cbT ps xs ⟨i0,i1,i2,i3,i4,i5,i6,i7,i8,i9,i10,i11⟩ n).i2 (cbT ps xs ⟨i0,i1,i2,i3,i4,i5,i6,i7,i8,i9,i10,i11⟩ n).i3 (cbT ps xs ⟨i0,i1,i2,i3,i4,i5,i6,i7,i8,i9,i10,i11⟩ n).i4 (cbT ps xs ⟨i0,i1,i2,i3,i4,i5,i6,i7,i8,i9,i10,i11⟩ n).i5 (cbT ps xs ⟨i0,i1,i2,i3,i4,i5,i6,i7,i8,i9,i10,i11⟩ n).i6 (cbT ps xs ⟨i0,i1,i2,i3,i4,i5,i6,i7,i8,i9,i10,i11⟩ n).i7 (cbT ps xs ⟨i0,i1,i2,i3,i4,i5,i6,i7,i8,i9,i10,i11⟩ n).i8 (cbT ps xs ⟨i0,i1,i2,i3,i4,i5,i6,i7,i8,i9,i10,i11⟩ n).i9 (cbT ps xs ⟨i0,i1,i2,i3,i4,i5,i6,i7,i8,i9,i10,i11⟩ n).i10 (cbT ps xs ⟨i0,i1,i2,i3,i4,i5,i6,i7,i8,i9,i10,i11⟩ n).i11 bt b (.pointer (some ⟨o,0,none⟩)) ps (.slice none 0 0)/\Z01 (FX b g x) u u'):
 Calls Tryz.prog 77 #[.pointer (some ⟨b,0,none⟩),(.pointer (some ⟨o,0,none⟩)),.int .i64 ps,.agg #[.int .i64 i0,.int .i64 i1,.int .i64 i2,.int .i64 i3,.int .i64 i4,.int .i64 i5,.int .i64 i6,.int .i64 i7,.int .i64 i8,.int .i64 i9,.int .i64 i10,.int .i64 i11,bt]] w (Zak W0 w b g N st xs ⟨i0,i1,i2,i3,i4,i5,i6,i7,i8,i9,i10,i11⟩ n F ps o ob most pl its c cv bd G):=
 cGo W0 w b g N st xs i0 i1 i2 i3 i4 i5 i6 i7 i8 i9 i10 i11 bt ps n F o ob most pl its c cv bs bd G h hI hn s0 s1 hO dO hx h3 f (cbT ps xs ⟨i0,i1,i2,i3,i4,i5,i6,i7,i8,i9,i10,i11⟩ n) st1 (cbX xs ⟨i0,i1,i2,i3,i4,i5,i6,i7,i8,i9,i10,i11⟩ n F) hk.1 hk.2.1 ent hget hM rfl rfl e3 (by unfold cbN;rw[if_neg (fun h=>hk.2.2.1 h),if_neg hb]) hk.2.2.2 (by unfold cbF;rw[if_neg hb])
theorem Tryz.infoOp:(Tryz.prog.info? 47).map (fun i=>(i.zero,i.size,i.bytes))=some (some (.agg #[.int .u8 0,.int .i32 0]),2,8):=by kernel_rfl
theorem Zqk (W0 w:World) (x:Nat) (g:Option Nat) (N st:Int) (xs:List Int) (i0 i1 i2 i3 i4 i5 i6 i7 i8 i9 i10 i11:Int) (bt:Value) (b:Nat) (ps:Int) (dn:Value) (o:Nat) (ob most:Int) (pl:Bool) (its:List Int) (c:Nat) (cv:Value) (bs:List Bool) (bd:Value) (G:Nat->Prop) (n:Nat) (F:Nat->Int)
 (h:CT W0 w x g N st xs i0 i1 i2 i3 i4 i5 i6 i7 i8 i9 i10 i11 bt b (.pointer (some ⟨o,0,none⟩)) ps dn) (hI:IRw w bt n F) (ho:∀t,bt.ownBlock=some t->¬FX b g x t/\W0.heap.size<=t/\¬ObF o c cv G t) (hO:Z4j w o ob most pl its c cv bs bd G) (dO:∀k,ObF o c cv G k->¬FX b g x k/\W0.heap.size<=k) (hn:n<=900000) (hx:most<=1000) (h3:Z2l its):
 Calls Tryz.prog 123 #[.pointer (some ⟨x,0,none⟩)] w fun e w'=>e= .returned (.tuple #[])/\∃ord dn' cv' bs' G',Z31 ob (Z0k n F) ord/\CT W0 w' x g N st xs i0 37 i2 i3 i4 i5 i6 i7 0 i9 i10 i11 bt b (.pointer (some ⟨o,0,none⟩)) ps dn'/\IRw w' bt n (Z48 n F (Z0m (Z0d ob most) (Z0k n F) (its,List.replicate n (0,0)) ord).2)/\IRw w' dn' n (Z48 n F (Z0m (Z0d ob most) (Z0k n F) (its,List.replicate n (0,0)) ord).2)/\(∀t,dn'.ownBlock=some t->w.heap.size<=t/\¬ObF o c cv' G' t)/\Z4j w' o ob most pl (Z0m (Z0d ob most) (Z0k n F) (its,List.replicate n (0,0)) ord).1 c cv' bs' bd G'/\(∀k,ObF o c cv' G' k->ObF o c cv G k\/w.heap.size<=k)/\Z01 (fun k=>FX b g x k\/bt.ownBlock=some k\/ObF o c cv G k) w w':=by
 obtain⟨ao,cap,rfl⟩:=Z03 hI
 obtain⟨⟨c0,c1,c2,c3,c4,c5,c6,c7,c8,c9,c10,c11,c12,c13,c14,c15,c16⟩,-,cx⟩:=h.open
 obtain⟨i0',hi,hz0,hz1,hz2⟩:=info_parts Tryz.infoOp
 have hmk:=Z1f 74 47 i0' Tryz.underlying74 hi hz0 hz1 hz2 n (by omega)
 have H:=hi7 h hI ho hO dO hx h3
 have hn9:(n:Int)<=900000:=by omega
 have hn2:n*2<=1800000:=by omega
 clear h hI ho hO dO hx h3 hi hz0 hz1 hz2
 go_enter Tryz.func123,Tryz.ntmps123
 go_wp2_with fail
 generalize hB:w.heap.size=B
 generalize hW1:World.alloc _ _=w1
 have T1:P2 w1 47 (.slice (some ⟨B,0,none⟩) n n) (List.replicate n (0,0)):=by rw[<-hW1,<-hB];exact Z3p _ _ _ (by omega)
 have B1:Below w.heap.size w w1:=by rw[<-hW1];go_grown
 have H1:=hi3 T1 B1 hB
 have zx:x<B:=by omega
 clear hW1 T1 B1 hB hmk c0 c1 c2 c3 c4 c5 c6 c7 c8 c9 c10 c11 c12 c13 c14 c15 c16
 go_loopw [21] (fun k wr=>∃i:Nat,i<=n/\k= .int .i64 i/\P2 wr 47 (.slice (some ⟨B,0,none⟩) n n) (Z0k i F++List.replicate (n-i) (0,0))/\Below w.heap.size w wr) (fun k _=>n-(intOf k).toNat)
 case atStart=>exact⟨0,Nat.zero_le _,rfl,by simpa [Z0k]using H1.out.1,H1.out.2.1⟩
 case round=>
  obtain⟨i,hin,rfl,hT,hb⟩:=hrel
  have yi:(0:Int)<=(i:Int):=by omega
  have HR:=hi2 hT hb
  have zxr:x<wr.heap.size:=by have:=hb.size;have:=H1.out.2.2;omega
  by_cases hlt:i<n
  ·have hlt':(i:Int)<(n:Int):=by omega
   have hIr:=H.out.2.1.below hb
   obtain⟨gb,cap',hs,hgl,-,-⟩:=hIr.shp (by omega)
   cases hs
   obtain⟨k0,k1,k2⟩:=hIr.at_ hlt
   have zB:B<wr.heap.size:=hT.lt rfl
   clear hT hb hIr
   go_wp2_with fail
   generalize hW2:World.alloc _ _=W2
   have B2:Below wr.heap.size wr W2:=by rw[<-hW2];go_grown
   have HB2:=Hd B2
   clear hW2 B2 k0 k1 k2
   refine(Z9g (F (3*i+1)) W2).mono ?_
   rintro e w3 ⟨rfl,hb3⟩
   have T3:=(HR.out.1.below HB2.out).below hb3
   have hRl:(Z0k i F).length=i:=Z13 i F
   obtain⟨tg,tc,hs,-,htl,ht,htf⟩:=T3.pos (by rw[Lla,Llr];omega)
   have e1:tg=B:=by injection hs with h1;injection h1 with h1;injection h1 with h1;exact h1.symm
   subst e1
   obtain⟨t1,t2⟩:=ht i (by rw[Lla,Llr];omega)
   rw[show 2*i=i*2 by omega]at t1 t2
   have tf1:=htf (i*2)
   have tf2:=htf (i*2+1)
   have H3:=hi3 T3 (HB2.out.trans (hb3.mono HB2.out.size)) hRl
   clear T3 hb3 hRl hs ht htf
   go_wp2
   go_roundw
   case rel=>
    refine⟨i+1,by omega,by go_num,?_,(HR.out.2.trans (H3.out.2.1.mono HR.out.2.size)).trans ?_⟩
    ·have h1:=H3.out.1.set rfl i (by rw[Lla,Llr];have:=H3.out.2.2;omega) (wk (F (3*i+1))) (wv (F (3*i+1)))
     rw[Z4q _ H3.out.2.2 hlt,show 2*i=i*2 by omega,<-Z7u]at h1
     exact h1
    ·exact(((Z01.refl (fun k=>k=tg) w3).setCell (p:=⟨tg,i*2,none⟩) (fun _=>rfl) _).setCell (p:=⟨tg,i*2+1,none⟩) (fun _=>rfl) _).below (by have:=HR.out.2.size;have:=H3.out.2.1.size;omega) (fun k hk e=>by have:=H1.out.2.2;omega)
   case measure=>simp[intOf];omega
  ·obtain rfl:i=n:=by omega
   have e0:Z0k i F++List.replicate (i-i) (0,0)=Z0k i F:=by rw[Nat.sub_self,List.replicate_zero,List.append_nil]
   have P1:P2 wr 47 (.slice (some ⟨B,0,none⟩) i i) (Z0k i F):=e0 ▸ hT
   have dB:∀t,(Value.slice (some ⟨B,0,none⟩) i i).ownBlock=some t->¬ObF o c cv G t:=fun t e e2=>by
    have e3:B=t:=Option.some.inj e
    have:=H.out.2.2.2.1.lt t e2;have:=H1.out.2.2;omega
   have cD:=Zpb wr o ob most pl its c cv bs bd G (H.out.2.2.2.1.below hb) _ (Z0k i F) P1 (Z36 i F) (Zna i F) (by rw[Z13];omega) dB H.out.2.2.2.2.2.1
   rw[Z13]at cD
   have hC:=H.out.1.below hb
   obtain⟨⟨d0,d1,d2,d3,d4,d5,d6,d7,d8,d9,d10,d11,d12,d13,d14,d15,d16⟩,-,dx⟩:=hC.open
   have CD:=Hd cD
   clear hT hb cD hC dB P1 e0
   go_wp2_with fail
   refine CD.out.mono ?_
   rintro e w4 ⟨u,ord,rfl,r1,r2,r3,cv',bs',G',O4,g4,k4⟩
   have C4:CT W0 w4 x g N st xs i0 i1 i2 i3 i4 i5 i6 i7 i8 i9 i10 i11 (.slice ao i cap) b (.pointer (some ⟨o,0,none⟩)) ps dn:=(H.out.1.below HR.out.2).keptS k4 (fun e=>(H.out.2.2.2.2.1 _ e).1 (.inr rfl)) (fun k e e2=>(H.out.2.2.2.2.1 _ e2).1 (.inl e)) (fun k hk e=>by have:=(H.out.2.2.2.2.1 _ e).2;omega)
   have I4:IRw w4 (.slice ao i cap) i F:=Z04 (H.out.2.1.below HR.out.2) k4 (fun t e e2=>(H.out.2.2.1 t e).2.2 e2)
   obtain⟨T,hTd⟩:∃T,Z0m (Z0d ob most) (Z0k i F) (its,List.replicate i (0,0)) ord=T:=⟨_,rfl⟩
   have hok:=Z61 ob most (Z0k i F) (Z36 i F) ord (its,List.replicate i (0,0)) H.out.2.2.2.2.2.2 (Z5i i)
   have hln:=Z6q (Z0d ob most) (Z0k i F) ord (its,List.replicate i (0,0))
   rw[hTd]at r2 O4 hok hln
   obtain⟨xs',T⟩:=T
   dsimp only at r2 O4 hok hln
   rw[Llr]at hln
   obtain⟨uo,uc,rfl⟩:=r2.shape
   rw[hln]at r2 r3 |-
   have zw:=HR.out.2.size
   have HR0:=Hd HR.out.2
   have zw4:=k4.size
   clear d0 d1 d2 d3 d4 d5 d6 d7 d8 d9 d10 d11 d12 d13 d14 d15 d16 CD HR
   obtain⟨⟨d0,d1,d2,d3,d4,d5,d6,d7,d8,d9,d10,d11,d12,d13,d14,d15,d16⟩,-,dx⟩:=C4.open
   have H4:=hi10 r1 r2 r3 O4 g4 C4 I4 hok hln hTd
   have HK4:=Hd ((Z0b (F:=ObF o c cv G) HR0.out).trans k4)
   clear r1 r2 r3 O4 g4 C4 I4 hok hln hTd k4
   go_wp2_with fail
   go_loopw [48] (fun k wq=>∃j:Nat,j<=i/\k= .int .i64 j/\IRw wq (.slice ao i cap) i (Z48 j F T)/\Z01 (fun k=>(Value.slice ao i cap).ownBlock=some k) w4 wq) (fun k _=>i-(intOf k).toNat)
   case atStart=>exact⟨0,Nat.zero_le _,rfl,by rw[Zgu];exact H4.out.2.2.2.2.2.2.1,Z01.refl _ _⟩
   case round=>
    obtain⟨j,hj,rfl,hI5,hK5⟩:=hrel
    have yj:(0:Int)<=(j:Int):=by omega
    have C5:CT W0 wr x g N st xs i0 i1 i2 i3 i4 i5 i6 i7 i8 i9 i10 i11 (.slice ao i cap) b (.pointer (some ⟨o,0,none⟩)) ps dn:=H4.out.2.2.2.2.2.1.keptS hK5 (fun e=>(H.out.2.2.1 _ e).1 (.inr rfl)) (fun k e e2=>(H.out.2.2.1 _ e2).1 (.inl e)) (fun k hk e=>by have:=(H.out.2.2.1 _ e).2.1;omega)
    have zx5:=C5.lt
    have KW:Z01 (fun k=>FX b g x k\/(Value.slice ao i cap).ownBlock=some k\/ObF o c cv G k) w wr:=(HK4.out.mono (fun _ _ e=>.inr (.inr e))).trans (hK5.mono (fun _ _ e=>.inr (.inl e)))
    by_cases hlt:j<i
    ·have hlt':(j:Int)<(i:Int):=by omega
     have r2:=H4.out.2.1.kept hK5 (fun t e e2=>by have:=H4.out.2.2.1 t e;have:=H.out.2.1;have:=World.ownsRow.lt this t e2;omega)
     obtain⟨ug,uc',hs,-,hgl,hc,-⟩:=r2.pos (by have:=H4.out.2.2.2.2.2.2.2.2.1;omega)
     rw[H4.out.2.2.2.2.2.2.2.2.1]at hs
     cases hs
     obtain⟨q1,q2⟩:=hc j (by have:=H4.out.2.2.2.2.2.2.2.2.1;omega)
     have hkr:=H4.out.2.2.2.2.2.2.2.1.2 (T.getD j (0,0)) (by
      rw[Lgd,Lge (by have:=H4.out.2.2.2.2.2.2.2.2.1;omega)]
      exact List.getElem_mem _)
     obtain⟨⟨rk,rv⟩,hky⟩:∃p,T.getD j (0,0)=p:=⟨_,rfl⟩
     rw[hky]at q1 q2 hkr
     rw[show 2*j=j*2 by omega]at q1 q2
     obtain⟨gb,cap',hs,hgl2,-,hfz⟩:=hI5.shp (by omega)
     cases hs
     obtain⟨k0,k1,k2⟩:=hI5.at_ hlt
     have f2:=hfz (j*3+2)
     have hxb:¬x=gb:=fun e=>(H.out.2.2.1 gb rfl).1 (.inr e.symm)
     obtain⟨⟨d0,d1,d2,d3,d4,d5,d6,d7,d8,d9,d10,d11,d12,d13,d14,d15,d16⟩,-,dx⟩:=C5.open
     have H5:=hi6 C5 hI5 hK5 KW hky hkr
     clear r2 hc hkr hky hfz C5 hI5 hK5 KW
     go_wp2_with fail
     generalize hrb:wr.heap.size=rb
     generalize hW5:World.alloc _ _=W5
     have hA5:W5.heap[rb]?=some (.cells #[.int .u8 rk,.int .i32 rv] 43 (0,0)):=by rw[<-hW5,<-hrb];exact Han _ _
     have B5:Below wr.heap.size wr W5:=by rw[<-hW5];go_grown
     have B5d:Below wr.heap.size wr W5.drew:=B5.drew
     obtain⟨⟨a0,a1⟩,za⟩:=Z0g (show W5.drew.heap[rb]?=_ from hA5)
     have zg5:gb<W5.drew.heap.size:=Nlt hgl2 B5.size
     have zx6:x<W5.drew.heap.size:=Nlt zx5 B5.size
     have v12:=(B5d.cell (p:=⟨x,12,none⟩) zx5).trans d12
     have v2:=(B5d.cell (p:=⟨gb,j*3+2,none⟩) hgl2).trans k2
     have vf:=(B5d.frozen (p:=⟨gb,j*3+2,none⟩) hgl2).trans f2
     have HB5:=Hd B5d
     have hrg:¬rb=gb:=by omega
     clear hW5 B5 B5d hA5 k0 k1 k2 f2 q1 q2 d0 d1 d2 d3 d4 d5 d6 d7 d8 d9 d10 d11 d12 d13 d14 d15 d16
     go_region_held3 (fun wz=>wz.cell? ⟨x,12,none⟩=some (.slice (some ⟨gb,0,none⟩) i cap)/\wz.cell? ⟨rb,0,none⟩=some (.int .u8 rk)/\wz.cell? ⟨rb,1,none⟩=some (.int .i32 rv))
      (first|(exact⟨v12,a0,a1⟩)|(exact⟨y12,b0,b1⟩)|(exact⟨(KS.cell (p:=⟨x,12,none⟩) zx7 hxb).trans y12,(KS.cell (p:=⟨rb,0,none⟩) za7 hrg).trans b0,(KS.cell (p:=⟨rb,1,none⟩) za7 hrg).trans b1⟩)|go_keep)
      (first|(go_at_call 148;with_reducible refine Go.Calls.mono (Ziv rk rv _ H5.out.2.2.2.2.2.1.1 H5.out.2.2.2.2.2.1.2 H5.out.2.2.2.2.2.2.1 H5.out.2.2.2.2.2.2.2) ?_;rintro e w6 ⟨rfl,hb6⟩;have y12:=(hb6.cell (p:=⟨x,12,none⟩) zx6).trans v12;have b0:=(hb6.cell (p:=⟨rb,0,none⟩) za).trans a0;have b1:=(hb6.cell (p:=⟨rb,1,none⟩) za).trans a1;have x2:=(hb6.cell (p:=⟨gb,j*3+2,none⟩) zg5).trans v2;have xf:=(hb6.frozen (p:=⟨gb,j*3+2,none⟩) zg5).trans vf;have zx7:=Nlt zx6 hb6.size;have za7:=Nlt za hb6.size;have KS:=Z02 w6 ⟨gb,j*3+2,none⟩ (.int .i64 (Z0o rk rv));have H6:=Hd hb6;clear hb6))
     all_goals
      go_wp2
      go_roundw
      case rel=>
       have B6:Below wr.heap.size wr w6:=HB5.out.trans (H6.out.mono HB5.out.size)
       have I6:=(H5.out.2.1.below B6).setAt (i:=j*3+2) (by omega) (Z0o rk rv)
       refine⟨j+1,by omega,by go_num,?_,(H5.out.2.2.1.trans (Z0b B6)).setCell (p:=⟨gb,j*3+2,none⟩) (fun _=>rfl) _⟩
       have e7:=Zgv j F T
       rw[H5.out.2.2.2.2.1]at e7
       rw[<-e7];exact I6
      case measure=>simp[intOf];omega
    ·obtain rfl:j=i:=by omega
     obtain⟨⟨d0,d1,d2,d3,d4,d5,d6,d7,d8,d9,d10,d11,d12,d13,d14,d15,d16⟩,-,dx⟩:=C5.open
     have H5:=hi4 C5 hI5 hK5 KW
     clear C5 hI5 hK5 KW
     go_wp2_with fail
     refine(Z1d (.slice ao j cap) j (Z48 j F T) _ H5.out.2.1.its (by omega)).mono ?_
     rintro e w6 ⟨dn',rfl,hI6,hb6,ho6⟩
     obtain⟨ao',cap',rfl⟩:=Z03 hI6
     have C6:=H5.out.1.below hb6
     have f16:=Z06 C6.blk 16
     have f8:=Z06 (C6.set16 (.slice ao' j cap')).blk 8
     have f1:=Z06 ((C6.set16 (.slice ao' j cap')).set8 0).blk 1
     clear d0 d1 d2 d3 d4 d5 d6 d7 d8 d9 d10 d11 d12 d13 d14 d15 d16
     obtain⟨⟨y0,y1,y2,y3,y4,y5,y6,y7,y8,y9,y10,y11,y12,y13,y14,y15,y16⟩,-,yx⟩:=C6.open
     have H6:=hi4 C6 hI6 hb6 ho6
     clear C6 hI6 hb6 ho6
     go_wp2_with fail
     go_end0
     have hW:=Nat.le_trans HK4.out.size H5.out.2.2.1.size
     have hbx:∀t,(Value.slice ao j cap).ownBlock=some t->¬t=x:=fun t e e2=>(H.out.2.2.1 t e).1 (.inr e2)
     have hdx:∀t,(Value.slice ao' j cap').ownBlock=some t->¬t=x:=fun t e e2=>by have:=(H6.out.2.2.2 t e).1;omega
     have KX:=((Z02 w6 ⟨x,16,none⟩ (.slice ao' j cap')).trans (Z02 (World.setCell w6 ⟨x,16,none⟩ (.slice ao' j cap')) ⟨x,8,none⟩ (.int .i64 0))).trans (Z02 _ ⟨x,1,none⟩ (.int .i64 37))
     have KW:=(H5.out.2.2.2.trans (Z0b H6.out.2.2.1))
     have hOB:∀k,ObF o c cv' G' k->¬(Value.slice ao j cap).ownBlock=some k/\¬k=x:=fun k e=>by
      rcases H4.out.2.2.2.2.1 k e with h|h
      ·exact⟨fun e2=>(H.out.2.2.1 k e2).2.2 h,fun e2=>(H.out.2.2.2.2.1 k h).1 (.inr e2)⟩
      ·have:=HR0.out.size;exact⟨fun e2=>by have:=World.ownsRow.lt H.out.2.1 k e2;omega,fun e2=>by omega⟩
     refine⟨rfl,ord,_,cv',bs',G',H4.out.1,((H6.out.1.set16 _).set8 0).set1 37,?_,?_,fun t e=>⟨by have:=(H6.out.2.2.2 t e).1;omega,fun e2=>by have:=(H6.out.2.2.2 t e).1;have:=H4.out.2.2.2.1.lt t e2;have:=H5.out.2.2.1.size;omega⟩,?_,fun k e=>?_,?_⟩
     ·rw[H4.out.2.2.2.2.2.2.2.2.2]
      exact Z04 (Z04 H5.out.2.1 (Z0b (F:=fun _=>False) H6.out.2.2.1) (fun _ _ h=>h)) KX hbx
     ·rw[H4.out.2.2.2.2.2.2.2.2.2]
      exact Z04 H6.out.2.1 KX hdx
     ·rw[H4.out.2.2.2.2.2.2.2.2.2]
      exact((H4.out.2.2.2.1.kept H5.out.2.2.1 (fun k e=>(hOB k e).1)).below H6.out.2.2.1).kept KX (fun k e=>(hOB k e).2)
     ·have:=HR0.out.size
      exact(H4.out.2.2.2.2.1 k e).imp id (fun h=>by omega)
     ·exact KW.trans (KX.mono (fun _ _ e=>.inl (.inr e)))
theorem Z22 {z:Int} (h1: -9223372036854775808<=z) (h2:z<=9223372036854775807):wrap64 z=z:=by unfold wrap64;omega
theorem Znb (W0 w:World) (b:Nat) (g:Option Nat) (N st:Int) (xs:List Int) (t:Th) (bt:Value) (ps:Int) (n:Nat) (F:Nat->Int) (o:Nat) (ob most:Int) (pl:Bool) (its:List Int) (c:Nat) (cv:Value) (bs:List Bool) (bd:Value) (G:Nat->Prop) (h:MS W0 w b g N xs st) (hI:IRw w bt n F) (hn:n<=900000) (s0:0<=st) (s1:st<1000000) (hO:Z4j w o ob most pl its c cv bs bd G) (dO:∀k,ObF o c cv G k->¬Z18 b g k/\W0.heap.size<=k) (hx:most<=1000) (h3:Z2l its) (hk1:20<=t.i1) (hk2:t.i1<=39):
 Calls Tryz.prog 77 #[.pointer (some ⟨b,0,none⟩),(.pointer (some ⟨o,0,none⟩)),.int .i64 ps,thV t bt] w (Zak W0 w b g N st xs t n F ps o ob most pl its c cv bd G):=by
 obtain⟨i0,i1,i2,i3,i4,i5,i6,i7,i8,i9,i10,i11⟩:=t
 unfold thV
 dsimp only at hk1 hk2 |-
 have hpast:=h.past
 have hcnt:=fun a=>Z0f xs a
 have hB:=h.B.size
 by_cases h20:i1=20
 ·subst h20
  exact Z62 h hI hn s0 s1 hO dO hx h3 107 (by omega) (by omega) (cG3 xs (2) st) (fun args u=>by simp[go_sem]) Zln (fun u x bt hC hI2 ho=>by simpa [cbT,cbX]using Zgw _ _ _ _ _ _ _ _ _ _ _ _ _ _ _ _ _ _ _ _ _ _ _ _ _ hC rfl s1)
 by_cases h21:i1=21
 ·subst h21
  exact Z62 h hI hn s0 s1 hO dO hx h3 108 (by omega) (by omega) (cG3 xs (2) st) (fun args u=>by simp[go_sem]) Zlo (fun u x bt hC hI2 ho=>by simpa [cbT,cbX]using Zdz _ _ _ _ _ _ _ _ _ _ _ _ _ _ _ _ _ _ _ _ _ _ _ _ _ _ hC rfl rfl s1)
 by_cases h22:i1=22
 ·subst h22
  refine Zcp W0 w b g N st xs i0 22 i2 i3 i4 i5 i6 i7 i8 i9 i10 i11 bt ps n F o ob most pl its c cv bs bd G (fun r its'=>r=⟨st,xs,(cbT ps xs ⟨i0,22,i2,i3,i4,i5,i6,i7,i8,i9,i10,i11⟩ n),0,F,0,fun _=>0⟩/\its'=its) h hI hn s0 s1 hO dO hx h3 109 (by omega) (by omega) (fun args u=>by simp[go_sem]) Zlp (fun u x bt hu hxx hC hI2 ho=>?_) ?_
  ·refine(Zh2 W0 u x g N st xs i0 22 i2 i3 i4 i5 i6 i7 i8 i9 i10 i11 bt b (.pointer (some ⟨o,0,none⟩)) ps _ _ _ hC rfl rfl).mono fun e u' ⟨a1,a2,a3⟩=>⟨a1,⟨st,xs,(cbT ps xs ⟨i0,22,i2,i3,i4,i5,i6,i7,i8,i9,i10,i11⟩ n),0,F,0,fun _=>0⟩,.slice none 0 0,_,by simpa [cbT]using a2,IRw.nil _ _,IRw.nil _ _,fun t e=>(by rcases e with e|e<;>cases e),⟨its,cv,bs,G,(hO.below hu).kept a3 (fun k e e2=>?_),fun k e=>.inl e,fun t e=>(by cases e),fun t e=>(by cases e),rfl,rfl⟩,a3.mono (fun _ _ e=>.inl e)⟩
   rcases e2 with e2|e2
   ·exact(dO k e).1 e2
   ·have:=hO.lt k e;omega
  ·rintro r its' ⟨rfl,rfl⟩
   exact⟨rfl,by simp[cbX],by show st<=st;omega,by show st<=st+1;omega,by simp[cbN],by unfold Zim;rw[if_neg (show ¬(22:Int)=36 by omega)];exact⟨rfl,by simp[cbF],rfl⟩⟩
 by_cases h23:i1=23
 ·subst h23
  exact Z62 h hI hn s0 s1 hO dO hx h3 110 (by omega) (by omega) (cG3 xs (wrap64 ((if i8<0\/1000<i8 then 0 else 3+5*i8)+1)) st) (fun args u=>by simp[go_sem]) Zlq (fun u x bt hC hI2 ho=>by simpa [cbT,cbX]using Zgy _ _ _ _ _ _ _ _ _ _ _ _ _ _ _ _ _ _ _ _ _ _ _ _ _ _ _ _ hC rfl rfl rfl rfl s1)
 by_cases h24:i1=24
 ·subst h24
  exact Z62 h hI hn s0 s1 hO dO hx h3 111 (by omega) (by omega) (cG3 xs (wrap64 i6) st) (fun args u=>by simp[go_sem]) Zlr (fun u x bt hC hI2 ho=>by simpa [cbT,cbX]using Zh3 _ _ _ _ _ _ _ _ _ _ _ _ _ _ _ _ _ _ _ _ _ _ _ _ _ _ _ hC rfl rfl rfl s1)
 by_cases h25:i1=25
 ·subst h25
  exact Z62 h hI hn s0 s1 hO dO hx h3 112 (by omega) (by omega) (cG3 xs (wrap64 (i6+1)) st) (fun args u=>by simp[go_sem]) Zls (fun u x bt hC hI2 ho=>by simpa [cbT,cbX]using Zgz _ _ _ _ _ _ _ _ _ _ _ _ _ _ _ _ _ _ _ _ _ _ _ _ _ _ hC rfl rfl s1)
 by_cases h26:i1=26
 ·subst h26
  exact Z62 h hI hn s0 s1 hO dO hx h3 113 (by omega) (by omega) (cG3 xs (1) st) (fun args u=>by simp[go_sem]) Zlt (fun u x bt hC hI2 ho=>by simpa [cbT,cbX]using Ze1 _ _ _ _ _ _ _ _ _ _ _ _ _ _ _ _ _ _ _ _ _ _ _ _ _ _ _ hC rfl rfl rfl s1)
 by_cases h27:i1=27
 ·subst h27
  exact Z62 h hI hn s0 s1 hO dO hx h3 114 (by omega) (by omega) (cG3 xs (wrap64 (i6+3)) st) (fun args u=>by simp[go_sem]) Zlu (fun u x bt hC hI2 ho=>by simpa [cbT,cbX]using Zgx _ _ _ _ _ _ _ _ _ _ _ _ _ _ _ _ _ _ _ _ _ _ _ _ hC s1)
 by_cases h28:i1=28
 ·subst h28
  exact Z62 h hI hn s0 s1 hO dO hx h3 115 (by omega) (by omega) (cG3 xs (1) st) (fun args u=>by simp[go_sem]) Zlv (fun u x bt hC hI2 ho=>by simpa [cbT,cbX]using Zh1 _ _ _ _ _ _ _ _ _ _ _ _ _ _ _ _ _ _ _ _ _ _ _ _ _ hC rfl s1)
 by_cases h29:i1=29
 ·subst h29
  exact Z62 h hI hn s0 s1 hO dO hx h3 116 (by omega) (by omega) (cG3 xs (wrap64 (i7+3)) st) (fun args u=>by simp[go_sem]) Zlw (fun u x bt hC hI2 ho=>by simpa [cbT,cbX]using Ze0 _ _ _ _ _ _ _ _ _ _ _ _ _ _ _ _ _ _ _ _ _ _ _ _ _ hC rfl s1)
 by_cases h30:i1=30
 ·subst h30
  exact Z62 h hI hn s0 s1 hO dO hx h3 117 (by omega) (by omega) (cG3 xs (wrap64 (i6+3)) st) (fun args u=>by simp[go_sem]) Zlx (fun u x bt hC hI2 ho=>by simpa [cbT,cbX]using Zk9 _ _ _ _ _ _ _ _ _ _ _ _ _ _ _ _ _ _ _ _ _ _ _ _ hC s1)
 by_cases h31:i1=31
 ·subst h31
  exact Z62 h hI hn s0 s1 hO dO hx h3 118 (by omega) (by omega) (cG3 xs (wrap64 (i7+3)) st) (fun args u=>by simp[go_sem]) Zly (fun u x bt hC hI2 ho=>by simpa [cbT,cbX]using Zk8 _ _ _ _ _ _ _ _ _ _ _ _ _ _ _ _ _ _ _ _ _ _ _ _ hC s1)
 by_cases h32:i1=32
 ·subst h32
  exact Z62 h hI hn s0 s1 hO dO hx h3 119 (by omega) (by omega) (cG3 xs (wrap64 (i6+1)) st) (fun args u=>by simp[go_sem]) Zlz (fun u x bt hC hI2 ho=>by simpa [cbT,cbX]using Zh4 _ _ _ _ _ _ _ _ _ _ _ _ _ _ _ _ _ _ _ _ _ _ _ _ _ _ hC rfl rfl s1)
 by_cases h33:i1=33
 ·subst h33
  exact Z62 h hI hn s0 s1 hO dO hx h3 120 (by omega) (by omega) (cG3 xs (1) st) (fun args u=>by simp[go_sem]) Zm0 (fun u x bt hC hI2 ho=>by simpa [cbT,cbX]using Zh0 _ _ _ _ _ _ _ _ _ _ _ _ _ _ _ _ _ _ _ _ _ _ _ _ _ _ _ hC rfl rfl rfl s1)
 by_cases h34:i1=34
 ·subst h34
  by_cases h0:0<cellAt xs (wrap64 i6)
  ·refine Zcp W0 w b g N st xs i0 34 i2 i3 i4 i5 i6 i7 i8 i9 i10 i11 bt ps n F o ob most pl its c cv bs bd G (fun r its'=>r=⟨st+Z0h xs (wrap64 i6),xs,(cbT ps xs ⟨i0,34,i2,i3,i4,i5,i6,i7,i8,i9,i10,i11⟩ n),n+1,Z3m n F i6 (cellAt xs (wrap64 i6)) 0,0,fun _=>0⟩/\its'=its) h hI hn s0 s1 hO dO hx h3 121 (by omega) (by omega) (fun args u=>by simp[go_sem]) Zf4 (fun u x bt hu hxx hC hI2 ho=>?_) ?_
   ·refine(Zf3 W0 u x g N st xs i0 34 i2 i3 i4 i5 i6 i7 i8 i9 i10 i11 bt b (.pointer (some ⟨o,0,none⟩)) ps _ _ n F hC hI2 (fun t e=>⟨fun e2=>?_,by have:=(ho t e).1;omega⟩) (by omega) rfl h0 s1).mono fun e u' ⟨a1,bt',a2,a3,a4,a5⟩=>⟨a1,⟨st+Z0h xs (wrap64 i6),xs,(cbT ps xs ⟨i0,34,i2,i3,i4,i5,i6,i7,i8,i9,i10,i11⟩ n),n+1,Z3m n F i6 (cellAt xs (wrap64 i6)) 0,0,fun _=>0⟩,bt',_,by simpa [cbT]using a2,a3,IRw.nil _ _,fun t e=>?_,⟨its,cv,bs,G,(hO.below hu).kept a5 (fun k e e2=>?_),fun k e=>.inl e,fun t e e2=>?_,fun t e=>(by cases e),rfl,rfl⟩,a5.mono (fun _ _ e=>e.imp id .inl)⟩
    ·rcases e2 with e2|e2
     ·exact hpast t (by have:=(ho t e).1;omega) e2
     ·have:=ho t e;omega
    ·rcases e with e|e
     ·rcases a4 t e with e|e
      ·exact(ho t e).1
      ·have:=hC.lt;omega
     ·cases e
    ·rcases e2 with(e2|e2)|e2
     ·exact(dO k e).1 e2
     ·have:=hO.lt k e;omega
     ·have:=hO.lt k e;have:=(ho k e2).1;omega
    ·have h1:=hO.lt t e2
     rcases a4 t e with e|e
     ·have:=(ho t e).1;omega
     ·have:=hC.lt;omega
   ·rintro r its' ⟨rfl,rfl⟩
    have:=hcnt (wrap64 i6)
    exact⟨rfl,by simp[cbX],by show st<=st+_;omega,by show st+_<=st+1;omega,by simp[cbN,h0],by unfold Zim;rw[if_neg (show ¬(34:Int)=36 by omega)];exact⟨rfl,by simp[cbF,h0],rfl⟩⟩
  ·exact Z62 h hI hn s0 s1 hO dO hx h3 121 (by omega) (by omega) (cG3 xs (wrap64 i6) st) (fun args u=>by simp[go_sem]) Zf4 (fun u x bt hC hI2 ho=>by simpa [cbT,cbX]using Ziy W0 u x g N st xs i0 34 i2 i3 i4 i5 i6 i7 i8 i9 i10 i11 bt b (.pointer (some ⟨o,0,none⟩)) ps _ _ hC rfl h0 s1)
 by_cases h35:i1=35
 ·subst h35
  exact Z62 h hI hn s0 s1 hO dO hx h3 122 (by omega) (by omega) (cG3 xs (wrap64 (i6+3)) st) (fun args u=>by simp[go_sem]) Zm1 (fun u x bt hC hI2 ho=>by obtain⟨ao,cap,rfl⟩:=Z03 hI2;simpa [cbT,cbX]using Zf0 W0 u x g N st xs i0 35 i2 i3 i4 i5 i6 i7 i8 i9 i10 i11 ao n cap b (.pointer (some ⟨o,0,none⟩)) ps _ hC _ _ _ rfl rfl rfl s1)
 by_cases h36:i1=36
 ·subst h36
  refine Zcp W0 w b g N st xs i0 36 i2 i3 i4 i5 i6 i7 i8 i9 i10 i11 bt ps n F o ob most pl its c cv bs bd G (fun r its'=>∃ord,Z31 ob (Z0k n F) ord/\r=⟨st,xs,(cbT ps xs ⟨i0,36,i2,i3,i4,i5,i6,i7,i8,i9,i10,i11⟩ n),n,Z48 n F (Z0m (Z0d ob most) (Z0k n F) (its,List.replicate n (0,0)) ord).2,n,Z48 n F (Z0m (Z0d ob most) (Z0k n F) (its,List.replicate n (0,0)) ord).2⟩/\its'=(Z0m (Z0d ob most) (Z0k n F) (its,List.replicate n (0,0)) ord).1) h hI hn s0 s1 hO dO hx h3 123 (by omega) (by omega) (fun args u=>by simp[go_sem]) Zm2 (fun u x bt hu hxx hC hI2 ho=>?_) ?_
  ·refine(Zqk W0 u x g N st xs i0 36 i2 i3 i4 i5 i6 i7 i8 i9 i10 i11 bt b ps _ o ob most pl its c cv bs bd G n F hC hI2 (fun t e=>⟨fun e2=>?_,by have:=(ho t e).1;omega,fun e2=>by have:=hO.lt t e2;have:=(ho t e).1;omega⟩) (hO.below hu) (fun k e=>⟨fun e2=>?_,(dO k e).2⟩) hn hx h3).mono fun e u' ⟨a1,ord,dn',cv',bs',G',a2,a3,a4,a5,a6,a7,a8,a9⟩=>⟨a1,⟨st,xs,(cbT ps xs ⟨i0,36,i2,i3,i4,i5,i6,i7,i8,i9,i10,i11⟩ n),n,Z48 n F (Z0m (Z0d ob most) (Z0k n F) (its,List.replicate n (0,0)) ord).2,n,Z48 n F (Z0m (Z0d ob most) (Z0k n F) (its,List.replicate n (0,0)) ord).2⟩,bt,dn',by simpa [cbT]using a3,a4,a5,fun t e=>?_,⟨_,cv',bs',G',a7,fun k e=>(a8 k e).imp id (fun h=>by have:=hC.lt;omega),fun t e e2=>?_,fun t e=>⟨(a6 t e).2,fun e2=>by have:=(a6 t e).1;have:=(ho t e2).2;have:=hC.lt;omega⟩,ord,a2,rfl,rfl⟩,a9⟩
   ·rcases e2 with e2|e2
    ·exact hpast t (by have:=(ho t e).1;omega) e2
    ·have:=ho t e;omega
   ·rcases e2 with e2|e2
    ·exact(dO k e).1 e2
    ·have:=hO.lt k e;omega
   ·rcases e with e|e
    ·exact(ho t e).1
    ·have:=(a6 t e).1;have:=hC.lt;omega
   ·have h1:=(ho t e)
    rcases a8 t e2 with h2|h2
    ·have:=hO.lt t h2;omega
    ·have:=hC.lt;omega
  ·rintro r its' ⟨ord,q1,rfl,rfl⟩
   exact⟨rfl,by simp[cbX],by show st<=st;omega,by show st<=st+1;omega,by simp[cbN],by unfold Zim;rw[if_pos rfl];exact⟨ord,q1,rfl,rfl,rfl,rfl⟩⟩
 by_cases h37:i1=37
 ·subst h37
  by_cases hr:0<=i8/\i8<n
  ·obtain⟨j,rfl⟩:∃j:Nat,i8=(j:Int):=⟨i8.toNat,by omega⟩
   have hj:j<n:=by omega
   have hj0:(0:Int)<=(j:Int):=by omega
   have w1:wrap64 ((j:Int)+1)=(j:Int)+1:=Z22 (by omega) (by omega)
   have w2:((j:Int)+1<(n:Int))=(j+1<n):=by simp;omega
   exact Z62 h hI hn s0 s1 hO dO hx h3 124 (by omega) (by omega) (cG3 xs (wrap64 (F (3*j)+4)) st) (fun args u=>by simp[go_sem]) Zb8 (fun u x bt hC hI2 ho=>by
    obtain⟨gb,cap,rfl,-,-,-⟩:=IRw.shp hI2 (by omega);obtain⟨c0,c1,c2⟩:=hI2.at_ hj
    simpa [cbT,cbX,hj,hj0]using Zd5 W0 u x g N st xs i0 37 i2 i3 i4 i5 i6 i7 (j:Int) i9 i10 i11 (some ⟨gb,0,none⟩) n cap b (.pointer (some ⟨o,0,none⟩)) ps _ hC gb 0 j (j*3) rfl rfl hj (by omega) (ho gb rfl) _ c0 _ c2 s1)
  have hr2:¬(0<=i8/\i8+1<n):=by omega
  by_cases hneg:i8<0
  ·exact Z62 h hI hn s0 s1 hO dO hx h3 124 (by omega) (by omega) (st1:=st) (by omega) (fun args u=>by simp[go_sem]) Zb8 (fun u x bt hC hI2 ho=>by
    obtain⟨ao,cap,rfl⟩:=Z03 hI2
    simpa [cbT,cbX,hr]using Z9j W0 u x g N st xs i0 37 i2 i3 i4 i5 i6 i7 i8 i9 i10 i11 ao n cap b (.pointer (some ⟨o,0,none⟩)) ps _ hC hneg)
  ·exact Z62 h hI hn s0 s1 hO dO hx h3 124 (by omega) (by omega) (st1:=st) (by omega) (fun args u=>by simp[go_sem]) Zb8 (fun u x bt hC hI2 ho=>by
    obtain⟨ao,cap,rfl⟩:=Z03 hI2
    simpa [cbT,cbX,hr]using Z9k W0 u x g N st xs i0 37 i2 i3 i4 i5 i6 i7 i8 i9 i10 i11 ao n cap b (.pointer (some ⟨o,0,none⟩)) ps _ hC (by omega) (by omega))
 by_cases h38:i1=38
 ·subst h38
  by_cases hr:0<=i8/\i8<n
  ·obtain⟨j,rfl⟩:∃j:Nat,i8=(j:Int):=⟨i8.toNat,by omega⟩
   have hj:j<n:=by omega
   have hj0:(0:Int)<=(j:Int):=by omega
   have w1:wrap64 ((j:Int)+1)=(j:Int)+1:=Z22 (by omega) (by omega)
   have w2:((j:Int)+1<(n:Int))=(j+1<n):=by simp;omega
   exact Z62 h hI hn s0 s1 hO dO hx h3 125 (by omega) (by omega) (cG3 xs (wrap64 (F (3*j)+2)) st) (fun args u=>by simp[go_sem]) Zb9 (fun u x bt hC hI2 ho=>by
    obtain⟨gb,cap,rfl,-,-,-⟩:=IRw.shp hI2 (by omega);obtain⟨c0,c1,c2⟩:=hI2.at_ hj
    simpa [cbT,cbX,hj,hj0]using Zf1 W0 u x g N st xs i0 38 i2 i3 i4 i5 i6 i7 (j:Int) i9 i10 i11 (some ⟨gb,0,none⟩) n cap b (.pointer (some ⟨o,0,none⟩)) ps _ hC gb 0 j (j*3) rfl rfl hj (by omega) (ho gb rfl) _ c0 s1)
  have hr2:¬(0<=i8/\i8+1<n):=by omega
  by_cases hneg:i8<0
  ·exact Z62 h hI hn s0 s1 hO dO hx h3 125 (by omega) (by omega) (st1:=st) (by omega) (fun args u=>by simp[go_sem]) Zb9 (fun u x bt hC hI2 ho=>by
    obtain⟨ao,cap,rfl⟩:=Z03 hI2
    simpa [cbT,cbX,hr]using Zb5 W0 u x g N st xs i0 38 i2 i3 i4 i5 i6 i7 i8 i9 i10 i11 ao n cap b (.pointer (some ⟨o,0,none⟩)) ps _ hC hneg)
  ·exact Z62 h hI hn s0 s1 hO dO hx h3 125 (by omega) (by omega) (st1:=st) (by omega) (fun args u=>by simp[go_sem]) Zb9 (fun u x bt hC hI2 ho=>by
    obtain⟨ao,cap,rfl⟩:=Z03 hI2
    simpa [cbT,cbX,hr]using Zb6 W0 u x g N st xs i0 38 i2 i3 i4 i5 i6 i7 i8 i9 i10 i11 ao n cap b (.pointer (some ⟨o,0,none⟩)) ps _ hC (by omega) (by omega))
 by_cases h39:i1=39
 ·subst h39
  by_cases hr:0<=i8/\i8<n
  ·obtain⟨j,rfl⟩:∃j:Nat,i8=(j:Int):=⟨i8.toNat,by omega⟩
   have hj:j<n:=by omega
   have hj0:(0:Int)<=(j:Int):=by omega
   have w1:wrap64 ((j:Int)+1)=(j:Int)+1:=Z22 (by omega) (by omega)
   have w2:((j:Int)+1<(n:Int))=(j+1<n):=by simp;omega
   exact Z62 h hI hn s0 s1 hO dO hx h3 126 (by omega) (by omega) (cG3 xs (wrap64 (F (3*j))) st) (fun args u=>by simp[go_sem]) Zba (fun u x bt hC hI2 ho=>by
    obtain⟨gb,cap,rfl,-,-,-⟩:=IRw.shp hI2 (by omega);obtain⟨c0,c1,c2⟩:=hI2.at_ hj
    simpa [cbT,cbX,hj,hj0,w1,w2]using Ze2 W0 u x g N st xs i0 39 i2 i3 i4 i5 i6 i7 (j:Int) i9 i10 i11 (some ⟨gb,0,none⟩) n cap b (.pointer (some ⟨o,0,none⟩)) ps _ hC gb 0 j (j*3) rfl rfl hj (by omega) (ho gb rfl) _ c0 _ (by omega) rfl s1)
  have hr2:¬(0<=i8/\i8+1<n):=by omega
  by_cases hneg:i8<0
  ·exact Z62 h hI hn s0 s1 hO dO hx h3 126 (by omega) (by omega) (st1:=st) (by omega) (fun args u=>by simp[go_sem]) Zba (fun u x bt hC hI2 ho=>by
    obtain⟨ao,cap,rfl⟩:=Z03 hI2
    simpa [cbT,cbX,hr,hr2]using Zai W0 u x g N st xs i0 39 i2 i3 i4 i5 i6 i7 i8 i9 i10 i11 ao n cap b (.pointer (some ⟨o,0,none⟩)) ps _ hC hneg _ _ rfl rfl)
  ·exact Z62 h hI hn s0 s1 hO dO hx h3 126 (by omega) (by omega) (st1:=st) (by omega) (fun args u=>by simp[go_sem]) Zba (fun u x bt hC hI2 ho=>by
    obtain⟨ao,cap,rfl⟩:=Z03 hI2
    simpa [cbT,cbX,hr,hr2]using Zaj W0 u x g N st xs i0 39 i2 i3 i4 i5 i6 i7 i8 i9 i10 i11 ao n cap b (.pointer (some ⟨o,0,none⟩)) ps _ hC (by omega) (by omega) _ _ rfl rfl)
 have h1:20<=i1:=hk1
 have h2:i1<=39:=hk2
 omega
end
end Go.Proofs.YtihljjgmkaeohaaGreat
