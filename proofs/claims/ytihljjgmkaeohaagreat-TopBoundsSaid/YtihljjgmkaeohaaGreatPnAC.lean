/- part 3 -/
import Derived.Deep.RegionLaw
import Derived.MapKept
import Derived.Maps.OwnOps
import Derived.Test.YtihljjgmkaeohaaGreatPnAB
set_option linter.all false
set_option maxHeartbeats 16000000
set_option maxRecDepth 100000
namespace Go.Proofs.YtihljjgmkaeohaaGreat
section
open Go.RowKit Go.ChangeShapes Go.WideShapes Go.ChangeAt Go.Deep
theorem Z0q {P:Program} {ops:Array Oper} {o:Oper} {a:Act} {w:World} {K:Act->World->Prop} {Q:Exit->Act->World->Prop} {E:Prop} (hgd:o.guard=none) (s x:Operand) (t:TypeId)
 (ho:o.op= .call {callee:=.builtin .append,args:= #[s,x],argTypes:= #[t,t]})
 (base base':Nat) (e:TypeId) (i:TypeInfo) (z:Value) (size bytes:Nat) (ht:P.underlying t=some (.slice e)) (hi:P.info? e=some i) (hz:i.zero=some z)
 (hsize:i.size=size) (hby:i.bytes=bytes) (hzs:z.cells.size=size) (hsz:0<size)
 (v:Value) (n:Nat) (xs:List Value) (hs:a.eval s=v) (hown:w.ownsRow base e size v n xs)
 (u:Value) (m:Nat) (ys:List Value) (hx:a.eval x=u) (hu:w.ownsRow base' e size u m ys) (h1:∀u ∈ ys,u.oneCell'=true)
 (h63:n+m<=maxLen) (hbytes:(n+m)*bytes<=140737488355328) (hbase:base<=w.heap.size)
 (h:∀v' w',w'.ownsRow base e size v' (n+m) (xs++ys)->w.grownBy w' v.ownBlock->(v'.ownBlock=v.ownBlock\/v'.ownBlock=some w.heap.size)->K (a.put o.dst v') w'):
 if Region.wanted o (yielded ops a.tmps)=true then Oper.wp P o a w K Q else E:=by
 have hw:Region.wanted o (yielded ops a.tmps)=true:=by simp[Region.wanted,hgd]
 rw[if_pos hw]
 obtain⟨v',w',hr,h2,h3,h4,h5⟩:=Z3k (P:=P) w base base' t o.type e i z size bytes ht hi hz hsize hby hzs hsz v n xs hown u m ys hu h1 h63 hbytes hbase
 unfold Oper.wp execOp
 simp only[ho,resolve,invoke,builtin,Sem.run_bind,Sem.run_pure,Result.andThen_ok,List.map_toArray,List.map_cons,List.map_nil,hs,hx,hr]
 exact h v' w' h2 h3 h5
theorem CT.keptS {W0 w:World} {x:Nat} {g:Option Nat} {N st:Int} {xs:List Int} {i0 i1 i2 i3 i4 i5 i6 i7 i8 i9 i10 i11:Int} {bt:Value} {b:Nat} {ov:Value} {ps:Int} {dn:Value} {w':World} {F:Nat->Prop} (h:CT W0 w x g N st xs i0 i1 i2 i3 i4 i5 i6 i7 i8 i9 i10 i11 bt b ov ps dn) (hk:Z01 F w w') (hx:¬F x) (hF:∀k,Z18 b g k->¬F k) (hW:∀k,k<W0.heap.size->¬F k):CT W0 w' x g N st xs i0 i1 i2 i3 i4 i5 i6 i7 i8 i9 i10 i11 bt b ov ps dn:=
 ⟨h.1.kept hk (h.1.B.trans (hk.below h.1.B.size hW)) (hF b (.inl rfl)) (fun k e=>hF k (.inr e.symm)),(hk.block x h.lt hx).trans h.2.1,h.2.2⟩
theorem Z0t (w:World) (o:Obj):(w.alloc o).drew.heap[w.heap.size]?=some o:=Han w o
def Z3m (n:Nat) (F:Nat->Int) (r y z:Int):Nat->Int:=fun j=>if j<3*n then F j else if j=3*n then r else if j=3*n+1 then y else z
theorem Zf2 (n:Nat) (F:Nat->Int) (r y z:Int):Zb2 (n+1) (Z3m n F r y z)=Zb2 n F++ [.int .i64 r,.int .i64 y,.int .i64 z]:=by
 unfold Zb2
 rw[show 3*(n+1)=3*n+1+1+1 by omega,List.range_succ,List.range_succ,List.range_succ]
 simp only[List.map_append,List.map_cons,List.map_nil,List.append_assoc,List.cons_append,List.nil_append]
 congr 1
 ·refine List.map_congr_left (fun j hj=>?_)
  have:=List.mem_range.1 hj
  unfold Z3m;rw[if_pos this]
 ·unfold Z3m
  rw[if_neg (by omega),if_pos rfl,if_neg (by omega),if_neg (by omega),if_pos rfl,if_neg (by omega),if_neg (by omega),if_neg (by omega)]
abbrev IRw (w:World) (v:Value) (n:Nat) (F:Nat->Int):Prop:=w.ownsRow 0 160 3 v n (Zb2 n F)
theorem Zix {w:World} {g:Nat} {r y z:Int} (h:w.heap[g]?=some (.cells #[.int .i64 r,.int .i64 y,.int .i64 z] 160 (0,0))):w.ownsRow 0 160 3 (.slice (some ⟨g,0,none⟩) 1 1) 1 [.int .i64 r,.int .i64 y,.int .i64 z]:=
 ⟨rfl,.inr ⟨g,1,_,rfl,Nat.zero_le _,h,Nat.le_refl _,by unfold maxLen;omega,rfl,rfl⟩⟩
theorem IRw.its {w:World} {v:Value} {n:Nat} {F:Nat->Int} (h:IRw w v n F):Its w v n F:=Its.of h
theorem IRw.below {w w':World} {v:Value} {n:Nat} {F:Nat->Int} (h:IRw w v n F) (hb:Below w.heap.size w w'):IRw w' v n F:=
 Z04 h (Z01.of_below (S:=fun k=>w.heap.size<=k) hb (fun k hk _=>hk)) (fun g hg=>by have:=(World.ownsRow.lt h g hg).2;omega)
section
variable (W0 w:World) (x:Nat) (g:Option Nat) (N st:Int) (xs:List Int) (i0 i1 i2 i3 i4 i5 i6 i7 i8 i9 i10 i11:Int) (bt:Value) (b:Nat) (ov:Value) (ps:Int) (dn:Value) (v:Int)
theorem Ziy (h:CT W0 w x g N st xs i0 i1 i2 i3 i4 i5 i6 i7 i8 i9 i10 i11 bt b ov ps dn) (hv:cellAt xs (wrap64 i6)=v) (h0:¬0<v) (s1:st<1000000):
 Calls Tryz.prog 121 #[.pointer (some ⟨x,0,none⟩)] w fun e w'=>e= .returned (.tuple #[])/\CT W0 w' x g N (st+Z0h xs (wrap64 i6)) xs i0 35 i2 i3 i4 v i6 i7 i8 i9 i10 i11 bt b ov ps dn/\Z01 (FX b g x) w w':=by
 obtain⟨⟨c0,c1,c2,c3,c4,c5,c6,c7,c8,c9,c10,c11,c12,c13,c14,c15,c16⟩,-,cx⟩:=h.open
 have H:=Hd h
 have HV:=Hd hv
 have hd:decide (0<v)=false:=decide_eq_false h0
 clear hv
 have hw:IntKind.i64.wrap i6=wrap64 i6:=by rw[IntKind.wrap_i64];unfold wrap64;omega
 clear h
 go_enter Tryz.func121,Tryz.ntmps121
 go_wp2_with fail
 refine(Z1y W0 _ x g N st xs i0 i1 i2 i3 i4 i5 i6 i7 i8 i9 i10 i11 bt b ov ps dn (wrap64 i6) v 35 H.out HV.out s1).mono ?_
 rintro e w2 ⟨rfl,h2,k2⟩
 clear c0 c1 c2 c3 c4 c5 c6 c7 c8 c9 c10 c11 c12 c13 c14 c15 c16
 obtain⟨⟨d0,d1,d2,d3,d4,d5,d6,d7,d8,d9,d10,d11,d12,d13,d14,d15,d16⟩,-,dx⟩:=h2.open
 have H2:=hi2 h2 k2
 clear h2 k2
 go_wp2_with fail
 refine(Z6b v _).mono ?_
 rintro e w' ⟨rfl,rfl⟩
 rw[hd]
 clear h0
 go_wp2
 go_end0
 exact⟨rfl,H2.out.1,H2.out.2⟩
theorem Zf3 (n:Nat) (F:Nat->Int) (h:CT W0 w x g N st xs i0 i1 i2 i3 i4 i5 i6 i7 i8 i9 i10 i11 bt b ov ps dn) (hr:IRw w bt n F) (ho:∀t,bt.ownBlock=some t->¬FX b g x t/\W0.heap.size<=t) (hn:n<=1000000) (hv:cellAt xs (wrap64 i6)=v) (h0:0<v) (s1:st<1000000):
 Calls Tryz.prog 121 #[.pointer (some ⟨x,0,none⟩)] w fun e w'=>e= .returned (.tuple #[])/\∃bt',CT W0 w' x g N (st+Z0h xs (wrap64 i6)) xs i0 35 i2 i3 i4 v i6 i7 i8 i9 i10 i11 bt' b ov ps dn/\IRw w' bt' (n+1) (Z3m n F i6 v 0)/\(∀t,bt'.ownBlock=some t->bt.ownBlock=some t\/w.heap.size<=t)/\Z01 (fun k=>FX b g x k\/bt.ownBlock=some k) w w':=by
 obtain⟨i0',hi,hz0,hz1,hz2⟩:=info_parts Tryz.infoItem
 obtain⟨⟨c0,c1,c2,c3,c4,c5,c6,c7,c8,c9,c10,c11,c12,c13,c14,c15,c16⟩,-,cx⟩:=h.open
 have HV:=Hd hv
 have hw:IntKind.i64.wrap i6=wrap64 i6:=by rw[IntKind.wrap_i64];unfold wrap64;omega
 have H:=hi3 h hr ho
 clear h hr ho hv
 go_enter Tryz.func121,Tryz.ntmps121
 go_wp2_with fail
 refine(Z1y W0 _ x g N st xs i0 i1 i2 i3 i4 i5 i6 i7 i8 i9 i10 i11 bt b ov ps dn (wrap64 i6) v 35 H.out.1 HV.out s1).mono ?_
 rintro e w2 ⟨rfl,h2,k2⟩
 clear c0 c1 c2 c3 c4 c5 c6 c7 c8 c9 c10 c11 c12 c13 c14 c15 c16
 obtain⟨⟨d0,d1,d2,d3,d4,d5,d6,d7,d8,d9,d10,d11,d12,d13,d14,d15,d16⟩,-,dx⟩:=h2.open
 have r2:IRw w2 bt n F:=Z04 H.out.2.1 k2 (fun t ht e=>(H.out.2.2 t ht).1 e)
 have RU:=Hd (fun(u:World) (hu:Below w2.heap.size w2 u)=>r2.below hu)
 have H2:=hi3 h2 k2 r2
 clear h2 k2 r2
 go_wp2_with fail
 refine(Z6b v _).mono ?_
 rintro e w' ⟨rfl,rfl⟩
 rw[decide_eq_true h0]
 have hone:∀u ∈ ([.int .i64 i6,.int .i64 v,.int .i64 0]:List Value),u.oneCell'=true:=fun u hu=>by
  simp at hu;rcases hu with rfl|rfl|rfl<;>rfl
 go_wp2_with fail
 go_region_law (refine Z0q rfl _ _ 84 rfl 0 0 160 i0' (.agg #[.int .i64 0,.int .i64 0,.int .i64 0]) 3 24 Tryz.underlying84 hi hz0 hz1 hz2 rfl (by decide) _ n _ rfl (RU.out _ (by go_grown)) _ 1 _ rfl (Zix (by first|exact Han _ _|exact Z0t _ _)) hone ?c3 ?c4 ?c5 ?_;(case c3=>unfold maxLen;omega);(case c4=>omega);(case c5=>exact Nat.zero_le _);intro v5 w5 own5 gr5 loc5;obtain⟨ao5,cap5,rfl⟩:=Z03 own5;have k5:Z01 (fun t=>bt.ownBlock=some t) w2 w5:=(by first|exact((Z01.refl _ w2).alloc _).drew.grown gr5 (fun k e _=>e)|exact((Z01.refl _ w2).drew.alloc _).grown gr5 (fun k e _=>e));have h5:=H2.out.1.keptS k5 (fun e=>(H.out.2.2 _ e).1 (.inr rfl)) (fun k hk e=>(H.out.2.2 _ e).1 (.inl hk)) (fun k hk e=>absurd (H.out.2.2 _ e).2 (by omega));have f12:=Z06 h5.blk 12;obtain⟨⟨e0,e1,e2,e3,e4,e5,e6,e7,e8,e9,e10,e11,e12,e13,e14,e15,e16⟩,-,ex⟩:=h5.open;have L5:∀t,(Value.slice ao5 (n+1) cap5).ownBlock=some t->bt.ownBlock=some t\/w2.heap.size<=t:=(fun t e=>(by rcases loc5 with h|h;exact .inl (h ▸ e);(rw[e]at h;simp at h;exact .inr (by omega))));have H5:=hi4 h5 own5 k5 L5;clear h5 own5 gr5 loc5 k5 L5)
 all_goals
  have r6:IRw w5 (.slice ao5 (n+1) cap5) (n+1) (Z3m n F i6 v 0):=by
   have:=H5.out.2.1
   rw[<-Zf2]at this
   exact this
  have r7:IRw (w5.setCell ⟨x,12,none⟩ (.slice ao5 (n+1) cap5)) (.slice ao5 (n+1) cap5) (n+1) (Z3m n F i6 v 0):=Z04 r6 (Z02 w5 ⟨x,12,none⟩ _) (fun t e=>by
   have h1:=H5.out.2.2.2 t e
   have h2:=H2.out.1.lt
   have h3:=H.out.2.2 t
   simp
   intro hx
   subst hx
   rcases h1 with h1|h1
   ·exact(h3 h1).1 (.inr rfl)
   ·omega)
  have z2:=H2.out.2.1.size
  go_wp2_with fail
  go_end0
  exact⟨rfl,_,H5.out.1.set12 _,r7,fun t e=>by
   rcases H5.out.2.2.2 t e with h|h
   ·exact .inl h
   ·exact .inr (by omega),((H2.out.2.1.mono (fun _ _ e=>.inl e)).trans (H5.out.2.2.1.mono (fun _ _ e=>.inr e))).trans ((kx _ _ _ _ _ _).mono (fun _ _ e=>.inl e))⟩
end
end
section
open Go.RowKit Go.MapKept
def mEs:List (Int×Int)->Array MapEntry
 | []=> #[]
 |p::l=>(mEs l).push {key:=.int .i64 p.1,val:=.int .i64 p.2,born:=l.length}
def Z5n:List (Int×Int)->Int->Option Int
 | [],_=>none
 |p::l,k=>match Z5n l k with
  |some v=>some v
  |none=>if p.1=k then some p.2 else none
def Z1n (w:World) (l:List (Int×Int)):World:=w.alloc (.map (mEs l) l.length)
theorem Z4e (d:TypeDesc) (k:Value):∀(a b:List MapEntry) (i:Nat),Instr.findNow d k (a++b) i=(match Instr.findNow d k a i with|some none=>Instr.findNow d k b (i+a.length)|r=>r)
 | [],b,i=>by simp[Instr.findNow]
 |e::a,b,i=>by
  simp only[List.cons_append,Instr.findNow,Llc]
  cases h:Instr.sameNow d k e.key with
  |none=>rfl
  |some r=>
   cases r
   ·simp only[Z4e d k a b (i+1)]
    rw[show i+1+a.length=i+(a.length+1) by omega]
   ·rfl
theorem Z4f (k:Int):∀l:List (Int×Int),∃j,Instr.findNow (.int .i64) (.int .i64 k) (mEs l).toList 0=some ((Z5n l k).map fun v=>(j,Value.int .i64 v))
 | []=>⟨0,rfl⟩
 |p::l=>by
  obtain⟨j,hj⟩:=Z4f k l
  have e:(mEs (p::l)).toList=(mEs l).toList++ [{key:=.int .i64 p.1,val:=.int .i64 p.2,born:=l.length}]:=by simp[mEs]
  rw[e,Z4e,hj]
  cases hg:Z5n l k with
  |some v=>exact⟨j,by simp[Z5n,hg]⟩
  |none=>
   refine⟨0+(mEs l).toList.length,?_⟩
   by_cases hk:p.1=k
   ·have:(k == p.1)=true:=by rw[hk];simp
    simp[Z5n,hg,hk,Instr.findNow,Instr.sameNow]
   ·have hk':(k == p.1)=false:=beq_eq_false_iff_ne.2 (fun e=>hk e.symm)
    simp[Z5n,hg,hk,hk',Instr.findNow,Instr.sameNow]
theorem Z9l {k:Int}:∀{l:List (Int×Int)},l.all (fun p=>p.1 != k)=true->Z5n l k=none
 | [],_=>rfl
 |p::l,h=>by
  simp only[List.all_cons,Bool.and_eq_true,bne_iff_ne,ne_eq]at h
  simp only[Z5n,Z9l h.2,if_neg h.1]
theorem Z6c (w:World) (l:List (Int×Int)):(Z1n w l).heap[w.heap.size]?=some (.map (mEs l) l.length):=Han _ _
theorem Ziz (w:World) (l l':List (Int×Int)):({Z1n w l with heap:=(Z1n w l).heap.setIfInBounds w.heap.size (.map (mEs l') l'.length)}:World)=Z1n w l':=by
 unfold Z1n World.alloc
 simp only[World.mk.injEq,and_true]
 apply Array.ext
 ·simp
 ·intro i h1 h2
  have h3:i<(w.heap.push (Obj.map (mEs l) l.length)).size:=by simpa using h2
  rw[Array.getElem_setIfInBounds h3]
  split
  ·subst_vars;simp
  ·rw[Array.getElem_push,Array.getElem_push]
   split
   ·rfl
   ·simp at h2;omega
section
variable {P:Program} {mt kt et:TypeId} (hm:P.underlying mt=some (.map kt et)) (hk:P.underlying kt=some (.int .i64))
theorem Z12 (w:World):(Instr.makeMap mt none).run P w= .ok (.map (some w.heap.size)) (Z1n w []):=rfl
include hm hk
theorem Z19 (w:World) (l:List (Int×Int)) (k v:Int) (h:l.all (fun p=>p.1 != k)=true):
 (Instr.mapUpdate mt (.map (some w.heap.size)) (.int .i64 k) (.int .i64 v)).run P (Z1n w l)= .ok () (Z1n w ((k,v)::l)):=by
 obtain⟨j,hj⟩:=Z4f k l
 rw[Z9l h]at hj
 have hf:=run_findKey (P:=P) (w:=Z1n w l) hk hj
 have hc:(Instr.checkKey false 10000 kt (.int .i64 k)).run P (Z1n w l)= .ok () (Z1n w l):=run_checkKey hk (k:=.int .i64 k) rfl false 9999
 unfold Instr.mapUpdate
 simp only[Sem.run_bind,run_underlying hm,Result.andThen_ok,Go.MapKept.run_getObj_map (Z6c w l),hc,hf,Option.map_none,Go.MapKept.run_setObj_map _ (Z6c w l)]
 exact congrArg (Result.ok ()) (Ziz w l ((k,v)::l))
theorem Z1a (he:∀w:World,(zeroValue et).run P w= .ok (.int .i64 0) w) (w:World) (l:List (Int×Int)) (k:Int):
 (Instr.lookup mt (.map (some w.heap.size)) (.int .i64 k) false).run P (Z1n w l)= .ok (.int .i64 ((Z5n l k).getD 0)) (Z1n w l):=by
 obtain⟨j,hj⟩:=Z4f k l
 have hf:=run_findKey (P:=P) (w:=Z1n w l) hk hj
 have hc:(Instr.checkKey (mEs l).isEmpty 10000 kt (.int .i64 k)).run P (Z1n w l)= .ok () (Z1n w l):=run_checkKey hk (k:=.int .i64 k) rfl (mEs l).isEmpty 9999
 unfold Instr.lookup
 simp only[Sem.run_bind,run_underlying hm,Result.andThen_ok,Go.MapKept.run_getObj_map (Z6c w l),Sem.run_pure,hc,hf]
 cases Z5n l k<;>simp[he,Result.andThen]
end
section
variable (w:World) (l:List (Int×Int))
theorem Z1h:Below w.heap.size w (Z1n w l):=(Brf _ _).alloc (Nat.le_refl _) _
theorem Z0y {b:Nat} (h:b<w.heap.size) (j:Nat):(Z1n w l).cell? ⟨b,j,none⟩=w.cell? ⟨b,j,none⟩:=(Z1h w l).cell (p:=⟨b,j,none⟩) h
class NeI (a b:Int):Prop where
 ne:a≠b
class Fresh (k:Int) (l:List (Int×Int)):Prop where
 all:l.all (fun p=>p.1 != k)=true
end
instance (k:Int):Fresh k []:=⟨rfl⟩
instance (k a v:Int) (l:List (Int×Int)) [h:NeI a k] [t:Fresh k l]:Fresh k ((a,v)::l):=⟨by
 have h1:=h.ne
 have h2:=t.all
 simp only[List.all_cons,Bool.and_eq_true,bne_iff_ne,ne_eq]
 exact⟨h1,h2⟩⟩
instance :NeI 40 41:=⟨by decide⟩
instance :NeI 40 42:=⟨by decide⟩
instance :NeI 40 43:=⟨by decide⟩
instance :NeI 41 40:=⟨by decide⟩
instance :NeI 41 42:=⟨by decide⟩
instance :NeI 41 43:=⟨by decide⟩
instance :NeI 42 40:=⟨by decide⟩
instance :NeI 42 41:=⟨by decide⟩
instance :NeI 42 43:=⟨by decide⟩
instance :NeI 43 40:=⟨by decide⟩
instance :NeI 43 41:=⟨by decide⟩
instance :NeI 43 42:=⟨by decide⟩
section
variable {kd:IntKind}
def Z85 (kd:IntKind):List (Int×Value)->Array MapEntry
 | []=> #[]
 |p::l=>(Z85 kd l).push {key:=.int kd p.1,val:=p.2,born:=l.length}
def Z3i:List (Int×Value)->Int->Option Value
 | [],_=>none
 |p::l,k=>match Z3i l k with
  |some v=>some v
  |none=>if p.1=k then some p.2 else none
def Z0z (kd:IntKind) (w:World) (l:List (Int×Value)):World:=w.alloc (.map (Z85 kd l) l.length)
theorem Z2v (k:Int):∀l:List (Int×Value),∃j,Instr.findNow (.int kd) (.int kd k) (Z85 kd l).toList 0=some ((Z3i l k).map fun v=>(j,v))
 | []=>⟨0,rfl⟩
 |p::l=>by
  obtain⟨j,hj⟩:=Z2v k l
  have e:(Z85 kd (p::l)).toList=(Z85 kd l).toList++ [{key:=.int kd p.1,val:=p.2,born:=l.length}]:=by simp[Z85]
  rw[e,Z4e,hj]
  cases hg:Z3i l k with
  |some v=>exact⟨j,by simp[Z3i,hg]⟩
  |none=>
   refine⟨0+(Z85 kd l).toList.length,?_⟩
   by_cases hk:p.1=k
   ·have:(k == p.1)=true:=by rw[hk];simp
    simp[Z3i,hg,hk,Instr.findNow,Instr.sameNow]
   ·have hk':(k == p.1)=false:=beq_eq_false_iff_ne.2 (fun e=>hk e.symm)
    simp[Z3i,hg,hk,hk',Instr.findNow,Instr.sameNow]
theorem Z6d {k:Int}:∀{l:List (Int×Value)},l.all (fun p=>p.1 != k)=true->Z3i l k=none
 | [],_=>rfl
 |p::l,h=>by
  simp only[List.all_cons,Bool.and_eq_true,bne_iff_ne,ne_eq]at h
  simp only[Z3i,Z6d h.2,if_neg h.1]
theorem Z2p (w:World) (l:List (Int×Value)):(Z0z kd w l).heap[w.heap.size]?=some (.map (Z85 kd l) l.length):=Han _ _
theorem Zj0 (w:World) (l l':List (Int×Value)):({Z0z kd w l with heap:=(Z0z kd w l).heap.setIfInBounds w.heap.size (.map (Z85 kd l') l'.length)}:World)=Z0z kd w l':=by
 unfold Z0z World.alloc
 simp only[World.mk.injEq,and_true]
 apply Array.ext
 ·simp
 ·intro i h1 h2
  have h3:i<(w.heap.push (Obj.map (Z85 kd l) l.length)).size:=by simpa using h2
  rw[Array.getElem_setIfInBounds h3]
  split
  ·subst_vars;simp
  ·rw[Array.getElem_push,Array.getElem_push]
   split
   ·rfl
   ·simp at h2;omega
variable {P:Program} {mt kt et:TypeId} (hm:P.underlying mt=some (.map kt et)) (hk:P.underlying kt=some (.int kd))
include hm hk
theorem Z0a (w:World) (l:List (Int×Value)) (k:Int) (v:Value) (h:l.all (fun p=>p.1 != k)=true):
 (Instr.mapUpdate mt (.map (some w.heap.size)) (.int kd k) v).run P (Z0z kd w l)= .ok () (Z0z kd w ((k,v)::l)):=by
 obtain⟨j,hj⟩:=Z2v (kd:=kd) k l
 rw[Z6d h]at hj
 have hf:=run_findKey (P:=P) (w:=Z0z kd w l) hk hj
 have hc:(Instr.checkKey false 10000 kt (.int kd k)).run P (Z0z kd w l)= .ok () (Z0z kd w l):=run_checkKey hk (k:=.int kd k) rfl false 9999
 unfold Instr.mapUpdate
 simp only[Sem.run_bind,run_underlying hm,Result.andThen_ok,Go.MapKept.run_getObj_map (Z2p w l),hc,hf,Option.map_none,Go.MapKept.run_setObj_map _ (Z2p w l)]
 exact congrArg (Result.ok ()) (Zj0 w l ((k,v)::l))
theorem Z2w (M:Nat) (w:World) (l:List (Int×Value)) (nx:Nat) (k:Int) (v:Value) (hM:w.heap[M]?=some (.map (Z85 kd l) nx)) (hv:Z3i l k=some v):
 (Instr.lookup mt (.map (some M)) (.int kd k) false).run P w= .ok v w:=by
 obtain⟨j,hj⟩:=Z2v (kd:=kd) k l
 have hf:=run_findKey (P:=P) (w:=w) hk hj
 have hc:(Instr.checkKey (Z85 kd l).isEmpty 10000 kt (.int kd k)).run P w= .ok () w:=run_checkKey hk (k:=.int kd k) rfl (Z85 kd l).isEmpty 9999
 unfold Instr.lookup
 simp only[Sem.run_bind,run_underlying hm,Result.andThen_ok,Go.MapKept.run_getObj_map hM,Sem.run_pure,hc,hf,hv,Option.map_some,Result.andThen]
 rfl
end
theorem Z1u {kd:IntKind} (w:World) (l:List (Int×Value)):Below w.heap.size w (Z0z kd w l):=(Brf _ _).alloc (Nat.le_refl _) _
end
section
open Go.RowKit Go.ChangeShapes Go.WideShapes Go.ChangeAt
def Z55 (x:Nat):List (Int×Value):= [((39:Int),Value.func (.func 126) #[.pointer (some ⟨x,0,none⟩)] #[]),((38:Int),Value.func (.func 125) #[.pointer (some ⟨x,0,none⟩)] #[]),((37:Int),Value.func (.func 124) #[.pointer (some ⟨x,0,none⟩)] #[]),((36:Int),Value.func (.func 123) #[.pointer (some ⟨x,0,none⟩)] #[]),((35:Int),Value.func (.func 122) #[.pointer (some ⟨x,0,none⟩)] #[]),((34:Int),Value.func (.func 121) #[.pointer (some ⟨x,0,none⟩)] #[]),((33:Int),Value.func (.func 120) #[.pointer (some ⟨x,0,none⟩)] #[]),((32:Int),Value.func (.func 119) #[.pointer (some ⟨x,0,none⟩)] #[]),((31:Int),Value.func (.func 118) #[.pointer (some ⟨x,0,none⟩)] #[]),((30:Int),Value.func (.func 117) #[.pointer (some ⟨x,0,none⟩)] #[]),((29:Int),Value.func (.func 116) #[.pointer (some ⟨x,0,none⟩)] #[]),((28:Int),Value.func (.func 115) #[.pointer (some ⟨x,0,none⟩)] #[]),((27:Int),Value.func (.func 114) #[.pointer (some ⟨x,0,none⟩)] #[]),((26:Int),Value.func (.func 113) #[.pointer (some ⟨x,0,none⟩)] #[]),((25:Int),Value.func (.func 112) #[.pointer (some ⟨x,0,none⟩)] #[]),((24:Int),Value.func (.func 111) #[.pointer (some ⟨x,0,none⟩)] #[]),((23:Int),Value.func (.func 110) #[.pointer (some ⟨x,0,none⟩)] #[]),((22:Int),Value.func (.func 109) #[.pointer (some ⟨x,0,none⟩)] #[]),((21:Int),Value.func (.func 108) #[.pointer (some ⟨x,0,none⟩)] #[]),((20:Int),Value.func (.func 107) #[.pointer (some ⟨x,0,none⟩)] #[])]
def cbD (x n:Nat):List (Int×Value):=(Z55 x).drop n
theorem Zb7 (w:World) (x:Nat):
 Calls Tryz.prog 82 #[.pointer (some ⟨x,0,none⟩)] w fun e w'=>e= .returned (.map (some w.heap.size))/\w'=Z0z .i64 w (Z55 x):=by
 have q0:(Instr.makeMap 177 none).run Tryz.prog w= .ok (.map (some w.heap.size)) (Z0z .i64 w []):=rfl
 have q1:(Instr.mapUpdate 177 (.map (some w.heap.size)) (.int .i64 20) (.func (.func 107) #[.pointer (some ⟨x,0,none⟩)] #[])).run Tryz.prog (Z0z .i64 w [])= .ok () (Z0z .i64 w (cbD x 19)):=Z0a Tryz.underlying177 Tryz.underlying3 w [] _ _ rfl
 have q2:(Instr.mapUpdate 177 (.map (some w.heap.size)) (.int .i64 21) (.func (.func 108) #[.pointer (some ⟨x,0,none⟩)] #[])).run Tryz.prog (Z0z .i64 w (cbD x 19))= .ok () (Z0z .i64 w (cbD x 18)):=Z0a Tryz.underlying177 Tryz.underlying3 w (cbD x 19) _ _ rfl
 have q3:(Instr.mapUpdate 177 (.map (some w.heap.size)) (.int .i64 22) (.func (.func 109) #[.pointer (some ⟨x,0,none⟩)] #[])).run Tryz.prog (Z0z .i64 w (cbD x 18))= .ok () (Z0z .i64 w (cbD x 17)):=Z0a Tryz.underlying177 Tryz.underlying3 w (cbD x 18) _ _ rfl
 have q4:(Instr.mapUpdate 177 (.map (some w.heap.size)) (.int .i64 23) (.func (.func 110) #[.pointer (some ⟨x,0,none⟩)] #[])).run Tryz.prog (Z0z .i64 w (cbD x 17))= .ok () (Z0z .i64 w (cbD x 16)):=Z0a Tryz.underlying177 Tryz.underlying3 w (cbD x 17) _ _ rfl
 have q5:(Instr.mapUpdate 177 (.map (some w.heap.size)) (.int .i64 24) (.func (.func 111) #[.pointer (some ⟨x,0,none⟩)] #[])).run Tryz.prog (Z0z .i64 w (cbD x 16))= .ok () (Z0z .i64 w (cbD x 15)):=Z0a Tryz.underlying177 Tryz.underlying3 w (cbD x 16) _ _ rfl
 have q6:(Instr.mapUpdate 177 (.map (some w.heap.size)) (.int .i64 25) (.func (.func 112) #[.pointer (some ⟨x,0,none⟩)] #[])).run Tryz.prog (Z0z .i64 w (cbD x 15))= .ok () (Z0z .i64 w (cbD x 14)):=Z0a Tryz.underlying177 Tryz.underlying3 w (cbD x 15) _ _ rfl
 have q7:(Instr.mapUpdate 177 (.map (some w.heap.size)) (.int .i64 26) (.func (.func 113) #[.pointer (some ⟨x,0,none⟩)] #[])).run Tryz.prog (Z0z .i64 w (cbD x 14))= .ok () (Z0z .i64 w (cbD x 13)):=Z0a Tryz.underlying177 Tryz.underlying3 w (cbD x 14) _ _ rfl
 have q8:(Instr.mapUpdate 177 (.map (some w.heap.size)) (.int .i64 27) (.func (.func 114) #[.pointer (some ⟨x,0,none⟩)] #[])).run Tryz.prog (Z0z .i64 w (cbD x 13))= .ok () (Z0z .i64 w (cbD x 12)):=Z0a Tryz.underlying177 Tryz.underlying3 w (cbD x 13) _ _ rfl
 have q9:(Instr.mapUpdate 177 (.map (some w.heap.size)) (.int .i64 28) (.func (.func 115) #[.pointer (some ⟨x,0,none⟩)] #[])).run Tryz.prog (Z0z .i64 w (cbD x 12))= .ok () (Z0z .i64 w (cbD x 11)):=Z0a Tryz.underlying177 Tryz.underlying3 w (cbD x 12) _ _ rfl
 have q10:(Instr.mapUpdate 177 (.map (some w.heap.size)) (.int .i64 29) (.func (.func 116) #[.pointer (some ⟨x,0,none⟩)] #[])).run Tryz.prog (Z0z .i64 w (cbD x 11))= .ok () (Z0z .i64 w (cbD x 10)):=Z0a Tryz.underlying177 Tryz.underlying3 w (cbD x 11) _ _ rfl
 have q11:(Instr.mapUpdate 177 (.map (some w.heap.size)) (.int .i64 30) (.func (.func 117) #[.pointer (some ⟨x,0,none⟩)] #[])).run Tryz.prog (Z0z .i64 w (cbD x 10))= .ok () (Z0z .i64 w (cbD x 9)):=Z0a Tryz.underlying177 Tryz.underlying3 w (cbD x 10) _ _ rfl
 have q12:(Instr.mapUpdate 177 (.map (some w.heap.size)) (.int .i64 31) (.func (.func 118) #[.pointer (some ⟨x,0,none⟩)] #[])).run Tryz.prog (Z0z .i64 w (cbD x 9))= .ok () (Z0z .i64 w (cbD x 8)):=Z0a Tryz.underlying177 Tryz.underlying3 w (cbD x 9) _ _ rfl
 have q13:(Instr.mapUpdate 177 (.map (some w.heap.size)) (.int .i64 32) (.func (.func 119) #[.pointer (some ⟨x,0,none⟩)] #[])).run Tryz.prog (Z0z .i64 w (cbD x 8))= .ok () (Z0z .i64 w (cbD x 7)):=Z0a Tryz.underlying177 Tryz.underlying3 w (cbD x 8) _ _ rfl
 have q14:(Instr.mapUpdate 177 (.map (some w.heap.size)) (.int .i64 33) (.func (.func 120) #[.pointer (some ⟨x,0,none⟩)] #[])).run Tryz.prog (Z0z .i64 w (cbD x 7))= .ok () (Z0z .i64 w (cbD x 6)):=Z0a Tryz.underlying177 Tryz.underlying3 w (cbD x 7) _ _ rfl
 have q15:(Instr.mapUpdate 177 (.map (some w.heap.size)) (.int .i64 34) (.func (.func 121) #[.pointer (some ⟨x,0,none⟩)] #[])).run Tryz.prog (Z0z .i64 w (cbD x 6))= .ok () (Z0z .i64 w (cbD x 5)):=Z0a Tryz.underlying177 Tryz.underlying3 w (cbD x 6) _ _ rfl
 have q16:(Instr.mapUpdate 177 (.map (some w.heap.size)) (.int .i64 35) (.func (.func 122) #[.pointer (some ⟨x,0,none⟩)] #[])).run Tryz.prog (Z0z .i64 w (cbD x 5))= .ok () (Z0z .i64 w (cbD x 4)):=Z0a Tryz.underlying177 Tryz.underlying3 w (cbD x 5) _ _ rfl
 have q17:(Instr.mapUpdate 177 (.map (some w.heap.size)) (.int .i64 36) (.func (.func 123) #[.pointer (some ⟨x,0,none⟩)] #[])).run Tryz.prog (Z0z .i64 w (cbD x 4))= .ok () (Z0z .i64 w (cbD x 3)):=Z0a Tryz.underlying177 Tryz.underlying3 w (cbD x 4) _ _ rfl
 have q18:(Instr.mapUpdate 177 (.map (some w.heap.size)) (.int .i64 37) (.func (.func 124) #[.pointer (some ⟨x,0,none⟩)] #[])).run Tryz.prog (Z0z .i64 w (cbD x 3))= .ok () (Z0z .i64 w (cbD x 2)):=Z0a Tryz.underlying177 Tryz.underlying3 w (cbD x 3) _ _ rfl
 have q19:(Instr.mapUpdate 177 (.map (some w.heap.size)) (.int .i64 38) (.func (.func 125) #[.pointer (some ⟨x,0,none⟩)] #[])).run Tryz.prog (Z0z .i64 w (cbD x 2))= .ok () (Z0z .i64 w (cbD x 1)):=Z0a Tryz.underlying177 Tryz.underlying3 w (cbD x 2) _ _ rfl
 have q20:(Instr.mapUpdate 177 (.map (some w.heap.size)) (.int .i64 39) (.func (.func 126) #[.pointer (some ⟨x,0,none⟩)] #[])).run Tryz.prog (Z0z .i64 w (cbD x 1))= .ok () (Z0z .i64 w (Z55 x)):=Z0a Tryz.underlying177 Tryz.underlying3 w (cbD x 1) _ _ rfl
 go_enter Tryz.func82,Tryz.ntmps82
 go_wp2
 go_ret
 exact⟨rfl,rfl⟩
theorem Zln (x:Nat):Z3i (Z55 x) 20=some (.func (.func 107) #[.pointer (some ⟨x,0,none⟩)] #[]):=rfl
theorem Zlo (x:Nat):Z3i (Z55 x) 21=some (.func (.func 108) #[.pointer (some ⟨x,0,none⟩)] #[]):=rfl
theorem Zlp (x:Nat):Z3i (Z55 x) 22=some (.func (.func 109) #[.pointer (some ⟨x,0,none⟩)] #[]):=rfl
theorem Zlq (x:Nat):Z3i (Z55 x) 23=some (.func (.func 110) #[.pointer (some ⟨x,0,none⟩)] #[]):=rfl
theorem Zlr (x:Nat):Z3i (Z55 x) 24=some (.func (.func 111) #[.pointer (some ⟨x,0,none⟩)] #[]):=rfl
theorem Zls (x:Nat):Z3i (Z55 x) 25=some (.func (.func 112) #[.pointer (some ⟨x,0,none⟩)] #[]):=rfl
theorem Zlt (x:Nat):Z3i (Z55 x) 26=some (.func (.func 113) #[.pointer (some ⟨x,0,none⟩)] #[]):=rfl
theorem Zlu (x:Nat):Z3i (Z55 x) 27=some (.func (.func 114) #[.pointer (some ⟨x,0,none⟩)] #[]):=rfl
theorem Zlv (x:Nat):Z3i (Z55 x) 28=some (.func (.func 115) #[.pointer (some ⟨x,0,none⟩)] #[]):=rfl
theorem Zlw (x:Nat):Z3i (Z55 x) 29=some (.func (.func 116) #[.pointer (some ⟨x,0,none⟩)] #[]):=rfl
theorem Zlx (x:Nat):Z3i (Z55 x) 30=some (.func (.func 117) #[.pointer (some ⟨x,0,none⟩)] #[]):=rfl
theorem Zly (x:Nat):Z3i (Z55 x) 31=some (.func (.func 118) #[.pointer (some ⟨x,0,none⟩)] #[]):=rfl
theorem Zlz (x:Nat):Z3i (Z55 x) 32=some (.func (.func 119) #[.pointer (some ⟨x,0,none⟩)] #[]):=rfl
theorem Zm0 (x:Nat):Z3i (Z55 x) 33=some (.func (.func 120) #[.pointer (some ⟨x,0,none⟩)] #[]):=rfl
theorem Zf4 (x:Nat):Z3i (Z55 x) 34=some (.func (.func 121) #[.pointer (some ⟨x,0,none⟩)] #[]):=rfl
theorem Zm1 (x:Nat):Z3i (Z55 x) 35=some (.func (.func 122) #[.pointer (some ⟨x,0,none⟩)] #[]):=rfl
theorem Zm2 (x:Nat):Z3i (Z55 x) 36=some (.func (.func 123) #[.pointer (some ⟨x,0,none⟩)] #[]):=rfl
theorem Zb8 (x:Nat):Z3i (Z55 x) 37=some (.func (.func 124) #[.pointer (some ⟨x,0,none⟩)] #[]):=rfl
theorem Zb9 (x:Nat):Z3i (Z55 x) 38=some (.func (.func 125) #[.pointer (some ⟨x,0,none⟩)] #[]):=rfl
theorem Zba (x:Nat):Z3i (Z55 x) 39=some (.func (.func 126) #[.pointer (some ⟨x,0,none⟩)] #[]):=rfl
section
variable (w:World) (i0 i1 i2 i3 i4 i5 i6 i7 i8 i9 i10 i11:Int) (bo:Option Addr) (bn bc:Nat)
theorem Zf5 (h:i1<20):
 Calls Tryz.prog 64 #[.agg #[.int .i64 i0,.int .i64 i1,.int .i64 i2,.int .i64 i3,.int .i64 i4,.int .i64 i5,.int .i64 i6,.int .i64 i7,.int .i64 i8,.int .i64 i9,.int .i64 i10,.int .i64 i11,.slice bo bn bc]] w fun e w'=>e= .returned (.bool false)/\Below w.heap.size w w':=by
 go_enter Tryz.func64,Tryz.ntmps64
 go_wp2
 go_ret
 exact⟨by first|rfl|(simp;done)|(simp;omega),by go_grown⟩
theorem Z9m (h:20<=i1) (h2:i1<=39):
 Calls Tryz.prog 64 #[.agg #[.int .i64 i0,.int .i64 i1,.int .i64 i2,.int .i64 i3,.int .i64 i4,.int .i64 i5,.int .i64 i6,.int .i64 i7,.int .i64 i8,.int .i64 i9,.int .i64 i10,.int .i64 i11,.slice bo bn bc]] w fun e w'=>e= .returned (.bool true)/\Below w.heap.size w w':=by
 go_enter Tryz.func64,Tryz.ntmps64
 go_wp2
 go_ret
 exact⟨by first|rfl|(simp;done)|(simp;omega),by go_grown⟩
theorem Zf6 (h:20<=i1) (h2:39<i1):
 Calls Tryz.prog 64 #[.agg #[.int .i64 i0,.int .i64 i1,.int .i64 i2,.int .i64 i3,.int .i64 i4,.int .i64 i5,.int .i64 i6,.int .i64 i7,.int .i64 i8,.int .i64 i9,.int .i64 i10,.int .i64 i11,.slice bo bn bc]] w fun e w'=>e= .returned (.bool false)/\Below w.heap.size w w':=by
 go_enter Tryz.func64,Tryz.ntmps64
 go_wp2
 go_ret
 exact⟨by first|rfl|(simp;done)|(simp;omega),by go_grown⟩
end
end
section
open Go.RowKit Go.ChangeShapes Go.WideShapes Go.ChangeAt Go.Deep
theorem Its.keptB {S:Nat->Prop} {w w':World} {v:Value} {n:Nat} {F:Nat->Int} (h:Its w v n F) (hk:Z01 S w w') (hs:∀b,v.ownBlock=some b->¬S b):Its w' v n F:=by
 obtain⟨ao,cap,rfl,h4⟩:=h
 refine⟨ao,cap,rfl,fun hp=>?_⟩
 obtain⟨b,off,e1,e2,e3⟩:=h4 hp
 exact⟨b,off,e1,Nlt e2 hk.size,fun j hj=>(hk.cell (p:=⟨b,off+j,none⟩) e2 (hs b (by rw[e1];rfl))).trans (e3 j hj)⟩
def Z3n (w:World) (b k:Nat):List Value->World
 | []=>w
 |x::l=>Z3n (w.setCell ⟨b,k,none⟩ x) b (k+1) l
theorem Z2x (b:Nat) (t:TypeId):∀(l:List Value) (w:World) (k:Nat) (cs:Array Value),w.heap[b]?=some (.cells cs t (0,0))->cs.size=k+l.length->
 (Z3n w b k l).heap[b]?=some (.cells (cs.toList.take k++l).toArray t (0,0))
 | [],w,k,cs,h,hs=>by
   rw[List.append_nil,List.take_of_length_le (by simp at hs |-;omega)];exact h
 |x::l,w,k,cs,h,hs=>by
  have h1:=Z2x b t l (w.setCell ⟨b,k,none⟩ x) (k+1) (cs.setIfInBounds k x) (Z00 h k x) (by simp at hs |-;omega)
  show(Z3n (w.setCell ⟨b,k,none⟩ x) b (k+1) l).heap[b]?=_
  rw[h1]
  have hk:k<cs.toList.length:=by simp at hs |-;omega
  have:(cs.setIfInBounds k x).toList.take (k+1)=cs.toList.take k++ [x]:=by
   rw[Array.toList_setIfInBounds,List.take_succ_eq_append_getElem (by simpa using hk),List.take_set_of_le (Nat.le_refl k)]
   simp
  rw[this,List.append_assoc];rfl
theorem Z1c (b:Nat):∀(l:List Value) (w:World) (k:Nat),Z01 (fun i=>i=b) w (Z3n w b k l)
 | [],w,k=>Z01.refl _ _
 |x::l,w,k=>((Z01.refl (fun i=>i=b) w).setCell (p:=⟨b,k,none⟩) (fun _=>rfl) x).trans (Z1c b l _ _)
theorem Zbb {w:World} {b:Nat} {cs:Array Value} {t:TypeId} {x0 x1 x2 x3 x4 x5 x6 x7 x8 x9 x10 x11 x12:Value} (h:w.heap[b]?=some (.cells cs t (0,0))) (hs:cs.size=13):
 (((((((((((((w.setCell ⟨b,0,none⟩ x0).setCell ⟨b,1,none⟩ x1).setCell ⟨b,2,none⟩ x2).setCell ⟨b,3,none⟩ x3).setCell ⟨b,4,none⟩ x4).setCell ⟨b,5,none⟩ x5).setCell ⟨b,6,none⟩ x6).setCell ⟨b,7,none⟩ x7).setCell ⟨b,8,none⟩ x8).setCell ⟨b,9,none⟩ x9).setCell ⟨b,10,none⟩ x10).setCell ⟨b,11,none⟩ x11).setCell ⟨b,12,none⟩ x12).heap[b]?=some (.cells #[x0,x1,x2,x3,x4,x5,x6,x7,x8,x9,x10,x11,x12] t (0,0)):=by
 have h1:=Z2x b t [x0,x1,x2,x3,x4,x5,x6,x7,x8,x9,x10,x11,x12] w 0 cs h (by rw[hs];rfl)
 rw[List.take_zero,List.nil_append]at h1
 exact h1
theorem Z26 (w:World) (b:Nat) (x0 x1 x2 x3 x4 x5 x6 x7 x8 x9 x10 x11 x12:Value):
 Z01 (fun k=>k=b) w (((((((((((((w.setCell ⟨b,0,none⟩ x0).setCell ⟨b,1,none⟩ x1).setCell ⟨b,2,none⟩ x2).setCell ⟨b,3,none⟩ x3).setCell ⟨b,4,none⟩ x4).setCell ⟨b,5,none⟩ x5).setCell ⟨b,6,none⟩ x6).setCell ⟨b,7,none⟩ x7).setCell ⟨b,8,none⟩ x8).setCell ⟨b,9,none⟩ x9).setCell ⟨b,10,none⟩ x10).setCell ⟨b,11,none⟩ x11).setCell ⟨b,12,none⟩ x12):=
 Z1c b [x0,x1,x2,x3,x4,x5,x6,x7,x8,x9,x10,x11,x12] w 0
theorem Z5o (w:World) (A B:Obj):((w.alloc A).alloc B).heap[w.heap.size]?=some A:=(Below.heap_alloc _ _ _ (by simp)).trans (Han _ _)
theorem Z5p (w:World) (A B:Obj):((w.alloc A).alloc B).heap[w.heap.size+1]?=some B:=by
 have:=Han (w.alloc A) B
 simpa using this
theorem Z3a {w:World} {n:Nat} (h:w.heap.size=n) (o:Obj):(w.alloc o).heap[n]?=some o:=by
 subst h
 exact Han w o
end
section
open Go.RowKit Go.ChangeShapes Go.WideShapes Go.ChangeAt
section
variable (W0 w:World) (x:Nat) (g:Option Nat) (N st:Int) (xs:List Int) (i0 i1 i2 i3 i4 i5 i6 i7 i8 i9 i10 i11:Int) (bt:Value) (b:Nat) (rc rv:Int) (td:Bool)
theorem Z9n (r1: -9223372036854775808<=i2) (r2:i2<=9223372036854775807) (p:Int) (hp:(if Z11 xs (i2) 0=true then 5 else 3)=p) (h:OT W0 w x g N st xs i0 i1 i2 i3 i4 i5 i6 i7 i8 i9 i10 i11 bt b rc rv td) (s1:st<1000000):
 Calls Tryz.prog 92 #[.pointer (some ⟨x,0,none⟩)] w fun e w'=>e= .returned (.tuple #[])/\OT W0 w' x g N (st+Z0h xs (i2)) (Z0s xs (i2) 0 i4) i0 p i2 i3 i4 i5 i6 i7 i8 i9 i10 i11 bt b rc rv td/\Z01 (FX b g x) w w':=by
 obtain⟨⟨c0,c1,c2,c3,c4,c5,c6,c7,c8,c9,c10,c11,c12,c13,c14,c15,c16⟩,hf,hx⟩:=h.open
 have hz:0<=st+Z0h xs (i2):=by have:=h.2.2.2.2;have:=Z0f xs (i2);omega
 have H:=Hd h
 have HP:=Hd hp
 clear hp
 have hw:IntKind.i64.wrap i2=i2:=by rw[IntKind.wrap_i64];omega
 clear hf h
 go_enter Tryz.func92,Tryz.ntmps92
 go_wp2_with fail
 have HD:=hi2 H.out.drew (show Z01 (FX b g x) w w.drew from Z0b (Brf _ _).drew)
 go_region_held3 (fun wz=>wz.cell? ⟨x,13,none⟩=some (.pointer (some ⟨b,0,none⟩))/\wz.cell? ⟨x,2,none⟩=some (.int .i64 i2)/\wz.cell? ⟨x,4,none⟩=some (.int .i64 i4))
  (first|(exact⟨c13,c2,c4⟩)|(exact⟨k13,k2,k4⟩)|(exact⟨d13,d2,d4⟩)|(exact⟨e13,e2,e4⟩)|(exact⟨f13,f2,f4⟩))
  (first|(go_at_call 87;go_split_ands;with_reducible refine Go.Calls.mono (Z7k HD.out.1.ms (i2) (0) (i4) s1) ?_;rintro e w3 ⟨rfl,m3,k3⟩;have h3:=HD.out.1.mem m3 k3 (.inl rfl) hz;obtain⟨⟨d0,d1,d2,d3,d4,d5,d6,d7,d8,d9,d10,d11,d12,d13,d14,d15,d16⟩,-,dx⟩:=h3.open;have H3:=hi2 h3 k3;clear h3 k3 m3)|(go_at_call 138;go_split_ands;with_reducible refine Go.Calls.mono (Z4p _ _ _) ?_;rintro e w' ⟨rfl,rfl⟩)|(go_at_call 137;go_split_ands;with_reducible refine Go.Calls.mono (Z1b W0 _ x g N _ _ i0 i1 i2 i3 i4 i5 i6 i7 i8 i9 i10 i11 bt b rc rv td _ 5 3 H3.out.1) ?_;rintro e w4 ⟨rfl,h4,k4⟩;obtain⟨⟨e0,e1,e2,e3,e4,e5,e6,e7,e8,e9,e10,e11,e12,e13,e14,e15,e16⟩,-,ex⟩:=h4.open;have H4:=hi2 h4 k4;clear h4 k4))
 all_goals
  go_wp2_with fail
  go_end0
  exact⟨rfl,by have:=H4.out.1;rwa [HP.out]at this,(HD.out.2.trans (kxF H3.out.2)).trans H4.out.2⟩
theorem Zf7 (r1: -9223372036854775808<=i2) (r2:i2<=9223372036854775807) (h:OT W0 w x g N st xs i0 i1 i2 i3 i4 i5 i6 i7 i8 i9 i10 i11 bt b rc rv td) (s1:st<1000000):
 Calls Tryz.prog 106 #[.pointer (some ⟨x,0,none⟩)] w fun e w'=>e= .returned (.tuple #[])/\OT W0 w' x g N (st+Z0h xs (wrap64 (i2+1))) (Z0j xs (wrap64 (i2+1)) 0) i0 11 i2 i3 i4 i5 i6 i7 i8 i9 i10 i11 bt b rc rv td/\Z01 (FX b g x) w w':=by
 obtain⟨⟨c0,c1,c2,c3,c4,c5,c6,c7,c8,c9,c10,c11,c12,c13,c14,c15,c16⟩,hf,hx⟩:=h.open
 have hz:0<=st+Z0h xs (wrap64 (i2+1)):=by have:=h.2.2.2.2;have:=Z0f xs (wrap64 (i2+1));omega
 have H:=Hd h
 have hw:IntKind.i64.wrap (i2+1)=wrap64 (i2+1):=by rw[IntKind.wrap_i64];unfold wrap64;omega
 clear hf h
 go_enter Tryz.func106,Tryz.ntmps106
 go_wp2_with fail
 have HD:=hi2 H.out.drew (show Z01 (FX b g x) w w.drew from Z0b (Brf _ _).drew)
 go_region_held3 (fun wz=>wz.cell? ⟨x,13,none⟩=some (.pointer (some ⟨b,0,none⟩))/\wz.cell? ⟨x,2,none⟩=some (.int .i64 i2))
  (first|(exact⟨c13,c2⟩)|(exact⟨k13,k2⟩)|(exact⟨d13,d2⟩)|(exact⟨e13,e2⟩)|(exact⟨f13,f2⟩))
  (first|(go_at_call 90;go_split_ands;with_reducible refine Go.Calls.mono (Z2n HD.out.1.ms (wrap64 (i2+1)) (0) s1) ?_;rintro e w3 ⟨rfl,m3,k3⟩;have h3:=HD.out.1.mem m3 k3 (.inl rfl) hz;obtain⟨⟨d0,d1,d2,d3,d4,d5,d6,d7,d8,d9,d10,d11,d12,d13,d14,d15,d16⟩,-,dx⟩:=h3.open;have fd1:=Z06 h3.blk 1;have H3:=hi2 h3 k3;clear h3 k3 m3))
 all_goals
  go_wp2_with fail
  go_end0
  exact⟨rfl,H3.out.1.set1 11,(HD.out.2.trans (kxF H3.out.2)).trans (kx _ _ _ _ _ _)⟩
theorem Zbc (r1: -9223372036854775808<=i2) (r2:i2<=9223372036854775807) (v p:Int) (hv:cellAt xs (wrap64 (i2+1))=v) (hp:(if v=0 then 4 else 3)=p) (h:OT W0 w x g N st xs i0 i1 i2 i3 i4 i5 i6 i7 i8 i9 i10 i11 bt b rc rv td) (s1:st<1000000):
 Calls Tryz.prog 93 #[.pointer (some ⟨x,0,none⟩)] w fun e w'=>e= .returned (.tuple #[])/\OT W0 w' x g N (st+Z0h xs (wrap64 (i2+1))) xs i0 p i2 i3 i4 v i6 i7 i8 i9 i10 i11 bt b rc rv td/\Z01 (FX b g x) w w':=by
 obtain⟨⟨c0,c1,c2,c3,c4,c5,c6,c7,c8,c9,c10,c11,c12,c13,c14,c15,c16⟩,hf,hx⟩:=h.open
 have hz:0<=st+Z0h xs (wrap64 (i2+1)):=by have:=h.2.2.2.2;have:=Z0f xs (wrap64 (i2+1));omega
 have H:=Hd h
 have HP:=Hd hp
 clear hp
 have HV:=Hd hv
 clear hv
 have hw:IntKind.i64.wrap (i2+1)=wrap64 (i2+1):=by rw[IntKind.wrap_i64];unfold wrap64;omega
 clear hf h
 go_enter Tryz.func93,Tryz.ntmps93
 go_wp2_with fail
 refine(Z2o W0 w x g N st xs i0 i1 i2 i3 i4 i5 i6 i7 i8 i9 i10 i11 bt b rc rv td (wrap64 (i2+1)) v H.out HV.out s1).mono ?_
 rintro e w2 ⟨rfl,h2,k2⟩
 have f1:=Z06 h2.blk 1
 obtain⟨⟨d0,d1,d2,d3,d4,d5,d6,d7,d8,d9,d10,d11,d12,d13,d14,d15,d16⟩,-,dx⟩:=h2.open
 have H2:=hi2 h2 k2
 clear h2 k2 c0 c1 c2 c3 c4 c5 c6 c7 c8 c9 c10 c11 c12 c13 c14 c15 c16
 go_wp2_with fail
 refine(Z1b W0 _ x g N _ _ i0 i1 i2 i3 i4 v i6 i7 i8 i9 i10 i11 bt b rc rv td _ 4 3 H2.out.1).mono ?_
 rintro e w4 ⟨rfl,h4,k4⟩
 have H4:=hi2 h4 k4
 clear h4 k4
 go_wp2
 go_end0
 exact⟨rfl,by have:=H4.out.1;simp only[beq_iff_eq]at this;rwa [HP.out]at this,H2.out.2.trans H4.out.2⟩
theorem Zf8 (r1: -9223372036854775808<=i2) (r2:i2<=9223372036854775807) (v p:Int) (hv:cellAt xs (i2)=v) (hp:(if v=i4 then 12 else 14)=p) (h:OT W0 w x g N st xs i0 i1 i2 i3 i4 i5 i6 i7 i8 i9 i10 i11 bt b rc rv td) (s1:st<1000000):
 Calls Tryz.prog 101 #[.pointer (some ⟨x,0,none⟩)] w fun e w'=>e= .returned (.tuple #[])/\OT W0 w' x g N (st+Z0h xs (i2)) xs i0 p i2 i3 i4 v i6 i7 i8 i9 i10 i11 bt b rc rv td/\Z01 (FX b g x) w w':=by
 obtain⟨⟨c0,c1,c2,c3,c4,c5,c6,c7,c8,c9,c10,c11,c12,c13,c14,c15,c16⟩,hf,hx⟩:=h.open
 have hz:0<=st+Z0h xs (i2):=by have:=h.2.2.2.2;have:=Z0f xs (i2);omega
 have H:=Hd h
 have HP:=Hd hp
 clear hp
 have HV:=Hd hv
 clear hv
 have hw:IntKind.i64.wrap i2=i2:=by rw[IntKind.wrap_i64];omega
 clear hf h
 go_enter Tryz.func101,Tryz.ntmps101
 go_wp2_with fail
 refine(Z2o W0 w x g N st xs i0 i1 i2 i3 i4 i5 i6 i7 i8 i9 i10 i11 bt b rc rv td (i2) v H.out HV.out s1).mono ?_
 rintro e w2 ⟨rfl,h2,k2⟩
 have f1:=Z06 h2.blk 1
 obtain⟨⟨d0,d1,d2,d3,d4,d5,d6,d7,d8,d9,d10,d11,d12,d13,d14,d15,d16⟩,-,dx⟩:=h2.open
 have H2:=hi2 h2 k2
 clear h2 k2 c0 c1 c2 c3 c4 c5 c6 c7 c8 c9 c10 c11 c12 c13 c14 c15 c16
 go_wp2_with fail
 go_region_held3 (fun wz=>wz.cell? ⟨x,5,none⟩=some (.int .i64 v)/\wz.cell? ⟨x,4,none⟩=some (.int .i64 i4))
  (first|(exact⟨d5,d4⟩)|(exact⟨e5,e4⟩))
  (first|(go_at_call 137;go_split_ands;with_reducible refine Go.Calls.mono (Z1b W0 _ x g N _ _ i0 i1 i2 i3 i4 v i6 i7 i8 i9 i10 i11 bt b rc rv td _ 12 14 H2.out.1.drew) ?_;rintro e w4 ⟨rfl,h4,k4⟩;obtain⟨⟨e0,e1,e2,e3,e4,e5,e6,e7,e8,e9,e10,e11,e12,e13,e14,e15,e16⟩,-,ex⟩:=h4.open;have H4:=hi2 h4 k4;clear h4 k4))
 all_goals
  go_wp2_with fail
  go_end0
  exact⟨rfl,by have:=H4.out.1;simp only[beq_iff_eq]at this;rwa [HP.out]at this,(H2.out.2.trans (Z0b (Brf _ _).drew)).trans H4.out.2⟩
theorem Zf9 (r1: -9223372036854775808<=i2) (r2:i2<=9223372036854775807) (p q:Int) (hp:(if Z11 xs 0 0=true then 20 else 11)=p) (hq:(if Z11 xs 0 0=true then 0 else i11)=q) (h:OT W0 w x g N st xs i0 i1 i2 i3 i4 i5 i6 i7 i8 i9 i10 i11 bt b rc rv td) (s1:st<1000000):
 Calls Tryz.prog 103 #[.pointer (some ⟨x,0,none⟩)] w fun e w'=>e= .returned (.tuple #[])/\OT W0 w' x g N (st+Z0h xs 0) (Z0s xs 0 0 (wrap64 (i0+1))) i0 p i2 i3 i4 i5 i6 i7 i8 i9 i10 q bt b rc rv td/\Z01 (FX b g x) w w':=by
 obtain⟨⟨c0,c1,c2,c3,c4,c5,c6,c7,c8,c9,c10,c11,c12,c13,c14,c15,c16⟩,hf,hx⟩:=h.open
 have hz:0<=st+Z0h xs (0):=by have:=h.2.2.2.2;have:=Z0f xs (0);omega
 have H:=Hd h
 have HP:=hi2 hp hq
 clear hp hq
 have hw:IntKind.i64.wrap (i0+1)=wrap64 (i0+1):=by rw[IntKind.wrap_i64];unfold wrap64;omega
 clear hf h
 go_enter Tryz.func103,Tryz.ntmps103
 go_wp2_with fail
 have HD:=hi2 H.out.drew (show Z01 (FX b g x) w w.drew from Z0b (Brf _ _).drew)
 go_region_held3 (fun wz=>wz.cell? ⟨x,13,none⟩=some (.pointer (some ⟨b,0,none⟩))/\wz.cell? ⟨x,0,none⟩=some (.int .i64 i0))
  (first|(exact⟨c13,c0⟩)|(exact⟨k13,k0⟩)|(exact⟨d13,d0⟩)|(exact⟨e13,e0⟩)|(exact⟨f13,f0⟩))
  (first|(go_at_call 87;go_split_ands;with_reducible refine Go.Calls.mono (Z7k HD.out.1.ms (0) (0) (wrap64 (i0+1)) s1) ?_;rintro e w3 ⟨rfl,m3,k3⟩;have h3:=HD.out.1.mem m3 k3 (.inl rfl) hz;obtain⟨⟨d0,d1,d2,d3,d4,d5,d6,d7,d8,d9,d10,d11,d12,d13,d14,d15,d16⟩,-,dx⟩:=h3.open;have H3:=hi2 h3 k3;clear h3 k3 m3)|(go_at_call 138;go_split_ands;with_reducible refine Go.Calls.mono (Z4p _ _ _) ?_;rintro e w' ⟨rfl,rfl⟩))
 all_goals
  clear d0 d1 d2 d3 d4 d5 d6 d7 d8 d9 d10 d11 d12 d13 d14 d15 d16 c0 c1 c2 c3 c4 c5 c6 c7 c8 c9 c10 c11 c12 c13 c14 c15 c16
  go_wp2_with fail
  refine(Z1b W0 _ x g N _ _ i0 i1 i2 i3 i4 i5 i6 i7 i8 i9 i10 i11 bt b rc rv td _ 20 11 H3.out.1).mono ?_
  rintro e w4 ⟨rfl,h4,k4⟩
  have f11:=Z06 h4.blk 11
  obtain⟨⟨e0,e1,e2,e3,e4,e5,e6,e7,e8,e9,e10,e11,e12,e13,e14,e15,e16⟩,-,ex⟩:=h4.open
  have H4:=hi2 h4 k4
  clear h4 k4
  have KK:=Hd ((HD.out.2.trans (kxF H3.out.2)).trans H4.out.2)
  cases hsw:Z11 xs 0 0
  ·have h5:=H4.out.1
   have ep:=HP.out.1
   have eq:=HP.out.2
   rw[hsw]at h5 ep eq
   have H5:=hi3 h5 ep eq
   clear h5 ep eq hsw
   go_wp2
   go_end0
   exact⟨rfl,by rw[<-H5.out.2.1,<-H5.out.2.2];exact H5.out.1,KK.out⟩
  ·have h5:=H4.out.1
   have ep:=HP.out.1
   have eq:=HP.out.2
   rw[hsw]at h5 ep eq
   have H5:=hi3 h5 ep eq
   clear h5 ep eq hsw
   go_wp2
   go_end0
   exact⟨rfl,by rw[<-H5.out.2.1,<-H5.out.2.2];exact H5.out.1.set11 0,KK.out.trans (kx _ _ _ _ _ _)⟩
theorem Zd6 (r1: -9223372036854775808<=i2) (r2:i2<=9223372036854775807) (p q:Int) (hp:(if Z1x xs N 5=true then 2 else i1)=p) (hq:(if Z1x xs N 5=true then(xs.length:Int)else i2)=q) (h:OT W0 w x g N st xs i0 i1 i2 i3 i4 i5 i6 i7 i8 i9 i10 i11 bt b rc rv td) (s1:st<1000000):
 Calls Tryz.prog 91 #[.pointer (some ⟨x,0,none⟩)] w fun e w'=>e= .returned (.tuple #[])/\∃g',OT W0 w' x g' N (st+Z2i xs N 5) (Z2m xs N 5) i0 p q i3 i4 i5 i6 i7 i8 i9 i10 i11 bt b rc rv td/\Z01 (FX b g x) w w'/\(g'=g\/∃k,g'=some k/\w.heap.size<=k):=by
 obtain⟨⟨c0,c1,c2,c3,c4,c5,c6,c7,c8,c9,c10,c11,c12,c13,c14,c15,c16⟩,hf,hx⟩:=h.open
 have hz:0<=st+Z0h xs (0):=by have:=h.2.2.2.2;have:=Z0f xs (0);omega
 have H:=Hd h
 have HP:=hi2 hp hq
 clear hp hq
 have hza:0<=st+Z2i xs N 5:=by have:=H.out.2.2.2.2;unfold Z2i;split<;>omega
 have HZ:=Hd hza
 clear hza
 clear hf h
 go_enter Tryz.func91,Tryz.ntmps91
 go_wp2_with fail
 refine(Zli H.out.ms 5 s1).mono ?_
 rintro e w2 ⟨g',rfl,m2,hg,k2⟩
 have h2:=H.out.mem m2 k2 hg HZ.out
 have f1:=Z06 h2.blk 1
 have f2:=Z06 h2.blk 2
 clear c0 c1 c2 c3 c4 c5 c6 c7 c8 c9 c10 c11 c12 c13 c14 c15 c16
 obtain⟨⟨d0,d1,d2,d3,d4,d5,d6,d7,d8,d9,d10,d11,d12,d13,d14,d15,d16⟩,-,dx⟩:=h2.open
 have H2:=hi3 h2 k2 hg
 clear h2 k2 m2 hg
 cases hok:Z1x xs N 5
 ·have e1:Z2s xs N 5=11:=by unfold Z2s;rw[hok];rfl
  have ep:=HP.out.1
  have eq:=HP.out.2
  rw[hok]at ep eq
  rw[e1]
  have H5:=hi2 ep eq
  clear ep eq hok e1
  go_wp2
  go_end0
  exact⟨rfl,g',by rw[<-H5.out.1,<-H5.out.2];exact H2.out.1,kxF H2.out.2.1,H2.out.2.2⟩
 ·have e1:Z2s xs N 5=0:=by unfold Z2s;rw[hok];rfl
  have e2:Z57 xs N 5=xs.length:=by unfold Z57;rw[hok];rfl
  have ep:=HP.out.1
  have eq:=HP.out.2
  rw[hok]at ep eq
  rw[e1,e2]
  have H5:=hi2 ep eq
  clear ep eq hok e1 e2
  go_wp2
  go_end0
  exact⟨rfl,g',by rw[<-H5.out.1,<-H5.out.2];exact(H2.out.1.set2 _).set1 2,((kxF H2.out.2.1).trans (kx _ _ _ _ _ _)).trans (kx _ _ _ _ _ _),H2.out.2.2⟩
end
section
variable (W0 w:World) (x:Nat) (g:Option Nat) (N st:Int) (xs:List Int) (i0 i1 i2 i3 i4 i5 i6 i7 i8 i9 i10 i11:Int) (bt:Value) (b:Nat) (rc rv:Int) (td:Bool)
theorem Zd7 (r1: -9223372036854775808<=i2) (r2:i2<=9223372036854775807) (p:Int) (hp:(if Z11 xs (wrap64 (i2+1)) 0=true then 15 else 11)=p) (h:OT W0 w x g N st xs i0 i1 i2 i3 i4 i5 i6 i7 i8 i9 i10 i11 bt b rc rv td) (s1:st<1000000):
 Calls Tryz.prog 96 #[.pointer (some ⟨x,0,none⟩)] w fun e w'=>e= .returned (.tuple #[])/\OT W0 w' x g N (st+Z0h xs (wrap64 (i2+1))) (Z0s xs (wrap64 (i2+1)) 0 2) i0 p i2 i3 i4 i5 i6 i7 i8 i9 i10 i11 bt b rc rv td/\Z01 (FX b g x) w w':=by
 obtain⟨⟨c0,c1,c2,c3,c4,c5,c6,c7,c8,c9,c10,c11,c12,c13,c14,c15,c16⟩,hf,hx⟩:=h.open
 have hz:0<=st+Z0h xs (wrap64 (i2+1)):=by have:=h.2.2.2.2;have:=Z0f xs (wrap64 (i2+1));omega
 have H:=Hd h
 have HP:=Hd hp
 clear hp
 have hw:IntKind.i64.wrap (i2+1)=wrap64 (i2+1):=by rw[IntKind.wrap_i64];unfold wrap64;omega
 clear hf h
 go_enter Tryz.func96,Tryz.ntmps96
 go_wp2_with fail
 have HD:=hi2 H.out.drew (show Z01 (FX b g x) w w.drew from Z0b (Brf _ _).drew)
 go_region_held3 (fun wz=>wz.cell? ⟨x,13,none⟩=some (.pointer (some ⟨b,0,none⟩))/\wz.cell? ⟨x,2,none⟩=some (.int .i64 i2))
  (first|(exact⟨c13,c2⟩)|(exact⟨k13,k2⟩)|(exact⟨d13,d2⟩)|(exact⟨e13,e2⟩)|(exact⟨f13,f2⟩))
  (first|(go_at_call 87;go_split_ands;with_reducible refine Go.Calls.mono (Z7k HD.out.1.ms (wrap64 (i2+1)) (0) (2) s1) ?_;rintro e w3 ⟨rfl,m3,k3⟩;have h3:=HD.out.1.mem m3 k3 (.inl rfl) hz;obtain⟨⟨d0,d1,d2,d3,d4,d5,d6,d7,d8,d9,d10,d11,d12,d13,d14,d15,d16⟩,-,dx⟩:=h3.open;have H3:=hi2 h3 k3;clear h3 k3 m3)|(go_at_call 138;go_split_ands;with_reducible refine Go.Calls.mono (Z4p _ _ _) ?_;rintro e w' ⟨rfl,rfl⟩)|(go_at_call 137;go_split_ands;with_reducible refine Go.Calls.mono (Z1b W0 _ x g N _ _ i0 i1 i2 i3 i4 i5 i6 i7 i8 i9 i10 i11 bt b rc rv td _ 15 11 H3.out.1) ?_;rintro e w4 ⟨rfl,h4,k4⟩;obtain⟨⟨e0,e1,e2,e3,e4,e5,e6,e7,e8,e9,e10,e11,e12,e13,e14,e15,e16⟩,-,ex⟩:=h4.open;have H4:=hi2 h4 k4;clear h4 k4))
 all_goals
  go_wp2_with fail
  go_end0
  exact⟨rfl,by have:=H4.out.1;rwa [HP.out]at this,(HD.out.2.trans (kxF H3.out.2)).trans H4.out.2⟩
theorem Zfa (r1: -9223372036854775808<=i2) (r2:i2<=9223372036854775807) (h:OT W0 w x g N st xs i0 i1 i2 i3 i4 i5 i6 i7 i8 i9 i10 i11 bt b rc rv td) (s1:st<1000000):
 Calls Tryz.prog 98 #[.pointer (some ⟨x,0,none⟩)] w fun e w'=>e= .returned (.tuple #[])/\OT W0 w' x g N (st+Z0h xs (wrap64 (i2+3))) (Z0j xs (wrap64 (i2+3)) i5) i0 9 i2 i3 i4 i5 i6 i7 i8 i9 i10 i11 bt b rc rv td/\Z01 (FX b g x) w w':=by
 obtain⟨⟨c0,c1,c2,c3,c4,c5,c6,c7,c8,c9,c10,c11,c12,c13,c14,c15,c16⟩,hf,hx⟩:=h.open
 have hz:0<=st+Z0h xs (wrap64 (i2+3)):=by have:=h.2.2.2.2;have:=Z0f xs (wrap64 (i2+3));omega
 have H:=Hd h
 have hw:IntKind.i64.wrap (i2+3)=wrap64 (i2+3):=by rw[IntKind.wrap_i64];unfold wrap64;omega
 clear hf h
 go_enter Tryz.func98,Tryz.ntmps98
 go_wp2_with fail
 have HD:=hi2 H.out.drew (show Z01 (FX b g x) w w.drew from Z0b (Brf _ _).drew)
 go_region_held3 (fun wz=>wz.cell? ⟨x,13,none⟩=some (.pointer (some ⟨b,0,none⟩))/\wz.cell? ⟨x,2,none⟩=some (.int .i64 i2)/\wz.cell? ⟨x,5,none⟩=some (.int .i64 i5))
  (first|(exact⟨c13,c2,c5⟩)|(exact⟨k13,k2,k5⟩)|(exact⟨d13,d2,d5⟩)|(exact⟨e13,e2,e5⟩)|(exact⟨f13,f2,f5⟩))
  (first|(go_at_call 90;go_split_ands;with_reducible refine Go.Calls.mono (Z2n HD.out.1.ms (wrap64 (i2+3)) (i5) s1) ?_;rintro e w3 ⟨rfl,m3,k3⟩;have h3:=HD.out.1.mem m3 k3 (.inl rfl) hz;obtain⟨⟨d0,d1,d2,d3,d4,d5,d6,d7,d8,d9,d10,d11,d12,d13,d14,d15,d16⟩,-,dx⟩:=h3.open;have fd1:=Z06 h3.blk 1;have H3:=hi2 h3 k3;clear h3 k3 m3))
 all_goals
  go_wp2_with fail
  go_end0
  exact⟨rfl,H3.out.1.set1 9,(HD.out.2.trans (kxF H3.out.2)).trans (kx _ _ _ _ _ _)⟩
theorem Zd8 (r1: -9223372036854775808<=i2) (r2:i2<=9223372036854775807) (v p:Int) (hv:cellAt xs (wrap64 (i2+1))=v) (hp:(if v=0 then 6 else 11)=p) (h:OT W0 w x g N st xs i0 i1 i2 i3 i4 i5 i6 i7 i8 i9 i10 i11 bt b rc rv td) (s1:st<1000000):
 Calls Tryz.prog 95 #[.pointer (some ⟨x,0,none⟩)] w fun e w'=>e= .returned (.tuple #[])/\OT W0 w' x g N (st+Z0h xs (wrap64 (i2+1))) xs i0 p i2 i3 i4 v i6 i7 i8 i9 i10 i11 bt b rc rv td/\Z01 (FX b g x) w w':=by
 obtain⟨⟨c0,c1,c2,c3,c4,c5,c6,c7,c8,c9,c10,c11,c12,c13,c14,c15,c16⟩,hf,hx⟩:=h.open
 have hz:0<=st+Z0h xs (wrap64 (i2+1)):=by have:=h.2.2.2.2;have:=Z0f xs (wrap64 (i2+1));omega
 have H:=Hd h
 have HP:=Hd hp
 clear hp
 have HV:=Hd hv
 clear hv
 have hw:IntKind.i64.wrap (i2+1)=wrap64 (i2+1):=by rw[IntKind.wrap_i64];unfold wrap64;omega
 clear hf h
 go_enter Tryz.func95,Tryz.ntmps95
 go_wp2_with fail
 refine(Z2o W0 w x g N st xs i0 i1 i2 i3 i4 i5 i6 i7 i8 i9 i10 i11 bt b rc rv td (wrap64 (i2+1)) v H.out HV.out s1).mono ?_
 rintro e w2 ⟨rfl,h2,k2⟩
 have f1:=Z06 h2.blk 1
 obtain⟨⟨d0,d1,d2,d3,d4,d5,d6,d7,d8,d9,d10,d11,d12,d13,d14,d15,d16⟩,-,dx⟩:=h2.open
 have H2:=hi2 h2 k2
 clear h2 k2 c0 c1 c2 c3 c4 c5 c6 c7 c8 c9 c10 c11 c12 c13 c14 c15 c16
 go_wp2_with fail
 refine(Z1b W0 _ x g N _ _ i0 i1 i2 i3 i4 v i6 i7 i8 i9 i10 i11 bt b rc rv td _ 6 11 H2.out.1).mono ?_
 rintro e w4 ⟨rfl,h4,k4⟩
 have H4:=hi2 h4 k4
 clear h4 k4
 go_wp2
 go_end0
 exact⟨rfl,by have:=H4.out.1;simp only[beq_iff_eq]at this;rwa [HP.out]at this,H2.out.2.trans H4.out.2⟩
theorem Zfb (r1: -9223372036854775808<=i2) (r2:i2<=9223372036854775807) (v p:Int) (hv:cellAt xs (i2)=v) (hp:(if v=i4 then 7 else 16)=p) (h:OT W0 w x g N st xs i0 i1 i2 i3 i4 i5 i6 i7 i8 i9 i10 i11 bt b rc rv td) (s1:st<1000000):
 Calls Tryz.prog 105 #[.pointer (some ⟨x,0,none⟩)] w fun e w'=>e= .returned (.tuple #[])/\OT W0 w' x g N (st+Z0h xs (i2)) xs i0 p i2 i3 i4 v i6 i7 i8 i9 i10 i11 bt b rc rv td/\Z01 (FX b g x) w w':=by
 obtain⟨⟨c0,c1,c2,c3,c4,c5,c6,c7,c8,c9,c10,c11,c12,c13,c14,c15,c16⟩,hf,hx⟩:=h.open
 have hz:0<=st+Z0h xs (i2):=by have:=h.2.2.2.2;have:=Z0f xs (i2);omega
 have H:=Hd h
 have HP:=Hd hp
 clear hp
 have HV:=Hd hv
 clear hv
 have hw:IntKind.i64.wrap i2=i2:=by rw[IntKind.wrap_i64];omega
 clear hf h
 go_enter Tryz.func105,Tryz.ntmps105
 go_wp2_with fail
 refine(Z2o W0 w x g N st xs i0 i1 i2 i3 i4 i5 i6 i7 i8 i9 i10 i11 bt b rc rv td (i2) v H.out HV.out s1).mono ?_
 rintro e w2 ⟨rfl,h2,k2⟩
 have f1:=Z06 h2.blk 1
 obtain⟨⟨d0,d1,d2,d3,d4,d5,d6,d7,d8,d9,d10,d11,d12,d13,d14,d15,d16⟩,-,dx⟩:=h2.open
 have H2:=hi2 h2 k2
 clear h2 k2 c0 c1 c2 c3 c4 c5 c6 c7 c8 c9 c10 c11 c12 c13 c14 c15 c16
 go_wp2_with fail
 go_region_held3 (fun wz=>wz.cell? ⟨x,5,none⟩=some (.int .i64 v)/\wz.cell? ⟨x,4,none⟩=some (.int .i64 i4))
  (first|(exact⟨d5,d4⟩)|(exact⟨e5,e4⟩))
  (first|(go_at_call 137;go_split_ands;with_reducible refine Go.Calls.mono (Z1b W0 _ x g N _ _ i0 i1 i2 i3 i4 v i6 i7 i8 i9 i10 i11 bt b rc rv td _ 7 16 H2.out.1.drew) ?_;rintro e w4 ⟨rfl,h4,k4⟩;obtain⟨⟨e0,e1,e2,e3,e4,e5,e6,e7,e8,e9,e10,e11,e12,e13,e14,e15,e16⟩,-,ex⟩:=h4.open;have H4:=hi2 h4 k4;clear h4 k4))
 all_goals
  go_wp2_with fail
  go_end0
  exact⟨rfl,by have:=H4.out.1;simp only[beq_iff_eq]at this;rwa [HP.out]at this,(H2.out.2.trans (Z0b (Brf _ _).drew)).trans H4.out.2⟩
theorem Zfc (r1: -9223372036854775808<=i2) (r2:i2<=9223372036854775807) (q:Int) (hq:(if Z11 xs 1 i5=true then 1 else 0)=q) (h:OT W0 w x g N st xs i0 i1 i2 i3 i4 i5 i6 i7 i8 i9 i10 i11 bt b rc rv td) (s1:st<1000000):
 Calls Tryz.prog 99 #[.pointer (some ⟨x,0,none⟩)] w fun e w'=>e= .returned (.tuple #[])/\OT W0 w' x g N (st+Z0h xs 1) (Z0s xs 1 i5 i2) i0 10 i2 i3 i4 q i6 i7 i8 i9 i10 i11 bt b rc rv td/\Z01 (FX b g x) w w':=by
 obtain⟨⟨c0,c1,c2,c3,c4,c5,c6,c7,c8,c9,c10,c11,c12,c13,c14,c15,c16⟩,hf,hx⟩:=h.open
 have hz:0<=st+Z0h xs (1):=by have:=h.2.2.2.2;have:=Z0f xs (1);omega
 have H:=Hd h
 have HP:=Hd hq
 clear hq
 clear hf h
 go_enter Tryz.func99,Tryz.ntmps99
 go_wp2_with fail
 have HD:=hi2 H.out.drew (show Z01 (FX b g x) w w.drew from Z0b (Brf _ _).drew)
 go_region_held3 (fun wz=>wz.cell? ⟨x,13,none⟩=some (.pointer (some ⟨b,0,none⟩))/\wz.cell? ⟨x,5,none⟩=some (.int .i64 i5)/\wz.cell? ⟨x,2,none⟩=some (.int .i64 i2))
  (first|(exact⟨c13,c5,c2⟩)|(exact⟨k13,k5,k2⟩)|(exact⟨d13,d5,d2⟩)|(exact⟨e13,e5,e2⟩)|(exact⟨f13,f5,f2⟩))
  (first|(go_at_call 87;go_split_ands;with_reducible refine Go.Calls.mono (Z7k HD.out.1.ms (1) (i5) (i2) s1) ?_;rintro e w3 ⟨rfl,m3,k3⟩;have h3:=HD.out.1.mem m3 k3 (.inl rfl) hz;obtain⟨⟨d0,d1,d2,d3,d4,d5,d6,d7,d8,d9,d10,d11,d12,d13,d14,d15,d16⟩,-,dx⟩:=h3.open;have H3:=hi2 h3 k3;clear h3 k3 m3)|(go_at_call 138;go_split_ands;with_reducible refine Go.Calls.mono (Z4p _ _ _) ?_;rintro e w' ⟨rfl,rfl⟩))
 all_goals
  have f5:=Z06 H3.out.1.blk 5
  have f1:=Z06 H3.out.1.blk 1
  have KK:=Hd (HD.out.2.trans (kxF H3.out.2))
  clear c0 c1 c2 c3 c4 c5 c6 c7 c8 c9 c10 c11 c12 c13 c14 c15 c16
  cases hsw:Z11 xs 1 i5
  ·have eq:=HP.out
   rw[hsw]at eq
   have H5:=Hd eq
   clear eq hsw
   go_wp2
   go_end0
   exact⟨rfl,by rw[<-H5.out];exact(H3.out.1.set5 0).set1 10,(KK.out.trans (kx _ _ _ _ _ _)).trans (kx _ _ _ _ _ _)⟩
  ·have eq:=HP.out
   rw[hsw]at eq
   have H5:=Hd eq
   clear eq hsw
   go_wp2
   go_end0
   exact⟨rfl,by rw[<-H5.out];exact((H3.out.1.set5 0).set5 1).set1 10,((KK.out.trans (kx _ _ _ _ _ _)).trans (kx _ _ _ _ _ _)).trans (kx _ _ _ _ _ _)⟩
end
section
variable (W0 w:World) (x:Nat) (g:Option Nat) (N st:Int) (xs:List Int) (i0 i1 i2 i3 i4 i5 i6 i7 i8 i9 i10 i11:Int) (bt:Value) (b:Nat) (rc rv:Int) (td:Bool)
theorem Zfd (r1: -9223372036854775808<=i2) (r2:i2<=9223372036854775807) (h:OT W0 w x g N st xs i0 i1 i2 i3 i4 i5 i6 i7 i8 i9 i10 i11 bt b rc rv td) (s1:st<1000000):
 Calls Tryz.prog 94 #[.pointer (some ⟨x,0,none⟩)] w fun e w'=>e= .returned (.tuple #[])/\OT W0 w' x g N (st+Z0h xs (i2)) (Z0j xs (i2) i4) i0 5 i2 i3 i4 i5 i6 i7 i8 i9 i10 i11 bt b rc rv td/\Z01 (FX b g x) w w':=by
 obtain⟨⟨c0,c1,c2,c3,c4,c5,c6,c7,c8,c9,c10,c11,c12,c13,c14,c15,c16⟩,hf,hx⟩:=h.open
 have hz:0<=st+Z0h xs (i2):=by have:=h.2.2.2.2;have:=Z0f xs (i2);omega
 have H:=Hd h
 have hw:IntKind.i64.wrap i2=i2:=by rw[IntKind.wrap_i64];omega
 clear hf h
 go_enter Tryz.func94,Tryz.ntmps94
 go_wp2_with fail
 have HD:=hi2 H.out.drew (show Z01 (FX b g x) w w.drew from Z0b (Brf _ _).drew)
 go_region_held3 (fun wz=>wz.cell? ⟨x,13,none⟩=some (.pointer (some ⟨b,0,none⟩))/\wz.cell? ⟨x,2,none⟩=some (.int .i64 i2)/\wz.cell? ⟨x,4,none⟩=some (.int .i64 i4))
  (first|(exact⟨c13,c2,c4⟩)|(exact⟨k13,k2,k4⟩)|(exact⟨d13,d2,d4⟩)|(exact⟨e13,e2,e4⟩)|(exact⟨f13,f2,f4⟩))
  (first|(go_at_call 90;go_split_ands;with_reducible refine Go.Calls.mono (Z2n HD.out.1.ms (i2) (i4) s1) ?_;rintro e w3 ⟨rfl,m3,k3⟩;have h3:=HD.out.1.mem m3 k3 (.inl rfl) hz;obtain⟨⟨d0,d1,d2,d3,d4,d5,d6,d7,d8,d9,d10,d11,d12,d13,d14,d15,d16⟩,-,dx⟩:=h3.open;have fd1:=Z06 h3.blk 1;have H3:=hi2 h3 k3;clear h3 k3 m3))
 all_goals
  go_wp2_with fail
  go_end0
  exact⟨rfl,H3.out.1.set1 5,(HD.out.2.trans (kxF H3.out.2)).trans (kx _ _ _ _ _ _)⟩
theorem Zfe (r1: -9223372036854775808<=i2) (r2:i2<=9223372036854775807) (h:OT W0 w x g N st xs i0 i1 i2 i3 i4 i5 i6 i7 i8 i9 i10 i11 bt b rc rv td) (s1:st<1000000):
 Calls Tryz.prog 100 #[.pointer (some ⟨x,0,none⟩)] w fun e w'=>e= .returned (.tuple #[])/\OT W0 w' x g N (st+Z0h xs (wrap64 (i2+1))) (Z0j xs (wrap64 (i2+1)) i5) i0 11 i2 i3 i4 i5 i6 i7 i8 i9 i10 i11 bt b rc rv td/\Z01 (FX b g x) w w':=by
 obtain⟨⟨c0,c1,c2,c3,c4,c5,c6,c7,c8,c9,c10,c11,c12,c13,c14,c15,c16⟩,hf,hx⟩:=h.open
 have hz:0<=st+Z0h xs (wrap64 (i2+1)):=by have:=h.2.2.2.2;have:=Z0f xs (wrap64 (i2+1));omega
 have H:=Hd h
 have hw:IntKind.i64.wrap (i2+1)=wrap64 (i2+1):=by rw[IntKind.wrap_i64];unfold wrap64;omega
 clear hf h
 go_enter Tryz.func100,Tryz.ntmps100
 go_wp2_with fail
 have HD:=hi2 H.out.drew (show Z01 (FX b g x) w w.drew from Z0b (Brf _ _).drew)
 go_region_held3 (fun wz=>wz.cell? ⟨x,13,none⟩=some (.pointer (some ⟨b,0,none⟩))/\wz.cell? ⟨x,2,none⟩=some (.int .i64 i2)/\wz.cell? ⟨x,5,none⟩=some (.int .i64 i5))
  (first|(exact⟨c13,c2,c5⟩)|(exact⟨k13,k2,k5⟩)|(exact⟨d13,d2,d5⟩)|(exact⟨e13,e2,e5⟩)|(exact⟨f13,f2,f5⟩))
  (first|(go_at_call 90;go_split_ands;with_reducible refine Go.Calls.mono (Z2n HD.out.1.ms (wrap64 (i2+1)) (i5) s1) ?_;rintro e w3 ⟨rfl,m3,k3⟩;have h3:=HD.out.1.mem m3 k3 (.inl rfl) hz;obtain⟨⟨d0,d1,d2,d3,d4,d5,d6,d7,d8,d9,d10,d11,d12,d13,d14,d15,d16⟩,-,dx⟩:=h3.open;have fd1:=Z06 h3.blk 1;have H3:=hi2 h3 k3;clear h3 k3 m3))
 all_goals
  go_wp2_with fail
  go_end0
  exact⟨rfl,H3.out.1.set1 11,(HD.out.2.trans (kxF H3.out.2)).trans (kx _ _ _ _ _ _)⟩
theorem Zff (r1: -9223372036854775808<=i2) (r2:i2<=9223372036854775807) (v p:Int) (hv:cellAt xs (0)=v) (hp:(if v=0 then 13 else 11)=p) (h:OT W0 w x g N st xs i0 i1 i2 i3 i4 i5 i6 i7 i8 i9 i10 i11 bt b rc rv td) (s1:st<1000000):
 Calls Tryz.prog 102 #[.pointer (some ⟨x,0,none⟩)] w fun e w'=>e= .returned (.tuple #[])/\OT W0 w' x g N (st+Z0h xs (0)) xs i0 p i2 i3 i4 v i6 i7 i8 i9 i10 i11 bt b rc rv td/\Z01 (FX b g x) w w':=by
 obtain⟨⟨c0,c1,c2,c3,c4,c5,c6,c7,c8,c9,c10,c11,c12,c13,c14,c15,c16⟩,hf,hx⟩:=h.open
 have hz:0<=st+Z0h xs (0):=by have:=h.2.2.2.2;have:=Z0f xs (0);omega
 have H:=Hd h
 have HP:=Hd hp
 clear hp
 have HV:=Hd hv
 clear hv
 clear hf h
 go_enter Tryz.func102,Tryz.ntmps102
 go_wp2_with fail
 refine(Z2o W0 w x g N st xs i0 i1 i2 i3 i4 i5 i6 i7 i8 i9 i10 i11 bt b rc rv td (0) v H.out HV.out s1).mono ?_
 rintro e w2 ⟨rfl,h2,k2⟩
 have f1:=Z06 h2.blk 1
 obtain⟨⟨d0,d1,d2,d3,d4,d5,d6,d7,d8,d9,d10,d11,d12,d13,d14,d15,d16⟩,-,dx⟩:=h2.open
 have H2:=hi2 h2 k2
 clear h2 k2 c0 c1 c2 c3 c4 c5 c6 c7 c8 c9 c10 c11 c12 c13 c14 c15 c16
 go_wp2_with fail
 refine(Z1b W0 _ x g N _ _ i0 i1 i2 i3 i4 v i6 i7 i8 i9 i10 i11 bt b rc rv td _ 13 11 H2.out.1).mono ?_
 rintro e w4 ⟨rfl,h4,k4⟩
 have H4:=hi2 h4 k4
 clear h4 k4
 go_wp2
 go_end0
 exact⟨rfl,by have:=H4.out.1;simp only[beq_iff_eq]at this;rwa [HP.out]at this,H2.out.2.trans H4.out.2⟩
theorem Zd9 (r1: -9223372036854775808<=i2) (r2:i2<=9223372036854775807) (v:Int) (hv:cellAt xs 1=v) (h:OT W0 w x g N st xs i0 i1 i2 i3 i4 i5 i6 i7 i8 i9 i10 i11 bt b rc rv td) (s1:st<1000000):
 Calls Tryz.prog 97 #[.pointer (some ⟨x,0,none⟩)] w fun e w'=>e= .returned (.tuple #[])/\OT W0 w' x g N (st+Z0h xs 1) xs i0 8 i2 i3 i4 v i6 i7 i8 i9 i10 i11 bt b rc rv td/\Z01 (FX b g x) w w':=by
 obtain⟨⟨c0,c1,c2,c3,c4,c5,c6,c7,c8,c9,c10,c11,c12,c13,c14,c15,c16⟩,hf,hx⟩:=h.open
 have hz:0<=st+Z0h xs (1):=by have:=h.2.2.2.2;have:=Z0f xs (1);omega
 have H:=Hd h
 have HV:=Hd hv
 clear hv
 clear hf h
 go_enter Tryz.func97,Tryz.ntmps97
 go_wp2_with fail
 refine(Z2o W0 w x g N st xs i0 i1 i2 i3 i4 i5 i6 i7 i8 i9 i10 i11 bt b rc rv td (1) v H.out HV.out s1).mono ?_
 rintro e w2 ⟨rfl,h2,k2⟩
 have f1:=Z06 h2.blk 1
 obtain⟨⟨d0,d1,d2,d3,d4,d5,d6,d7,d8,d9,d10,d11,d12,d13,d14,d15,d16⟩,-,dx⟩:=h2.open
 have H2:=hi2 h2 k2
 clear h2 k2 c0 c1 c2 c3 c4 c5 c6 c7 c8 c9 c10 c11 c12 c13 c14 c15 c16
 go_wp2
 go_end0
 exact⟨rfl,H2.out.1.set1 8,H2.out.2.trans (kx _ _ _ _ _ _)⟩
theorem Zfg (r1: -9223372036854775808<=i2) (r2:i2<=9223372036854775807) (v:Int) (hv:cellAt xs (wrap64 (i2+4))=v) (h:OT W0 w x g N st xs i0 i1 i2 i3 i4 i5 i6 i7 i8 i9 i10 i11 bt b rc rv td) (s1:st<1000000):
 Calls Tryz.prog 104 #[.pointer (some ⟨x,0,none⟩)] w fun e w'=>e= .returned (.tuple #[])/\OT W0 w' x g N (st+Z0h xs (wrap64 (i2+4))) xs i0 0 i2 i3 0 v i6 i7 i8 i9 i10 i11 bt b (wk v) (wv v) true/\Z01 (FX b g x) w w':=by
 obtain⟨⟨c0,c1,c2,c3,c4,c5,c6,c7,c8,c9,c10,c11,c12,c13,c14,c15,c16⟩,hf,hx⟩:=h.open
 have hz:0<=st+Z0h xs (wrap64 (i2+4)):=by have:=h.2.2.2.2;have:=Z0f xs (wrap64 (i2+4));omega
 have H:=Hd h
 have HV:=Hd hv
 clear hv
 have hw:IntKind.i64.wrap (i2+4)=wrap64 (i2+4):=by rw[IntKind.wrap_i64];unfold wrap64;omega
 clear hf h
 go_enter Tryz.func104,Tryz.ntmps104
 go_wp2_with fail
 refine(Z2o W0 w x g N st xs i0 i1 i2 i3 i4 i5 i6 i7 i8 i9 i10 i11 bt b rc rv td (wrap64 (i2+4)) v H.out HV.out s1).mono ?_
 rintro e w2 ⟨rfl,h2,k2⟩
 have f1:=Z06 h2.blk 1
 obtain⟨⟨d0,d1,d2,d3,d4,d5,d6,d7,d8,d9,d10,d11,d12,d13,d14,d15,d16⟩,-,dx⟩:=h2.open
 have H2:=hi2 h2 k2
 clear h2 k2 c0 c1 c2 c3 c4 c5 c6 c7 c8 c9 c10 c11 c12 c13 c14 c15 c16
 go_wp2_with fail
 refine(Z7l v _).mono ?_
 rintro e w3 ⟨rfl,hb3⟩
 have h3:=H2.out.1.below hb3
 have f14:=Z06 h3.blk 14
 have f15:=Z06 h3.blk 15
 have f16:=Z06 h3.blk 16
 have f4:=Z06 h3.blk 4
 replace f1:=Z06 h3.blk 1
 clear d0 d1 d2 d3 d4 d5 d6 d7 d8 d9 d10 d11 d12 d13 d14 d15 d16
 obtain⟨⟨d0,d1,d2,d3,d4,d5,d6,d7,d8,d9,d10,d11,d12,d13,d14,d15,d16⟩,-,dx⟩:=h3.open
 have H3:=hi2 h3 (Z0b (F:=FX b g x) hb3)
 clear h3 hb3
 go_wp2
 go_end0
 exact⟨rfl,(((H3.out.1.setR _ _).setT true).set4 0).set1 0,(((((H2.out.2.trans H3.out.2).trans (kx _ _ _ _ _ _)).trans (kx _ _ _ _ _ _)).trans (kx _ _ _ _ _ _)).trans (kx _ _ _ _ _ _)).trans (kx _ _ _ _ _ _)⟩
end
end
end Go.Proofs.YtihljjgmkaeohaaGreat
