/- TopBounds, part 1 of 32: printed by a program from the bench texts, white space taken out, own names made short. -/
import Derived.BigQuiet
import Derived.Deep.QuietTactic
import Derived.Deep.RegionHeld3
import Derived.Handy
import Derived.KernelRfl
import Derived.Lib.Hide
import Derived.Maps.AppendAt
import Derived.Test.YtihljjgmkaeohaaGreatProg
import Derived.WalkKit
import Derived.WalkLawsBesides
import Derived.WalkSpells
set_option linter.all false
set_option maxHeartbeats 16000000
set_option maxRecDepth 100000
namespace Go.Proofs.YtihljjgmkaeohaaGreat
theorem Hd {p : Prop} (h : p) : RowKit.Hid p := Lib.hid h
theorem Gl {α : Type} {xs : Array α} {i : Nat} {a : α} (h : xs[i]? = some a) : i < xs.size := (Array.getElem?_eq_some_iff.1 h).1
theorem hi2 {p0 p1 : Prop}(h0:p0)(h1:p1) : RowKit.Hid (p0/\p1) := Hd ⟨h0,h1⟩
theorem hi3 {p0 p1 p2 : Prop}(h0:p0)(h1:p1)(h2:p2) : RowKit.Hid (p0/\p1/\p2) := Hd ⟨h0,h1,h2⟩
theorem hi4 {p0 p1 p2 p3 : Prop}(h0:p0)(h1:p1)(h2:p2)(h3:p3) : RowKit.Hid (p0/\p1/\p2/\p3) := Hd ⟨h0,h1,h2,h3⟩
theorem hi5 {p0 p1 p2 p3 p4 : Prop}(h0:p0)(h1:p1)(h2:p2)(h3:p3)(h4:p4) : RowKit.Hid (p0/\p1/\p2/\p3/\p4) := Hd ⟨h0,h1,h2,h3,h4⟩
theorem hi6 {p0 p1 p2 p3 p4 p5 : Prop}(h0:p0)(h1:p1)(h2:p2)(h3:p3)(h4:p4)(h5:p5) : RowKit.Hid (p0/\p1/\p2/\p3/\p4/\p5) := Hd ⟨h0,h1,h2,h3,h4,h5⟩
theorem hi7 {p0 p1 p2 p3 p4 p5 p6 : Prop}(h0:p0)(h1:p1)(h2:p2)(h3:p3)(h4:p4)(h5:p5)(h6:p6) : RowKit.Hid (p0/\p1/\p2/\p3/\p4/\p5/\p6) := Hd ⟨h0,h1,h2,h3,h4,h5,h6⟩
theorem hi8 {p0 p1 p2 p3 p4 p5 p6 p7 : Prop}(h0:p0)(h1:p1)(h2:p2)(h3:p3)(h4:p4)(h5:p5)(h6:p6)(h7:p7) : RowKit.Hid (p0/\p1/\p2/\p3/\p4/\p5/\p6/\p7) := Hd ⟨h0,h1,h2,h3,h4,h5,h6,h7⟩
theorem hi9 {p0 p1 p2 p3 p4 p5 p6 p7 p8 : Prop}(h0:p0)(h1:p1)(h2:p2)(h3:p3)(h4:p4)(h5:p5)(h6:p6)(h7:p7)(h8:p8) : RowKit.Hid (p0/\p1/\p2/\p3/\p4/\p5/\p6/\p7/\p8) := Hd ⟨h0,h1,h2,h3,h4,h5,h6,h7,h8⟩
theorem hi10 {p0 p1 p2 p3 p4 p5 p6 p7 p8 p9 : Prop}(h0:p0)(h1:p1)(h2:p2)(h3:p3)(h4:p4)(h5:p5)(h6:p6)(h7:p7)(h8:p8)(h9:p9) : RowKit.Hid (p0/\p1/\p2/\p3/\p4/\p5/\p6/\p7/\p8/\p9) := Hd ⟨h0,h1,h2,h3,h4,h5,h6,h7,h8,h9⟩
theorem hi11 {p0 p1 p2 p3 p4 p5 p6 p7 p8 p9 p10 : Prop}(h0:p0)(h1:p1)(h2:p2)(h3:p3)(h4:p4)(h5:p5)(h6:p6)(h7:p7)(h8:p8)(h9:p9)(h10:p10) : RowKit.Hid (p0/\p1/\p2/\p3/\p4/\p5/\p6/\p7/\p8/\p9/\p10) := Hd ⟨h0,h1,h2,h3,h4,h5,h6,h7,h8,h9,h10⟩
theorem hi12 {p0 p1 p2 p3 p4 p5 p6 p7 p8 p9 p10 p11 : Prop}(h0:p0)(h1:p1)(h2:p2)(h3:p3)(h4:p4)(h5:p5)(h6:p6)(h7:p7)(h8:p8)(h9:p9)(h10:p10)(h11:p11) : RowKit.Hid (p0/\p1/\p2/\p3/\p4/\p5/\p6/\p7/\p8/\p9/\p10/\p11) := Hd ⟨h0,h1,h2,h3,h4,h5,h6,h7,h8,h9,h10,h11⟩
open Go.RowKit in
abbrev Lgd := @List.getD_eq_getElem?_getD
open Go.RowKit in
abbrev Lge := @List.getElem?_eq_getElem
open Go.RowKit in
abbrev Nlt := @Nat.lt_of_lt_of_le
open Go.RowKit in
abbrev Blt := @World.block_lt_of_cell?
open Go.RowKit in
abbrev Lla := @List.length_append
open Go.RowKit in
abbrev Llr := @List.length_replicate
open Go.RowKit in
abbrev Lnl := @List.eq_nil_of_length_eq_zero
open Go.RowKit in
abbrev I6n := @IntWalk.i64_in
open Go.RowKit in
abbrev Lls := @List.length_set
open Go.RowKit in
abbrev Llc := @List.length_cons
open Go.RowKit in
abbrev Brf := @Below.refl
open Go.RowKit in
abbrev Llm := @List.length_map
open Go.RowKit in
abbrev Lel := @List.getElem?_append_left
open Go.RowKit in
abbrev Ler := @List.getElem?_append_right
open Go.RowKit in
abbrev Han := @heap_alloc_new
section
open Go.RowKit
theorem Zay {k:IntKind} {a b:Int} (h:a=b):Ending.returned (.int k a)= .returned (.int k b):=by rw[h]
theorem Zod {W w1:World} (hb:Below W.heap.size W w1):(∀b o,b<W.heap.size->w1.cell? ⟨b,o,none⟩=W.cell? ⟨b,o,none⟩)/\(∀b o,b<W.heap.size->w1.frozen? ⟨b,o,none⟩=W.frozen? ⟨b,o,none⟩):=
 ⟨fun b o h=>hb.cell (p:=⟨b,o,none⟩) h,fun b o h=>hb.frozen (p:=⟨b,o,none⟩) h⟩
theorem Z03 {w:World} {base e size:Nat} {v:Value} {n:Nat} {xs:List Value} (h:w.ownsRow base e size v n xs):∃ao cap,v= .slice ao n cap:=by
 rcases h.2 with⟨rfl,h0⟩|⟨g,cap,cur,rfl,_⟩
 ·exact⟨none,0,by rw[h0]⟩
 ·exact⟨_,cap,rfl⟩
end
end Go.Proofs.YtihljjgmkaeohaaGreat
namespace Go
section
open Go.RowKit
structure Z01 (S:Nat->Prop) (w w':World):Prop where
 os:w'.os=w.os
 tape:w'.tape=w.tape
 output:w'.output=w.output
 size:w.heap.size<=w'.heap.size
 block:∀k,k<w.heap.size->¬S k->w'.heap[k]?=w.heap[k]?
theorem Z01.refl (S:Nat->Prop) (w:World):Z01 S w w:=⟨rfl,rfl,rfl,Nat.le_refl _,fun _ _ _=>rfl⟩
theorem Z01.trans {S:Nat->Prop} {a b c:World} (h:Z01 S a b) (k:Z01 S b c):Z01 S a c:=
 ⟨k.os.trans h.os,k.tape.trans h.tape,k.output.trans h.output,Nat.le_trans h.size k.size,fun i hi hs=>(k.block i (Nat.lt_of_lt_of_le hi h.size) hs).trans (h.block i hi hs)⟩
theorem Z01.mono {S T:Nat->Prop} {a b:World} (h:Z01 S a b) (hs:∀k,k<a.heap.size->S k->T k):Z01 T a b:=
 ⟨h.os,h.tape,h.output,h.size,fun i hi ht=>h.block i hi (fun hsi=>ht (hs i hi hsi))⟩
theorem Z01.step {S T:Nat->Prop} {a b c:World} (h:Z01 S a b) (k:Z01 T b c) (hs:∀i,i<a.heap.size->T i->S i):Z01 S a c:=
 ⟨k.os.trans h.os,k.tape.trans h.tape,k.output.trans h.output,Nat.le_trans h.size k.size,fun i hi hn=>(k.block i (Nat.lt_of_lt_of_le hi h.size) (fun ht=>hn (hs i hi ht))).trans (h.block i hi hn)⟩
theorem Z01.of_below {S:Nat->Prop} {B:Nat} {w w':World} (h:Below B w w') (hB:∀k,B<=k->k<w.heap.size->S k):Z01 S w w':=
 ⟨h.os,h.tape,h.output,h.size,fun k hk hs=>h.block k (by rcases Nat.lt_or_ge k B with hb|hb;exact hb;exact absurd (hB k hb hk) hs)⟩
theorem Z01.below {S:Nat->Prop} {B:Nat} {w w':World} (h:Z01 S w w') (hB:B<=w.heap.size) (hs:∀k,k<B->¬S k):Below B w w':=
 ⟨h.os,h.tape,h.output,h.size,fun k hk=>h.block k (by omega) (hs k hk)⟩
theorem Z01.alloc {S:Nat->Prop} {a w:World} (h:Z01 S a w) (o:Obj):Z01 S a (w.alloc o):=
 h.trans ⟨rfl,rfl,rfl,by simp,fun k hk _=>Below.heap_alloc _ _ _ (by omega)⟩
theorem Z01.drew {S:Nat->Prop} {a w:World} (h:Z01 S a w):Z01 S a w.drew:=⟨h.os,h.tape,h.output,h.size,h.block⟩
theorem Z01.setCell {S:Nat->Prop} {a w:World} (h:Z01 S a w) {p:Addr} (hp:p.block<a.heap.size->S p.block) (u:Value):Z01 S a (w.setCell p u):=
 h.step (T:=fun k=>k=p.block) ⟨rfl,rfl,rfl,by simp[World.setCell],fun k hk hn=>Below.heap_setCell _ _ _ _ hn⟩ (fun i hi e=>by subst e;exact hp hi)
theorem Z01.grown {S:Nat->Prop} {a w w':World} {row:Option Nat} (h:Z01 S a w) (hg:w.grownBy w' row) (hr:∀k,row=some k->k<a.heap.size->S k):Z01 S a w':=
 h.step (T:=fun k=>row=some k) ⟨hg.os,hg.tape,hg.output,hg.size,fun k hk hn=>hg.block k hk (fun e=>hn e.symm)⟩ (fun i hi e=>hr i e hi)
theorem Z01.cell {S:Nat->Prop} {w w':World} (h:Z01 S w w') {p:Addr} (hp:p.block<w.heap.size) (hs:¬S p.block):w'.cell? p=w.cell? p:=World.cell?_of_block (w:=w) (h.block p.block hp hs)
theorem Z01.frozen {S:Nat->Prop} {w w':World} (h:Z01 S w w') {p:Addr} (hp:p.block<w.heap.size) (hs:¬S p.block):w'.frozen? p=w.frozen? p:=World.frozen?_of_block (w:=w) (h.block p.block hp hs)
theorem Z04 {S:Nat->Prop} {w w':World} {base:Nat} {e:TypeId} {size:Nat} {v:Value} {n:Nat} {xs:List Value} (h:w.ownsRow base e size v n xs) (hk:Z01 S w w') (hs:∀g,v.ownBlock=some g->¬S g):w'.ownsRow base e size v n xs:=by
 refine⟨h.1,?_⟩
 rcases h.2 with hn|⟨g,cap,cur,rfl,hb,hgg,rest⟩
 ·exact .inl hn
 ·refine .inr ⟨g,cap,cur,rfl,hb,?_,rest⟩
  rw[hk.block g (Array.getElem?_eq_some_iff.1 hgg).1 (hs g rfl)]
  exact hgg
section
variable {P:Program} (w:World)
theorem Z3k (base base':Nat) (t ty e:TypeId) (i:TypeInfo) (z:Value) (size bytes:Nat) (ht:P.underlying t=some (.slice e)) (hi:P.info? e=some i) (hz:i.zero=some z)
 (hsize:i.size=size) (hby:i.bytes=bytes) (hzs:z.cells.size=size) (hsz:0<size)
 (v:Value) (n:Nat) (xs:List Value) (hown:w.ownsRow base e size v n xs)
 (u:Value) (m:Nat) (ys:List Value) (hu:w.ownsRow base' e size u m ys) (h1:∀u ∈ ys,u.oneCell'=true)
 (h63:n+m<=maxLen) (hbytes:(n+m)*bytes<=140737488355328) (hbase:base<=w.heap.size):
 ∃v' w',(Builtin.append_ #[t,t] ty #[v,u]).run P w= .ok v' w'/\w'.ownsRow base e size v' (n+m) (xs++ys)/\w.grownBy w' v.ownBlock/\
  (v'= .slice none 0 0↔v= .slice none 0 0/\m=0)/\(v'.ownBlock=v.ownBlock\/v'.ownBlock=some w.heap.size):=by
 rcases hu.2 with⟨rfl,rfl⟩|⟨g,cap,cur,rfl,hbg,hg,hnc,hcm,hcs,htake⟩
 ·have hy:ys= []:=List.eq_nil_of_length_eq_zero (by simpa using hu.1)
  subst hy
  refine⟨v,w,?_,by simpa using hown,⟨rfl,rfl,rfl,Nat.le_refl _,fun _ _ _=>rfl⟩,by simp,.inl rfl⟩
  rcases hown.2 with⟨rfl,rfl⟩|⟨g,cap,cur,rfl,hbg,hg,hnc,hcm,hcs,htake⟩
  ·simp[Builtin.append_,run_underlying ht,sizeOf,typeInfo,hi,Builtin.lenOf,Builtin.firstCells]
  ·simp[Builtin.append_,run_underlying ht,sizeOf,typeInfo,hi,Builtin.lenOf,Builtin.firstCells,hnc,storeCells]
 ·exact run_append_own_at w base t ty e i z size bytes ht hi hz hsize hby hzs hsz v n xs hown ⟨g,0,none⟩ m cap ys hu.1 (hu.cells (g:=g) rfl) h1 h63 hbytes hbase
theorem Z0c {ops:Array Oper} {rest:List Oper} {o:Oper} {a:Act} {Q:Exit->Act->World->Prop} (hgd:o.guard=none) (s x:Operand) (t:TypeId)
 (ho:o.op= .call {callee:=.builtin .append,args:= #[s,x],argTypes:= #[t,t]})
 (base base':Nat) (e:TypeId) (i:TypeInfo) (z:Value) (size bytes:Nat) (ht:P.underlying t=some (.slice e)) (hi:P.info? e=some i) (hz:i.zero=some z)
 (hsize:i.size=size) (hby:i.bytes=bytes) (hzs:z.cells.size=size) (hsz:0<size)
 (v:Value) (n:Nat) (xs:List Value) (hs:a.eval s=v) (hown:w.ownsRow base e size v n xs)
 (u:Value) (m:Nat) (ys:List Value) (hx:a.eval x=u) (hu:w.ownsRow base' e size u m ys) (h1:∀u ∈ ys,u.oneCell'=true)
 (h63:n+m<=maxLen) (hbytes:(n+m)*bytes<=140737488355328) (hbase:base<=w.heap.size)
 (h:∀v' w',w'.ownsRow base e size v' (n+m) (xs++ys)->w.grownBy w' v.ownBlock->(v'= .slice none 0 0↔v= .slice none 0 0/\m=0)->(v'.ownBlock=v.ownBlock\/v'.ownBlock=some w.heap.size)->wpList P ops Q rest (a.put o.dst v') w'):
 wpList P ops Q (o::rest) a w:=by
 refine wpList_plain hgd fun K hK=>?_
 obtain⟨v',w',hr,h2,h3,h4,h5⟩:=Z3k (P:=P) w base base' t o.type e i z size bytes ht hi hz hsize hby hzs hsz v n xs hown u m ys hu h1 h63 hbytes hbase
 unfold Oper.wp execOp
 simp only[ho,resolve,invoke,builtin,Sem.run_bind,Sem.run_pure,Result.andThen_ok,List.map_toArray,List.map_cons,List.map_nil,hs,hx,hr]
 exact hK _ _ (h v' w' h2 h3 h4 h5)
theorem Z80 (z:Value) (m:Nat):Builtin.zeroCells #[z] m=(List.replicate m z).toArray:=by
 apply Array.ext
 ·simp[Builtin.zeroCells]
 ·intro j h1 h2
  simp[Builtin.zeroCells,Nat.mod_one]
theorem Z5s (base:Nat) (t u ty e:TypeId) (i:TypeInfo) (z:Value) (bytes:Nat) (ht:P.underlying t=some (.slice e)) (hu:P.underlying u=some (.int .i64)) (hi:P.info? e=some i) (hz:i.zero=some z)
 (hsize:i.size=1) (hby:i.bytes=bytes) (hzs:z.cells= #[z]) (hz1:z.oneCell'=true) (hb8:bytes<=1024)
 (v:Value) (n:Nat) (xs:List Value) (hown:w.ownsRow base e 1 v n xs) (m:Nat) (h63:n+m<=1000000) (hbase:base<=w.heap.size):
 ∃v' w',(Builtin.append_ #[t,u] ty #[v,.int .i64 (m:Int)]).run P w= .ok v' w'/\w'.ownsRow base e 1 v' (n+m) (xs++List.replicate m z)/\w.grownBy w' v.ownBlock/\(v'.ownBlock=v.ownBlock\/v'.ownBlock=some w.heap.size):=by
 have hlen:(xs++List.replicate m z).length=(n+m)*1:=by rw[List.length_append,hown.1,List.length_replicate];omega
 have hw:IntKind.i64.wrap (m:Int)=(m:Int):=IntWalk.i64_in _ (by omega)
 have hw0:IntKind.i64.wrap 0=0:=rfl
 have hm0:¬((m:Int)<0):=by omega
 have hmb:¬(281474976710656<(m:Int)*(bytes:Int)):=by
  have:(m:Int)*(bytes:Int)<=1000000*1024:=Int.mul_le_mul (by omega) (by omega) (by omega) (by omega)
  omega
 have hzero:∀k:Nat,Builtin.zeroCells z.cells k=(List.replicate k z).toArray:=fun k=>by rw[hzs];exact Z80 z k
 have hbb:(n+m)*bytes<=140737488355328:=by
  have:(n+m)*bytes<=1000000*1024:=Nat.mul_le_mul h63 hb8
  omega
 subst hby
 have grown:∀(old:Nat),old<n+m->∀(row:Option Nat),
  (w.drew.alloc (.cells (xs.toArray++(List.replicate m z).toArray++(List.replicate (grownCap w (n+m) old e-(n+m)) z).toArray) e)).ownsRow base e 1
    (.slice (some ⟨w.heap.size,0,none⟩) (n+m) (grownCap w (n+m) old e)) (n+m) (xs++List.replicate m z)/\
  w.grownBy (w.drew.alloc (.cells (xs.toArray++(List.replicate m z).toArray++(List.replicate (grownCap w (n+m) old e-(n+m)) z).toArray) e)) row:=by
  intro old ho row
  have hge:=grownCap_ge w (n+m) old e
  have hcm:grownCap w (n+m) old e<=maxLen:=grownCap_le_maxLen w (n+m) old e (by unfold maxLen;omega)
  refine⟨⟨hlen,.inr ⟨w.heap.size,_,_,rfl,hbase,heap_alloc_new w.drew _,hge,hcm,?_,?_⟩⟩,⟨rfl,rfl,rfl,by simp,fun k hk _=>Below.heap_alloc w.drew _ k hk⟩⟩
  ·have h0:=hown.1
   simp only[Array.size_append,List.size_toArray,List.length_replicate]
   omega
  ·simp only[Array.toList_append,List.append_assoc]
   rw[<-List.append_assoc,<-hlen]
   exact List.take_left
 rcases hown.2 with⟨rfl,rfl⟩|⟨g,cap,cur,rfl,hbg,hg,hnc,hcm,hcs,htake⟩
 ·have hx:xs= []:=List.eq_nil_of_length_eq_zero (by simpa using hown.1)
  subst hx
  by_cases hm:m=0
  ·subst hm
   refine⟨.slice none 0 0,w,?_,World.ownsRow_nil w base e 1,⟨rfl,rfl,rfl,Nat.le_refl _,fun _ _ _=>rfl⟩,Or.inl rfl⟩
   simp[Builtin.append_,run_underlying ht,run_underlying hu,sizeOf,typeInfo,hi,asInt,asIntOf,hw0,hw]
  ·have hgr:=grown 0 (by omega) (Value.ownBlock (.slice none 0 0))
   have hfit:=growslice_fits (old:=0) (need:=0+m) (bytes:=i.bytes) (by omega) hbb
   have h1:¬(281474976710656<Builtin.nextslicecap m 0*i.bytes):=by rw[Nat.zero_add]at hfit;omega
   have h2:¬(9223372036854775807<(m:Int)):=by omega
   simp only[Nat.zero_add,List.nil_append]at hgr |-
   refine⟨_,_,?_,hgr.1,hgr.2,Or.inr rfl⟩
   simp[Builtin.append_,run_underlying ht,run_underlying hu,sizeOf,typeInfo,zeroValue,hi,hz,hsize,asInt,asIntOf,hw0,hw,hm0,hmb,hm,h1,h2,hzero,Question.forced,run_firstCells_none,newRow,grownCap]
 ·by_cases hroom:n+m<=cap
  ·have hfit:n*1+(List.replicate m z).length<=cur.size:=by rw[hcs,List.length_replicate];omega
   have hst:=run_storeCells_at P g (n*1) e (List.replicate m z) 0 cur w hg (by simpa using hfit) (fun u hu=>by rw[List.eq_of_mem_replicate hu];exact hz1)
   simp only[Nat.add_zero]at hst
   refine⟨.slice (some ⟨g,0,none⟩) (n+m) cap,w.setRow g (cur.toList.take (n*1)++List.replicate m z++cur.toList.drop (n*1+(List.replicate m z).length)).toArray,?_,
    ⟨hlen,.inr ⟨g,cap,_,rfl,hbg,setRow_heap w g cur _ e _ hg,hroom,hcm,?_,?_⟩⟩,⟨rfl,rfl,rfl,by simp,fun k _ hk=>setRow_other w g k _ (fun e=>hk (by simp[Value.ownBlock,e]))⟩,Or.inl rfl⟩
   ·by_cases hm:m=0
    ·subst hm
     simp only[Nat.mul_one,List.replicate_zero,List.append_nil,List.length_nil,Nat.add_zero,List.take_append_drop,Array.toArray_toList]at hst |-
     rw[setRow_self w g cur e (0,0) hg]
     simp[Builtin.append_,run_underlying ht,run_underlying hu,sizeOf,typeInfo,hi,asInt,asIntOf,hw0,hw,hnc,storeCells]
    ·simp only[Nat.mul_one,List.length_replicate]at hst |-
     simp[Builtin.append_,run_underlying ht,run_underlying hu,sizeOf,typeInfo,zeroValue,hi,hz,hsize,asInt,asIntOf,hw0,hw,hm0,hmb,hm,hroom,hzero,Addr.add_lit,hst]
   ·simp only[List.size_toArray,List.length_append,List.length_take,List.length_drop,Array.length_toList,List.length_replicate]
    rw[List.length_replicate]at hfit
    omega
   ·rw[htake,<-hlen]
    exact List.take_left
  ·have holds:∀j u,xs[j]?=some u->w.cell? ((⟨g,0,none⟩:Addr).add j)=some u:=hown.cells (g:=g) rfl
   have hgr:=grown cap (by omega) (Value.ownBlock (.slice (some ⟨g,0,none⟩) n cap))
   have hm:m≠0:=by omega
   have hfit:=growslice_fits (old:=cap) (need:=n+m) (bytes:=i.bytes) (by omega) hbb
   have h1:¬(281474976710656<Builtin.nextslicecap (n+m) cap*i.bytes):=by omega
   have h2:¬(9223372036854775807<((n:Int)+(m:Int))):=by omega
   have hfo:=run_firstCells_some (P:=P) w.drew 1 n ⟨g,0,none⟩ n cap xs hown.1 (by simpa using holds)
   refine⟨_,_,?_,hgr.1,hgr.2,Or.inr rfl⟩
   simp[Builtin.append_,run_underlying ht,run_underlying hu,sizeOf,typeInfo,zeroValue,hi,hz,hsize,asInt,asIntOf,hw0,hw,hm0,hmb,hm,hroom,h1,h2,hzero,Question.forced,hfo,newRow,grownCap]
theorem Z4c {ops:Array Oper} {rest:List Oper} {o:Oper} {a:Act} {Q:Exit->Act->World->Prop} (hgd:o.guard=none) (s x:Operand) (t u:TypeId)
 (ho:o.op= .call {callee:=.builtin .append,args:= #[s,x],argTypes:= #[t,u]})
 (base:Nat) (e:TypeId) (i:TypeInfo) (z:Value) (bytes:Nat) (ht:P.underlying t=some (.slice e)) (hu:P.underlying u=some (.int .i64)) (hi:P.info? e=some i) (hz:i.zero=some z)
 (hsize:i.size=1) (hby:i.bytes=bytes) (hzs:z.cells= #[z]) (hz1:z.oneCell'=true) (hb8:bytes<=1024)
 (v:Value) (n:Nat) (xs:List Value) (hs:a.eval s=v) (hown:w.ownsRow base e 1 v n xs) (m:Nat) (k:Int) (hx:a.eval x= .int .i64 k) (hk:k=(m:Int)) (h63:n+m<=1000000) (hbase:base<=w.heap.size)
 (h:∀v' w',w'.ownsRow base e 1 v' (n+m) (xs++List.replicate m z)->w.grownBy w' v.ownBlock->(v'.ownBlock=v.ownBlock\/v'.ownBlock=some w.heap.size)->wpList P ops Q rest (a.put o.dst v') w'):
 wpList P ops Q (o::rest) a w:=by
 subst hk
 refine wpList_plain hgd fun K hK=>?_
 obtain⟨v',w',hr,h2,h3,h4⟩:=Z5s (P:=P) w base t u o.type e i z bytes ht hu hi hz hsize hby hzs hz1 hb8 v n xs hown m h63 hbase
 unfold Oper.wp execOp
 simp only[ho,resolve,invoke,builtin,Sem.run_bind,Sem.run_pure,Result.andThen_ok,List.map_toArray,List.map_cons,List.map_nil,hs,hx,hr]
 exact hK _ _ (h v' w' h2 h3 h4)
end
end
end Go
namespace Go.Proofs.YtihljjgmkaeohaaGreat
section
open Go.RowKit
def Row (w:World) (v:Value) (xs:List Int):Prop:=w.ownsRow 0 2 1 v xs.length (xs.map (Value.int .i64))
def Z10 (w:World) (b:Nat) (g:Option Nat) (n:Int) (xs:List Int) (st:Int):Prop:=
 ∃v,w.heap[b]?=some (.cells #[.int .i64 n,v,.int .i64 st] 100 (0,0))/\v.ownBlock=g/\Row w v xs
theorem Row.kept {S:Nat->Prop} {w w':World} {v:Value} {xs:List Int} (h:Row w v xs) (hk:Z01 S w w') (hs:∀g,v.ownBlock=some g->¬S g):Row w' v xs:=Z04 h hk hs
section
variable {w:World} {v:Value} {xs:List Int}
theorem Row.lt (h:Row w v xs) {g:Nat} (hg:v.ownBlock=some g):g<w.heap.size:=(World.ownsRow.lt h g hg).2
theorem Row.alloc (h:Row w v xs) (o:Obj):Row (w.alloc o) v xs:=World.ownsRow.alloc h o
end
theorem Row.nil (w:World):Row w (.slice none 0 0) []:=World.ownsRow_nil w 0 2 1
theorem Row.below {w w':World} {v:Value} {xs:List Int} (h:Row w v xs) (hb:Below w.heap.size w w'):Row w' v xs:=
 h.kept (Z01.of_below (S:=fun _=>False) hb (fun k h1 h2=>by omega)) (fun _ _ h=>h)
theorem Row.of {w:World} {base:Nat} {v:Value} {n:Nat} {ys:List Value} {xs:List Int} (h:w.ownsRow base 2 1 v n ys) (hn:n=xs.length) (hy:ys=xs.map (Value.int .i64)):Row w v xs:=by
 subst hn;subst hy
 refine⟨h.1,?_⟩
 rcases h.2 with h2|⟨g,cap,cur,h2,_,r⟩
 ·exact .inl h2
 ·exact .inr ⟨g,cap,cur,h2,Nat.zero_le _,r⟩
section
variable {w:World} {v:Value} {xs:List Int}
theorem Row.shape (h:Row w v xs):∃ao cap,v= .slice ao xs.length cap:=by
 rcases h.2 with⟨rfl,h0⟩|⟨g,cap,cur,rfl,_⟩
 ·exact⟨none,0,by rw[h0]⟩
 ·exact⟨_,cap,rfl⟩
theorem Row.pos (h:Row w v xs) (hp:0<xs.length):∃g cap cur,v= .slice (some ⟨g,0,none⟩) xs.length cap/\w.heap[g]?=some (.cells cur 2 (0,0))/\cur.size=cap/\xs.length<=cap/\
 (∀j,j<xs.length->w.cell? ⟨g,j,none⟩=some (.int .i64 (xs.getD j 0)))/\(∀j,w.frozen? ⟨g,j,none⟩=false):=by
 rcases h.2 with⟨rfl,h0⟩|⟨g,cap,cur,rfl,_,hg,hn,_,hc,ht⟩
 ·omega
 ·refine⟨g,cap,cur,rfl,hg,by simpa using hc,hn,fun j hj=>?_,fun j=>by simp[World.frozen?,hg]⟩
  have h1:(xs.map (Value.int .i64))[j]?=some (.int .i64 (xs.getD j 0)):=by
   simp[List.getElem?_map,Lge hj]
  have h2:=World.ownsRow.cells h (g:=g) rfl j _ h1
  have ha:(⟨g,0,none⟩:Addr).add j=⟨g,j,none⟩:=by unfold Addr.add;split<;>simp_all
  rw[ha]at h2
  exact h2
end
theorem Z10.lt {w:World} {b:Nat} {g:Option Nat} {n:Int} {xs:List Int} {st:Int} (h:Z10 w b g n xs st):b<w.heap.size:=by
 obtain⟨v,hb,_⟩:=h
 exact(Gl hb)
theorem Z10.row_lt {w:World} {b k:Nat} {n:Int} {xs:List Int} {st:Int} (h:Z10 w b (some k) n xs st):k<w.heap.size:=by
 obtain⟨v,hb,hg,hr⟩:=h
 exact hr.lt hg
theorem Z10.ne {w:World} {b:Nat} {n:Int} {xs:List Int} {st:Int} (h:Z10 w b (some b) n xs st):False:=by
 obtain⟨v,hb,hg,hr⟩:=h
 rcases hr.2 with⟨rfl,_⟩|⟨g',cap,cur,rfl,_,hgg,_⟩
 ·cases hg
 ·simp only[Value.ownBlock,Option.some.injEq]at hg
  subst hg
  rw[hb]at hgg
  simp at hgg
theorem Z10.kept {S:Nat->Prop} {w w':World} {b:Nat} {g:Option Nat} {n:Int} {xs:List Int} {st:Int} (h:Z10 w b g n xs st) (hk:Z01 S w w') (hb:¬S b) (hg:∀k,g=some k->¬S k):Z10 w' b g n xs st:=by
 have hl:=h.lt
 obtain⟨v,h1,h2,h3⟩:=h
 exact⟨v,(hk.block b hl hb).trans h1,h2,h3.kept hk (fun k e=>hg k (h2 ▸ e))⟩
theorem Z10.below {w w':World} {b:Nat} {g:Option Nat} {n:Int} {xs:List Int} {st:Int} (h:Z10 w b g n xs st) (hb:Below w.heap.size w w'):Z10 w' b g n xs st:=
 h.kept (Z01.of_below (S:=fun _=>False) hb (fun k h1 h2=>by omega)) (fun h=>h) (fun _ _ h=>h)
theorem Z10.alloc {w:World} {b:Nat} {g:Option Nat} {n:Int} {xs:List Int} {st:Int} (h:Z10 w b g n xs st) (o:Obj):Z10 (w.alloc o) b g n xs st:=
 h.below ((Brf _ _).alloc (Nat.le_refl _) o)
theorem Z00 {w:World} {b:Nat} {cs:Array Value} {t:TypeId} {fr:Nat×Nat} (h:w.heap[b]?=some (.cells cs t fr)) (j:Nat) (u:Value):(w.setCell ⟨b,j,none⟩ u).heap[b]?=some (.cells (cs.setIfInBounds j u) t fr):=by
 have hlt:=(Gl h)
 have hv:=(Array.getElem?_eq_some_iff.1 h).2
 simp only[World.setCell]
 rw[Array.getElem?_eq_getElem (by simpa using hlt),Array.getElem_modify]
 simp[hv]
theorem Z02 (w:World) (a:Addr) (u:Value):Z01 (fun k=>k=a.block) w (w.setCell a u):=(Z01.refl (fun k=>k=a.block) w).setCell (p:=a) (fun _=>rfl) u
theorem Z10.setSteps {w:World} {b:Nat} {g:Option Nat} {n:Int} {xs:List Int} {st:Int} (h:Z10 w b g n xs st) (st':Int):Z10 (w.setCell ⟨b,2,none⟩ (.int .i64 st')) b g n xs st':=by
 have hne:∀k,g=some k->k≠b:=fun k e e'=>by subst e;subst e';exact h.ne
 obtain⟨v,h1,h2,h3⟩:=h
 refine⟨v,by rw[Z00 h1];rfl,h2,h3.kept (Z02 w _ _) (fun k e=>hne k (h2 ▸ e))⟩
theorem Row.set {w:World} {v:Value} {xs:List Int} {k:Nat} (h:Row w v xs) (hk:v.ownBlock=some k) (j:Nat) (hj:j<xs.length) (x:Int):Row (w.setCell ⟨k,j,none⟩ (.int .i64 x)) v (xs.set j x):=by
 rcases h.2 with⟨rfl,_⟩|⟨g,cap,cur,rfl,hb,hg,hn,hm,hc,ht⟩
 ·cases hk
 ·simp only[Value.ownBlock,Option.some.injEq]at hk
  subst hk
  refine⟨by simp,.inr ⟨g,cap,_,by simp,hb,Z00 hg j _,by simpa using hn,hm,by simpa using hc,?_⟩⟩
  have hs:j<cur.size:=by omega
  simp only[Lls,Nat.mul_one,Array.toList_setIfInBounds,List.map_set]at ht |-
  rw[List.take_set,ht]
theorem Z10.setCell {w:World} {b k:Nat} {n:Int} {xs:List Int} {st:Int} (h:Z10 w b (some k) n xs st) (j:Nat) (hj:j<xs.length) (x:Int):Z10 (w.setCell ⟨k,j,none⟩ (.int .i64 x)) b (some k) n (xs.set j x) st:=by
 have hne:b≠k:=fun e=>by subst e;exact h.ne
 have hl:=h.lt
 obtain⟨v,h1,h2,h3⟩:=h
 exact⟨v,((Z02 w _ _).block b hl hne).trans h1,h2,h3.set h2 j hj x⟩
section
variable {w:World} {b:Nat} {g:Option Nat} {n:Int} {xs:List Int} {st:Int}
theorem Z10.open (h:Z10 w b g n xs st):∃ao cap,w.heap[b]?=some (.cells #[.int .i64 n,.slice ao xs.length cap,.int .i64 st] 100 (0,0))/\(Value.slice ao xs.length cap).ownBlock=g/\Row w (.slice ao xs.length cap) xs:=by
 obtain⟨v,h1,h2,h3⟩:=h
 obtain⟨ao,cap,rfl⟩:=h3.shape
 exact⟨ao,cap,h1,h2,h3⟩
theorem Z10.open_pos (h:Z10 w b g n xs st) (hp:0<xs.length):∃k cap,g=some k/\w.heap[b]?=some (.cells #[.int .i64 n,.slice (some ⟨k,0,none⟩) xs.length cap,.int .i64 st] 100 (0,0))/\
 k<w.heap.size/\b≠k/\(∀j,j<xs.length->w.cell? ⟨k,j,none⟩=some (.int .i64 (xs.getD j 0)))/\(∀j,w.frozen? ⟨k,j,none⟩=false):=by
 have h0:=h
 obtain⟨v,h1,h2,h3⟩:=h
 obtain⟨k,cap,cur,rfl,hg,_,_,hc,hf⟩:=h3.pos hp
 simp only[Value.ownBlock]at h2
 subst h2
 exact⟨k,cap,rfl,h1,(Gl hg),fun e=>by subst e;exact h0.ne,hc,hf⟩
end
theorem Zd0 {w:World} {b:Nat} {x y z:Value} {t:TypeId} (h:w.heap[b]?=some (.cells #[x,y,z] t (0,0))):w.cell? ⟨b,0,none⟩=some x/\w.cell? ⟨b,1,none⟩=some y/\w.cell? ⟨b,2,none⟩=some z/\w.frozen? ⟨b,0,none⟩=false/\w.frozen? ⟨b,1,none⟩=false/\w.frozen? ⟨b,2,none⟩=false/\b<w.heap.size:=
 ⟨by simp[World.cell?,h],by simp[World.cell?,h],by simp[World.cell?,h],by simp[World.frozen?,h],by simp[World.frozen?,h],by simp[World.frozen?,h],(Gl h)⟩
theorem Z4k (b eb:Nat) (n st:Int) (v:Value) (u:FrameMode) (w:World) (hb:w.heap[b]?=some (.cells #[.int .i64 n,v,.int .i64 st] 100 (0,0))) (he:w.cell? ⟨eb,0,none⟩=some (.int .u16 0)) (h0:0<=st) (h1:st<4611686018427387904):
 CallsD Tryz.prog 73 #[.pointer (some ⟨b,0,none⟩),.pointer (some ⟨eb,0,none⟩)] u w fun e u' w'=>u'=u/\(e= .returned (.tuple #[])/\w'=w.setCell ⟨b,2,none⟩ (.int .i64 (st+1))):=by
 obtain⟨c0,c1,c2,f0,f1,f2,hl⟩:=Zd0 hb
 clear hb
 go_enter_d Tryz.func73,Tryz.ntmps73
 go_wp2
 go_end0
 exact⟨rfl,rfl⟩
theorem Zin (b eb:Nat) (k:Int) (u:FrameMode) (w:World) (he:w.cell? ⟨eb,0,none⟩=some (.int .u16 k)) (hk:(k == 0)=false):
 CallsD Tryz.prog 73 #[.pointer (some ⟨b,0,none⟩),.pointer (some ⟨eb,0,none⟩)] u w fun e u' w'=>u'=u/\(e= .returned (.tuple #[])/\w'=w):=by
 go_enter_d Tryz.func73,Tryz.ntmps73
 go_wp2
 go_end0
 exact⟨rfl,rfl⟩
theorem Zc4 (b k len cap:Nat) (a:Int) (w:World) (c1:w.cell? ⟨b,1,none⟩=some (.slice (some ⟨k,0,none⟩) len cap)) (h0:0<=a) (h1:a<(len:Int)):
 Calls Tryz.prog 135 #[.pointer (some ⟨b,0,none⟩),.int .i64 a] w fun e w'=>e= .returned (.pointer (some ⟨k,a.toNat,none⟩))/\w=w':=by
 go_enter Tryz.func135,Tryz.ntmps135
 go_wp2
 go_ret
 exact⟨by simp,rfl⟩
theorem Zlb (b len cap:Nat) (ao:Option Addr) (a:Int) (w:World) (c1:w.cell? ⟨b,1,none⟩=some (.slice ao len cap)) (h:a<0\/(len:Int)<=a):
 Calls Tryz.prog 135 #[.pointer (some ⟨b,0,none⟩),.int .i64 a] w fun e w'=>e= .returned (.pointer none)/\w=w':=by
 by_cases h0:a<0
 ·go_enter Tryz.func135,Tryz.ntmps135
  go_wp2
  go_ret
  exact⟨rfl,rfl⟩
 ·have h1:(len:Int)<=a:=by omega
  go_enter Tryz.func135,Tryz.ntmps135
  go_wp2
  go_ret
  exact⟨rfl,rfl⟩
theorem Tryz.info64:(Tryz.prog.info? 2).map (fun i=>(i.zero,i.size,i.bytes))=some (some (.int .i64 0),1,8):=by kernel_rfl
def Z56 (n:Int):Int:=max 0 (min n 1000)
theorem Zlc (n:Int) (w:World):
 Calls Tryz.prog 50 #[.int .i64 n] w fun e w'=>e= .returned (.pointer (some ⟨w.heap.size,0,none⟩))/\Z10 w' w.heap.size none (Z56 n) [] 0/\Below w.heap.size w w':=by
 go_enter Tryz.func50,Tryz.ntmps50
 go_wp2
 all_goals
  go_ret
  refine⟨rfl,⟨.slice none 0 0,?_,rfl,Row.nil _⟩,by go_grown⟩
  first
   |(rw[show Z56 n=1000 from by unfold Z56;omega];exact Han w _)
   |(rw[show Z56 n=n from by unfold Z56;omega];exact Han w _)
   |(rw[show Z56 n=0 from by unfold Z56;omega];exact Han w _)
theorem Z67 (v:Value) (xs:List Int) (w:World) (hr:Row w v xs) (hn:xs.length<=1000000):
 Calls Tryz.prog 44 #[v] w fun e w'=>∃v',e= .returned v'/\Row w' v' xs/\Below w.heap.size w w'/\(∀g,v'.ownBlock=some g->w.heap.size<=g):=by
 obtain⟨i0,hi,hz0,hz1,hz2⟩:=info_parts Tryz.info64
 have hone:∀u ∈ xs.map (Value.int .i64),u.oneCell'=true:=fun u hu=>by
  obtain⟨x,_,rfl⟩:=List.mem_map.1 hu
  rfl
 have qT:∀(w:World) (a:Option Addr) (n c n' c':Nat),(binOp .eql 32 (.slice a n c) (.slice none n' c')).run Tryz.prog w= .ok (.bool a.isNone) w:=fun w a n c n' c'=>Lib.run_eql_slice_nil w _ _ a n c n' c' Tryz.underlying32
 rcases hr.2 with⟨rfl,h0⟩|⟨g,cap,cur,rfl,hrest⟩
 ·have hx:xs= []:=Lnl h0
  subst hx
  go_enter Tryz.func44,Tryz.ntmps44
  go_wp2
  go_ret
  exact⟨_,rfl,Row.nil _,by go_grown,fun g hg=>by cases hg⟩
 ·have hre:∀o,(w.alloc o).ownsRow 0 2 1 (.slice (some ⟨g,0,none⟩) xs.length cap) xs.length (xs.map (Value.int .i64)):=fun o=>Row.alloc hr o
  have hmade:(w.alloc (.cells #[] 2)).ownsRow w.heap.size 2 1 (.slice (some ⟨w.heap.size,0,none⟩) 0 0) 0 []:=World.ownsRow_made w #[] 0 (Nat.le_refl _) (by unfold maxLen;omega) rfl
  go_enter Tryz.func44,Tryz.ntmps44
  go_wp2_with (at_builtin;refine Z0c _ rfl _ _ 32 rfl w.heap.size 0 2 i0 (.int .i64 0) 1 8 Tryz.underlying32 hi hz0 hz1 hz2 rfl (by decide) _ _ _ rfl hmade _ _ _ rfl (hre _) hone ?c3 ?c4 ?c5 ?_)
  case c3=>unfold maxLen;omega
  case c4=>omega
  case c5=>simp
  intro v' w1 hown' hgrow _ _
  go_wp2
  go_ret
  refine⟨v',rfl,Row.of hown' (by simp) (by simp),?_,fun g hg=>(World.ownsRow.lt hown' g hg).1⟩
  exact((Brf _ w).alloc (Nat.le_refl _) _).grown hgrow (by simp) (fun k hk=>by simp[Value.ownBlock]at hk;omega)
section
variable (b:Nat) (g:Option Nat) (n st:Int) (xs:List Int) (w:World)
theorem Z9b (h:Z10 w b g n xs st) (hn:xs.length<=1000000):
 Calls Tryz.prog 23 #[.pointer (some ⟨b,0,none⟩)] w fun e w'=>∃v',e= .returned v'/\Row w' v' xs/\Below w.heap.size w w'/\(∀g,v'.ownBlock=some g->w.heap.size<=g):=by
 obtain⟨ao,cap,hb,_,hr⟩:=h.open
 obtain⟨c0,c1,c2,f0,f1,f2,hl⟩:=Zd0 hb
 clear hb
 go_enter Tryz.func23,Tryz.ntmps23
 go_wp2_with fail
 refine(Z67 _ xs _ hr hn).mono ?_
 rintro e w1 ⟨v',rfl,h1,h2,h3⟩
 go_wp2
 go_ret
 exact⟨v',rfl,h1,h2,h3⟩
theorem Zld (h:Z10 w b g n xs st) (hn:xs.length<=1000000):
 Calls Tryz.prog 153 #[.pointer (some ⟨b,0,none⟩)] w fun e w'=>e= .returned (.int .i64 xs.length)/\Below w.heap.size w w':=by
 go_enter Tryz.func153,Tryz.ntmps153
 go_wp2_with fail
 refine(Z9b b g n st xs _ h hn).mono ?_
 rintro e w1 ⟨v',rfl,h1,h2,h3⟩
 obtain⟨ao,cap,rfl⟩:=h1.shape
 go_wp2
 go_ret
 exact⟨rfl,h2⟩
end
section
variable (b:Nat) (g:Option Nat) (n st a:Int) (xs:List Int) (w:World)
theorem Zio (h:Z10 w b g n xs st) (h0:0<=a) (h1:a<xs.length) (s0:0<=st) (s1:st<4611686018427387904):
 Calls Tryz.prog 136 #[.pointer (some ⟨b,0,none⟩),.int .i64 a] w fun e w'=>e= .returned (.tuple #[.int .i64 (xs.getD a.toNat 0),.int .u16 0])/\Z10 w' b g n xs (st+1)/\Z01 (fun k=>k=b) w w':=by
 obtain⟨k,cap,rfl,hb,hk,hne,hc,hf⟩:=h.open_pos (by omega)
 obtain⟨c0,c1,c2,f0,f1,f2,hl⟩:=Zd0 hb
 have hca:=hc a.toNat (by omega)
 obtain⟨x,hx⟩:∃x,xs.getD a.toNat 0=x:=⟨_,rfl⟩
 rw[hx]at hca |-
 clear hx
 have hb':(w.alloc (.cells #[.int .u16 0] 38)).heap[b]?=some (.cells #[.int .i64 n,.slice (some ⟨k,0,none⟩) xs.length cap,.int .i64 st] 100 (0,0)):=(Below.heap_alloc _ _ _ hl).trans hb
 clear hb hc hf
 go_enter_defers Tryz.func136,Tryz.ntmps136
 go_wp2_with fail
 refine(Zc4 b k xs.length cap a _ (by go_simp) h0 h1).mono ?_
 rintro e w' ⟨rfl,rfl⟩
 go_wp2
 refine leaves_cons (f:=73) (args:= #[.pointer (some ⟨b,0,none⟩),.pointer (some ⟨w.heap.size,0,none⟩)]) (by simp) (by simp[go_sem]) ?_
 refine(Z4k b w.heap.size n st _ .returning _ hb' (by go_simp) s0 s1).mono ?_
 rintro e u' w'' ⟨rfl,rfl,rfl⟩
 refine⟨_,by simp[results,Tryz.results136,go_sem,hl];try rfl,⟨rfl,?_,?_⟩⟩
 ·exact(h.alloc _).setSteps _
 ·exact((Z01.refl (fun k=>k=b) w).alloc _).setCell (p:=⟨b,2,none⟩) (fun _=>rfl) _
theorem Zle (h:Z10 w b g n xs st) (ha:a<0\/(xs.length:Int)<=a):
 Calls Tryz.prog 136 #[.pointer (some ⟨b,0,none⟩),.int .i64 a] w fun e w'=>e= .returned (.tuple #[.int .i64 0,.int .u16 10])/\Below w.heap.size w w':=by
 obtain⟨ao,cap,hb,_,_⟩:=h.open
 obtain⟨c0,c1,c2,f0,f1,f2,hl⟩:=Zd0 hb
 clear hb
 go_enter_defers Tryz.func136,Tryz.ntmps136
 go_wp2_with fail
 refine(Zlb b xs.length cap ao a _ (by go_simp) ha).mono ?_
 rintro e w' ⟨rfl,rfl⟩
 go_wp2
 refine⟨_,by simp[results,Tryz.results136,go_sem];try rfl,⟨rfl,by go_grown⟩⟩
end
theorem Zip (b:Nat) (g:Option Nat) (n st a y:Int) (xs:List Int) (w:World) (h:Z10 w b g n xs st) (ha:a<0\/(xs.length:Int)<=a):
 Calls Tryz.prog 90 #[.pointer (some ⟨b,0,none⟩),.int .i64 a,.int .i64 y] w fun e w'=>e= .returned (.int .u16 10)/\Below w.heap.size w w':=by
 obtain⟨ao,cap,hb,_,_⟩:=h.open
 obtain⟨c0,c1,c2,f0,f1,f2,hl⟩:=Zd0 hb
 clear hb
 go_enter_defers Tryz.func90,Tryz.ntmps90
 go_wp2_with fail
 refine(Zlb b xs.length cap ao a _ (by go_simp) ha).mono ?_
 rintro e w' ⟨rfl,rfl⟩
 go_wp2
 refine⟨_,by simp[results,Tryz.results90,go_sem];try rfl,⟨rfl,by go_grown⟩⟩
theorem Zlf (b:Nat) (g:Option Nat) (n st a o y:Int) (xs:List Int) (w:World) (h:Z10 w b g n xs st) (ha:a<0\/(xs.length:Int)<=a):
 Calls Tryz.prog 87 #[.pointer (some ⟨b,0,none⟩),.int .i64 a,.int .i64 o,.int .i64 y] w fun e w'=>e= .returned (.tuple #[.bool false,.int .u16 10])/\Below w.heap.size w w':=by
 obtain⟨ao,cap,hb,_,_⟩:=h.open
 obtain⟨c0,c1,c2,f0,f1,f2,hl⟩:=Zd0 hb
 clear hb
 go_enter_defers Tryz.func87,Tryz.ntmps87
 go_wp2_with fail
 refine(Zlb b xs.length cap ao a _ (by go_simp) ha).mono ?_
 rintro e w' ⟨rfl,rfl⟩
 go_wp2
 refine⟨_,by simp[results,Tryz.results87,go_sem];try rfl,⟨rfl,by go_grown⟩⟩
section
variable (b:Nat) (g:Option Nat) (n st a y:Int) (xs:List Int) (w:World)
theorem Zem (h:Z10 w b g n xs st) (h0:0<=a) (h1:a<xs.length) (s0:0<=st) (s1:st<4611686018427387904):
 Calls Tryz.prog 90 #[.pointer (some ⟨b,0,none⟩),.int .i64 a,.int .i64 y] w fun e w'=>e= .returned (.int .u16 0)/\Z10 w' b g n (xs.set a.toNat y) (st+1)/\Z01 (fun k=>k=b\/some k=g) w w':=by
 obtain⟨k,cap,rfl,hb,hk,hne,hc,hf⟩:=h.open_pos (by omega)
 obtain⟨c0,c1,c2,f0,f1,f2,hl⟩:=Zd0 hb
 have hca:=hc a.toNat (by omega)
 have hfa:=hf a.toNat
 obtain⟨x,hx⟩:∃x,xs.getD a.toNat 0=x:=⟨_,rfl⟩
 rw[hx]at hca
 clear hx
 have hb':((w.setCell ⟨k,a.toNat,none⟩ (.int .i64 y)).alloc (.cells #[.int .u16 0] 38)).heap[b]?=some (.cells #[.int .i64 n,.slice (some ⟨k,0,none⟩) xs.length cap,.int .i64 st] 100 (0,0)):=
  (Below.heap_alloc _ _ _ (by simpa using hl)).trans ((Below.heap_setCell _ _ _ _ hne).trans hb)
 have he':((w.setCell ⟨k,a.toNat,none⟩ (.int .i64 y)).alloc (.cells #[.int .u16 0] 38)).cell? ⟨w.heap.size,0,none⟩=some (.int .u16 0):=by go_simp
 clear hb hc hf
 go_enter_defers Tryz.func90,Tryz.ntmps90
 go_wp2_with fail
 refine(Zc4 b k xs.length cap a _ (by go_simp) h0 h1).mono ?_
 rintro e w' ⟨rfl,rfl⟩
 go_wp2
 refine leaves_cons (f:=73) (args:= #[.pointer (some ⟨b,0,none⟩),.pointer (some ⟨w.heap.size,0,none⟩)]) (by simp) (by simp[go_sem]) ?_
 refine(Z4k b w.heap.size n st _ .returning _ hb' he' s0 s1).mono ?_
 rintro e u' w'' ⟨rfl,rfl,rfl⟩
 refine⟨_,by simp[results,Tryz.results90,go_sem,hl,he'];try rfl,⟨rfl,?_,?_⟩⟩
 ·exact((h.setCell _ (by omega) _).alloc _).setSteps _
 ·exact(((Z01.refl (fun j=>j=b\/some j=some k) w).setCell (p:=⟨k,a.toNat,none⟩) (fun _=>.inr rfl) _).alloc _).setCell (p:=⟨b,2,none⟩) (fun _=>.inl rfl) _
theorem Ziq (h:Z10 w b g n xs st) (h0:0<=a) (h1:a<xs.length) (s0:0<=st) (s1:st<4611686018427387904):
 Calls Tryz.prog 87 #[.pointer (some ⟨b,0,none⟩),.int .i64 a,.int .i64 (xs.getD a.toNat 0),.int .i64 y] w fun e w'=>e= .returned (.tuple #[.bool true,.int .u16 0])/\Z10 w' b g n (xs.set a.toNat y) (st+1)/\Z01 (fun k=>k=b\/some k=g) w w':=by
 obtain⟨k,cap,rfl,hb,hk,hne,hc,hf⟩:=h.open_pos (by omega)
 obtain⟨c0,c1,c2,f0,f1,f2,hl⟩:=Zd0 hb
 have hca:=hc a.toNat (by omega)
 have hfa:=hf a.toNat
 obtain⟨x,hx⟩:∃x,xs.getD a.toNat 0=x:=⟨_,rfl⟩
 rw[hx]at hca
 rw[hx]
 clear hx
 have hb':((w.setCell ⟨k,a.toNat,none⟩ (.int .i64 y)).alloc (.cells #[.int .u16 0] 38)).heap[b]?=some (.cells #[.int .i64 n,.slice (some ⟨k,0,none⟩) xs.length cap,.int .i64 st] 100 (0,0)):=
  (Below.heap_alloc _ _ _ (by simpa using hl)).trans ((Below.heap_setCell _ _ _ _ hne).trans hb)
 have he':((w.setCell ⟨k,a.toNat,none⟩ (.int .i64 y)).alloc (.cells #[.int .u16 0] 38)).cell? ⟨w.heap.size,0,none⟩=some (.int .u16 0):=by go_simp
 clear hb hc hf
 go_enter_defers Tryz.func87,Tryz.ntmps87
 go_wp2_with fail
 refine(Zc4 b k xs.length cap a _ (by go_simp) h0 h1).mono ?_
 rintro e w' ⟨rfl,rfl⟩
 go_wp2
 refine leaves_cons (f:=73) (args:= #[.pointer (some ⟨b,0,none⟩),.pointer (some ⟨w.heap.size,0,none⟩)]) (by simp) (by simp[go_sem]) ?_
 refine(Z4k b w.heap.size n st _ .returning _ hb' he' s0 s1).mono ?_
 rintro e u' w'' ⟨rfl,rfl,rfl⟩
 refine⟨_,by simp[results,Tryz.results87,go_sem,hl,he'];try rfl,⟨rfl,?_,?_⟩⟩
 ·exact((h.setCell _ (by omega) _).alloc _).setSteps _
 ·exact(((Z01.refl (fun j=>j=b\/some j=some k) w).setCell (p:=⟨k,a.toNat,none⟩) (fun _=>.inr rfl) _).alloc _).setCell (p:=⟨b,2,none⟩) (fun _=>.inl rfl) _
end
theorem Zen (b:Nat) (g:Option Nat) (n st a o y:Int) (xs:List Int) (w:World) (h:Z10 w b g n xs st) (h0:0<=a) (h1:a<xs.length) (ho:xs.getD a.toNat 0≠o) (s0:0<=st) (s1:st<4611686018427387904):
 Calls Tryz.prog 87 #[.pointer (some ⟨b,0,none⟩),.int .i64 a,.int .i64 o,.int .i64 y] w fun e w'=>e= .returned (.tuple #[.bool false,.int .u16 0])/\Z10 w' b g n xs (st+1)/\Z01 (fun k=>k=b) w w':=by
 obtain⟨k,cap,rfl,hb,hk,hne,hc,hf⟩:=h.open_pos (by omega)
 obtain⟨c0,c1,c2,f0,f1,f2,hl⟩:=Zd0 hb
 have hca:=hc a.toNat (by omega)
 have hfa:=hf a.toNat
 obtain⟨x,hx⟩:∃x,xs.getD a.toNat 0=x:=⟨_,rfl⟩
 rw[hx]at hca
 rw[hx]at ho
 clear hx
 have ho':(x != o)=true:=by rw[bne_iff_ne];exact ho
 clear ho
 have hb':(w.alloc (.cells #[.int .u16 0] 38)).heap[b]?=some (.cells #[.int .i64 n,.slice (some ⟨k,0,none⟩) xs.length cap,.int .i64 st] 100 (0,0)):=(Below.heap_alloc _ _ _ hl).trans hb
 clear hb hc hf
 go_enter_defers Tryz.func87,Tryz.ntmps87
 go_wp2_with fail
 refine(Zc4 b k xs.length cap a _ (by go_simp) h0 h1).mono ?_
 rintro e w' ⟨rfl,rfl⟩
 go_wp2
 refine leaves_cons (f:=73) (args:= #[.pointer (some ⟨b,0,none⟩),.pointer (some ⟨w.heap.size,0,none⟩)]) (by simp) (by simp[go_sem]) ?_
 refine(Z4k b w.heap.size n st _ .returning _ hb' (by go_simp) s0 s1).mono ?_
 rintro e u' w'' ⟨rfl,rfl,rfl⟩
 refine⟨_,by simp[results,Tryz.results87,go_sem,hl];try rfl,⟨rfl,?_,?_⟩⟩
 ·exact(h.alloc _).setSteps _
 ·exact((Z01.refl (fun k=>k=b) w).alloc _).setCell (p:=⟨b,2,none⟩) (fun _=>rfl) _
section
variable (b:Nat) (g:Option Nat) (N st a:Int) (xs:List Int) (w:World)
theorem Zeo (h:Z10 w b g N xs st) (h0:0<=a) (h1:a<=N-xs.length) (q0:0<=N) (q1:N<=1000) (q2:(xs.length:Int)<=N) (s0:0<=st) (s1:st<4611686018427387904):
 Calls Tryz.prog 52 #[.pointer (some ⟨b,0,none⟩),.int .i64 a] w fun e w'=>e= .returned (.tuple #[.int .i64 xs.length,.int .u16 0])/\
  (∃g',Z10 w' b g' N (xs++List.replicate a.toNat 0) (st+1)/\(g'=g\/∃k,g'=some k/\w.heap.size<=k))/\Z01 (fun k=>k=b\/some k=g) w w':=by
 obtain⟨i0,hi,hz0,hz1,hz2⟩:=info_parts Tryz.info64
 have hgne:∀k,g=some k->k≠b/\k<w.heap.size:=fun k e=>by subst e;exact⟨fun e'=>by subst e';exact h.ne,h.row_lt⟩
 obtain⟨ao,cap,hb,hg,hr⟩:=h.open
 obtain⟨c0,c1,c2,f0,f1,f2,hl⟩:=Zd0 hb
 have hb1:(w.alloc (.cells #[.int .u16 0] 38)).heap[b]?=some (.cells #[.int .i64 N,.slice ao xs.length cap,.int .i64 st] 100 (0,0)):=(Below.heap_alloc _ _ _ hl).trans hb
 have hbg:some b≠(Value.slice ao xs.length cap).ownBlock:=fun e=>(hgne b (by rw[<-hg,<-e])).1 rfl
 have heg:some w.heap.size≠(Value.slice ao xs.length cap).ownBlock:=fun e=>by have:=(hgne w.heap.size (by rw[<-hg,<-e])).2;omega
 have Hz:=hi4 hgne hb1 hbg heg
 have Hg:=Hd hg
 clear hb hgne hb1 hbg heg hg
 go_enter_defers Tryz.func52,Tryz.ntmps52
 go_wp2_with (at_builtin;refine Z4c _ rfl _ _ 32 3 rfl 0 2 i0 (.int .i64 0) 8 Tryz.underlying32 Tryz.underlying3 hi hz0 hz1 hz2 rfl rfl (by decide) _ _ _ rfl (Row.alloc hr _) a.toNat _ rfl ?k1 ?k2 ?k3 ?_)
 case k1=>omega
 case k2=>omega
 case k3=>omega
 intro v' w1 hown' hgrow hloc
 obtain⟨ao',cap',rfl⟩:=Z03 hown'
 obtain⟨hgne,hb1,hbg,heg⟩:=Hz.out
 have hg:=Hg.out
 have hb2:w1.heap[b]?=some (.cells #[.int .i64 N,.slice ao xs.length cap,.int .i64 st] 100 (0,0)):=(hgrow.block b (by simp;omega) hbg).trans hb1
 have he2:w1.heap[w.heap.size]?=some (.cells #[.int .u16 0] 38 (0,0)):=(hgrow.block w.heap.size (by simp) heg).trans (Han w _)
 have hz:w.heap.size<w1.heap.size:=(Gl he2)
 obtain⟨d0,d1,d2,e0,e1,e2,hl2⟩:=Zd0 hb2
 have ce:w1.cell? ⟨w.heap.size,0,none⟩=some (.int .u16 0):=cell_of_one he2
 have fe:w1.frozen? ⟨w.heap.size,0,none⟩=false:=free_of_one he2
 have Hx:Hid (Row w (.slice ao xs.length cap) xs/\w1.ownsRow 0 2 1 (.slice ao' (xs.length+a.toNat) cap') (xs.length+a.toNat) (xs.map (Value.int .i64)++List.replicate a.toNat (.int .i64 0))/\(w.alloc (.cells #[.int .u16 0] 38)).grownBy w1 (Value.slice ao xs.length cap).ownBlock/\
  ((Value.slice ao' (xs.length+a.toNat) cap').ownBlock=(Value.slice ao xs.length cap).ownBlock\/(Value.slice ao' (xs.length+a.toNat) cap').ownBlock=some (w.heap.size+1))):=⟨hr,hown',hgrow,hloc⟩
 clear hr hown' hgrow hloc c0 c1 c2 f0 f1 f2 hb1 hbg heg hgne hg
 have hb3:((w1.setCell ⟨b,1,none⟩ (.slice ao' (xs.length+a.toNat) cap')).setCell ⟨w.heap.size,0,none⟩ (.int .u16 0)).heap[b]?=some (.cells #[.int .i64 N,.slice ao' (xs.length+a.toNat) cap',.int .i64 st] 100 (0,0)):=
  (Below.heap_setCell _ _ _ _ (by simp;omega)).trans (Z00 hb2 1 _)
 have he3:((w1.setCell ⟨b,1,none⟩ (.slice ao' (xs.length+a.toNat) cap')).setCell ⟨w.heap.size,0,none⟩ (.int .u16 0)).heap[w.heap.size]?=some (.cells #[.int .u16 0] 38 (0,0)):=
  Z00 ((Below.heap_setCell _ _ _ _ (by simp;omega)).trans he2) 0 _
 have hz3:=cell_of_one he3
 have he4:(((w1.setCell ⟨b,1,none⟩ (.slice ao' (xs.length+a.toNat) cap')).setCell ⟨w.heap.size,0,none⟩ (.int .u16 0)).setCell ⟨b,2,none⟩ (.int .i64 (st+1))).cell? ⟨w.heap.size,0,none⟩=some (.int .u16 0):=by
  rw[World.cell?_of_block (Below.heap_setCell _ _ _ _ (by simp;omega))];exact hz3
 have Hy:=hi4 hb2 he2 hb3 he3
 clear hb2 he2 hb3 he3
 go_wp2
 refine leaves_cons (f:=73) (args:= #[.pointer (some ⟨b,0,none⟩),.pointer (some ⟨w.heap.size,0,none⟩)]) (by simp) (by simp[go_sem]) ?_
 refine(Z4k b w.heap.size N st _ .returning _ Hy.out.2.2.1 hz3 s0 s1).mono ?_
 rintro e u' w'' ⟨rfl,rfl,rfl⟩
 refine⟨_,by simp[results,Tryz.results52,go_sem,he4];try rfl,⟨rfl,?_,?_⟩⟩
 ·obtain⟨hr,hown',hgrow,hloc⟩:=Hx.out
  obtain⟨hgne,hb1,hbg,heg⟩:=Hz.out
  have hg:=Hg.out
  have hb5:=Z00 Hy.out.2.2.1 2 (.int .i64 (st+1))
  have hlt:∀k,(Value.slice ao' (xs.length+a.toNat) cap').ownBlock=some k->k≠b/\k≠w.heap.size:=fun k hk=>by
   rcases hloc with h2|h2
   ·have:=hgne k (by rw[<-hg,<-h2,hk]);exact⟨this.1,by omega⟩
   ·rw[hk]at h2;simp at h2;exact⟨by omega,by omega⟩
  refine⟨(Value.slice ao' (xs.length+a.toNat) cap').ownBlock,⟨_,hb5,rfl,?_⟩,?_⟩
  ·refine(((Row.of hown' (by simp) (by simp)).kept (Z02 w1 ⟨b,1,none⟩ _) (fun k hk=>(hlt k hk).1)).kept (Z02 _ ⟨w.heap.size,0,none⟩ _) (fun k hk=>(hlt k hk).2)).kept (Z02 _ ⟨b,2,none⟩ _) (fun k hk=>(hlt k hk).1)
  ·rcases hloc with h2|h2
   ·exact .inl (h2.trans hg)
   ·exact .inr ⟨_,h2,by simp⟩
 ·obtain⟨hr,hown',hgrow,hloc⟩:=Hx.out
  have hg:=Hg.out
  refine(((((Z01.refl (fun j=>j=b\/some j=g) w).alloc _).grown hgrow (fun k hk _=>.inr ?_)).setCell (p:=⟨b,1,none⟩) (fun _=>.inl rfl) _).setCell (p:=⟨w.heap.size,0,none⟩) (fun hh=>by simp at hh) _).setCell (p:=⟨b,2,none⟩) (fun _=>.inl rfl) _
  rw[<-hk,hg]
theorem Zd1 (h:Z10 w b g N xs st) (h0:0<=a) (h1:N-xs.length<a) (q0:0<=N) (q1:N<=1000) (q2:(xs.length:Int)<=N):
 Calls Tryz.prog 52 #[.pointer (some ⟨b,0,none⟩),.int .i64 a] w fun e w'=>e= .returned (.tuple #[.int .i64 0,.int .u16 11])/\Below w.heap.size w w':=by
 obtain⟨ao,cap,hb,_,_⟩:=h.open
 obtain⟨c0,c1,c2,f0,f1,f2,hl⟩:=Zd0 hb
 clear hb
 go_enter_defers Tryz.func52,Tryz.ntmps52
 go_wp2
 refine leaves_cons (f:=73) (args:= #[.pointer (some ⟨b,0,none⟩),.pointer (some ⟨w.heap.size,0,none⟩)]) (by simp) (by simp[go_sem]) ?_
 refine(Zin b w.heap.size 11 .returning _ (by go_simp) rfl).mono ?_
 rintro e u' w'' ⟨rfl,rfl,rfl⟩
 refine⟨_,by simp[results,Tryz.results52,go_sem];try rfl,⟨rfl,by go_grown⟩⟩
end
theorem Zep (p:Option Addr) (a:Int) (w:World) (h0:a<0):
 Calls Tryz.prog 52 #[.pointer p,.int .i64 a] w fun e w'=>e= .returned (.tuple #[.int .i64 0,.int .u16 1])/\Below w.heap.size w w':=by
 go_enter_defers Tryz.func52,Tryz.ntmps52
 go_wp2
 refine⟨_,by simp[results,Tryz.results52,go_sem];try rfl,⟨rfl,by go_grown⟩⟩
theorem Zir (b:Nat) (g:Option Nat) (N st:Int) (xs:List Int) (w:World) (h:Z10 w b g N xs st) (hn:xs.length<=1000000):
 Calls Tryz.prog 43 #[.pointer (some ⟨b,0,none⟩)] w fun e w'=>∃c,e= .returned (.pointer (some ⟨c,0,none⟩))/\w.heap.size<=c/\(∃g',Z10 w' c g' N xs st/\∀k,g'=some k->w.heap.size<=k)/\Below w.heap.size w w':=by
 obtain⟨ao,cap,hb,hg,hr⟩:=h.open
 obtain⟨c0,c1,c2,f0,f1,f2,hl⟩:=Zd0 hb
 clear hb
 go_enter Tryz.func43,Tryz.ntmps43
 go_wp2
 go_region_held3 (fun w1=>w1.cell? ⟨b,0,none⟩=some (.int .i64 N)/\w1.cell? ⟨b,1,none⟩=some (.slice ao xs.length cap)/\w1.cell? ⟨b,2,none⟩=some (.int .i64 st))
  (first|(exact⟨c0,c1,c2⟩)|(go_split_ands;refine⟨?_,?_,?_⟩<;>(rw[hb2.cell (by simp;omega)];assumption))|(go_split_ands;refine⟨?_,?_,?_⟩<;>(rw[World.cell?_alloc_past _ _ _ hl2];assumption)))
  (first|(go_at_call 44;refine(Z67 _ xs _ (Row.below hr ((Brf _ _).drew)) hn).mono ?_;rintro e w2 ⟨v',rfl,hr2,hb2,hv2⟩;obtain⟨ao2,cap2,rfl⟩:=Row.shape hr2;have hl2:b<w2.heap.size:=by(have:=hb2.size;simp at this;omega)))
 go_wp2
 go_ret
 refine⟨w2.heap.size,rfl,hb2.size,⟨(Value.slice ao2 xs.length cap2).ownBlock,⟨_,Han w2 _,rfl,hr2.alloc _⟩,fun k hk=>hv2 k hk⟩,?_⟩
 exact((Brf _ w).drew.trans (hb2.mono (Nat.le_refl _))).alloc hb2.size _
def Zaz (w:World) (v:Value) (q:Option Nat) (N:Int) (xs:List Int) (st:Int):Prop:=∃sl,v= .agg #[.int .i64 N,sl,.int .i64 st]/\sl.ownBlock=q/\Row w sl xs
theorem Zaz.open {w:World} {v:Value} {q:Option Nat} {N st:Int} {xs:List Int} (h:Zaz w v q N xs st):∃ao cap,v= .agg #[.int .i64 N,.slice ao xs.length cap,.int .i64 st]/\(Value.slice ao xs.length cap).ownBlock=q/\Row w (.slice ao xs.length cap) xs:=by
 obtain⟨sl,rfl,hq,hr⟩:=h
 obtain⟨ao,cap,rfl⟩:=hr.shape
 exact⟨ao,cap,rfl,hq,hr⟩
theorem Zaz.below {w w':World} {v:Value} {q:Option Nat} {N st:Int} {xs:List Int} (h:Zaz w v q N xs st) (hb:Below w.heap.size w w'):Zaz w' v q N xs st:=by
 obtain⟨sl,rfl,hq,hr⟩:=h
 exact⟨sl,rfl,hq,hr.below hb⟩
theorem Zaz.kept {S:Nat->Prop} {w w':World} {v:Value} {q:Option Nat} {N st:Int} {xs:List Int} (h:Zaz w v q N xs st) (hk:Z01 S w w') (hs:∀k,q=some k->¬S k):Zaz w' v q N xs st:=by
 obtain⟨sl,rfl,hq,hr⟩:=h
 exact⟨sl,rfl,hq,hr.kept hk (fun k e=>hs k (hq ▸ e))⟩
theorem Zaz.lt {w:World} {v:Value} {k:Nat} {N st:Int} {xs:List Int} (h:Zaz w v (some k) N xs st):k<w.heap.size:=by
 obtain⟨sl,rfl,hq,hr⟩:=h
 exact hr.lt hq
def MS (W0 w:World) (b:Nat) (g:Option Nat) (N:Int) (xs:List Int) (st:Int):Prop:=
 Z10 w b g N xs st/\W0.heap.size<=b/\(∀k,g=some k->W0.heap.size<=k)/\Below W0.heap.size W0 w/\0<=N/\N<=1000/\(xs.length:Int)<=N/\0<=st
abbrev Z18 (b:Nat) (g:Option Nat):Nat->Prop:=fun k=>k=b\/some k=g
section
variable {W0 w:World} {b:Nat} {g:Option Nat} {N st:Int} {xs:List Int}
theorem MS.below {w':World} (h:MS W0 w b g N xs st) (hb:Below w.heap.size w w'):MS W0 w' b g N xs st:=by
 obtain⟨h1,h2,h3,h4,h5⟩:=h
 exact⟨h1.below hb,h2,h3,h4.trans (hb.mono h4.size),h5⟩
theorem MS.B (h:MS W0 w b g N xs st):Below W0.heap.size W0 w:=h.2.2.2.1
theorem MS.mem (h:MS W0 w b g N xs st):Z10 w b g N xs st:=h.1
theorem MS.len (h:MS W0 w b g N xs st):xs.length<=1000:=by obtain⟨_,_,_,_,_,h6,h7,_⟩:=h;omega
theorem MS.turn {w':World} {g':Option Nat} {xs':List Int} {st':Int} (h:MS W0 w b g N xs st) (hm:Z10 w' b g' N xs' st') (hk:Z01 (Z18 b g) w w') (hg:g'=g\/∃k,g'=some k/\w.heap.size<=k) (hl:(xs'.length:Int)<=N) (hs:0<=st'):MS W0 w' b g' N xs' st':=by
 obtain⟨h1,h2,h3,h4,h5,h6,h7,h8⟩:=h
 refine⟨hm,h2,fun k e=>?_,?_,h5,h6,hl,hs⟩
 ·rcases hg with rfl|⟨j,rfl,hj⟩
  ·exact h3 k e
  ·cases e;exact Nat.le_trans h4.size hj
 ·exact h4.trans (hk.below h4.size (fun k hk' hs=>by
   rcases hs with rfl|hs
   ·omega
   ·have:=h3 k hs.symm;omega))
theorem MS.kept {w':World} {F:Nat->Prop} (h:MS W0 w b g N xs st) (hk:Z01 F w w') (hb:Below W0.heap.size W0 w') (h1:¬F b) (h2:∀k,g=some k->¬F k):MS W0 w' b g N xs st:=by
 obtain⟨m,e⟩:=h
 exact⟨m.kept hk h1 h2,e.1,e.2.1,hb,e.2.2.2⟩
theorem Zeq (n:Int):0<=Z56 n/\Z56 n<=1000:=by unfold Z56;omega
theorem Zoe (n:Int) (W0 w:World) (hB:Below W0.heap.size W0 w):
 Calls Tryz.prog 50 #[.int .i64 n] w fun e w'=>e= .returned (.pointer (some ⟨w.heap.size,0,none⟩))/\MS W0 w' w.heap.size none (Z56 n) [] 0/\Below w.heap.size w w':=by
 refine(Zlc n w).mono fun e w' ⟨h1,h2,h3⟩=>?_
 have hc:=Zeq n
 exact⟨h1,⟨h2,hB.size,fun k e=>(by cases e),hB.trans (h3.mono hB.size),hc.1,hc.2,hc.1,Int.le_refl 0⟩,h3⟩
theorem Zlg (h:MS W0 w b g N xs st) (a:Int) (h0:0<=a) (h1:a<xs.length) (s1:st<1000000):
 Calls Tryz.prog 136 #[.pointer (some ⟨b,0,none⟩),.int .i64 a] w fun e w'=>e= .returned (.tuple #[.int .i64 (xs.getD a.toNat 0),.int .u16 0])/\MS W0 w' b g N xs (st+1)/\Z01 (Z18 b g) w w':=
 (Zio b g N st a xs w h.mem h0 h1 h.2.2.2.2.2.2.2 (by omega)).mono fun e w' ⟨e1,e2,e3⟩=>
   have hk:=e3.mono (T:=Z18 b g) (fun _ _ e=>.inl e)
   ⟨e1,h.turn e2 hk (.inl rfl) h.2.2.2.2.2.2.1 (by have:=h.2.2.2.2.2.2.2;omega),hk⟩
theorem Zd2 (h:MS W0 w b g N xs st) (a:Int) (ha:a<0\/(xs.length:Int)<=a):
 Calls Tryz.prog 136 #[.pointer (some ⟨b,0,none⟩),.int .i64 a] w fun e w'=>e= .returned (.tuple #[.int .i64 0,.int .u16 10])/\MS W0 w' b g N xs st/\Below w.heap.size w w':=
 (Zle b g N st a xs w h.mem ha).mono fun e w' ⟨e1,e2⟩=>⟨e1,h.below e2,e2⟩
theorem Zis (h:MS W0 w b g N xs st) (a y:Int) (h0:0<=a) (h1:a<xs.length) (s1:st<1000000):
 Calls Tryz.prog 90 #[.pointer (some ⟨b,0,none⟩),.int .i64 a,.int .i64 y] w fun e w'=>e= .returned (.int .u16 0)/\MS W0 w' b g N (xs.set a.toNat y) (st+1)/\Z01 (Z18 b g) w w':=
 (Zem b g N st a y xs w h.mem h0 h1 h.2.2.2.2.2.2.2 (by omega)).mono fun e w' ⟨e1,e2,e3⟩=>
   ⟨e1,h.turn e2 e3 (.inl rfl) (by rw[Lls];exact h.2.2.2.2.2.2.1) (by have:=h.2.2.2.2.2.2.2;omega),e3⟩
theorem Zb0 (h:MS W0 w b g N xs st) (a y:Int) (ha:a<0\/(xs.length:Int)<=a):
 Calls Tryz.prog 90 #[.pointer (some ⟨b,0,none⟩),.int .i64 a,.int .i64 y] w fun e w'=>e= .returned (.int .u16 10)/\MS W0 w' b g N xs st/\Below w.heap.size w w':=
 (Zip b g N st a y xs w h.mem ha).mono fun e w' ⟨e1,e2⟩=>⟨e1,h.below e2,e2⟩
theorem Zb1 (h:MS W0 w b g N xs st) (a o y:Int) (h0:0<=a) (h1:a<xs.length) (ho:xs.getD a.toNat 0=o) (s1:st<1000000):
 Calls Tryz.prog 87 #[.pointer (some ⟨b,0,none⟩),.int .i64 a,.int .i64 o,.int .i64 y] w fun e w'=>e= .returned (.tuple #[.bool true,.int .u16 0])/\MS W0 w' b g N (xs.set a.toNat y) (st+1)/\Z01 (Z18 b g) w w':=by
 subst ho
 exact(Ziq b g N st a y xs w h.mem h0 h1 h.2.2.2.2.2.2.2 (by omega)).mono fun e w' ⟨e1,e2,e3⟩=>
  ⟨e1,h.turn e2 e3 (.inl rfl) (by rw[Lls];exact h.2.2.2.2.2.2.1) (by have:=h.2.2.2.2.2.2.2;omega),e3⟩
theorem Z9c (h:MS W0 w b g N xs st) (a o y:Int) (h0:0<=a) (h1:a<xs.length) (ho:xs.getD a.toNat 0≠o) (s1:st<1000000):
 Calls Tryz.prog 87 #[.pointer (some ⟨b,0,none⟩),.int .i64 a,.int .i64 o,.int .i64 y] w fun e w'=>e= .returned (.tuple #[.bool false,.int .u16 0])/\MS W0 w' b g N xs (st+1)/\Z01 (Z18 b g) w w':=
 (Zen b g N st a o y xs w h.mem h0 h1 ho h.2.2.2.2.2.2.2 (by omega)).mono fun e w' ⟨e1,e2,e3⟩=>
   have hk:=e3.mono (T:=Z18 b g) (fun _ _ e=>.inl e)
   ⟨e1,h.turn e2 hk (.inl rfl) h.2.2.2.2.2.2.1 (by have:=h.2.2.2.2.2.2.2;omega),hk⟩
theorem Zd3 (h:MS W0 w b g N xs st) (a o y:Int) (ha:a<0\/(xs.length:Int)<=a):
 Calls Tryz.prog 87 #[.pointer (some ⟨b,0,none⟩),.int .i64 a,.int .i64 o,.int .i64 y] w fun e w'=>e= .returned (.tuple #[.bool false,.int .u16 10])/\MS W0 w' b g N xs st/\Below w.heap.size w w':=
 (Zlf b g N st a o y xs w h.mem ha).mono fun e w' ⟨e1,e2⟩=>⟨e1,h.below e2,e2⟩
theorem Zc5 (h:MS W0 w b g N xs st) (a:Int) (h0:0<=a) (h1:a<=N-xs.length) (s1:st<1000000):
 Calls Tryz.prog 52 #[.pointer (some ⟨b,0,none⟩),.int .i64 a] w fun e w'=>∃g',e= .returned (.tuple #[.int .i64 xs.length,.int .u16 0])/\MS W0 w' b g' N (xs++List.replicate a.toNat 0) (st+1)/\(g'=g\/∃k,g'=some k/\w.heap.size<=k)/\Z01 (Z18 b g) w w':=by
 have h':=h
 obtain⟨m1,m2,m3,m4,m5,m6,m7,m8⟩:=h'
 exact(Zeo b g N st a xs w m1 h0 h1 m5 m6 m7 m8 (by omega)).mono fun e w' ⟨e1,⟨g',e2,e4⟩,e3⟩=>
  ⟨g',e1,h.turn e2 e3 e4 (by simp;omega) (by omega),e4,e3⟩
theorem Z81 (h:MS W0 w b g N xs st) (a:Int) (h0:0<=a) (h1:N-xs.length<a):
 Calls Tryz.prog 52 #[.pointer (some ⟨b,0,none⟩),.int .i64 a] w fun e w'=>e= .returned (.tuple #[.int .i64 0,.int .u16 11])/\MS W0 w' b g N xs st/\Below w.heap.size w w':=by
 have h':=h
 obtain⟨m1,m2,m3,m4,m5,m6,m7,m8⟩:=h'
 exact(Zd1 b g N st a xs w m1 h0 h1 m5 m6 m7).mono fun e w' ⟨e1,e2⟩=>⟨e1,h.below e2,e2⟩
theorem Z9d (h:MS W0 w b g N xs st) (a:Int) (h0:a<0):
 Calls Tryz.prog 52 #[.pointer (some ⟨b,0,none⟩),.int .i64 a] w fun e w'=>e= .returned (.tuple #[.int .i64 0,.int .u16 1])/\MS W0 w' b g N xs st/\Below w.heap.size w w':=
 (Zep _ a w h0).mono fun e w' ⟨e1,e2⟩=>⟨e1,h.below e2,e2⟩
theorem Zku (h:MS W0 w b g N xs st):
 Calls Tryz.prog 153 #[.pointer (some ⟨b,0,none⟩)] w fun e w'=>e= .returned (.int .i64 xs.length)/\MS W0 w' b g N xs st/\Below w.heap.size w w':=
 (Zld b g N st xs w h.mem (by have:=h.len;omega)).mono fun e w' ⟨e1,e2⟩=>⟨e1,h.below e2,e2⟩
theorem Zit (h:MS W0 w b g N xs st):
 Calls Tryz.prog 23 #[.pointer (some ⟨b,0,none⟩)] w fun e w'=>∃ao cap,e= .returned (.slice ao xs.length cap)/\MS W0 w' b g N xs st/\Row w' (.slice ao xs.length cap) xs/\Below w.heap.size w w'/\(∀k,(Value.slice ao xs.length cap).ownBlock=some k->w.heap.size<=k):=
 (Z9b b g N st xs w h.mem (by have:=h.len;omega)).mono fun e w' ⟨v',e1,e2,e3,e4⟩=>by
   obtain⟨ao,cap,rfl⟩:=e2.shape
   exact⟨ao,cap,e1,h.below e3,e2,e3,e4⟩
theorem Zlh (h:MS W0 w b g N xs st):
 Calls Tryz.prog 43 #[.pointer (some ⟨b,0,none⟩)] w fun e w'=>∃c q,e= .returned (.pointer (some ⟨c,0,none⟩))/\MS W0 w' b g N xs st/\MS W0 w' c q N xs st/\w.heap.size<=c/\(∀k,q=some k->w.heap.size<=k)/\Below w.heap.size w w':=by
 have h':=h
 obtain⟨m1,m2,m3,m4,m5,m6,m7,m8⟩:=h'
 exact(Zir b g N st xs w m1 (by omega)).mono fun e w' ⟨c,e1,e2,⟨q,e3,e4⟩,e5⟩=>
  ⟨c,q,e1,h.below e5,⟨e3,Nat.le_trans m4.size e2,fun k hk=>Nat.le_trans m4.size (e4 k hk),m4.trans (e5.mono m4.size),m5,m6,m7,m8⟩,e2,e4,e5⟩
end
section
variable {W0 w:World} {b:Nat} {g:Option Nat} {N st:Int} {xs:List Int}
theorem MS.eq {st':Int} (h:MS W0 w b g N xs st) (e:st=st'):MS W0 w b g N xs st':=e ▸ h
theorem MS.drewN (h:MS W0 w b g N xs st) (n:Nat):MS W0 (w.drewN n) b g N xs st:=h.below (below_drewN (Brf _ _) n)
end
def cellAt (xs:List Int) (a:Int):Int:=if 0<=a/\a<(xs.length:Int)then xs.getD a.toNat 0 else 0
def Z0j (xs:List Int) (a y:Int):List Int:=if 0<=a/\a<(xs.length:Int)then xs.set a.toNat y else xs
def Zer (xs:List Int) (a:Int):Int:=if 0<=a/\a<(xs.length:Int)then 0 else 10
def Z11 (xs:List Int) (a o:Int):Bool:=decide (0<=a/\a<(xs.length:Int)/\xs.getD a.toNat 0=o)
def Z0s (xs:List Int) (a o y:Int):List Int:=if Z11 xs a o=true then Z0j xs a y else xs
def Z0h (xs:List Int) (a:Int):Int:=if 0<=a/\a<(xs.length:Int)then 1 else 0
def Z1x (xs:List Int) (N n:Int):Bool:=decide (0<=n/\n<=N-(xs.length:Int))
def Z57 (xs:List Int) (N n:Int):Int:=if Z1x xs N n=true then(xs.length:Int)else 0
def Z2s (xs:List Int) (N n:Int):Int:=if Z1x xs N n=true then 0 else if n<0 then 1 else 11
def Z2m (xs:List Int) (N n:Int):List Int:=if Z1x xs N n=true then xs++List.replicate n.toNat 0 else xs
def Z2i (xs:List Int) (N n:Int):Int:=if Z1x xs N n=true then 1 else 0
theorem Z3y {xs:List Int} {a:Int} (h0:0<=a) (h1:a<(xs.length:Int)):cellAt xs a=xs.getD a.toNat 0:=if_pos ⟨h0,h1⟩
theorem Zes {xs:List Int} {a:Int} (h:a<0\/(xs.length:Int)<=a):cellAt xs a=0:=if_neg (by omega)
theorem Z68 {xs:List Int} {a y:Int} (h0:0<=a) (h1:a<(xs.length:Int)):Z0j xs a y=xs.set a.toNat y:=if_pos ⟨h0,h1⟩
theorem Zd4 {xs:List Int} {a y:Int} (h:a<0\/(xs.length:Int)<=a):Z0j xs a y=xs:=if_neg (by omega)
theorem Z4l {xs:List Int} {a:Int} (h0:0<=a) (h1:a<(xs.length:Int)):Zer xs a=0:=if_pos ⟨h0,h1⟩
theorem Z82 {xs:List Int} {a:Int} (h:a<0\/(xs.length:Int)<=a):Zer xs a=10:=if_neg (by omega)
theorem Z4m {xs:List Int} {a:Int} (h0:0<=a) (h1:a<(xs.length:Int)):Z0h xs a=1:=if_pos ⟨h0,h1⟩
theorem Z83 {xs:List Int} {a:Int} (h:a<0\/(xs.length:Int)<=a):Z0h xs a=0:=if_neg (by omega)
theorem Z0f (xs:List Int) (a:Int):0<=Z0h xs a/\Z0h xs a<=1:=by unfold Z0h;split<;>omega
theorem Z7j {xs:List Int} {a o:Int} (h0:0<=a) (h1:a<(xs.length:Int)) (ho:xs.getD a.toNat 0=o):Z11 xs a o=true:=decide_eq_true ⟨h0,h1,ho⟩
theorem Z69 {xs:List Int} {a o:Int} (ho:xs.getD a.toNat 0≠o):Z11 xs a o=false:=decide_eq_false (fun h=>ho h.2.2)
theorem Z9e {xs:List Int} {a o:Int} (h:a<0\/(xs.length:Int)<=a):Z11 xs a o=false:=decide_eq_false (by omega)
theorem Z4n {xs:List Int} {N n:Int} (h0:0<=n) (h1:n<=N-(xs.length:Int)):Z1x xs N n=true:=decide_eq_true ⟨h0,h1⟩
theorem Zc6 {xs:List Int} {N n:Int} (h:n<0\/N-(xs.length:Int)<n):Z1x xs N n=false:=decide_eq_false (by omega)
section
variable {W0 w:World} {b:Nat} {g:Option Nat} {N st:Int} {xs:List Int}
theorem Z0b {F:Nat->Prop} {w w':World} (h:Below w.heap.size w w'):Z01 F w w':=Z01.of_below h (fun k h1 h2=>by omega)
theorem MS.eqs {ys:List Int} {st':Int} (h:MS W0 w b g N xs st) (e:xs=ys) (e':st=st'):MS W0 w b g N ys st':=e ▸ e' ▸ h
theorem Zet (h:MS W0 w b g N xs st) (a:Int) (s1:st<1000000):
 Calls Tryz.prog 136 #[.pointer (some ⟨b,0,none⟩),.int .i64 a] w fun e w'=>e= .returned (.tuple #[.int .i64 (cellAt xs a),.int .u16 (Zer xs a)])/\MS W0 w' b g N xs (st+Z0h xs a)/\Z01 (Z18 b g) w w':=by
 by_cases ha:0<=a/\a<(xs.length:Int)
 ·exact(Zlg h a ha.1 ha.2 s1).mono fun e w' ⟨e1,e2,e3⟩=>⟨by rw[e1,Z3y ha.1 ha.2,Z4l ha.1 ha.2],e2.eqs rfl (by rw[Z4m ha.1 ha.2]),e3⟩
 ·have hn:a<0\/(xs.length:Int)<=a:=by omega
  exact(Zd2 h a hn).mono fun e w' ⟨e1,e2,e3⟩=>⟨by rw[e1,Zes hn,Z82 hn],e2.eqs rfl (by rw[Z83 hn];omega),Z0b e3⟩
theorem Z2n (h:MS W0 w b g N xs st) (a y:Int) (s1:st<1000000):
 Calls Tryz.prog 90 #[.pointer (some ⟨b,0,none⟩),.int .i64 a,.int .i64 y] w fun e w'=>e= .returned (.int .u16 (Zer xs a))/\MS W0 w' b g N (Z0j xs a y) (st+Z0h xs a)/\Z01 (Z18 b g) w w':=by
 by_cases ha:0<=a/\a<(xs.length:Int)
 ·exact(Zis h a y ha.1 ha.2 s1).mono fun e w' ⟨e1,e2,e3⟩=>⟨by rw[e1,Z4l ha.1 ha.2],e2.eqs (by rw[Z68 ha.1 ha.2]) (by rw[Z4m ha.1 ha.2]),e3⟩
 ·have hn:a<0\/(xs.length:Int)<=a:=by omega
  exact(Zb0 h a y hn).mono fun e w' ⟨e1,e2,e3⟩=>⟨by rw[e1,Z82 hn],e2.eqs (by rw[Zd4 hn]) (by rw[Z83 hn];omega),Z0b e3⟩
theorem Z7k (h:MS W0 w b g N xs st) (a o y:Int) (s1:st<1000000):
 Calls Tryz.prog 87 #[.pointer (some ⟨b,0,none⟩),.int .i64 a,.int .i64 o,.int .i64 y] w fun e w'=>e= .returned (.tuple #[.bool (Z11 xs a o),.int .u16 (Zer xs a)])/\MS W0 w' b g N (Z0s xs a o y) (st+Z0h xs a)/\Z01 (Z18 b g) w w':=by
 by_cases ha:0<=a/\a<(xs.length:Int)
 ·by_cases ho:xs.getD a.toNat 0=o
  ·exact(Zb1 h a o y ha.1 ha.2 ho s1).mono fun e w' ⟨e1,e2,e3⟩=>⟨by rw[e1,Z7j ha.1 ha.2 ho,Z4l ha.1 ha.2],e2.eqs (by unfold Z0s;rw[Z7j ha.1 ha.2 ho,if_pos rfl,Z68 ha.1 ha.2]) (by rw[Z4m ha.1 ha.2]),e3⟩
  ·exact(Z9c h a o y ha.1 ha.2 ho s1).mono fun e w' ⟨e1,e2,e3⟩=>⟨by rw[e1,Z69 ho,Z4l ha.1 ha.2],e2.eqs (by unfold Z0s;rw[Z69 ho,if_neg (by decide)]) (by rw[Z4m ha.1 ha.2]),e3⟩
 ·have hn:a<0\/(xs.length:Int)<=a:=by omega
  exact(Zd3 h a o y hn).mono fun e w' ⟨e1,e2,e3⟩=>⟨by rw[e1,Z9e hn,Z82 hn],e2.eqs (by unfold Z0s;rw[Z9e hn,if_neg (by decide)]) (by rw[Z83 hn];omega),Z0b e3⟩
theorem Zli (h:MS W0 w b g N xs st) (a:Int) (s1:st<1000000):
 Calls Tryz.prog 52 #[.pointer (some ⟨b,0,none⟩),.int .i64 a] w fun e w'=>∃g',e= .returned (.tuple #[.int .i64 (Z57 xs N a),.int .u16 (Z2s xs N a)])/\MS W0 w' b g' N (Z2m xs N a) (st+Z2i xs N a)/\(g'=g\/∃k,g'=some k/\w.heap.size<=k)/\Z01 (Z18 b g) w w':=by
 by_cases ha:0<=a/\a<=N-(xs.length:Int)
 ·exact(Zc5 h a ha.1 ha.2 s1).mono fun e w' ⟨g',e1,e2,e3,e4⟩=>⟨g',by rw[e1,Z57,Z2s,if_pos (Z4n ha.1 ha.2),if_pos (Z4n ha.1 ha.2)],e2.eqs (by rw[Z2m,if_pos (Z4n ha.1 ha.2)]) (by rw[Z2i,if_pos (Z4n ha.1 ha.2)]),e3,e4⟩
 ·by_cases h0:a<0
  ·have hn:=Zc6 (xs:=xs) (N:=N) (n:=a) (.inl h0)
   exact(Z9d h a h0).mono fun e w' ⟨e1,e2,e3⟩=>⟨g,by rw[e1,Z57,Z2s,hn,if_neg (by decide),if_neg (by decide),if_pos h0],e2.eqs (by rw[Z2m,hn,if_neg (by decide)]) (by rw[Z2i,hn,if_neg (by decide)];omega),.inl rfl,Z0b e3⟩
  ·have hn:=Zc6 (xs:=xs) (N:=N) (n:=a) (.inr (by omega))
   exact(Z81 h a (by omega) (by omega)).mono fun e w' ⟨e1,e2,e3⟩=>⟨g,by rw[e1,Z57,Z2s,hn,if_neg (by decide),if_neg (by decide),if_neg h0],e2.eqs (by rw[Z2m,hn,if_neg (by decide)]) (by rw[Z2i,hn,if_neg (by decide)];omega),.inl rfl,Z0b e3⟩
end
section
variable {w:World} {v:Value} {q:Option Nat} {N st:Int} {xs:List Int}
theorem Zaz.eqs {ys:List Int} {st':Int} (h:Zaz w v q N xs st) (e:xs=ys) (e':st=st'):Zaz w v q N ys st':=e ▸ e' ▸ h
end
def Zc7 (W0 w:World) (b:Nat) (g:Option Nat) (N:Int) (xs:List Int) (st:Int) (v:Value) (q:Option Nat) (ys:List Int) (su:Int):Prop:=
 MS W0 w b g N xs st/\Zaz w v q N ys su/\(∀k,q=some k->¬Z18 b g k)/\(ys.length:Int)<=N/\0<=su
section
variable {W0 w:World} {b:Nat} {g:Option Nat} {N st su:Int} {xs ys:List Int} {v:Value} {q:Option Nat}
theorem Zc7.ms (h:Zc7 W0 w b g N xs st v q ys su):MS W0 w b g N xs st:=h.1
theorem Zc7.rv (h:Zc7 W0 w b g N xs st v q ys su):Zaz w v q N ys su:=h.2.1
theorem Zc7.below {w':World} (h:Zc7 W0 w b g N xs st v q ys su) (hb:Below w.heap.size w w'):Zc7 W0 w' b g N xs st v q ys su:=
 ⟨h.1.below hb,h.2.1.below hb,h.2.2⟩
theorem Zc7.len (h:Zc7 W0 w b g N xs st v q ys su):ys.length<=1000:=by have:=h.2.2.2.1;have:=h.1.2.2.2.2.2.1;omega
theorem Zc7.far (h:Zc7 W0 w b g N xs st v q ys su):∀p,w.heap.size<=p->¬Z18 b g p:=fun p hp=>by
 rintro(e|e)
 ·have:=h.1.mem.lt;omega
 ·subst e;have:=h.1.mem.row_lt;omega
theorem Zc7.kept {F:Nat->Prop} {w':World} (h:Zc7 W0 w b g N xs st v q ys su) (hk:Z01 F w w') (hF:∀k,k<W0.heap.size->¬F k) (h1:¬F b) (h2:∀k,g=some k->¬F k) (h3:∀k,q=some k->¬F k):Zc7 W0 w' b g N xs st v q ys su:=
 ⟨h.1.kept hk (h.1.B.trans (hk.below h.1.B.size hF)) h1 h2,h.2.1.kept hk h3,h.2.2⟩
end
end
end Go.Proofs.YtihljjgmkaeohaaGreat
