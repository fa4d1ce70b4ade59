/- part 2 -/
import Derived.BigRegion
import Derived.ChangeSame
import Derived.Deep.CutRange
import Derived.Deep.Fields
import Derived.Deep.RegionWith
import Derived.Deep.Slices
import Derived.Laws.Cover3
import Derived.Lib.SmallJoins
import Derived.OpenShut
import Derived.ProofKit
import Derived.RegionTactic
import Derived.StillTailTactics
import Derived.Test.YtihljjgmkaeohaaGreatRows
import Derived.Test.YtihljjgmkaeohaaGreatPnAA
set_option linter.all false
set_option maxHeartbeats 16000000
set_option maxRecDepth 100000
namespace Go.Proofs.YtihljjgmkaeohaaGreat
section
open Go.ChangeShapes Go.WideShapes Go.ChangeAt Go.RowKit
theorem Tryz.own:ownKnob Tryz.prog.godebug=none:=by kernel_rfl
theorem Tryz.laidOut:laidOutB Tryz.prog=true:=by kernel_rfl
section
variable {H:Type} {enc:TypeId×Value->H} {P:Program}
theorem Z4o (hl:laidOutB P=true) {W W':World} (hb:Below W.heap.size W W'):∀(ts:List TypeId) (_:∀t ∈ ts,P.readableRec t=true/\t<P.types.size) (vs:List Value) (ds:List (DataW H)) (ps:List MemPlace),
 DataW.TrodAll enc P W 0 (fun _=>true) true ts vs ds ps->(∀x ∈ ps,x.block<W.heap.size)->DataW.TrodAll enc P W' 0 (fun b=>decide (b<W.heap.size)) true ts vs ds ps
 | [],_,[],[],_,h,_=>h
 | [],_,_::_,_,_,h,_=>h.elim
 | [],_,[],_::_,_,h,_=>h.elim
 |_::_,_,[],_,_,h,_=>h.elim
 |_::_,_,_::_,[],_,h,_=>h.elim
 |t::ts,hr,v::vs,d::ds,ps,h,hlt=>by
  obtain⟨p,q,h1,h2,rfl⟩:=h
  refine⟨p,q,?_,?_,rfl⟩
  ·exact Below.trod hl (hr t (by simp)).1 (hr t (by simp)).2 h1 hb (fun x hx=>hlt x (by simp[hx]))
  ·exact Z4o hl hb ts (fun t' ht'=>hr t' (by simp[ht'])) vs ds q h2 (fun x hx=>hlt x (by simp[hx]))
theorem Z49 {W:World} {b:Nat} {sp:Nat->Bool} {hd:Bool}:∀(ts:List TypeId) (vs:List Value) (ds:List (DataW H)) (ps:List MemPlace),DataW.TrodAll enc P W b sp hd ts vs ds ps->ds.length=ts.length
 | [],[],[],_,_=>rfl
 | [],_::_,_,_,h=>h.elim
 | [],[],_::_,_,h=>h.elim
 |_::_,[],_,_,h=>h.elim
 |_::_,_::_,[],_,h=>h.elim
 |_::ts,_::vs,_::ds,_,h=>by
  obtain⟨p,q,_,h2,_⟩:=h
  simp[Z49 ts vs ds q h2]
theorem Ziu {f:Func} {s:ChangeSpec} {W W':World} {args:Array Value} {ds gs:List (DataW H)} {before:List MemPlace} {T:TypeId} (hl:laidOutB P=true) (hr:∀t ∈ f.params.toList,P.readableRec t=true/\t<P.types.size)
 (hres:f.resultTypes= #[T]) (hT:P.underlying T=some .bool) (hvars:s.vars= []) (hfn:∀ds:List (DataW H),ds.length=f.params.toList.length->s.fn H (ds++ [])={results:= [.lit (.bool true)],args:=ds})
 (hW:DataW.Whole enc P f.params.toList s.vars false W args.toList ds gs before) (hb:Below W.heap.size W W'):s.post enc P f false true false false W args (.bool true) W':=by
 have hW0:=hW
 obtain⟨p,q,hA,hV,rfl,hz,hn⟩:=hW0
 rw[hvars]at hV
 obtain⟨rfl,rfl⟩:=trodVars_none hV
 have hf:=hfn ds (Z49 _ _ _ _ hA)
 simp only[List.append_nil]at hW
 refine⟨ds,[],p,[],p,[],hW,?_,?_,?_,hb.frame _,fun h=>by cases h⟩
 ·rw[hf,hres]
  exact trodAll_mk1 (shut_bool hT true)
 ·rw[hf]
  exact Z4o hl hb _ hr _ _ _ hA (fun x hx=>hW.lt x hx)
 ·rw[hf,hvars]
  rfl
end
end
section
open Go.RowKit Go.ChangeShapes Go.WideShapes Go.ChangeAt Go.Deep
def Z6a (m:Nat) (ks:Nat->IntKind) (w:World) (v:Value) (n:Nat) (R:Nat->Nat->Int):Prop:=
 ∃ao cap,v= .slice ao n cap/\n<=maxLen/\
  (0<n->∃b off,ao=some ⟨b,off,none⟩/\b<w.heap.size/\∀i j,i<n->j<m->w.cell? ⟨b,off+(i*m+j),none⟩=some (.int (ks j) (R i j))/\(Lit.int (ks j) (R i j)).wf=true)
theorem Z6a.below {m:Nat} {ks:Nat->IntKind} {w w':World} {v:Value} {n:Nat} {R:Nat->Nat->Int} (h:Z6a m ks w v n R) (hb:Below w.heap.size w w'):Z6a m ks w' v n R:=by
 obtain⟨ao,cap,h1,h2,h3⟩:=h
 refine⟨ao,cap,h1,h2,fun hp=>?_⟩
 obtain⟨b,off,e1,e2,e3⟩:=h3 hp
 exact⟨b,off,e1,Nlt e2 hb.size,fun i j hi hj=>⟨(hb.cell (p:=⟨b,off+(i*m+j),none⟩) e2).trans (e3 i j hi hj).1,(e3 i j hi hj).2⟩⟩
def Its (w:World) (v:Value) (n:Nat) (F:Nat->Int):Prop:=
 ∃ao cap,v= .slice ao n cap/\(0<n->∃b off,ao=some ⟨b,off,none⟩/\b<w.heap.size/\∀j,j<3*n->w.cell? ⟨b,off+j,none⟩=some (.int .i64 (F j)))
theorem Its.below {w w':World} {v:Value} {n:Nat} {F:Nat->Int} (h:Its w v n F) (hb:Below w.heap.size w w'):Its w' v n F:=by
 obtain⟨ao,cap,h1,h4⟩:=h
 refine⟨ao,cap,h1,fun hp=>?_⟩
 obtain⟨b,off,e1,e2,e3⟩:=h4 hp
 exact⟨b,off,e1,Nlt e2 hb.size,fun j hj=>(hb.cell (p:=⟨b,off+j,none⟩) e2).trans (e3 j hj)⟩
theorem Its.nil (w:World) (F:Nat->Int):Its w (.slice none 0 0) 0 F:=⟨none,0,rfl,fun h=>absurd h (Nat.lt_irrefl 0)⟩
theorem Its.kept {S:Nat->Prop} {w w':World} {ao:Option Addr} {cap n:Nat} {F:Nat->Int} (h:Its w (.slice ao n cap) n F) (hk:Z01 S w w') (hs:∀b,(∃off,ao=some ⟨b,off,none⟩)->b<w.heap.size->¬S b):Its w' (.slice ao n cap) n F:=by
 obtain⟨ao',cap',h1,h4⟩:=h
 cases h1
 refine⟨ao,cap,rfl,fun hp=>?_⟩
 obtain⟨b,off,e1,e2,e3⟩:=h4 hp
 exact⟨b,off,e1,Nlt e2 hk.size,fun j hj=>(hk.cell (p:=⟨b,off+j,none⟩) e2 (hs b ⟨off,e1⟩ e2)).trans (e3 j hj)⟩
def Zb2 (n:Nat) (F:Nat->Int):List Value:=(List.range (3*n)).map fun j=>.int .i64 (F j)
theorem Z3z (n:Nat) (F:Nat->Int):(Zb2 n F).length=n*3:=by unfold Zb2;simp;omega
section
variable {n:Nat} {F:Nat->Int} {j:Nat}
theorem Z58 (h:j<3*n):(Zb2 n F)[j]?=some (.int .i64 (F j)):=by unfold Zb2;simp[h]
theorem Zc8 {u:Value} (h:(Zb2 n F)[j]?=some u):j<3*n/\u= .int .i64 (F j):=by
 have hj:j<3*n:=by
  have:=(List.getElem?_eq_some_iff.1 h).1
  rw[Z3z]at this;omega
 rw[Z58 hj]at h
 exact⟨hj,(Option.some.inj h).symm⟩
end
theorem Z2t (b off j:Nat):(⟨b,off,none⟩:Addr).add j=⟨b,off+j,none⟩:=by unfold Addr.add;split<;>simp_all
theorem Its.of {w:World} {base:Nat} {v:Value} {n:Nat} {F:Nat->Int} (h:w.ownsRow base 160 3 v n (Zb2 n F)):Its w v n F:=by
 rcases h.2 with⟨rfl,h0⟩|⟨g,cap,cur,rfl,_,hg,hn,_,hc,ht⟩
 ·subst h0;exact Its.nil w F
 ·refine⟨_,cap,rfl,fun hp=>⟨g,0,rfl,(Gl hg),fun j hj=>?_⟩⟩
  have h2:=World.ownsRow.cells h (g:=g) rfl j _ (Z58 hj)
  rw[Z2t]at h2
  exact h2
theorem Tryz.infoItem:(Tryz.prog.info? 160).map (fun i=>(i.zero,i.size,i.bytes))=some (some (.agg #[.int .i64 0,.int .i64 0,.int .i64 0]),3,24):=by kernel_rfl
theorem Z1r {w:World} {b:Nat} {x0 x1 x2 x3 x4 x5 x6 x7 x8 x9 x10 x11 x12:Value} {t:TypeId} (h:w.heap[b]?=some (.cells #[x0,x1,x2,x3,x4,x5,x6,x7,x8,x9,x10,x11,x12] t (0,0))):
 (w.cell? ⟨b,0,none⟩=some x0/\w.cell? ⟨b,1,none⟩=some x1/\w.cell? ⟨b,2,none⟩=some x2/\w.cell? ⟨b,3,none⟩=some x3/\w.cell? ⟨b,4,none⟩=some x4/\w.cell? ⟨b,5,none⟩=some x5/\w.cell? ⟨b,6,none⟩=some x6/\w.cell? ⟨b,7,none⟩=some x7/\w.cell? ⟨b,8,none⟩=some x8/\w.cell? ⟨b,9,none⟩=some x9/\w.cell? ⟨b,10,none⟩=some x10/\w.cell? ⟨b,11,none⟩=some x11/\w.cell? ⟨b,12,none⟩=some x12)/\b<w.heap.size:=by
 refine⟨⟨?_,?_,?_,?_,?_,?_,?_,?_,?_,?_,?_,?_,?_⟩,(Gl h)⟩<;>simp[World.cell?,h]
theorem Z06 {w:World} {b:Nat} {cs:Array Value} {t:TypeId} (h:w.heap[b]?=some (.cells cs t (0,0))) (j:Nat):w.frozen? ⟨b,j,none⟩=false:=by simp[World.frozen?,h]
end
section
open Go.RowKit
def Z0o (k v:Int):Int:=(v+2147483648)*256+k+1
def wis (n:Int):Bool:=decide (1<=n/\n<=1099511627776)
def wk (n:Int):Int:=if 1<=n/\n<=1099511627776 then(n-1)%256 else 0
def wv (n:Int):Int:=if 1<=n/\n<=1099511627776 then(n-1)/256-2147483648 else 0
theorem Zeu {n:Int} (h1:1<=n) (h2:n<=1099511627776):wis n=true:=by simp[wis,h1,h2]
theorem Zev {n:Int} (h1:1<=n) (h2:n<=1099511627776):wk n=(n-1)%256:=by simp[wk,h1,h2]
theorem Zew {n:Int} (h1:1<=n) (h2:n<=1099511627776):wv n=(n-1)/256-2147483648:=by simp[wv,h1,h2]
theorem Zkv {n:Int} (h:n<1\/1099511627776<n):wis n=false:=by simp only[wis,decide_eq_false_iff_not];omega
theorem Zof {n:Int} (h:n<1\/1099511627776<n):wk n=0:=by simp only[wk];rw[if_neg (by omega)]
theorem Zog {n:Int} (h:n<1\/1099511627776<n):wv n=0:=by simp only[wv];rw[if_neg (by omega)]
theorem Zoh (n:Int):0<=wk n/\wk n<=255:=by unfold wk;split<;>omega
theorem Zoi (n:Int): -2147483648<=wv n/\wv n<=2147483647:=by unfold wv;split<;>omega
theorem Zc9 {k v:Int} (h1:0<=k) (h2:k<=255) (h3: -2147483648<=v) (h4:v<=2147483647):1<=Z0o k v/\Z0o k v<=1099511627776:=by unfold Z0o;omega
theorem Zlj {k v:Int} (h1:0<=k) (h2:k<=255) (h3: -2147483648<=v) (h4:v<=2147483647):wk (Z0o k v)=k:=by
 have:=Zc9 h1 h2 h3 h4
 rw[Zev this.1 this.2];unfold Z0o;omega
theorem Zlk {k v:Int} (h1:0<=k) (h2:k<=255) (h3: -2147483648<=v) (h4:v<=2147483647):wv (Z0o k v)=v:=by
 have:=Zc9 h1 h2 h3 h4
 rw[Zew this.1 this.2];unfold Z0o;omega
theorem Zca (k v:Int) (w:World) (h1:0<=k) (h2:k<=255) (h3: -2147483648<=v) (h4:v<=2147483647):
 Calls Tryz.prog 80 #[.int .u8 k,.int .i32 v] w fun e w'=>e= .returned (.int .i64 (Z0o k v))/\w=w':=by
 go_enter Tryz.func80,Tryz.ntmps80
 go_wp2
 go_ret
 exact⟨rfl,rfl⟩
theorem Zex (k v:Int) (w:World) (h1:0<=k) (h2:k<=255) (h3: -2147483648<=v) (h4:v<=2147483647):
 Calls Tryz.prog 75 #[.agg #[.int .u8 k,.int .i32 v]] w fun e w'=>e= .returned (.int .i64 (Z0o k v))/\Below w.heap.size w w':=by
 go_enter Tryz.func75,Tryz.ntmps75
 go_wp2_with (go_at_call 80;refine(Zca _ _ _ h1 h2 h3 h4).mono ?_;rintro e w' ⟨rfl,rfl⟩)
 go_ret
 exact⟨rfl,by go_grown⟩
theorem Ziv (k v:Int) (w:World) (h1:0<=k) (h2:k<=255) (h3: -2147483648<=v) (h4:v<=2147483647):
 Calls Tryz.prog 148 #[.agg #[.int .u8 k,.int .i32 v]] w fun e w'=>e= .returned (.int .i64 (Z0o k v))/\Below w.heap.size w w':=by
 go_enter Tryz.func148,Tryz.ntmps148
 go_wp2_with (go_at_call 80;refine(Zca _ _ _ h1 h2 h3 h4).mono ?_;rintro e w' ⟨rfl,rfl⟩)
 go_ret
 exact⟨rfl,by go_grown⟩
theorem Z9f (n:Int) (w:World):
 Calls Tryz.prog 127 #[.int .i64 n,.func (.func 128) #[] #[]] w fun e w'=>e= .returned (.tuple #[.agg #[.int .u8 (wk n),.int .i32 (wv n)],.bool (wis n)])/\Below w.heap.size w w':=by
 by_cases h:1<=n/\n<=1099511627776
 ·rw[Zev h.1 h.2,Zew h.1 h.2,Zeu h.1 h.2]
  obtain⟨h1,h2⟩:=h
  go_enter Tryz.func127,Tryz.ntmps127
  go_wp2
  go_returns
  exact⟨rfl,by go_grown⟩
 ·have h':n<1\/1099511627776<n:=by omega
  rw[Zof h',Zog h',Zkv h']
  clear h
  rcases h' with h|h
  all_goals
   go_enter Tryz.func127,Tryz.ntmps127
   go_wp2
   go_returns
   exact⟨rfl,by go_grown⟩
theorem Z84 (n:Int) (w:World):
 Calls Tryz.prog 133 #[.int .i64 n,.func (.func 134) #[] #[]] w fun e w'=>e= .returned (.tuple #[.agg #[.int .u8 (wk n),.int .i32 (wv n)],.bool (wis n)])/\Below w.heap.size w w':=by
 by_cases h:1<=n/\n<=1099511627776
 ·rw[Zev h.1 h.2,Zew h.1 h.2,Zeu h.1 h.2]
  obtain⟨h1,h2⟩:=h
  go_enter Tryz.func133,Tryz.ntmps133
  go_wp2
  go_returns
  exact⟨rfl,by go_grown⟩
 ·have h':n<1\/1099511627776<n:=by omega
  rw[Zof h',Zog h',Zkv h']
  clear h
  rcases h' with h|h
  all_goals
   go_enter Tryz.func133,Tryz.ntmps133
   go_wp2
   go_returns
   exact⟨rfl,by go_grown⟩
theorem Z9g (n:Int) (w:World):
 Calls Tryz.prog 83 #[.int .i64 n] w fun e w'=>e= .returned (.tuple #[.agg #[.int .u8 (wk n),.int .i32 (wv n)],.bool (wis n)])/\Below w.heap.size w w':=by
 go_enter Tryz.func83,Tryz.ntmps83
 go_wp2_with fail
 refine(Z9f _ _).mono ?_
 rintro e w1 ⟨rfl,hb⟩
 obtain⟨hc,hf⟩:=Zod hb
 go_wp2
 refine bodyPost_ret (v:=.tuple #[.agg #[.int .u8 (wk n),.int .i32 (wv n)],.bool (wis n)]) (by simp[results,Tryz.results83,go_sem,hc]) rfl ⟨rfl,?_⟩
 exact(((Brf _ _).alloc (Nat.le_refl _) _).trans (hb.mono (by simp))).setCell (by simp) _ |>.setCell (by simp) _
theorem Z7l (n:Int) (w:World):
 Calls Tryz.prog 85 #[.int .i64 n] w fun e w'=>e= .returned (.tuple #[.agg #[.int .u8 (wk n),.int .i32 (wv n)],.bool (wis n)])/\Below w.heap.size w w':=by
 go_enter Tryz.func85,Tryz.ntmps85
 go_wp2_with fail
 refine(Z84 _ _).mono ?_
 rintro e w1 ⟨rfl,hb⟩
 obtain⟨hc,hf⟩:=Zod hb
 go_wp2
 refine bodyPost_ret (v:=.tuple #[.agg #[.int .u8 (wk n),.int .i32 (wv n)],.bool (wis n)]) (by simp[results,Tryz.results85,go_sem,hc]) rfl ⟨rfl,?_⟩
 exact(((Brf _ _).alloc (Nat.le_refl _) _).trans (hb.mono (by simp))).setCell (by simp) _ |>.setCell (by simp) _
theorem Z6b (n:Int) (w:World):
 Calls Tryz.prog 145 #[.int .i64 n] w fun e w'=>e= .returned (.bool (decide (0<n)))/\w=w':=by
 go_enter Tryz.func145,Tryz.ntmps145
 go_wp2
 go_ret
 exact⟨rfl,rfl⟩
end
section
open Go.RowKit Go.ChangeShapes Go.WideShapes Go.ChangeAt
theorem MS.farx {W0 w w':World} {b x:Nat} {g:Option Nat} {N st:Int} {xs:List Int} (h:MS W0 w b g N xs st) (hk:Z01 (fun k=>k=x) w w') (hW:W0.heap.size<=x) (hF:¬Z18 b g x):MS W0 w' b g N xs st:=
 h.kept hk (h.B.trans (hk.below h.B.size (fun k hk e=>by omega))) (fun e=>hF (.inl e.symm)) (fun k e e2=>hF (.inr (by rw[e,e2])))
def OT (W0 w:World) (x:Nat) (g:Option Nat) (N st:Int) (xs:List Int) (i0 i1 i2 i3 i4 i5 i6 i7 i8 i9 i10 i11:Int) (bt:Value) (b:Nat) (rc rv:Int) (td:Bool):Prop:=
 MS W0 w b g N xs st/\w.heap[x]?=some (.cells #[.int .i64 i0,.int .i64 i1,.int .i64 i2,.int .i64 i3,.int .i64 i4,.int .i64 i5,.int .i64 i6,.int .i64 i7,.int .i64 i8,.int .i64 i9,.int .i64 i10,.int .i64 i11,bt,.pointer (some ⟨b,0,none⟩),.int .u8 rc,.int .i32 rv,.bool td] 171 (0,0))/\W0.heap.size<=x/\¬Z18 b g x/\0<=st
abbrev FX (b:Nat) (g:Option Nat) (x:Nat):Nat->Prop:=fun k=>Z18 b g k\/k=x
section
variable {W0 w w':World} {x:Nat} {g:Option Nat} {N st:Int} {xs:List Int} {i0 i1 i2 i3 i4 i5 i6 i7 i8 i9 i10 i11:Int} {bt:Value} {b:Nat} {rc rv:Int} {td:Bool}
theorem OT.ms (h:OT W0 w x g N st xs i0 i1 i2 i3 i4 i5 i6 i7 i8 i9 i10 i11 bt b rc rv td):MS W0 w b g N xs st:=h.1
theorem OT.blk (h:OT W0 w x g N st xs i0 i1 i2 i3 i4 i5 i6 i7 i8 i9 i10 i11 bt b rc rv td):w.heap[x]?=some (.cells #[.int .i64 i0,.int .i64 i1,.int .i64 i2,.int .i64 i3,.int .i64 i4,.int .i64 i5,.int .i64 i6,.int .i64 i7,.int .i64 i8,.int .i64 i9,.int .i64 i10,.int .i64 i11,bt,.pointer (some ⟨b,0,none⟩),.int .u8 rc,.int .i32 rv,.bool td] 171 (0,0)):=h.2.1
theorem OT.lt (h:OT W0 w x g N st xs i0 i1 i2 i3 i4 i5 i6 i7 i8 i9 i10 i11 bt b rc rv td):x<w.heap.size:=(Gl h.2.1)
theorem OT.below (h:OT W0 w x g N st xs i0 i1 i2 i3 i4 i5 i6 i7 i8 i9 i10 i11 bt b rc rv td) (hb:Below w.heap.size w w'):OT W0 w' x g N st xs i0 i1 i2 i3 i4 i5 i6 i7 i8 i9 i10 i11 bt b rc rv td:=⟨h.1.below hb,(hb.block x h.lt).trans h.2.1,h.2.2⟩
theorem OT.drew (h:OT W0 w x g N st xs i0 i1 i2 i3 i4 i5 i6 i7 i8 i9 i10 i11 bt b rc rv td):OT W0 w.drew x g N st xs i0 i1 i2 i3 i4 i5 i6 i7 i8 i9 i10 i11 bt b rc rv td:=h.below (Brf _ _).drew
theorem OT.mem (h:OT W0 w x g N st xs i0 i1 i2 i3 i4 i5 i6 i7 i8 i9 i10 i11 bt b rc rv td) {st':Int} {xs':List Int} {g':Option Nat} (m:MS W0 w' b g' N xs' st') (hk:Z01 (Z18 b g) w w') (hg:g'=g\/∃k,g'=some k/\w.heap.size<=k) (h0:0<=st'):OT W0 w' x g' N st' xs' i0 i1 i2 i3 i4 i5 i6 i7 i8 i9 i10 i11 bt b rc rv td:=
 ⟨m,(hk.block x h.lt h.2.2.2.1).trans h.2.1,h.2.2.1,fun e=>by
   rcases hg with rfl|⟨k,rfl,hk⟩
   ·exact h.2.2.2.1 e
   ·rcases e with e|e
    ·exact h.2.2.2.1 (.inl e)
    ·have:=h.lt
     simp at e
     omega,h0⟩
theorem OT.open (h:OT W0 w x g N st xs i0 i1 i2 i3 i4 i5 i6 i7 i8 i9 i10 i11 bt b rc rv td):(w.cell? ⟨x,0,none⟩=some (.int .i64 i0)/\w.cell? ⟨x,1,none⟩=some (.int .i64 i1)/\w.cell? ⟨x,2,none⟩=some (.int .i64 i2)/\w.cell? ⟨x,3,none⟩=some (.int .i64 i3)/\w.cell? ⟨x,4,none⟩=some (.int .i64 i4)/\w.cell? ⟨x,5,none⟩=some (.int .i64 i5)/\w.cell? ⟨x,6,none⟩=some (.int .i64 i6)/\w.cell? ⟨x,7,none⟩=some (.int .i64 i7)/\w.cell? ⟨x,8,none⟩=some (.int .i64 i8)/\w.cell? ⟨x,9,none⟩=some (.int .i64 i9)/\w.cell? ⟨x,10,none⟩=some (.int .i64 i10)/\w.cell? ⟨x,11,none⟩=some (.int .i64 i11)/\w.cell? ⟨x,12,none⟩=some (bt)/\w.cell? ⟨x,13,none⟩=some (.pointer (some ⟨b,0,none⟩))/\w.cell? ⟨x,14,none⟩=some (.int .u8 rc)/\w.cell? ⟨x,15,none⟩=some (.int .i32 rv)/\w.cell? ⟨x,16,none⟩=some (.bool td))/\(∀j,w.frozen? ⟨x,j,none⟩=false)/\x<w.heap.size:=by
 have hb:=h.blk
 refine⟨⟨?_,?_,?_,?_,?_,?_,?_,?_,?_,?_,?_,?_,?_,?_,?_,?_,?_⟩,fun j=>Z06 hb j,h.lt⟩<;>simp[World.cell?,hb]
theorem kx (w:World) (b:Nat) (g:Option Nat) (x j:Nat) (v:Value):Z01 (FX b g x) w (w.setCell ⟨x,j,none⟩ v):=(Z01.refl (FX b g x) w).setCell (p:=⟨x,j,none⟩) (fun _=>.inr rfl) _
theorem kxF {F:Nat->Prop} {x:Nat} {w w':World} (h:Z01 F w w'):Z01 (fun k=>F k\/k=x) w w':=h.mono (fun _ _ e=>.inl e)
theorem OT.set0 (h:OT W0 w x g N st xs i0 i1 i2 i3 i4 i5 i6 i7 i8 i9 i10 i11 bt b rc rv td) (y:Int):OT W0 (w.setCell ⟨x,0,none⟩ (.int .i64 y)) x g N st xs y i1 i2 i3 i4 i5 i6 i7 i8 i9 i10 i11 bt b rc rv td:=by
 have hk:Z01 (fun k=>k=x) w (w.setCell ⟨x,0,none⟩ (.int .i64 y)):=(Z01.refl (fun k=>k=x) w).setCell (p:=⟨x,0,none⟩) (fun _=>rfl) _
 refine⟨h.1.farx hk h.2.2.1 h.2.2.2.1,?_,h.2.2⟩
 rw[Z00 h.2.1];rfl
theorem OT.set1 (h:OT W0 w x g N st xs i0 i1 i2 i3 i4 i5 i6 i7 i8 i9 i10 i11 bt b rc rv td) (y:Int):OT W0 (w.setCell ⟨x,1,none⟩ (.int .i64 y)) x g N st xs i0 y i2 i3 i4 i5 i6 i7 i8 i9 i10 i11 bt b rc rv td:=by
 have hk:Z01 (fun k=>k=x) w (w.setCell ⟨x,1,none⟩ (.int .i64 y)):=(Z01.refl (fun k=>k=x) w).setCell (p:=⟨x,1,none⟩) (fun _=>rfl) _
 refine⟨h.1.farx hk h.2.2.1 h.2.2.2.1,?_,h.2.2⟩
 rw[Z00 h.2.1];rfl
theorem OT.set2 (h:OT W0 w x g N st xs i0 i1 i2 i3 i4 i5 i6 i7 i8 i9 i10 i11 bt b rc rv td) (y:Int):OT W0 (w.setCell ⟨x,2,none⟩ (.int .i64 y)) x g N st xs i0 i1 y i3 i4 i5 i6 i7 i8 i9 i10 i11 bt b rc rv td:=by
 have hk:Z01 (fun k=>k=x) w (w.setCell ⟨x,2,none⟩ (.int .i64 y)):=(Z01.refl (fun k=>k=x) w).setCell (p:=⟨x,2,none⟩) (fun _=>rfl) _
 refine⟨h.1.farx hk h.2.2.1 h.2.2.2.1,?_,h.2.2⟩
 rw[Z00 h.2.1];rfl
theorem OT.set4 (h:OT W0 w x g N st xs i0 i1 i2 i3 i4 i5 i6 i7 i8 i9 i10 i11 bt b rc rv td) (y:Int):OT W0 (w.setCell ⟨x,4,none⟩ (.int .i64 y)) x g N st xs i0 i1 i2 i3 y i5 i6 i7 i8 i9 i10 i11 bt b rc rv td:=by
 have hk:Z01 (fun k=>k=x) w (w.setCell ⟨x,4,none⟩ (.int .i64 y)):=(Z01.refl (fun k=>k=x) w).setCell (p:=⟨x,4,none⟩) (fun _=>rfl) _
 refine⟨h.1.farx hk h.2.2.1 h.2.2.2.1,?_,h.2.2⟩
 rw[Z00 h.2.1];rfl
theorem OT.set5 (h:OT W0 w x g N st xs i0 i1 i2 i3 i4 i5 i6 i7 i8 i9 i10 i11 bt b rc rv td) (y:Int):OT W0 (w.setCell ⟨x,5,none⟩ (.int .i64 y)) x g N st xs i0 i1 i2 i3 i4 y i6 i7 i8 i9 i10 i11 bt b rc rv td:=by
 have hk:Z01 (fun k=>k=x) w (w.setCell ⟨x,5,none⟩ (.int .i64 y)):=(Z01.refl (fun k=>k=x) w).setCell (p:=⟨x,5,none⟩) (fun _=>rfl) _
 refine⟨h.1.farx hk h.2.2.1 h.2.2.2.1,?_,h.2.2⟩
 rw[Z00 h.2.1];rfl
theorem OT.set6 (h:OT W0 w x g N st xs i0 i1 i2 i3 i4 i5 i6 i7 i8 i9 i10 i11 bt b rc rv td) (y:Int):OT W0 (w.setCell ⟨x,6,none⟩ (.int .i64 y)) x g N st xs i0 i1 i2 i3 i4 i5 y i7 i8 i9 i10 i11 bt b rc rv td:=by
 have hk:Z01 (fun k=>k=x) w (w.setCell ⟨x,6,none⟩ (.int .i64 y)):=(Z01.refl (fun k=>k=x) w).setCell (p:=⟨x,6,none⟩) (fun _=>rfl) _
 refine⟨h.1.farx hk h.2.2.1 h.2.2.2.1,?_,h.2.2⟩
 rw[Z00 h.2.1];rfl
theorem OT.set7 (h:OT W0 w x g N st xs i0 i1 i2 i3 i4 i5 i6 i7 i8 i9 i10 i11 bt b rc rv td) (y:Int):OT W0 (w.setCell ⟨x,7,none⟩ (.int .i64 y)) x g N st xs i0 i1 i2 i3 i4 i5 i6 y i8 i9 i10 i11 bt b rc rv td:=by
 have hk:Z01 (fun k=>k=x) w (w.setCell ⟨x,7,none⟩ (.int .i64 y)):=(Z01.refl (fun k=>k=x) w).setCell (p:=⟨x,7,none⟩) (fun _=>rfl) _
 refine⟨h.1.farx hk h.2.2.1 h.2.2.2.1,?_,h.2.2⟩
 rw[Z00 h.2.1];rfl
theorem OT.set8 (h:OT W0 w x g N st xs i0 i1 i2 i3 i4 i5 i6 i7 i8 i9 i10 i11 bt b rc rv td) (y:Int):OT W0 (w.setCell ⟨x,8,none⟩ (.int .i64 y)) x g N st xs i0 i1 i2 i3 i4 i5 i6 i7 y i9 i10 i11 bt b rc rv td:=by
 have hk:Z01 (fun k=>k=x) w (w.setCell ⟨x,8,none⟩ (.int .i64 y)):=(Z01.refl (fun k=>k=x) w).setCell (p:=⟨x,8,none⟩) (fun _=>rfl) _
 refine⟨h.1.farx hk h.2.2.1 h.2.2.2.1,?_,h.2.2⟩
 rw[Z00 h.2.1];rfl
theorem OT.set9 (h:OT W0 w x g N st xs i0 i1 i2 i3 i4 i5 i6 i7 i8 i9 i10 i11 bt b rc rv td) (y:Int):OT W0 (w.setCell ⟨x,9,none⟩ (.int .i64 y)) x g N st xs i0 i1 i2 i3 i4 i5 i6 i7 i8 y i10 i11 bt b rc rv td:=by
 have hk:Z01 (fun k=>k=x) w (w.setCell ⟨x,9,none⟩ (.int .i64 y)):=(Z01.refl (fun k=>k=x) w).setCell (p:=⟨x,9,none⟩) (fun _=>rfl) _
 refine⟨h.1.farx hk h.2.2.1 h.2.2.2.1,?_,h.2.2⟩
 rw[Z00 h.2.1];rfl
theorem OT.set10 (h:OT W0 w x g N st xs i0 i1 i2 i3 i4 i5 i6 i7 i8 i9 i10 i11 bt b rc rv td) (y:Int):OT W0 (w.setCell ⟨x,10,none⟩ (.int .i64 y)) x g N st xs i0 i1 i2 i3 i4 i5 i6 i7 i8 i9 y i11 bt b rc rv td:=by
 have hk:Z01 (fun k=>k=x) w (w.setCell ⟨x,10,none⟩ (.int .i64 y)):=(Z01.refl (fun k=>k=x) w).setCell (p:=⟨x,10,none⟩) (fun _=>rfl) _
 refine⟨h.1.farx hk h.2.2.1 h.2.2.2.1,?_,h.2.2⟩
 rw[Z00 h.2.1];rfl
theorem OT.set11 (h:OT W0 w x g N st xs i0 i1 i2 i3 i4 i5 i6 i7 i8 i9 i10 i11 bt b rc rv td) (y:Int):OT W0 (w.setCell ⟨x,11,none⟩ (.int .i64 y)) x g N st xs i0 i1 i2 i3 i4 i5 i6 i7 i8 i9 i10 y bt b rc rv td:=by
 have hk:Z01 (fun k=>k=x) w (w.setCell ⟨x,11,none⟩ (.int .i64 y)):=(Z01.refl (fun k=>k=x) w).setCell (p:=⟨x,11,none⟩) (fun _=>rfl) _
 refine⟨h.1.farx hk h.2.2.1 h.2.2.2.1,?_,h.2.2⟩
 rw[Z00 h.2.1];rfl
theorem OT.setR (h:OT W0 w x g N st xs i0 i1 i2 i3 i4 i5 i6 i7 i8 i9 i10 i11 bt b rc rv td) (k v:Int):OT W0 ((w.setCell ⟨x,14,none⟩ (.int .u8 k)).setCell ⟨x,15,none⟩ (.int .i32 v)) x g N st xs i0 i1 i2 i3 i4 i5 i6 i7 i8 i9 i10 i11 bt b k v td:=by
 have hk:Z01 (fun k=>k=x) w ((w.setCell ⟨x,14,none⟩ (.int .u8 k)).setCell ⟨x,15,none⟩ (.int .i32 v)):=((Z01.refl (fun k=>k=x) w).setCell (p:=⟨x,14,none⟩) (fun _=>rfl) _).setCell (p:=⟨x,15,none⟩) (fun _=>rfl) _
 refine⟨h.1.farx hk h.2.2.1 h.2.2.2.1,?_,h.2.2⟩
 have h1:(w.setCell ⟨x,14,none⟩ (.int .u8 k)).heap[x]?=_:=Z00 h.2.1 14 (.int .u8 k)
 rw[Z00 h1];rfl
theorem OT.setT (h:OT W0 w x g N st xs i0 i1 i2 i3 i4 i5 i6 i7 i8 i9 i10 i11 bt b rc rv td) (d:Bool):OT W0 (w.setCell ⟨x,16,none⟩ (.bool d)) x g N st xs i0 i1 i2 i3 i4 i5 i6 i7 i8 i9 i10 i11 bt b rc rv d:=by
 have hk:Z01 (fun k=>k=x) w (w.setCell ⟨x,16,none⟩ (.bool d)):=(Z01.refl (fun k=>k=x) w).setCell (p:=⟨x,16,none⟩) (fun _=>rfl) _
 refine⟨h.1.farx hk h.2.2.1 h.2.2.2.1,?_,h.2.2⟩
 rw[Z00 h.2.1];rfl
end
theorem Z4p (v:Bool) (e:Int) (w:World):Calls Tryz.prog 138 #[.bool v,.int .u16 e] w fun r w'=>r= .returned (.bool v)/\w=w':=by
 go_enter Tryz.func138,Tryz.ntmps138
 go_wp2
 go_ret
 exact⟨rfl,rfl⟩
theorem Zey (v e:Int) (w:World):Calls Tryz.prog 152 #[.int .i64 v,.int .u16 e] w fun r w'=>r= .returned (.int .i64 v)/\w=w':=by
 go_enter Tryz.func152,Tryz.ntmps152
 go_wp2
 go_ret
 exact⟨rfl,rfl⟩
section
variable (W0 w:World) (x:Nat) (g:Option Nat) (N st:Int) (xs:List Int) (i0 i1 i2 i3 i4 i5 i6 i7 i8 i9 i10 i11:Int) (bt:Value) (b:Nat) (rc rv:Int) (td:Bool)
theorem Z2o (a v:Int) (h:OT W0 w x g N st xs i0 i1 i2 i3 i4 i5 i6 i7 i8 i9 i10 i11 bt b rc rv td) (hv:cellAt xs a=v) (s1:st<1000000):
 Calls Tryz.prog 139 #[.pointer (some ⟨x,0,none⟩),.int .i64 a] w fun e w'=>e= .returned (.tuple #[])/\OT W0 w' x g N (st+Z0h xs a) xs i0 i1 i2 i3 i4 v i6 i7 i8 i9 i10 i11 bt b rc rv td/\Z01 (FX b g x) w w':=by
 obtain⟨⟨c0,c1,c2,c3,c4,c5,c6,c7,c8,c9,c10,c11,c12,c13,c14,c15,c16⟩,hf,hx⟩:=h.open
 have H:=Hd h
 have cL:=Hd (hv ▸ Zet h.ms a s1)
 clear hf h hv c0 c1 c2 c3 c4 c5 c6 c7 c8 c9 c10 c11 c12
 go_enter Tryz.func139,Tryz.ntmps139
 go_wp2_with fail
 refine cL.out.mono ?_
 rintro e w1 ⟨rfl,m1,k1⟩
 have h1:=H.out.mem m1 k1 (.inl rfl) (by have:=H.out.2.2.2.2;have:=Z0f xs a;omega)
 have f5:=Z06 h1.blk 5
 obtain⟨⟨d0,d1,d2,d3,d4,d5,d6,d7,d8,d9,d10,d11,d12,d13,d14,d15,d16⟩,-,z1⟩:=h1.open
 have H1:=hi2 h1 k1
 clear h1 m1 k1 c13 c14 c15 c16 d0 d1 d2 d3 d4 d6 d7 d8 d9 d10 d11 d12 d13 d14 d15 d16
 go_wp2_with fail
 refine(Zey _ _ _).mono ?_
 rintro e w' ⟨rfl,rfl⟩
 go_wp2
 go_end0
 exact⟨rfl,H1.out.1.set5 v,(kxF H1.out.2).trans (kx _ _ _ _ _ _)⟩
theorem Z1b (is:Bool) (y n:Int) (h:OT W0 w x g N st xs i0 i1 i2 i3 i4 i5 i6 i7 i8 i9 i10 i11 bt b rc rv td):
 Calls Tryz.prog 137 #[.pointer (some ⟨x,0,none⟩),.bool is,.int .i64 y,.int .i64 n] w fun e w'=>e= .returned (.tuple #[])/\OT W0 w' x g N st xs i0 (if is=true then y else n) i2 i3 i4 i5 i6 i7 i8 i9 i10 i11 bt b rc rv td/\Z01 (FX b g x) w w':=by
 have f1:=Z06 h.blk 1
 obtain⟨⟨c0,c1,-⟩,-,hx⟩:=h.open
 have H:=Hd h
 clear h c0
 cases is
 ·go_enter Tryz.func137,Tryz.ntmps137
  go_wp2
  go_end0
  exact⟨rfl,H.out.set1 n,kx _ _ _ _ _ _⟩
 ·go_enter Tryz.func137,Tryz.ntmps137
  go_wp2
  go_end0
  exact⟨rfl,by first|exact H.out.set1 y|exact(H.out.set1 n).set1 y,by first|exact kx _ _ _ _ _ _|exact(kx _ _ _ _ _ _).trans (kx _ _ _ _ _ _)⟩
end
def Z32 (n:Nat):Int:=(max 0 ((n:Int)-3))/5
theorem Zez (k:Int) (w:World) (h0:0<=k) (h1:k<=1000):Calls Tryz.prog 51 #[.int .i64 k] w fun e w'=>e= .returned (.int .i64 (3+5*k))/\w=w':=by
 go_enter Tryz.func51,Tryz.ntmps51
 go_wp2
 go_ret
 exact⟨by first|rfl|(exact Zay (by omega)),rfl⟩
theorem Ziw (k:Int) (w:World) (h:k<0\/1000<k):Calls Tryz.prog 51 #[.int .i64 k] w fun e w'=>e= .returned (.int .i64 0)/\w=w':=by
 rcases h with h|h
 all_goals
  go_enter Tryz.func51,Tryz.ntmps51
  go_wp2
  go_ret
  exact⟨rfl,rfl⟩
theorem Zll (n:Int) (W0 w:World) (hB:Below W0.heap.size W0 w) (h0:1<=n) (h1:n<=64):
 Calls Tryz.prog 31 #[.int .i64 n] w fun e w'=>∃g,e= .returned (.pointer (some ⟨w.heap.size,0,none⟩))/\MS W0 w' w.heap.size g (3+5*n) [0,0,0] 1/\Below w.heap.size w w':=by
 go_enter Tryz.func31,Tryz.ntmps31
 go_wp2_with fail
 refine(Zez n _ (by omega) (by omega)).mono ?_
 rintro e w' ⟨rfl,rfl⟩
 go_wp2_with fail
 obtain⟨W,hW,hBW⟩:∃W,W=w/\Below W0.heap.size W0 W:=⟨w,rfl,hB⟩
 refine((Zoe (3+5*n) w _ (Brf _ _))).mono ?_
 rintro e w1 ⟨rfl,m1,b1⟩
 rw[show Z56 (3+5*n)=3+5*n by unfold Z56;omega]at m1
 go_wp2_with fail
 refine(Zc5 m1 3 (by omega) (by simp;omega) (by omega)).mono ?_
 rintro e w2 ⟨g,rfl,m2,-,-⟩
 go_wp2
 go_ret
 refine⟨g,rfl,?_,m2.B⟩
 obtain⟨x1,x2,x3,x4,x5⟩:=m2
 exact⟨x1,Nat.le_trans hB.size x2,fun k e=>Nat.le_trans hB.size (x3 k e),hB.trans (x4.mono hB.size),x5⟩
section
variable {W0 w:World} {b:Nat} {g:Option Nat} {N st:Int} {xs:List Int}
theorem Zlm (h:MS W0 w b g N xs st):Calls Tryz.prog 142 #[.pointer (some ⟨b,0,none⟩)] w fun e w'=>e= .returned (.int .i64 (Z32 xs.length))/\MS W0 w' b g N xs st/\Below w.heap.size w w':=by
 have hl:=h.len
 have hl2:(xs.length:Int)<=1000:=by omega
 by_cases h3:3<xs.length
 ·have h4:(3:Int)<(xs.length:Int):=by omega
  go_enter Tryz.func142,Tryz.ntmps142
  go_wp2_with fail
  refine(Zku h).mono ?_
  rintro e w1 ⟨rfl,m1,hb⟩
  go_wp2
  go_ret
  exact⟨Zay (by unfold Z32;first|omega|(rw[Int.tdiv_eq_ediv_of_nonneg (by omega)];omega)),m1,hb⟩
 ·have h4:(xs.length:Int)<=3:=by omega
  go_enter Tryz.func142,Tryz.ntmps142
  go_wp2_with fail
  refine(Zku h).mono ?_
  rintro e w1 ⟨rfl,m1,hb⟩
  go_wp2
  go_ret
  exact⟨Zay (by unfold Z32;first|omega|(rw[Int.tdiv_eq_ediv_of_nonneg (by omega)];omega)),m1,hb⟩
theorem set5 {w1:World} {r:Nat} (m1:MS W0 w1 b g N xs st) (B1:Below r w w1) (h1:b≠r) (h2:∀k,g=some k->k≠r) (h3:r<w1.heap.size) (hr:W0.heap.size<=r) (u0 u1 u2 u3 u4:Value):
 MS W0 (((((w1.setCell ⟨r,0,none⟩ u0).setCell ⟨r,1,none⟩ u1).setCell ⟨r,2,none⟩ u2).setCell ⟨r,3,none⟩ u3).setCell ⟨r,4,none⟩ u4) b g N xs st/\Below r w (((((w1.setCell ⟨r,0,none⟩ u0).setCell ⟨r,1,none⟩ u1).setCell ⟨r,2,none⟩ u2).setCell ⟨r,3,none⟩ u3).setCell ⟨r,4,none⟩ u4):=by
 have hK:Z01 (fun k=>k=r) w1 (((((w1.setCell ⟨r,0,none⟩ u0).setCell ⟨r,1,none⟩ u1).setCell ⟨r,2,none⟩ u2).setCell ⟨r,3,none⟩ u3).setCell ⟨r,4,none⟩ u4):=
  (((((Z01.refl (fun k=>k=r) w1).setCell (p:=⟨r,0,none⟩) (fun _=>rfl) u0).setCell (p:=⟨r,1,none⟩) (fun _=>rfl) u1).setCell (p:=⟨r,2,none⟩) (fun _=>rfl) u2).setCell (p:=⟨r,3,none⟩) (fun _=>rfl) u3).setCell (p:=⟨r,4,none⟩) (fun _=>rfl) u4
 exact⟨m1.kept hK (m1.B.trans (hK.below m1.B.size (fun k hk e=>by omega))) h1 h2,B1.trans (hK.below (Nat.le_of_lt h3) (fun k hk e=>by omega))⟩
end
def Z1s (k:IntKind) (w:World) (v:Value) (xs:List Int):Prop:=
 ∃ao cap,v= .slice ao xs.length cap/\(∀x ∈ xs,(Lit.int k x).wf=true)/\xs.length<=maxLen/\
  (0<xs.length->∃b off,ao=some ⟨b,off,none⟩/\b<w.heap.size/\∀j,j<xs.length->w.cell? ⟨b,off+j,none⟩=some (.int k (xs.getD j 0)))
theorem Z9h {H:Type} {enc:TypeId×Value->H} {k:IntKind} {T E:TypeId} (hT:Tryz.prog.underlying T=some (.slice E)) (hE:Tryz.prog.underlying E=some (.int k)) (hC:Tryz.prog.cellsOf E=1)
 {W:World} {base:Nat} {v:Value} {d:DataW H} {p:List MemPlace} (hv:Value.okWide Tryz.prog W .any base T v) (h:DataW.Trod enc Tryz.prog W 0 (fun _=>true) true T v d p):
 ∃xs,Z1s k W v xs:=by
 obtain⟨a0,len,cap,rfl⟩:=okWide_slice hT hv
 obtain⟨fuel,hf⟩:=h
 rcases open_ints hT hE hC hf with⟨hcs,hx⟩|⟨a,len',cap',zs,hcs,_,hl,hm,hz,hx,hcell,hwz⟩
 ·simp only[Value.cells,List.cons.injEq,Value.slice.injEq,and_true]at hcs
  obtain⟨rfl,rfl,rfl⟩:=hcs
  exact⟨[],none,0,rfl,by simp,by simp,fun h=>by simp at h⟩
 ·simp only[Value.cells,List.cons.injEq,Value.slice.injEq,and_true]at hcs
  obtain⟨rfl,rfl,rfl⟩:=hcs
  rw[if_pos rfl]at hz
  have hlen:(zs.take len).length=len:=by rw[List.length_take];omega
  refine⟨zs.take len,some a,cap,by rw[hlen],fun x hx=>hwz x (List.mem_of_mem_take hx),by rw[hlen];exact Nat.le_trans hl hm,fun hpos=>?_⟩
  rw[hlen]at hpos |-
  have h0:=hcell 0 (by omega)
  obtain⟨b,off,rfl,hc⟩:=ints_at hcell (by omega)
  refine⟨b,off,rfl,?_,fun j hj=>?_⟩
  ·have:=Blt W _ (hc 0 (by omega))
   exact this
  ·rw[hc j (by omega)]
   simp[List.getD,List.getElem?_take,hj]
theorem Z1s.below {k:IntKind} {w w':World} {v:Value} {xs:List Int} (h:Z1s k w v xs) (hb:Below w.heap.size w w'):Z1s k w' v xs:=by
 obtain⟨ao,cap,h1,h2,h3,h4⟩:=h
 refine⟨ao,cap,h1,h2,h3,fun hp=>?_⟩
 obtain⟨b,off,e1,e2,e3⟩:=h4 hp
 exact⟨b,off,e1,Nlt e2 hb.size,fun j hj=>(hb.cell (p:=⟨b,off+j,none⟩) e2).trans (e3 j hj)⟩
theorem Zb3 {k:IntKind} {xs:List Int} (h:∀x ∈ xs,(Lit.int k x).wf=true) (j:Nat) (hj:j<xs.length):(Lit.int k (xs.getD j 0)).wf=true:=by
 have:xs.getD j 0=xs[j]:=by simp[List.getD,hj]
 rw[this]
 exact h _ (List.getElem_mem hj)
theorem Zoj (k:Int) (w:World):Calls Tryz.prog 51 #[.int .i64 k] w fun e w'=>e= .returned (.int .i64 (if k<0\/1000<k then 0 else 3+5*k))/\w=w':=by
 by_cases h:k<0\/1000<k
 ·rw[if_pos h];exact Ziw k w h
 ·rw[if_neg h];exact Zez k w (by omega) (by omega)
def CT (W0 w:World) (x:Nat) (g:Option Nat) (N st:Int) (xs:List Int) (i0 i1 i2 i3 i4 i5 i6 i7 i8 i9 i10 i11:Int) (bt:Value) (b:Nat) (ov:Value) (ps:Int) (dn:Value):Prop:=
 MS W0 w b g N xs st/\w.heap[x]?=some (.cells #[.int .i64 i0,.int .i64 i1,.int .i64 i2,.int .i64 i3,.int .i64 i4,.int .i64 i5,.int .i64 i6,.int .i64 i7,.int .i64 i8,.int .i64 i9,.int .i64 i10,.int .i64 i11,bt,.pointer (some ⟨b,0,none⟩),ov,.int .i64 ps,dn] 176 (0,0))/\W0.heap.size<=x/\¬Z18 b g x/\0<=st
section
variable {W0 w w':World} {x:Nat} {g:Option Nat} {N st:Int} {xs:List Int} {i0 i1 i2 i3 i4 i5 i6 i7 i8 i9 i10 i11:Int} {bt:Value} {b:Nat} {ov:Value} {ps:Int} {dn:Value}
theorem CT.ms (h:CT W0 w x g N st xs i0 i1 i2 i3 i4 i5 i6 i7 i8 i9 i10 i11 bt b ov ps dn):MS W0 w b g N xs st:=h.1
theorem CT.blk (h:CT W0 w x g N st xs i0 i1 i2 i3 i4 i5 i6 i7 i8 i9 i10 i11 bt b ov ps dn):w.heap[x]?=some (.cells #[.int .i64 i0,.int .i64 i1,.int .i64 i2,.int .i64 i3,.int .i64 i4,.int .i64 i5,.int .i64 i6,.int .i64 i7,.int .i64 i8,.int .i64 i9,.int .i64 i10,.int .i64 i11,bt,.pointer (some ⟨b,0,none⟩),ov,.int .i64 ps,dn] 176 (0,0)):=h.2.1
theorem CT.lt (h:CT W0 w x g N st xs i0 i1 i2 i3 i4 i5 i6 i7 i8 i9 i10 i11 bt b ov ps dn):x<w.heap.size:=(Gl h.2.1)
theorem CT.st0 (h:CT W0 w x g N st xs i0 i1 i2 i3 i4 i5 i6 i7 i8 i9 i10 i11 bt b ov ps dn):0<=st:=h.2.2.2.2
theorem CT.below (h:CT W0 w x g N st xs i0 i1 i2 i3 i4 i5 i6 i7 i8 i9 i10 i11 bt b ov ps dn) (hb:Below w.heap.size w w'):CT W0 w' x g N st xs i0 i1 i2 i3 i4 i5 i6 i7 i8 i9 i10 i11 bt b ov ps dn:=⟨h.1.below hb,(hb.block x h.lt).trans h.2.1,h.2.2⟩
theorem CT.drew (h:CT W0 w x g N st xs i0 i1 i2 i3 i4 i5 i6 i7 i8 i9 i10 i11 bt b ov ps dn):CT W0 w.drew x g N st xs i0 i1 i2 i3 i4 i5 i6 i7 i8 i9 i10 i11 bt b ov ps dn:=h.below (Brf _ _).drew
theorem CT.mem (h:CT W0 w x g N st xs i0 i1 i2 i3 i4 i5 i6 i7 i8 i9 i10 i11 bt b ov ps dn) {st':Int} {xs':List Int} (m:MS W0 w' b g N xs' st') (hk:Z01 (Z18 b g) w w') (h0:0<=st'):CT W0 w' x g N st' xs' i0 i1 i2 i3 i4 i5 i6 i7 i8 i9 i10 i11 bt b ov ps dn:=
 ⟨m,(hk.block x h.lt h.2.2.2.1).trans h.2.1,h.2.2.1,h.2.2.2.1,h0⟩
theorem CT.open (h:CT W0 w x g N st xs i0 i1 i2 i3 i4 i5 i6 i7 i8 i9 i10 i11 bt b ov ps dn):(w.cell? ⟨x,0,none⟩=some (.int .i64 i0)/\w.cell? ⟨x,1,none⟩=some (.int .i64 i1)/\w.cell? ⟨x,2,none⟩=some (.int .i64 i2)/\w.cell? ⟨x,3,none⟩=some (.int .i64 i3)/\w.cell? ⟨x,4,none⟩=some (.int .i64 i4)/\w.cell? ⟨x,5,none⟩=some (.int .i64 i5)/\w.cell? ⟨x,6,none⟩=some (.int .i64 i6)/\w.cell? ⟨x,7,none⟩=some (.int .i64 i7)/\w.cell? ⟨x,8,none⟩=some (.int .i64 i8)/\w.cell? ⟨x,9,none⟩=some (.int .i64 i9)/\w.cell? ⟨x,10,none⟩=some (.int .i64 i10)/\w.cell? ⟨x,11,none⟩=some (.int .i64 i11)/\w.cell? ⟨x,12,none⟩=some (bt)/\w.cell? ⟨x,13,none⟩=some (.pointer (some ⟨b,0,none⟩))/\w.cell? ⟨x,14,none⟩=some (ov)/\w.cell? ⟨x,15,none⟩=some (.int .i64 ps)/\w.cell? ⟨x,16,none⟩=some (dn))/\(∀j,w.frozen? ⟨x,j,none⟩=false)/\x<w.heap.size:=by
 have hb:=h.blk
 refine⟨⟨?_,?_,?_,?_,?_,?_,?_,?_,?_,?_,?_,?_,?_,?_,?_,?_,?_⟩,fun j=>Z06 hb j,h.lt⟩<;>simp[World.cell?,hb]
theorem CT.set0 (h:CT W0 w x g N st xs i0 i1 i2 i3 i4 i5 i6 i7 i8 i9 i10 i11 bt b ov ps dn) (y:Int):CT W0 (w.setCell ⟨x,0,none⟩ (.int .i64 y)) x g N st xs y i1 i2 i3 i4 i5 i6 i7 i8 i9 i10 i11 bt b ov ps dn:=by
 have hk:Z01 (fun k=>k=x) w (w.setCell ⟨x,0,none⟩ (.int .i64 y)):=(Z01.refl (fun k=>k=x) w).setCell (p:=⟨x,0,none⟩) (fun _=>rfl) _
 refine⟨h.1.farx hk h.2.2.1 h.2.2.2.1,?_,h.2.2⟩
 rw[Z00 h.2.1];rfl
theorem CT.set1 (h:CT W0 w x g N st xs i0 i1 i2 i3 i4 i5 i6 i7 i8 i9 i10 i11 bt b ov ps dn) (y:Int):CT W0 (w.setCell ⟨x,1,none⟩ (.int .i64 y)) x g N st xs i0 y i2 i3 i4 i5 i6 i7 i8 i9 i10 i11 bt b ov ps dn:=by
 have hk:Z01 (fun k=>k=x) w (w.setCell ⟨x,1,none⟩ (.int .i64 y)):=(Z01.refl (fun k=>k=x) w).setCell (p:=⟨x,1,none⟩) (fun _=>rfl) _
 refine⟨h.1.farx hk h.2.2.1 h.2.2.2.1,?_,h.2.2⟩
 rw[Z00 h.2.1];rfl
theorem CT.set2 (h:CT W0 w x g N st xs i0 i1 i2 i3 i4 i5 i6 i7 i8 i9 i10 i11 bt b ov ps dn) (y:Int):CT W0 (w.setCell ⟨x,2,none⟩ (.int .i64 y)) x g N st xs i0 i1 y i3 i4 i5 i6 i7 i8 i9 i10 i11 bt b ov ps dn:=by
 have hk:Z01 (fun k=>k=x) w (w.setCell ⟨x,2,none⟩ (.int .i64 y)):=(Z01.refl (fun k=>k=x) w).setCell (p:=⟨x,2,none⟩) (fun _=>rfl) _
 refine⟨h.1.farx hk h.2.2.1 h.2.2.2.1,?_,h.2.2⟩
 rw[Z00 h.2.1];rfl
theorem CT.set4 (h:CT W0 w x g N st xs i0 i1 i2 i3 i4 i5 i6 i7 i8 i9 i10 i11 bt b ov ps dn) (y:Int):CT W0 (w.setCell ⟨x,4,none⟩ (.int .i64 y)) x g N st xs i0 i1 i2 i3 y i5 i6 i7 i8 i9 i10 i11 bt b ov ps dn:=by
 have hk:Z01 (fun k=>k=x) w (w.setCell ⟨x,4,none⟩ (.int .i64 y)):=(Z01.refl (fun k=>k=x) w).setCell (p:=⟨x,4,none⟩) (fun _=>rfl) _
 refine⟨h.1.farx hk h.2.2.1 h.2.2.2.1,?_,h.2.2⟩
 rw[Z00 h.2.1];rfl
theorem CT.set5 (h:CT W0 w x g N st xs i0 i1 i2 i3 i4 i5 i6 i7 i8 i9 i10 i11 bt b ov ps dn) (y:Int):CT W0 (w.setCell ⟨x,5,none⟩ (.int .i64 y)) x g N st xs i0 i1 i2 i3 i4 y i6 i7 i8 i9 i10 i11 bt b ov ps dn:=by
 have hk:Z01 (fun k=>k=x) w (w.setCell ⟨x,5,none⟩ (.int .i64 y)):=(Z01.refl (fun k=>k=x) w).setCell (p:=⟨x,5,none⟩) (fun _=>rfl) _
 refine⟨h.1.farx hk h.2.2.1 h.2.2.2.1,?_,h.2.2⟩
 rw[Z00 h.2.1];rfl
theorem CT.set6 (h:CT W0 w x g N st xs i0 i1 i2 i3 i4 i5 i6 i7 i8 i9 i10 i11 bt b ov ps dn) (y:Int):CT W0 (w.setCell ⟨x,6,none⟩ (.int .i64 y)) x g N st xs i0 i1 i2 i3 i4 i5 y i7 i8 i9 i10 i11 bt b ov ps dn:=by
 have hk:Z01 (fun k=>k=x) w (w.setCell ⟨x,6,none⟩ (.int .i64 y)):=(Z01.refl (fun k=>k=x) w).setCell (p:=⟨x,6,none⟩) (fun _=>rfl) _
 refine⟨h.1.farx hk h.2.2.1 h.2.2.2.1,?_,h.2.2⟩
 rw[Z00 h.2.1];rfl
theorem CT.set7 (h:CT W0 w x g N st xs i0 i1 i2 i3 i4 i5 i6 i7 i8 i9 i10 i11 bt b ov ps dn) (y:Int):CT W0 (w.setCell ⟨x,7,none⟩ (.int .i64 y)) x g N st xs i0 i1 i2 i3 i4 i5 i6 y i8 i9 i10 i11 bt b ov ps dn:=by
 have hk:Z01 (fun k=>k=x) w (w.setCell ⟨x,7,none⟩ (.int .i64 y)):=(Z01.refl (fun k=>k=x) w).setCell (p:=⟨x,7,none⟩) (fun _=>rfl) _
 refine⟨h.1.farx hk h.2.2.1 h.2.2.2.1,?_,h.2.2⟩
 rw[Z00 h.2.1];rfl
theorem CT.set8 (h:CT W0 w x g N st xs i0 i1 i2 i3 i4 i5 i6 i7 i8 i9 i10 i11 bt b ov ps dn) (y:Int):CT W0 (w.setCell ⟨x,8,none⟩ (.int .i64 y)) x g N st xs i0 i1 i2 i3 i4 i5 i6 i7 y i9 i10 i11 bt b ov ps dn:=by
 have hk:Z01 (fun k=>k=x) w (w.setCell ⟨x,8,none⟩ (.int .i64 y)):=(Z01.refl (fun k=>k=x) w).setCell (p:=⟨x,8,none⟩) (fun _=>rfl) _
 refine⟨h.1.farx hk h.2.2.1 h.2.2.2.1,?_,h.2.2⟩
 rw[Z00 h.2.1];rfl
theorem CT.set9 (h:CT W0 w x g N st xs i0 i1 i2 i3 i4 i5 i6 i7 i8 i9 i10 i11 bt b ov ps dn) (y:Int):CT W0 (w.setCell ⟨x,9,none⟩ (.int .i64 y)) x g N st xs i0 i1 i2 i3 i4 i5 i6 i7 i8 y i10 i11 bt b ov ps dn:=by
 have hk:Z01 (fun k=>k=x) w (w.setCell ⟨x,9,none⟩ (.int .i64 y)):=(Z01.refl (fun k=>k=x) w).setCell (p:=⟨x,9,none⟩) (fun _=>rfl) _
 refine⟨h.1.farx hk h.2.2.1 h.2.2.2.1,?_,h.2.2⟩
 rw[Z00 h.2.1];rfl
theorem CT.set10 (h:CT W0 w x g N st xs i0 i1 i2 i3 i4 i5 i6 i7 i8 i9 i10 i11 bt b ov ps dn) (y:Int):CT W0 (w.setCell ⟨x,10,none⟩ (.int .i64 y)) x g N st xs i0 i1 i2 i3 i4 i5 i6 i7 i8 i9 y i11 bt b ov ps dn:=by
 have hk:Z01 (fun k=>k=x) w (w.setCell ⟨x,10,none⟩ (.int .i64 y)):=(Z01.refl (fun k=>k=x) w).setCell (p:=⟨x,10,none⟩) (fun _=>rfl) _
 refine⟨h.1.farx hk h.2.2.1 h.2.2.2.1,?_,h.2.2⟩
 rw[Z00 h.2.1];rfl
theorem CT.set11 (h:CT W0 w x g N st xs i0 i1 i2 i3 i4 i5 i6 i7 i8 i9 i10 i11 bt b ov ps dn) (y:Int):CT W0 (w.setCell ⟨x,11,none⟩ (.int .i64 y)) x g N st xs i0 i1 i2 i3 i4 i5 i6 i7 i8 i9 i10 y bt b ov ps dn:=by
 have hk:Z01 (fun k=>k=x) w (w.setCell ⟨x,11,none⟩ (.int .i64 y)):=(Z01.refl (fun k=>k=x) w).setCell (p:=⟨x,11,none⟩) (fun _=>rfl) _
 refine⟨h.1.farx hk h.2.2.1 h.2.2.2.1,?_,h.2.2⟩
 rw[Z00 h.2.1];rfl
theorem CT.set12 (h:CT W0 w x g N st xs i0 i1 i2 i3 i4 i5 i6 i7 i8 i9 i10 i11 bt b ov ps dn) (y:Value):CT W0 (w.setCell ⟨x,12,none⟩ (y)) x g N st xs i0 i1 i2 i3 i4 i5 i6 i7 i8 i9 i10 i11 y b ov ps dn:=by
 have hk:Z01 (fun k=>k=x) w (w.setCell ⟨x,12,none⟩ (y)):=(Z01.refl (fun k=>k=x) w).setCell (p:=⟨x,12,none⟩) (fun _=>rfl) _
 refine⟨h.1.farx hk h.2.2.1 h.2.2.2.1,?_,h.2.2⟩
 rw[Z00 h.2.1];rfl
theorem CT.set16 (h:CT W0 w x g N st xs i0 i1 i2 i3 i4 i5 i6 i7 i8 i9 i10 i11 bt b ov ps dn) (y:Value):CT W0 (w.setCell ⟨x,16,none⟩ (y)) x g N st xs i0 i1 i2 i3 i4 i5 i6 i7 i8 i9 i10 i11 bt b ov ps y:=by
 have hk:Z01 (fun k=>k=x) w (w.setCell ⟨x,16,none⟩ (y)):=(Z01.refl (fun k=>k=x) w).setCell (p:=⟨x,16,none⟩) (fun _=>rfl) _
 refine⟨h.1.farx hk h.2.2.1 h.2.2.2.1,?_,h.2.2⟩
 rw[Z00 h.2.1];rfl
end
section
variable (W0 w:World) (x:Nat) (g:Option Nat) (N st:Int) (xs:List Int) (i0 i1 i2 i3 i4 i5 i6 i7 i8 i9 i10 i11:Int) (bt:Value) (b:Nat) (ov:Value) (ps:Int) (dn:Value)
theorem Z1y (a v pc:Int) (h:CT W0 w x g N st xs i0 i1 i2 i3 i4 i5 i6 i7 i8 i9 i10 i11 bt b ov ps dn) (hv:cellAt xs a=v) (s1:st<1000000):
 Calls Tryz.prog 140 #[.pointer (some ⟨x,0,none⟩),.int .i64 a,.int .i64 pc] w fun e w'=>e= .returned (.tuple #[])/\CT W0 w' x g N (st+Z0h xs a) xs i0 pc i2 i3 i4 v i6 i7 i8 i9 i10 i11 bt b ov ps dn/\Z01 (FX b g x) w w':=by
 obtain⟨⟨c0,c1,c2,c3,c4,c5,c6,c7,c8,c9,c10,c11,c12,c13,c14,c15,c16⟩,-,cx⟩:=h.open
 have H:=Hd h
 have cL:=Hd (hv ▸ Zet h.ms a s1)
 clear hv
 clear h
 go_enter Tryz.func140,Tryz.ntmps140
 go_wp2_with fail
 refine cL.out.mono ?_
 rintro e w1 ⟨rfl,m1,k1⟩
 have h1:=H.out.mem m1 k1 (by have:=H.out.st0;have:=Z0f xs a;omega)
 have f5:=Z06 h1.blk 5
 have f1:=Z06 h1.blk 1
 clear c0 c1 c2 c3 c4 c5 c6 c7 c8 c9 c10 c11 c12 c13 c14 c15 c16
 obtain⟨⟨d0,d1,d2,d3,d4,d5,d6,d7,d8,d9,d10,d11,d12,d13,d14,d15,d16⟩,-,dx⟩:=h1.open
 have H1:=hi2 h1 k1
 clear h1 m1 k1
 go_wp2
 go_end0
 exact⟨rfl,(H1.out.1.set5 v).set1 pc,((kxF H1.out.2).trans (kx _ _ _ _ _ _)).trans (kx _ _ _ _ _ _)⟩
theorem Z33 (a y pc:Int) (h:CT W0 w x g N st xs i0 i1 i2 i3 i4 i5 i6 i7 i8 i9 i10 i11 bt b ov ps dn) (s1:st<1000000):
 Calls Tryz.prog 141 #[.pointer (some ⟨x,0,none⟩),.int .i64 a,.int .i64 y,.int .i64 pc] w fun e w'=>e= .returned (.tuple #[])/\CT W0 w' x g N (st+Z0h xs a) (Z0j xs a y) i0 pc i2 i3 i4 i5 i6 i7 i8 i9 i10 i11 bt b ov ps dn/\Z01 (FX b g x) w w':=by
 obtain⟨⟨c0,c1,c2,c3,c4,c5,c6,c7,c8,c9,c10,c11,c12,c13,c14,c15,c16⟩,-,cx⟩:=h.open
 have H:=Hd h
 have cL:=Hd (Z2n h.ms a y s1)
 clear h
 go_enter Tryz.func141,Tryz.ntmps141
 go_wp2_with fail
 refine cL.out.mono ?_
 rintro e w1 ⟨rfl,m1,k1⟩
 have h1:=H.out.mem m1 k1 (by have:=H.out.st0;have:=Z0f xs a;omega)
 have f1:=Z06 h1.blk 1
 clear c0 c1 c2 c3 c4 c5 c6 c7 c8 c9 c10 c11 c12 c13 c14 c15 c16
 obtain⟨⟨d0,d1,d2,d3,d4,d5,d6,d7,d8,d9,d10,d11,d12,d13,d14,d15,d16⟩,-,dx⟩:=h1.open
 have H1:=hi2 h1 k1
 clear h1 m1 k1
 go_wp2
 go_end0
 exact⟨rfl,H1.out.1.set1 pc,(kxF H1.out.2).trans (kx _ _ _ _ _ _)⟩
theorem Z9i (a o y yes no:Int) (h:CT W0 w x g N st xs i0 i1 i2 i3 i4 i5 i6 i7 i8 i9 i10 i11 bt b ov ps dn) (q:Int) (hq:(if Z11 xs a o=true then yes else no)=q) (s1:st<1000000):
 Calls Tryz.prog 146 #[.pointer (some ⟨x,0,none⟩),.int .i64 a,.int .i64 o,.int .i64 y,.int .i64 yes,.int .i64 no] w fun e w'=>e= .returned (.tuple #[])/\CT W0 w' x g N (st+Z0h xs a) (Z0s xs a o y) i0 q i2 i3 i4 i5 i6 i7 i8 i9 i10 i11 bt b ov ps dn/\Z01 (FX b g x) w w':=by
 obtain⟨⟨c0,c1,c2,c3,c4,c5,c6,c7,c8,c9,c10,c11,c12,c13,c14,c15,c16⟩,-,cx⟩:=h.open
 have H:=Hd h
 have f1:=Z06 h.blk 1
 have HQ:=Hd hq
 clear hq
 clear h
 go_enter Tryz.func146,Tryz.ntmps146
 go_wp2_with fail
 refine(Z7k (H.out.set1 no).ms a o y s1).mono ?_
 rintro e w1 ⟨rfl,m1,k1⟩
 have h1:=(H.out.set1 no).mem m1 k1 (by have:=H.out.st0;have:=Z0f xs a;omega)
 have f1:=Z06 h1.blk 1
 clear c0 c1 c2 c3 c4 c5 c6 c7 c8 c9 c10 c11 c12 c13 c14 c15 c16 f1
 have f1:=Z06 h1.blk 1
 obtain⟨⟨d0,d1,d2,d3,d4,d5,d6,d7,d8,d9,d10,d11,d12,d13,d14,d15,d16⟩,-,dx⟩:=h1.open
 have H1:=hi2 h1 ((kx w b g x 1 (.int .i64 no)).trans (kxF k1))
 clear h1 m1 k1
 cases hsw:Z11 xs a o
 ·have e1:=HQ.out
  rw[hsw]at e1
  have E1:=Hd e1
  clear e1 hsw
  go_wp2
  go_end0
  exact⟨rfl,by rw[<-E1.out];exact H1.out.1,H1.out.2⟩
 ·have e1:=HQ.out
  rw[hsw]at e1
  have E1:=Hd e1
  clear e1 hsw
  go_wp2
  go_end0
  exact⟨rfl,by rw[<-E1.out];exact H1.out.1.set1 yes,H1.out.2.trans (kx _ _ _ _ _ _)⟩
end
section
variable (W0 w:World) (x:Nat) (g:Option Nat) (N st:Int) (xs:List Int) (i0 i1 i2 i3 i4 i5 i6 i7 i8 i9 i10 i11:Int) (bt:Value) (b:Nat) (ov:Value) (ps:Int) (dn:Value)
theorem Zb4 (n8 p:Int) (h:CT W0 w x g N st xs i0 i1 i2 i3 i4 i5 i6 i7 i8 i9 i10 i11 bt b ov ps dn) (h8:wrap64 (i8+1)=n8) (hp:(if n8<i9 then 23 else 33)=p):
 Calls Tryz.prog 143 #[.pointer (some ⟨x,0,none⟩)] w fun e w'=>e= .returned (.tuple #[])/\CT W0 w' x g N st xs i0 p i2 i3 i4 i5 i6 i7 n8 i9 i10 i11 bt b ov ps dn/\Z01 (FX b g x) w w':=by
 obtain⟨⟨c0,c1,c2,c3,c4,c5,c6,c7,c8,c9,c10,c11,c12,c13,c14,c15,c16⟩,-,cx⟩:=h.open
 have H:=Hd h
 have hw:IntKind.i64.wrap (i8+1)=n8:=by rw[<-h8,IntKind.wrap_i64];unfold wrap64;omega
 have HP:=Hd hp
 have f8:=Z06 h.blk 8
 have f1:=Z06 (h.set8 n8).blk 1
 clear hp h8
 clear h
 go_enter Tryz.func143,Tryz.ntmps143
 obtain⟨W2,hW2⟩:∃W2,(w.setCell ⟨x,8,none⟩ (.int .i64 n8)).setCell ⟨x,1,none⟩ (.int .i64 33)=W2:=⟨_,rfl⟩
 have h2:=(H.out.set8 n8).set1 33
 rw[hW2]at h2
 have k2:Z01 (FX b g x) w W2:=by rw[<-hW2];exact(kx _ _ _ _ _ _).trans (kx _ _ _ _ _ _)
 have dd:=h2.open
 have H2:=hi2 h2 k2
 clear h2 k2
 by_cases hlt:n8<i9
 ·have e1:=HP.out
  rw[if_pos hlt]at e1
  have E1:=Hd e1
  clear e1
  have hd:decide (n8<i9)=true:=decide_eq_true hlt
  go_wp2_with fail
  try rw[hW2]
  clear hW2 f8 f1 c0 c1 c2 c3 c4 c5 c6 c7 c8 c9 c10 c11 c12 c13 c14 c15 c16
  obtain⟨⟨d0,d1,d2,d3,d4,d5,d6,d7,d8,d9,d10,d11,d12,d13,d14,d15,d16⟩,-,dx⟩:=dd
  go_quiet (fail)
  have h3:=H2.out.1.below (below_drewN (Brf _ _) nq)
  have g1:=Z06 h3.blk 1
  obtain⟨⟨e0,e1,e2,e3,e4,e5,e6,e7,e8,e9,e10,e11,e12,e13,e14,e15,e16⟩,-,ex⟩:=h3.open
  have k3:Z01 (FX b g x) w (W2.drewN nq):=H2.out.2.trans (Z0b (below_drewN (Brf _ _) nq))
  go_wp2
  go_end0
  exact⟨rfl,by rw[<-E1.out];exact h3.set1 23,k3.trans (kx _ _ _ _ _ _)⟩
 ·have e1:=HP.out
  rw[if_neg hlt]at e1
  have E1:=Hd e1
  clear e1
  have hd:decide (n8<i9)=false:=decide_eq_false hlt
  go_wp2_with fail
  try rw[hW2]
  clear hW2 f8 f1 c0 c1 c2 c3 c4 c5 c6 c7 c8 c9 c10 c11 c12 c13 c14 c15 c16
  obtain⟨⟨d0,d1,d2,d3,d4,d5,d6,d7,d8,d9,d10,d11,d12,d13,d14,d15,d16⟩,-,dx⟩:=dd
  go_quiet (fail)
  have h3:=H2.out.1.below (below_drewN (Brf _ _) nq)
  have g1:=Z06 h3.blk 1
  obtain⟨⟨e0,e1,e2,e3,e4,e5,e6,e7,e8,e9,e10,e11,e12,e13,e14,e15,e16⟩,-,ex⟩:=h3.open
  have k3:Z01 (FX b g x) w (W2.drewN nq):=H2.out.2.trans (Z0b (below_drewN (Brf _ _) nq))
  go_wp2
  go_end0
  exact⟨rfl,by rw[<-E1.out];exact h3,k3⟩
theorem Z4d (is:Bool) (n8 p:Int) (h:CT W0 w x g N st xs i0 i1 i2 i3 i4 i5 i6 i7 i8 i9 i10 i11 bt b ov ps dn) (h8:(if is=true then i8 else wrap64 (i8+1))=n8) (hp:(if is=true then i1 else if n8<i9 then 23 else 33)=p):
 Calls Tryz.prog 144 #[.pointer (some ⟨x,0,none⟩),.bool is] w fun e w'=>e= .returned (.tuple #[])/\CT W0 w' x g N st xs i0 p i2 i3 i4 i5 i6 i7 n8 i9 i10 i11 bt b ov ps dn/\Z01 (FX b g x) w w':=by
 obtain⟨⟨c0,c1,c2,c3,c4,c5,c6,c7,c8,c9,c10,c11,c12,c13,c14,c15,c16⟩,-,cx⟩:=h.open
 have H:=Hd h
 have HP:=hi2 h8 hp
 clear hp h8
 clear h
 go_enter Tryz.func144,Tryz.ntmps144
 clear c0 c1 c2 c3 c4 c5 c6 c7 c8 c9 c10 c11 c12 c13 c14 c15 c16
 cases is
 ·have e1:=HP.out.1
  have e2:=HP.out.2
  rw[if_neg (by decide)]at e1 e2
  have E1:=hi2 e1 e2
  clear e1 e2
  go_wp2_with fail
  refine(Zb4 W0 w x g N st xs i0 i1 i2 i3 i4 i5 i6 i7 i8 i9 i10 i11 bt b ov ps dn n8 p H.out E1.out.1 E1.out.2).mono ?_
  rintro e w1 ⟨rfl,h1,k1⟩
  have H1:=hi2 h1 k1
  clear h1 k1
  go_wp2
  go_end0
  exact⟨rfl,H1.out.1,H1.out.2⟩
 ·have e1:=HP.out.1
  have e2:=HP.out.2
  rw[if_pos rfl]at e1 e2
  have E1:=hi2 e1 e2
  clear e1 e2
  go_wp2
  go_end0
  exact⟨rfl,by rw[<-E1.out.1,<-E1.out.2];exact H.out,by exact Z01.refl _ _⟩
end
section
variable (W0 w:World) (x:Nat) (g:Option Nat) (N st:Int) (xs:List Int) (i0 i1 i2 i3 i4 i5 i6 i7 i8 i9 i10 i11:Int) (bo:Option Addr) (bn bc:Nat) (b:Nat) (ov:Value) (ps:Int) (dn:Value)
theorem Z3l (h:CT W0 w x g N st xs i0 i1 i2 i3 i4 i5 i6 i7 i8 i9 i10 i11 (.slice bo bn bc) b ov ps dn) (h0:i8<0):
 Calls Tryz.prog 149 #[.pointer (some ⟨x,0,none⟩)] w fun e w'=>e= .returned (.pointer none)/\Below w.heap.size w w':=by
 obtain⟨⟨c0,c1,c2,c3,c4,c5,c6,c7,c8,c9,c10,c11,c12,c13,c14,c15,c16⟩,-,cx⟩:=h.open
 have H:=Hd h
 clear h
 have hd:decide (i8<0)=true:=decide_eq_true h0
 go_enter Tryz.func149,Tryz.ntmps149
 go_wp2_with fail
 go_quiet (fail)
 go_wp2
 go_ret
 exact⟨rfl,by first|exact below_drewN (Brf _ _) _|exact(Brf _ _).drew⟩
theorem Z2u (h:CT W0 w x g N st xs i0 i1 i2 i3 i4 i5 i6 i7 i8 i9 i10 i11 (.slice bo bn bc) b ov ps dn) (h0:0<=i8) (h1:(bn:Int)<=i8):
 Calls Tryz.prog 149 #[.pointer (some ⟨x,0,none⟩)] w fun e w'=>e= .returned (.pointer none)/\Below w.heap.size w w':=by
 obtain⟨⟨c0,c1,c2,c3,c4,c5,c6,c7,c8,c9,c10,c11,c12,c13,c14,c15,c16⟩,-,cx⟩:=h.open
 have H:=Hd h
 clear h
 have hd:decide (i8<0)=false:=decide_eq_false (by omega)
 have hd2:decide ((bn:Int)<=i8)=true:=decide_eq_true h1
 go_enter Tryz.func149,Tryz.ntmps149
 go_wp2_with fail
 go_quiet (fail)
 go_wp2
 go_ret
 exact⟨rfl,by first|exact below_drewN (Brf _ _) _|exact(Brf _ _).drew⟩
theorem Z40 (h:CT W0 w x g N st xs i0 i1 i2 i3 i4 i5 i6 i7 i8 i9 i10 i11 (.slice bo bn bc) b ov ps dn) (bb off k:Nat) (hb:bo=some ⟨bb,off,none⟩) (hk:i8=(k:Int)) (h1:k<bn):
 Calls Tryz.prog 149 #[.pointer (some ⟨x,0,none⟩)] w fun e w'=>e= .returned (.pointer (some ⟨bb,off+k*3,none⟩))/\Below w.heap.size w w':=by
 obtain⟨⟨c0,c1,c2,c3,c4,c5,c6,c7,c8,c9,c10,c11,c12,c13,c14,c15,c16⟩,-,cx⟩:=h.open
 have H:=Hd h
 clear h
 subst hb
 subst hk
 have hd:decide ((k:Int)<0)=false:=decide_eq_false (by omega)
 have h1i:(k:Int)<(bn:Int):=by omega
 have hd2:decide ((bn:Int)<=(k:Int))=false:=decide_eq_false (by omega)
 go_enter Tryz.func149,Tryz.ntmps149
 go_wp2_with fail
 go_quiet (fail)
 go_wp2_with fail
 go_quiet (fail)
 go_wp2
 go_ret
 exact⟨rfl,below_drewN (below_drewN (Brf _ _) _) _⟩
theorem Zf0 (h:CT W0 w x g N st xs i0 i1 i2 i3 i4 i5 i6 i7 i8 i9 i10 i11 (.slice bo bn bc) b ov ps dn) (v r p:Int) (hv:cellAt xs (wrap64 (i6+3))=v) (hr:(if v=0 then i6 else v)=r) (hp:(if v=0 then if bn=0 then 40 else 36 else 34)=p) (s1:st<1000000):
 Calls Tryz.prog 122 #[.pointer (some ⟨x,0,none⟩)] w fun e w'=>e= .returned (.tuple #[])/\CT W0 w' x g N (st+Z0h xs (wrap64 (i6+3))) xs i0 p i2 i3 i4 v r i7 i8 i9 i10 i11 (.slice bo bn bc) b ov ps dn/\Z01 (FX b g x) w w':=by
 obtain⟨⟨c0,c1,c2,c3,c4,c5,c6,c7,c8,c9,c10,c11,c12,c13,c14,c15,c16⟩,-,cx⟩:=h.open
 have H:=Hd h
 have HV:=Hd hv
 have HP:=hi2 hr hp
 clear hv hr hp
 have hw:IntKind.i64.wrap (i6+3)=wrap64 (i6+3):=by rw[IntKind.wrap_i64];unfold wrap64;omega
 clear h
 go_enter Tryz.func122,Tryz.ntmps122
 go_wp2_with fail
 refine(Z1y W0 _ x g N st xs i0 i1 i2 i3 i4 i5 i6 i7 i8 i9 i10 i11 (.slice bo bn bc) b ov ps dn (wrap64 (i6+3)) v 36 H.out HV.out s1).mono ?_
 rintro e w2 ⟨rfl,h2,k2⟩
 clear c0 c1 c2 c3 c4 c5 c6 c7 c8 c9 c10 c11 c12 c13 c14 c15 c16
 have f6:=Z06 h2.blk 6
 have f1:=Z06 (h2.set6 v).blk 1
 obtain⟨⟨d0,d1,d2,d3,d4,d5,d6,d7,d8,d9,d10,d11,d12,d13,d14,d15,d16⟩,-,dx⟩:=h2.open
 have g1:=Z06 h2.blk 1
 have H2:=hi2 h2 k2
 clear h2 k2
 by_cases h0:v=0
 ·have hb:(v != 0)=false:=by simp[h0]
  by_cases hn:bn=0
  ·have e1:=HP.out
   rw[if_pos h0,if_pos h0,if_pos hn]at e1
   have E1:=Hd e1
   subst hn
   clear e1 h0 f6 f1
   go_wp2
   go_end0
   exact⟨rfl,by rw[<-E1.out.1,<-E1.out.2];exact H2.out.1.set1 40,H2.out.2.trans (kx _ _ _ _ _ _)⟩
  ·have e1:=HP.out
   rw[if_pos h0,if_pos h0,if_neg hn]at e1
   have E1:=Hd e1
   have hn':¬(bn:Int)=0:=by omega
   clear e1 h0 f6 f1 g1
   go_wp2
   go_end0
   exact⟨rfl,by rw[<-E1.out.1,<-E1.out.2];exact H2.out.1,H2.out.2⟩
 ·have e1:=HP.out
  rw[if_neg h0,if_neg h0]at e1
  have E1:=Hd e1
  have hb:(v != 0)=true:=by simp[h0]
  clear e1 g1
  go_wp2
  go_end0
  exact⟨rfl,by rw[<-E1.out.1,<-E1.out.2];exact(H2.out.1.set6 v).set1 34,(H2.out.2.trans (kx _ _ _ _ _ _)).trans (kx _ _ _ _ _ _)⟩
theorem Zd5 (h:CT W0 w x g N st xs i0 i1 i2 i3 i4 i5 i6 i7 i8 i9 i10 i11 (.slice bo bn bc) b ov ps dn) (bb off k o3:Nat) (hb:bo=some ⟨bb,off,none⟩) (hk:i8=(k:Int)) (h1:k<bn) (ho:off+k*3=o3) (hF:¬Z18 b g bb) (r:Int) (hr:w.cell? ⟨bb,o3,none⟩=some (.int .i64 r)) (v:Int) (hv:w.cell? ⟨bb,o3+2,none⟩=some (.int .i64 v)) (s1:st<1000000):
 Calls Tryz.prog 124 #[.pointer (some ⟨x,0,none⟩)] w fun e w'=>e= .returned (.tuple #[])/\CT W0 w' x g N (st+Z0h xs (wrap64 (r+4))) (Z0j xs (wrap64 (r+4)) v) i0 38 i2 i3 i4 i5 i6 i7 i8 i9 i10 i11 (.slice bo bn bc) b ov ps dn/\Z01 (FX b g x) w w':=by
 obtain⟨⟨c0,c1,c2,c3,c4,c5,c6,c7,c8,c9,c10,c11,c12,c13,c14,c15,c16⟩,-,cx⟩:=h.open
 have H:=Hd h
 have HI:=hi5 hb hk h1 ho hF
 clear hb hk h1 ho hF
 clear h
 go_enter Tryz.func124,Tryz.ntmps124
 go_wp2_with fail
 refine(Z40 W0 w x g N st xs i0 i1 i2 i3 i4 i5 i6 i7 i8 i9 i10 i11 bo bn bc b ov ps dn H.out bb off k HI.out.1 HI.out.2.1 HI.out.2.2.1).mono ?_
 rintro e w1 ⟨rfl,hb1⟩
 rw[HI.out.2.2.2.1]
 have h1:=H.out.below hb1
 have hbb:=Blt w _ hr
 have r1:=(hb1.cell (p:=⟨bb,o3,none⟩) hbb).trans hr
 have r2:=(hb1.cell (p:=⟨bb,o3+2,none⟩) hbb).trans hv
 clear hv
 obtain⟨⟨d0,d1,d2,d3,d4,d5,d6,d7,d8,d9,d10,d11,d12,d13,d14,d15,d16⟩,-,dx⟩:=h1.open
 clear c0 c1 c2 c3 c4 c5 c6 c7 c8 c9 c10 c11 c12 c13 c14 c15 c16 hr
 have hw:IntKind.i64.wrap (r+4)=wrap64 (r+4):=by rw[IntKind.wrap_i64];unfold wrap64;omega
 have HD:=hi2 h1.drew (show Z01 (FX b g x) w w1.drew from Z0b hb1.drew)
 have hbw:bb<w1.drew.heap.size:=Nlt hbb hb1.size
 have hbv:bb<w1.heap.size:=Nlt hbb hb1.size
 have s1':=((Brf w1.heap.size w1).drew.cell (p:=⟨bb,o3,none⟩) hbv).trans r1
 have s2:=((Brf w1.heap.size w1).drew.cell (p:=⟨bb,o3+2,none⟩) hbv).trans r2
 clear h1 hb1
 go_wp2_with fail
 go_region_held3 (fun wz=>wz.cell? ⟨x,13,none⟩=some (.pointer (some ⟨b,0,none⟩))/\wz.cell? ⟨bb,o3,none⟩=some (.int .i64 r)/\wz.cell? ⟨bb,o3+2,none⟩=some (.int .i64 v))
  (first|(exact⟨d13,r1,r2⟩)|(exact⟨e13,q1,q2⟩))
  (first|(go_at_call 90;go_split_ands;with_reducible refine Go.Calls.mono (Z2n HD.out.1.ms (wrap64 (r+4)) v s1) ?_;rintro e w3 ⟨rfl,m3,k3⟩;have h3:=HD.out.1.mem m3 k3 (by have:=HD.out.1.st0;have:=Z0f xs (wrap64 (r+4));omega);obtain⟨⟨e0,e1,e2,e3,e4,e5,e6,e7,e8,e9,e10,e11,e12,e13,e14,e15,e16⟩,-,ex⟩:=h3.open;have q1:=(k3.cell (p:=⟨bb,o3,none⟩) hbw HI.out.2.2.2.2).trans s1';have q2:=(k3.cell (p:=⟨bb,o3+2,none⟩) hbw HI.out.2.2.2.2).trans s2;have H3:=hi2 h3 k3;clear h3 k3 m3))
 all_goals
  have f1:=Z06 H3.out.1.blk 1
  go_wp2_with fail
  go_end0
  exact⟨rfl,H3.out.1.set1 38,(HD.out.2.trans (kxF H3.out.2)).trans (kx _ _ _ _ _ _)⟩
theorem Zf1 (h:CT W0 w x g N st xs i0 i1 i2 i3 i4 i5 i6 i7 i8 i9 i10 i11 (.slice bo bn bc) b ov ps dn) (bb off k o3:Nat) (hb:bo=some ⟨bb,off,none⟩) (hk:i8=(k:Int)) (h1:k<bn) (ho:off+k*3=o3) (hF:¬Z18 b g bb) (r:Int) (hr:w.cell? ⟨bb,o3,none⟩=some (.int .i64 r)) (s1:st<1000000):
 Calls Tryz.prog 125 #[.pointer (some ⟨x,0,none⟩)] w fun e w'=>e= .returned (.tuple #[])/\CT W0 w' x g N (st+Z0h xs (wrap64 (r+2))) (Z0j xs (wrap64 (r+2)) i10) i0 39 i2 i3 i4 i5 i6 i7 i8 i9 i10 i11 (.slice bo bn bc) b ov ps dn/\Z01 (FX b g x) w w':=by
 obtain⟨⟨c0,c1,c2,c3,c4,c5,c6,c7,c8,c9,c10,c11,c12,c13,c14,c15,c16⟩,-,cx⟩:=h.open
 have H:=Hd h
 have HI:=hi5 hb hk h1 ho hF
 clear hb hk h1 ho hF
 clear h
 go_enter Tryz.func125,Tryz.ntmps125
 go_wp2_with fail
 refine(Z40 W0 w x g N st xs i0 i1 i2 i3 i4 i5 i6 i7 i8 i9 i10 i11 bo bn bc b ov ps dn H.out bb off k HI.out.1 HI.out.2.1 HI.out.2.2.1).mono ?_
 rintro e w1 ⟨rfl,hb1⟩
 rw[HI.out.2.2.2.1]
 have h1:=H.out.below hb1
 have hbb:=Blt w _ hr
 have r1:=(hb1.cell (p:=⟨bb,o3,none⟩) hbb).trans hr
 obtain⟨⟨d0,d1,d2,d3,d4,d5,d6,d7,d8,d9,d10,d11,d12,d13,d14,d15,d16⟩,-,dx⟩:=h1.open
 clear c0 c1 c2 c3 c4 c5 c6 c7 c8 c9 c10 c11 c12 c13 c14 c15 c16 hr
 have hw:IntKind.i64.wrap (r+2)=wrap64 (r+2):=by rw[IntKind.wrap_i64];unfold wrap64;omega
 have HD:=hi2 h1.drew (show Z01 (FX b g x) w w1.drew from Z0b hb1.drew)
 have hbw:bb<w1.drew.heap.size:=Nlt hbb hb1.size
 have hbv:bb<w1.heap.size:=Nlt hbb hb1.size
 have s1':=((Brf w1.heap.size w1).drew.cell (p:=⟨bb,o3,none⟩) hbv).trans r1
 skip
 clear h1 hb1
 go_wp2_with fail
 go_region_held3 (fun wz=>wz.cell? ⟨x,13,none⟩=some (.pointer (some ⟨b,0,none⟩))/\wz.cell? ⟨x,10,none⟩=some (.int .i64 i10)/\wz.cell? ⟨bb,o3,none⟩=some (.int .i64 r))
  (first|(exact⟨d13,d10,r1⟩)|(exact⟨e13,e10,q1⟩))
  (first|(go_at_call 90;go_split_ands;with_reducible refine Go.Calls.mono (Z2n HD.out.1.ms (wrap64 (r+2)) i10 s1) ?_;rintro e w3 ⟨rfl,m3,k3⟩;have h3:=HD.out.1.mem m3 k3 (by have:=HD.out.1.st0;have:=Z0f xs (wrap64 (r+2));omega);obtain⟨⟨e0,e1,e2,e3,e4,e5,e6,e7,e8,e9,e10,e11,e12,e13,e14,e15,e16⟩,-,ex⟩:=h3.open;have q1:=(k3.cell (p:=⟨bb,o3,none⟩) hbw HI.out.2.2.2.2).trans s1';have H3:=hi2 h3 k3;clear h3 k3 m3))
 all_goals
  have f1:=Z06 H3.out.1.blk 1
  go_wp2_with fail
  go_end0
  exact⟨rfl,H3.out.1.set1 39,(HD.out.2.trans (kxF H3.out.2)).trans (kx _ _ _ _ _ _)⟩
theorem Z9j (h:CT W0 w x g N st xs i0 i1 i2 i3 i4 i5 i6 i7 i8 i9 i10 i11 (.slice bo bn bc) b ov ps dn) (h0:i8<0):
 Calls Tryz.prog 124 #[.pointer (some ⟨x,0,none⟩)] w fun e w'=>e= .returned (.tuple #[])/\CT W0 w' x g N st xs i0 38 i2 i3 i4 i5 i6 i7 i8 i9 i10 i11 (.slice bo bn bc) b ov ps dn/\Z01 (FX b g x) w w':=by
 obtain⟨⟨c0,c1,c2,c3,c4,c5,c6,c7,c8,c9,c10,c11,c12,c13,c14,c15,c16⟩,-,cx⟩:=h.open
 have H:=Hd h
 have HI:=Hd h0
 clear h0
 clear h
 go_enter Tryz.func124,Tryz.ntmps124
 go_wp2_with fail
 refine(Z3l W0 w x g N st xs i0 i1 i2 i3 i4 i5 i6 i7 i8 i9 i10 i11 bo bn bc b ov ps dn H.out HI.out).mono ?_
 rintro e w1 ⟨rfl,hb1⟩
 have h1:=H.out.below hb1
 have f1:=Z06 h1.blk 1
 obtain⟨⟨d0,d1,d2,d3,d4,d5,d6,d7,d8,d9,d10,d11,d12,d13,d14,d15,d16⟩,-,dx⟩:=h1.open
 clear c0 c1 c2 c3 c4 c5 c6 c7 c8 c9 c10 c11 c12 c13 c14 c15 c16
 have H1:=hi2 h1 (Z0b (F:=FX b g x) hb1)
 clear h1 hb1
 go_wp2
 go_end0
 exact⟨rfl,H1.out.1.set1 38,H1.out.2.trans (kx _ _ _ _ _ _)⟩
theorem Z9k (h:CT W0 w x g N st xs i0 i1 i2 i3 i4 i5 i6 i7 i8 i9 i10 i11 (.slice bo bn bc) b ov ps dn) (h0:0<=i8) (h1:(bn:Int)<=i8):
 Calls Tryz.prog 124 #[.pointer (some ⟨x,0,none⟩)] w fun e w'=>e= .returned (.tuple #[])/\CT W0 w' x g N st xs i0 38 i2 i3 i4 i5 i6 i7 i8 i9 i10 i11 (.slice bo bn bc) b ov ps dn/\Z01 (FX b g x) w w':=by
 obtain⟨⟨c0,c1,c2,c3,c4,c5,c6,c7,c8,c9,c10,c11,c12,c13,c14,c15,c16⟩,-,cx⟩:=h.open
 have H:=Hd h
 have HI:=hi2 h0 h1
 clear h0 h1
 clear h
 go_enter Tryz.func124,Tryz.ntmps124
 go_wp2_with fail
 refine(Z2u W0 w x g N st xs i0 i1 i2 i3 i4 i5 i6 i7 i8 i9 i10 i11 bo bn bc b ov ps dn H.out HI.out.1 HI.out.2).mono ?_
 rintro e w1 ⟨rfl,hb1⟩
 have h1:=H.out.below hb1
 have f1:=Z06 h1.blk 1
 obtain⟨⟨d0,d1,d2,d3,d4,d5,d6,d7,d8,d9,d10,d11,d12,d13,d14,d15,d16⟩,-,dx⟩:=h1.open
 clear c0 c1 c2 c3 c4 c5 c6 c7 c8 c9 c10 c11 c12 c13 c14 c15 c16
 have H1:=hi2 h1 (Z0b (F:=FX b g x) hb1)
 clear h1 hb1
 go_wp2
 go_end0
 exact⟨rfl,H1.out.1.set1 38,H1.out.2.trans (kx _ _ _ _ _ _)⟩
theorem Zb5 (h:CT W0 w x g N st xs i0 i1 i2 i3 i4 i5 i6 i7 i8 i9 i10 i11 (.slice bo bn bc) b ov ps dn) (h0:i8<0):
 Calls Tryz.prog 125 #[.pointer (some ⟨x,0,none⟩)] w fun e w'=>e= .returned (.tuple #[])/\CT W0 w' x g N st xs i0 39 i2 i3 i4 i5 i6 i7 i8 i9 i10 i11 (.slice bo bn bc) b ov ps dn/\Z01 (FX b g x) w w':=by
 obtain⟨⟨c0,c1,c2,c3,c4,c5,c6,c7,c8,c9,c10,c11,c12,c13,c14,c15,c16⟩,-,cx⟩:=h.open
 have H:=Hd h
 have HI:=Hd h0
 clear h0
 clear h
 go_enter Tryz.func125,Tryz.ntmps125
 go_wp2_with fail
 refine(Z3l W0 w x g N st xs i0 i1 i2 i3 i4 i5 i6 i7 i8 i9 i10 i11 bo bn bc b ov ps dn H.out HI.out).mono ?_
 rintro e w1 ⟨rfl,hb1⟩
 have h1:=H.out.below hb1
 have f1:=Z06 h1.blk 1
 obtain⟨⟨d0,d1,d2,d3,d4,d5,d6,d7,d8,d9,d10,d11,d12,d13,d14,d15,d16⟩,-,dx⟩:=h1.open
 clear c0 c1 c2 c3 c4 c5 c6 c7 c8 c9 c10 c11 c12 c13 c14 c15 c16
 have H1:=hi2 h1 (Z0b (F:=FX b g x) hb1)
 clear h1 hb1
 go_wp2
 go_end0
 exact⟨rfl,H1.out.1.set1 39,H1.out.2.trans (kx _ _ _ _ _ _)⟩
theorem Zb6 (h:CT W0 w x g N st xs i0 i1 i2 i3 i4 i5 i6 i7 i8 i9 i10 i11 (.slice bo bn bc) b ov ps dn) (h0:0<=i8) (h1:(bn:Int)<=i8):
 Calls Tryz.prog 125 #[.pointer (some ⟨x,0,none⟩)] w fun e w'=>e= .returned (.tuple #[])/\CT W0 w' x g N st xs i0 39 i2 i3 i4 i5 i6 i7 i8 i9 i10 i11 (.slice bo bn bc) b ov ps dn/\Z01 (FX b g x) w w':=by
 obtain⟨⟨c0,c1,c2,c3,c4,c5,c6,c7,c8,c9,c10,c11,c12,c13,c14,c15,c16⟩,-,cx⟩:=h.open
 have H:=Hd h
 have HI:=hi2 h0 h1
 clear h0 h1
 clear h
 go_enter Tryz.func125,Tryz.ntmps125
 go_wp2_with fail
 refine(Z2u W0 w x g N st xs i0 i1 i2 i3 i4 i5 i6 i7 i8 i9 i10 i11 bo bn bc b ov ps dn H.out HI.out.1 HI.out.2).mono ?_
 rintro e w1 ⟨rfl,hb1⟩
 have h1:=H.out.below hb1
 have f1:=Z06 h1.blk 1
 obtain⟨⟨d0,d1,d2,d3,d4,d5,d6,d7,d8,d9,d10,d11,d12,d13,d14,d15,d16⟩,-,dx⟩:=h1.open
 clear c0 c1 c2 c3 c4 c5 c6 c7 c8 c9 c10 c11 c12 c13 c14 c15 c16
 have H1:=hi2 h1 (Z0b (F:=FX b g x) hb1)
 clear h1 hb1
 go_wp2
 go_end0
 exact⟨rfl,H1.out.1.set1 39,H1.out.2.trans (kx _ _ _ _ _ _)⟩
end
end
end Go.Proofs.YtihljjgmkaeohaaGreat
