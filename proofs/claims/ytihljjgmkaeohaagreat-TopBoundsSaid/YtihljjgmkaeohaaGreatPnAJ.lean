/- part 10 -/
import Derived.Deep.CutBlock
import Derived.Deep.DeepCutAuto
import Derived.Deep.LoopGhost
import Derived.Defers
import Derived.LaidEqlPtr
import Derived.Laws.MakeOwn
import Derived.Test.YtihljjgmkaeohaaGreatPnAD
set_option linter.all false
set_option maxHeartbeats 16000000
set_option maxRecDepth 100000
namespace Go.Proofs.YtihljjgmkaeohaaGreat
section
open Go.RowKit Go.ChangeShapes Go.WideShapes Go.ChangeAt Go.Deep
structure Tw where
 b:Nat
 v:Int
 h:Nat
abbrev twD:Tw:=⟨0,0,0⟩
def ndB (ts:List Tw) (s i:Nat):Nat:=if i=0 then s else(ts.getD (i-1) twD).b
def ndH (ts:List Tw) (i:Nat):Nat:=if i=0 then 8 else(ts.getD (i-1) twD).h
def ndP (ts:List Tw) (s i:Nat):Value:=.pointer (some ⟨ndB ts s i,0,none⟩)
def tpt (ts:List Tw) (o:Option Nat):Value:=.pointer (o.map fun j=>⟨(ts.getD j twD).b,0,none⟩)
def twA (v:Int) (h:Int) (f:Nat->Value):Array Value:= #[.int .i32 v,.int .i64 h,f 0,f 1,f 2,f 3,f 4,f 5,f 6,f 7]
def skA (f:Nat->Value) (many most:Int):Array Value:= #[.int .i32 0,.int .i64 0,f 0,f 1,f 2,f 3,f 4,f 5,f 6,f 7,.int .i64 many,.int .i64 most]
theorem Zfv (v h:Int) (f:Nat->Value):∀k,k<8->(twA v h f)[2+k]?=some (f k)
 |0,_=>rfl
 |1,_=>rfl
 |2,_=>rfl
 |3,_=>rfl
 |4,_=>rfl
 |5,_=>rfl
 |6,_=>rfl
 |7,_=>rfl
 |n+8,h=>by omega
theorem Zky (f:Nat->Value) (many most:Int):∀k,k<8->(skA f many most)[2+k]?=some (f k)
 |0,_=>rfl
 |1,_=>rfl
 |2,_=>rfl
 |3,_=>rfl
 |4,_=>rfl
 |5,_=>rfl
 |6,_=>rfl
 |7,_=>rfl
 |n+8,h=>by omega
def Z76 (f:Nat->Value) (k:Nat) (x:Value):Nat->Value:=fun j=>if j=k then x else f j
theorem Zfw (v h:Int) (f:Nat->Value) (x:Value):∀k,k<8->(twA v h f).setIfInBounds (2+k) x=twA v h (Z76 f k x)
 |0,_=>rfl
 |1,_=>rfl
 |2,_=>rfl
 |3,_=>rfl
 |4,_=>rfl
 |5,_=>rfl
 |6,_=>rfl
 |7,_=>rfl
 |n+8,h=>by omega
theorem Zmq (f:Nat->Value) (many most:Int) (x:Value):∀k,k<8->(skA f many most).setIfInBounds (2+k) x=skA (Z76 f k x) many most
 |0,_=>rfl
 |1,_=>rfl
 |2,_=>rfl
 |3,_=>rfl
 |4,_=>rfl
 |5,_=>rfl
 |6,_=>rfl
 |7,_=>rfl
 |n+8,h=>by omega
structure SkP (w:World) (s:Nat) (ts:List Tw) (most:Int) (nx:Nat->Nat->Option Nat):Prop where
 hd:w.heap[s]?=some (.cells (skA (fun k=>tpt ts (nx 0 k)) (ts.length:Int) most) 154 (0,0))
 tw:∀j,j<ts.length->w.heap[(ts.getD j twD).b]?=some (.cells (twA (ts.getD j twD).v ((ts.getD j twD).h:Int) (fun k=>tpt ts (nx (j+1) k))) 152 (0,0))
 nd:∀i j,i<j->j<ts.length->(ts.getD i twD).b≠(ts.getD j twD).b
 ns:∀j,j<ts.length->(ts.getD j twD).b≠s
 hh:∀j,j<ts.length->1<=(ts.getD j twD).h/\(ts.getD j twD).h<=8
 so:∀i j,i<j->j<ts.length->(ts.getD i twD).v<=(ts.getD j twD).v
 l0:∀i,i<=ts.length->nx i 0=if i<ts.length then some i else none
 ln:∀i,i<=ts.length->∀k,k<8->k<ndH ts i->∀j,nx i k=some j->i<=j/\j<ts.length/\k<(ts.getD j twD).h
 lz:∀i,i<=ts.length->∀k,k<8->ndH ts i<=k->nx i k=none
 le:(ts.length:Int)<=most
 m9:most<=1000
def SkF (s:Nat) (ts:List Tw):Nat->Prop:=fun k=>k=s\/∃j,j<ts.length/\(ts.getD j twD).b=k
section
variable {w w':World} {s:Nat} {ts:List Tw} {most:Int} {nx:Nat->Nat->Option Nat}
theorem SkP.lt (h:SkP w s ts most nx):∀k,SkF s ts k->k<w.heap.size:=fun k e=>by
 rcases e with rfl|⟨j,hj,rfl⟩
 ·exact(Gl h.hd)
 ·exact(Gl (h.tw j hj))
theorem SkP.kept {F:Nat->Prop} (h:SkP w s ts most nx) (hk:Z01 F w w') (hd:∀k,SkF s ts k->¬F k):SkP w' s ts most nx:=
 {h with
  hd:=(hk.block s (h.lt s (.inl rfl)) (hd s (.inl rfl))).trans h.hd
  tw:=fun j hj=>(hk.block _ (h.lt _ (.inr ⟨j,hj,rfl⟩)) (hd _ (.inr ⟨j,hj,rfl⟩))).trans (h.tw j hj)}
theorem SkP.below (h:SkP w s ts most nx) (hb:Below w.heap.size w w'):SkP w' s ts most nx:=h.kept (Z01.of_below (S:=fun _=>False) hb (fun k h1 h2=>by omega)) (fun _ _ h=>h)
theorem ndF (i:Nat) (hi:i<=ts.length):SkF s ts (ndB ts s i):=by
 unfold ndB
 split
 ·exact .inl rfl
 ·exact .inr ⟨i-1,by omega,rfl⟩
theorem SkP.cell (h:SkP w s ts most nx) {i k:Nat} (hi:i<=ts.length) (hk:k<8):w.cell? ⟨ndB ts s i,2+k,none⟩=some (tpt ts (nx i k)):=by
 unfold ndB
 split
 ·subst_vars
  simp only[World.cell?,h.hd]
  exact Zky _ _ _ k hk
 ·have:=h.tw (i-1) (by omega)
  rw[show i-1+1=i by omega]at this
  simp only[World.cell?,this]
  exact Zfv _ _ _ k hk
theorem SkP.fz (h:SkP w s ts most nx) {i:Nat} (hi:i<=ts.length) (j:Nat):w.frozen? ⟨ndB ts s i,j,none⟩=false:=by
 unfold ndB
 split
 ·simp[World.frozen?,h.hd]
 ·simp only[World.frozen?,h.tw (i-1) (by omega)]
  simp
theorem SkP.vh (h:SkP w s ts most nx) {i:Nat} (hi:i<=ts.length):∃v hh:Int,w.cell? ⟨ndB ts s i,0,none⟩=some (.int .i32 v)/\w.cell? ⟨ndB ts s i,1,none⟩=some (.int .i64 hh):=by
 unfold ndB
 split
 ·exact⟨0,0,by simp[World.cell?,h.hd,skA],by simp[World.cell?,h.hd,skA]⟩
 ·exact⟨(ts.getD (i-1) twD).v,((ts.getD (i-1) twD).h:Int),by simp only[World.cell?,h.tw (i-1) (by omega)];rfl,by simp only[World.cell?,h.tw (i-1) (by omega)];rfl⟩
theorem SkP.twc (h:SkP w s ts most nx) {j:Nat} (hj:j<ts.length):w.cell? ⟨(ts.getD j twD).b,0,none⟩=some (.int .i32 (ts.getD j twD).v)/\w.cell? ⟨(ts.getD j twD).b,1,none⟩=some (.int .i64 ((ts.getD j twD).h:Int)):=
 ⟨by simp only[World.cell?,h.tw j hj];rfl,by simp only[World.cell?,h.tw j hj];rfl⟩
theorem SkP.mc (h:SkP w s ts most nx):w.cell? ⟨s,10,none⟩=some (.int .i64 (ts.length:Int))/\w.cell? ⟨s,11,none⟩=some (.int .i64 most)/\(∀j,w.frozen? ⟨s,j,none⟩=false)/\s<w.heap.size:=
 ⟨by simp only[World.cell?,h.hd];rfl,by simp only[World.cell?,h.hd];rfl,fun j=>by simp[World.frozen?,h.hd],h.lt s (.inl rfl)⟩
end
section
variable (w:World) (s:Nat) (ts:List Tw) (most:Int) (nx:Nat->Nat->Option Nat)
theorem Zcd (h:SkP w s ts most nx):
 Calls Tryz.prog 223 #[.pointer (some ⟨s,0,none⟩)] w fun e w'=>e= .returned (.int .i64 (ts.length:Int))/\w=w':=by
 obtain⟨c0,c1,-,hs⟩:=h.mc
 clear h
 go_enter Tryz.func223,Tryz.ntmps223
 go_wp2
 go_ret
 exact⟨rfl,rfl⟩
theorem Zfx (h:SkP w s ts most nx):
 Calls Tryz.prog 233 #[.pointer (some ⟨s,0,none⟩)] w fun e w'=>e= .returned (.int .i64 most)/\w=w':=by
 obtain⟨c0,c1,-,hs⟩:=h.mc
 clear h
 go_enter Tryz.func233,Tryz.ntmps233
 go_wp2
 go_ret
 exact⟨rfl,rfl⟩
end
theorem Tryz.infoTower:(Tryz.prog.info? 152).map (fun i=>i.size)=some 10:=by kernel_rfl
theorem Zfy (w:World) (p q:Nat) (v1 h1 v2 h2:Int) (a0:w.cell? ⟨p,0,none⟩=some (.int .i32 v1)) (a1:w.cell? ⟨p,1,none⟩=some (.int .i64 h1)) (b0:w.cell? ⟨q,0,none⟩=some (.int .i32 v2)) (b1:w.cell? ⟨q,1,none⟩=some (.int .i64 h2))
 (hA:∃ca ta,w.heap[p]?=some (.cells ca ta (0,0))) (hB:∃ca ta,w.heap[q]?=some (.cells ca ta (0,0))):
 Calls Tryz.prog 250 #[.pointer (some ⟨p,0,none⟩),.pointer (some ⟨q,0,none⟩)] w fun e w'=>(∃c,e= .returned (.bool c))/\Below w.heap.size w w':=by
 obtain⟨ca,ta,ha⟩:=hA
 obtain⟨cb,tb,hb⟩:=hB
 obtain⟨i0,hi,hsz⟩:∃i,Tryz.prog.info? 152=some i/\i.size=10:=by
  have:=Tryz.infoTower
  obtain⟨i,h1,h2⟩:=Option.map_eq_some_iff.1 this
  exact⟨i,h1,h2⟩
 by_cases hpq:p=q
 ·subst hpq
  have qE:=run_eql_ptr_same w (⟨p,0,none⟩:Addr) Tryz.underlying149 hi
  clear ha hb hi hsz
  go_enter Tryz.func250,Tryz.ntmps250
  go_wp2
  go_ret
  exact⟨⟨_,rfl⟩,Brf _ _⟩
 ·have qE:=run_eql_ptr_other w (a:=⟨p,0,none⟩) (b:=⟨q,0,none⟩) Tryz.underlying149 hi (by omega) (fun e=>hpq (by cases e;rfl)) ha hb
  clear ha hb hi hsz
  by_cases hh1:h1=0
  ·subst hh1
   go_enter Tryz.func250,Tryz.ntmps250
   go_wp2
   go_ret
   exact⟨⟨_,rfl⟩,Brf _ _⟩
  ·have hb1:(h1 == 0)=false:=beq_eq_false_iff_ne.2 hh1
   by_cases hh2:h2=0
   ·subst hh2
    go_enter Tryz.func250,Tryz.ntmps250
    go_wp2_with fail
    go_quiet (fail)
    go_wp2
    go_ret
    exact⟨⟨_,rfl⟩,by first|exact below_drewN (Brf _ _) _|exact(Brf _ _).drew⟩
   ·have hb:(h2 == 0)=false:=beq_eq_false_iff_ne.2 hh2
    go_enter Tryz.func250,Tryz.ntmps250
    go_wp2_with fail
    go_quiet (fail)
    go_wp2
    go_ret
    exact⟨⟨_,rfl⟩,by first|exact below_drewN (Brf _ _) _|exact(Brf _ _).drew⟩
theorem Zkz (w:World) (v h:Int) (h1:1<=h) (h8:h<=8):
 Calls Tryz.prog 245 #[.int .i32 v,.int .i64 h] w fun e w'=>e= .returned (.pointer (some ⟨w.heap.size,0,none⟩))/\w'.heap[w.heap.size]?=some (.cells (twA v h (fun _=>.pointer none)) 152 (0,0))/\Below w.heap.size w w':=by
 by_cases hq:h=1
 ·subst hq
  go_enter Tryz.func245,Tryz.ntmps245
  go_wp2
  go_ret
  exact⟨rfl,Han _ _,by go_grown⟩
 ·have e1:min h 8=h:=by omega
  have e2:¬h<=1:=by omega
  have e3:max 1 h=h:=by omega
  clear h1 h8 hq
  go_enter Tryz.func245,Tryz.ntmps245
  go_wp2
  go_ret
  exact⟨rfl,Han _ _,by go_grown⟩
def paA (f:Nat->Value):Array Value:= #[f 0,f 1,f 2,f 3,f 4,f 5,f 6,f 7]
theorem Zp2 (f:Nat->Value):∀k,k<8->(paA f)[k]?=some (f k)
 |0,_=>rfl
 |1,_=>rfl
 |2,_=>rfl
 |3,_=>rfl
 |4,_=>rfl
 |5,_=>rfl
 |6,_=>rfl
 |7,_=>rfl
 |n+8,h=>by omega
theorem Zmr (f:Nat->Value) (x:Value):∀k,k<8->(paA f).setIfInBounds k x=paA (Z76 f k x)
 |0,_=>rfl
 |1,_=>rfl
 |2,_=>rfl
 |3,_=>rfl
 |4,_=>rfl
 |5,_=>rfl
 |6,_=>rfl
 |7,_=>rfl
 |n+8,h=>by omega
theorem Z6g {f g:Nat->Value} (h:∀k,k<8->f k=g k):paA f=paA g:=by
 unfold paA
 rw[h 0 (by omega),h 1 (by omega),h 2 (by omega),h 3 (by omega),h 4 (by omega),h 5 (by omega),h 6 (by omega),h 7 (by omega)]
theorem Zja {W:World} {q:Nat} {cs:Array Value} {tq:TypeId} {y0 y1 y2 y3 y4 y5 y6 y7:Value} (h:W.heap[q]?=some (.cells cs tq (0,0))) (hs:cs.size=8):((((((((W.setCell ⟨q,0,none⟩ y0).setCell ⟨q,1,none⟩ y1).setCell ⟨q,2,none⟩ y2).setCell ⟨q,3,none⟩ y3).setCell ⟨q,4,none⟩ y4).setCell ⟨q,5,none⟩ y5).setCell ⟨q,6,none⟩ y6).setCell ⟨q,7,none⟩ y7).heap[q]?=some (.cells #[y0,y1,y2,y3,y4,y5,y6,y7] tq (0,0)):=by
 have h1:=Z2x q tq [y0,y1,y2,y3,y4,y5,y6,y7] W 0 cs h (by rw[hs];rfl)
 rw[List.take_zero,List.nil_append]at h1
 exact h1
theorem Z42 (W:World) (q:Nat) (y0 y1 y2 y3 y4 y5 y6 y7:Value):Z01 (fun k=>k=q) W ((((((((W.setCell ⟨q,0,none⟩ y0).setCell ⟨q,1,none⟩ y1).setCell ⟨q,2,none⟩ y2).setCell ⟨q,3,none⟩ y3).setCell ⟨q,4,none⟩ y4).setCell ⟨q,5,none⟩ y5).setCell ⟨q,6,none⟩ y6).setCell ⟨q,7,none⟩ y7):=
 ((((((((Z01.refl (fun k=>k=q) W).setCell (p:=⟨q,0,none⟩) (fun _=>rfl) _).setCell (p:=⟨q,1,none⟩) (fun _=>rfl) _).setCell (p:=⟨q,2,none⟩) (fun _=>rfl) _).setCell (p:=⟨q,3,none⟩) (fun _=>rfl) _).setCell (p:=⟨q,4,none⟩) (fun _=>rfl) _).setCell (p:=⟨q,5,none⟩) (fun _=>rfl) _).setCell (p:=⟨q,6,none⟩) (fun _=>rfl) _).setCell (p:=⟨q,7,none⟩) (fun _=>rfl) _
section
variable {w:World} {b:Nat} {f:Nat->Value} {t:TypeId}
theorem Z6h (h:w.heap[b]?=some (.cells (paA f) t (0,0))):(w.cell? ⟨b,0,none⟩=some (f 0)/\w.cell? ⟨b,1,none⟩=some (f 1)/\w.cell? ⟨b,2,none⟩=some (f 2)/\w.cell? ⟨b,3,none⟩=some (f 3)/\w.cell? ⟨b,4,none⟩=some (f 4)/\w.cell? ⟨b,5,none⟩=some (f 5)/\w.cell? ⟨b,6,none⟩=some (f 6)/\w.cell? ⟨b,7,none⟩=some (f 7))/\b<w.heap.size:=by
 refine⟨⟨?_,?_,?_,?_,?_,?_,?_,?_⟩,(Gl h)⟩<;>(simp only[World.cell?,h];rfl)
theorem Zbk (h:w.heap[b]?=some (.cells (paA f) t (0,0))) {k:Nat} (hk:k<8):w.cell? ⟨b,k,none⟩=some (f k):=by
 simp only[World.cell?,h];exact Zp2 f k hk
theorem Z3q (h:w.heap[b]?=some (.cells (paA f) t (0,0))) {k:Nat} (hk:k<8) (x:Value):(w.setCell ⟨b,k,none⟩ x).heap[b]?=some (.cells (paA (Z76 f k x)) t (0,0)):=by
 rw[Z00 h,Zmr _ _ _ hk]
end
theorem Zce (w:World) (s:Nat) (hs:s<w.heap.size) (hc:∃v,w.cell? ⟨s,0,none⟩=some v):
 Calls Tryz.prog 242 #[.pointer (some ⟨s,0,none⟩)] w fun e w'=>e= .returned (.agg (paA (fun _=>.pointer (some ⟨s,0,none⟩))))/\Below w.heap.size w w':=by
 go_enter Tryz.func242,Tryz.ntmps242
 go_wp2_with fail
 generalize hW:World.alloc _ _=w1
 have X:w1.heap[w.heap.size]?=some (.cells (paA (fun _=>.pointer none)) 297 (0,0))/\w1.heap[w.heap.size+1]?=some (.cells (paA (fun _=>.pointer none)) 297 (0,0)):=by rw[<-hW];exact Z05 _ _ _
 have BW:Below w.heap.size w w1:=by rw[<-hW];go_grown
 have H:=hi2 X BW
 clear hW X BW
 go_loopw [5] (fun k wr=>∃(i:Nat) (f:Nat->Value),i<=8/\k= .int .i64 i/\wr.heap[w.heap.size]?=some (.cells (paA (fun _=>.pointer none)) 297 (0,0))/\wr.heap[w.heap.size+1]?=some (.cells (paA f) 297 (0,0))/\(∀j,j<i->f j= .pointer (some ⟨s,0,none⟩))/\Below w.heap.size w wr) (fun k _=>8-(intOf k).toNat)
 case atStart=>exact⟨0,_,by omega,rfl,H.out.1.1,H.out.1.2,fun j hj=>by omega,H.out.2⟩
 case round=>
  obtain⟨i,f,hi,rfl,h1,h2,hf,hB⟩:=hrel
  have yi:(0:Int)<=(i:Int):=by omega
  by_cases hlt:i<8
  ·have hlt':(i:Int)<8:=by omega
   have cx:=Zbk h2 hlt
   have fx:=Z06 h2 i
   have zb:w.heap.size+1<wr.heap.size:=(Gl h2)
   have HR:=hi4 h1 h2 hf hB
   clear h1 h2 hf hB
   go_wp2
   go_roundw
   case rel=>
    obtain⟨h1,h2,hf,hB⟩:=HR.out
    refine⟨i+1,Z76 f i (.pointer (some ⟨s,0,none⟩)),by omega,by go_num,((Z02 wr ⟨w.heap.size+1,i,none⟩ _).block _ (Gl h1) (by simp)).trans h1,Z3q h2 hlt _,fun j hj=>?_,hB.trans ((Z02 wr ⟨w.heap.size+1,i,none⟩ _).below hB.size (fun k hk e=>by have e2:k=w.heap.size+1:=e;omega))⟩
    unfold Z76
    split
    ·rfl
    ·exact hf j (by omega)
   case measure=>simp[intOf];omega
  ·obtain rfl:i=8:=by omega
   have e2:paA f=paA (fun _=>.pointer (some ⟨s,0,none⟩)):=Z6g hf
   rw[e2]at h2
   obtain⟨⟨c0,c1,c2,c3,c4,c5,c6,c7⟩,zb⟩:=Z6h h2
   obtain⟨⟨d0,d1,d2,d3,d4,d5,d6,d7⟩,zr⟩:=Z6h h1
   have f0:=Z06 h1 0
   have f1:=Z06 h1 1
   have f2:=Z06 h1 2
   have f3:=Z06 h1 3
   have f4:=Z06 h1 4
   have f5:=Z06 h1 5
   have f6:=Z06 h1 6
   have f7:=Z06 h1 7
   have HR:=hi2 h1 hB
   clear h1 h2 hf hB e2
   go_wp2
   generalize hw7:World.setCell _ _ _=w7
   have E7:w7.heap[w.heap.size]?=some (.cells (paA (fun _=>.pointer (some ⟨s,0,none⟩))) 297 (0,0)):=by rw[<-hw7];exact Zja HR.out.1 rfl
   have K7:Z01 (fun k=>k=w.heap.size) wr w7:=by rw[<-hw7];exact Z42 _ _ _ _ _ _ _ _ _ _
   obtain⟨⟨r0,r1,r2,r3,r4,r5,r6,r7⟩,-⟩:=Z6h E7
   refine bodyPost_ret (v:=.agg (paA (fun _=>.pointer (some ⟨s,0,none⟩)))) (by simp[results,Tryz.results242,go_sem,paA,r0,r1,r2,r3,r4,r5,r6,r7]) rfl ⟨rfl,HR.out.2.trans (K7.below HR.out.2.size (fun k hk e=>by omega))⟩
structure Qn (ts:List Tw) (v:Int) (q:Nat):Prop where
 le:q<=ts.length
 lo:∀j,j<q->(ts.getD j twD).v<=v
 hi:∀j,q<=j->j<ts.length->v<(ts.getD j twD).v
structure PaP (ts:List Tw) (s q:Nat) (f:Nat->Value) (mm:Nat->Nat):Prop where
 eq:∀j,j<8->f j=ndP ts s (mm j)
 le:∀j,j<8->mm j<=q
 ht:∀j,j<8->j<ndH ts (mm j)
theorem Zp3 {ts:List Tw} {s j:Nat}:ndP ts s (j+1)= .pointer (some ⟨(ts.getD j twD).b,0,none⟩):=by
 unfold ndP ndB
 rw[if_neg (by omega)];rfl
theorem Zp4 (w:World) (s:Nat) (ts:List Tw) (most:Int) (nx:Nat->Nat->Option Nat) (f0:Nat->Value) (m0:Nat->Nat) (v:Int) (q:Nat) (h:SkP w s ts most nx) (hq:Qn ts v q) (hp:PaP ts s q f0 m0):
 Calls Tryz.prog 243 #[.agg (paA f0),.int .i32 v] w fun e w'=>∃f mm,e= .returned (.agg (paA f))/\PaP ts s q f mm/\(∀j,j<8->∀t,nx (mm j) j=some t->q<=t)/\Below w.heap.size w w':=by
 have H:=hi3 h hq hp
 clear h hq hp
 unfold paA
 go_enter Tryz.func243,Tryz.ntmps243
 go_wp2_with fail
 generalize hW:World.alloc _ _=w1
 have X:w1.heap[w.heap.size]?=some (.cells (paA f0) 297 (0,0))/\w1.heap[w.heap.size+1]?=some (.cells (paA (fun _=>.pointer none)) 297 (0,0)):=by rw[<-hW];exact Z05 _ _ _
 have BW:Below w.heap.size w w1:=by rw[<-hW];go_grown
 have H1:=hi2 X BW
 clear hW X BW
 go_loopw [5,6] (fun k5 k6 wr=>∃(K:Nat) (z:Int) (f:Nat->Value) (mm:Nat->Nat),z+1=(K:Int)/\K<=8/\k6= .int .i64 z/\wr.heap[w.heap.size]?=some (.cells (paA f) 297 (0,0))/\wr.heap[w.heap.size+1]?=some (.cells (paA (fun _=>.pointer none)) 297 (0,0))/\Below w.heap.size w wr/\PaP ts s q f mm/\(∀j,K<=j->j<8->∀t,nx (mm j) j=some t->q<=t)/\((K=8/\k5= .pointer none)\/∃L,k5=ndP ts s L/\L<=q/\K<=ndH ts L/\K<8)) (fun _ k6 _=>(intOf k6+1).toNat)
 case atStart=>exact⟨8,7,f0,m0,rfl,by omega,rfl,H1.out.1.1,H1.out.1.2,H1.out.2,H.out.2.2,fun j h1 h2=>by omega,.inl ⟨rfl,rfl⟩⟩
 case round=>
  obtain⟨K,z,f,mm,hz,hK8,rfl,h1,h2,hB,hP,hG,hL⟩:=hrel
  by_cases hz0:0<=z
  ·obtain⟨kk,rfl⟩:∃kk:Nat,z=(kk:Int):=⟨z.toNat,by omega⟩
   have hk8:kk<8:=by omega
   have hkz:(kk:Int)<8:=by omega
   have hS:=H.out.1.below hB
   have cp:=Zbk h1 hk8
   have fp:=Z06 h1 kk
   have ep:=hP.eq kk hk8
   rw[ep]at cp
   have wz:IntKind.i64.wrap ((kk:Int)-1)=(kk:Int)-1:=I6n _ (by omega)
   have zb:w.heap.size<wr.heap.size:=(Gl h1)
   have HP:=hi7 hP hG h1 h2 hB hS hz
   have hml:=Nat.le_trans (hP.le kk hk8) H.out.2.1.le
   clear hP hG h1 h2 hB hz ep
   rcases hL with⟨rfl,rfl⟩|⟨L0,rfl,hLq,hLh,hK9⟩
   ·have HP2:=hi4 HP.out.2.2.1 HP.out.2.2.2.1 HP.out.2.2.2.2.1 HP.out.2.2.2.2.2.1
    clear hS
    unfold ndP at cp
    have hLn:=Nat.le_trans (HP.out.1.le kk hk8) H.out.2.1.le
    have cn:=HP2.out.2.2.2.cell (i:=(mm kk)) (k:=kk) hLn hk8
    try unfold ndP
    go_wp2_with fail
    go_loopg [5,7] (q-(mm kk)) (fun g k5 k7 wx=>∃l,k5= .pointer (some ⟨ndB ts s l,0,none⟩)/\k7=tpt ts (nx l kk)/\l<=q/\kk<ndH ts l/\g=q-l/\wr=wx)
    case atStart=>exact⟨(mm kk),rfl,rfl,HP.out.1.le kk hk8,HP.out.1.ht kk hk8,rfl,rfl⟩
    case round=>
     clear cn
     obtain⟨l,rfl,rfl,hlq,hlh,rfl,rfl⟩:=hrel
     have hln:=Nat.le_trans hlq H.out.2.1.le
     rcases hnx:nx l kk with _|j
     ·rw[show tpt ts (none:Option Nat)= .pointer none from rfl]
      go_wp2
      go_roundw
      case rel=>
       refine⟨kk,(kk:Int)-1,Z76 f kk (ndP ts s l),fun j=>if j=kk then l else mm j,by omega,by omega,rfl,Z3q HP2.out.1 hk8 _,((Z02 wr ⟨w.heap.size,kk,none⟩ _).block _ (Gl HP2.out.2.1) (by simp)).trans HP2.out.2.1,HP2.out.2.2.1.trans ((Z02 wr ⟨w.heap.size,kk,none⟩ _).below HP2.out.2.2.1.size (fun k hk e=>by have e2:k=w.heap.size:=e;omega)),⟨fun j hj=>?_,fun j hj=>?_,fun j hj=>?_⟩,fun j j1 j2 t ht=>?_,.inr ⟨l,rfl,hlq,by omega,hk8⟩⟩
       ·unfold Z76
        show(if j=kk then _ else _)=ndP ts s (if j=kk then _ else _)
        split
        ·rfl
        ·exact HP.out.1.eq j hj
       ·show(if j=kk then _ else _)<=q
        split
        ·exact hlq
        ·exact HP.out.1.le j hj
       ·show j<ndH ts (if j=kk then _ else _)
        split
        ·subst_vars;exact hlh
        ·exact HP.out.1.ht j hj
       ·have ht2:nx (if j=kk then l else mm j) j=some t:=ht
        split at ht2
        ·subst_vars;rw[hnx]at ht2;cases ht2
        ·exact HP.out.2.1 j (by have:=HP.out.2.2.2.2.2.2;omega) j2 t ht2
      case measure=>simp[intOf]
     ·obtain⟨j1,j2,j3⟩:=H.out.1.ln l hln kk hk8 hlh j hnx
      rw[show tpt ts (some j)= .pointer (some ⟨(ts.getD j twD).b,0,none⟩)from rfl]
      have vj:=(HP2.out.2.2.2.twc j2).1
      obtain⟨bj,hbj⟩:∃bj,(ts.getD j twD).b=bj:=⟨_,rfl⟩
      obtain⟨xj,hxj⟩:∃xj,(ts.getD j twD).v=xj:=⟨_,rfl⟩
      have cj:=HP2.out.2.2.2.cell (i:=j+1) (k:=kk) (by omega) hk8
      have ebj:ndB ts s (j+1)=bj:=by rw[<-hbj];unfold ndB;rw[if_neg (by omega)];rfl
      rw[ebj]at cj
      rw[hbj,hxj]at vj
      rw[hbj]
      by_cases hv:xj<=v
      ·have hjq:j<q:=by
        rcases Nat.lt_or_ge j q with h|h
        ·exact h
        ·have:=H.out.2.1.hi j h j2;omega
       have hxj:=Hd hxj
       have ebj:=Hd ebj
       clear hbj
       go_wp2
       go_roundg (q-(j+1))
       case measure=>omega
       case rel=>exact⟨j+1,by rw[ebj.out],rfl,by omega,by unfold ndH;rw[if_neg (by omega)];exact j3,rfl,rfl⟩
      ·have hjq:q<=j:=by
        rcases Nat.lt_or_ge j q with h|h
        ·have:=H.out.2.1.lo j h;omega
        ·exact h
       have hxj:=Hd hxj
       have ebj:=Hd ebj
       have hnx:=Hd hnx
       clear hbj
       go_wp2
       go_roundw
       case rel=>
        refine⟨kk,(kk:Int)-1,Z76 f kk (ndP ts s l),fun j=>if j=kk then l else mm j,by omega,by omega,rfl,Z3q HP2.out.1 hk8 _,((Z02 wr ⟨w.heap.size,kk,none⟩ _).block _ (Gl HP2.out.2.1) (by simp)).trans HP2.out.2.1,HP2.out.2.2.1.trans ((Z02 wr ⟨w.heap.size,kk,none⟩ _).below HP2.out.2.2.1.size (fun k hk e=>by have e2:k=w.heap.size:=e;omega)),⟨fun j hj=>?_,fun j hj=>?_,fun j hj=>?_⟩,fun j j1 j2 t ht=>?_,.inr ⟨l,rfl,hlq,by omega,hk8⟩⟩
        ·unfold Z76
         show(if j=kk then _ else _)=ndP ts s (if j=kk then _ else _)
         split
         ·rfl
         ·exact HP.out.1.eq j hj
        ·show(if j=kk then _ else _)<=q
         split
         ·exact hlq
         ·exact HP.out.1.le j hj
        ·show j<ndH ts (if j=kk then _ else _)
         split
         ·subst_vars;exact hlh
         ·exact HP.out.1.ht j hj
        ·have ht2:nx (if j=kk then l else mm j) j=some t:=ht
         split at ht2
         ·subst_vars;rw[hnx.out]at ht2;cases ht2;exact hjq
         ·exact HP.out.2.1 j (by have:=HP.out.2.2.2.2.2.2;omega) j2 t ht2
       case measure=>simp[intOf]
   ·have hLl:=Nat.le_trans hLq H.out.2.1.le
    obtain⟨v1,g1,p0,p1⟩:=hS.vh hml
    obtain⟨v2,g2,o0,o1⟩:=hS.vh hLl
    have hbl:∀i,i<=ts.length->∃ca ta,wr.heap[ndB ts s i]?=some (.cells ca ta (0,0)):=fun i hi=>by
     unfold ndB
     split
     ·exact⟨_,_,hS.hd⟩
     ·exact⟨_,_,hS.tw (i-1) (by omega)⟩
    have cF:=Zfy wr (ndB ts s (mm kk)) (ndB ts s L0) v1 g1 v2 g2 p0 p1 o0 o1 (hbl _ hml) (hbl _ hLl)
    unfold ndP at cp |-
    clear p0 p1 o0 o1 hbl hS
    go_wp2_with fail
    refine cF.mono ?_
    rintro e w2 ⟨⟨c,rfl⟩,hb2⟩
    have HP2:=hi4 ((hb2.block _ zb).trans HP.out.2.2.1) ((hb2.block (w.heap.size+1) (Gl HP.out.2.2.2.1)).trans HP.out.2.2.2.1) (HP.out.2.2.2.2.1.trans (hb2.mono HP.out.2.2.2.2.1.size)) (HP.out.2.2.2.2.2.1.below hb2)
    have cp:=(hb2.cell (p:=⟨w.heap.size,kk,none⟩) zb).trans cp
    have fp:=(hb2.frozen (p:=⟨w.heap.size,kk,none⟩) zb).trans fp
    have zb:=Nlt zb hb2.size
    clear hb2 cF
    cases c
    case false=>
     have hLn:=Nat.le_trans (hLq) H.out.2.1.le
     have cn:=HP2.out.2.2.2.cell (i:=L0) (k:=kk) hLn hk8
     try unfold ndP
     go_wp2_with fail
     go_loopg [5,7] (q-L0) (fun g k5 k7 wx=>∃l,k5= .pointer (some ⟨ndB ts s l,0,none⟩)/\k7=tpt ts (nx l kk)/\l<=q/\kk<ndH ts l/\g=q-l/\w2=wx)
     case atStart=>exact⟨L0,rfl,rfl,hLq,(show kk<ndH ts L0 by have:=HP.out.2.2.2.2.2.2;omega),rfl,rfl⟩
     case round=>
      clear cn
      obtain⟨l,rfl,rfl,hlq,hlh,rfl,rfl⟩:=hrel
      have hln:=Nat.le_trans hlq H.out.2.1.le
      rcases hnx:nx l kk with _|j
      ·rw[show tpt ts (none:Option Nat)= .pointer none from rfl]
       go_wp2
       go_roundw
       case rel=>
        refine⟨kk,(kk:Int)-1,Z76 f kk (ndP ts s l),fun j=>if j=kk then l else mm j,by omega,by omega,rfl,Z3q HP2.out.1 hk8 _,((Z02 w2 ⟨w.heap.size,kk,none⟩ _).block _ (Gl HP2.out.2.1) (by simp)).trans HP2.out.2.1,HP2.out.2.2.1.trans ((Z02 w2 ⟨w.heap.size,kk,none⟩ _).below HP2.out.2.2.1.size (fun k hk e=>by have e2:k=w.heap.size:=e;omega)),⟨fun j hj=>?_,fun j hj=>?_,fun j hj=>?_⟩,fun j j1 j2 t ht=>?_,.inr ⟨l,rfl,hlq,by omega,hk8⟩⟩
        ·unfold Z76
         show(if j=kk then _ else _)=ndP ts s (if j=kk then _ else _)
         split
         ·rfl
         ·exact HP.out.1.eq j hj
        ·show(if j=kk then _ else _)<=q
         split
         ·exact hlq
         ·exact HP.out.1.le j hj
        ·show j<ndH ts (if j=kk then _ else _)
         split
         ·subst_vars;exact hlh
         ·exact HP.out.1.ht j hj
        ·have ht2:nx (if j=kk then l else mm j) j=some t:=ht
         split at ht2
         ·subst_vars;rw[hnx]at ht2;cases ht2
         ·exact HP.out.2.1 j (by have:=HP.out.2.2.2.2.2.2;omega) j2 t ht2
       case measure=>simp[intOf]
      ·obtain⟨j1,j2,j3⟩:=H.out.1.ln l hln kk hk8 hlh j hnx
       rw[show tpt ts (some j)= .pointer (some ⟨(ts.getD j twD).b,0,none⟩)from rfl]
       have vj:=(HP2.out.2.2.2.twc j2).1
       obtain⟨bj,hbj⟩:∃bj,(ts.getD j twD).b=bj:=⟨_,rfl⟩
       obtain⟨xj,hxj⟩:∃xj,(ts.getD j twD).v=xj:=⟨_,rfl⟩
       have cj:=HP2.out.2.2.2.cell (i:=j+1) (k:=kk) (by omega) hk8
       have ebj:ndB ts s (j+1)=bj:=by rw[<-hbj];unfold ndB;rw[if_neg (by omega)];rfl
       rw[ebj]at cj
       rw[hbj,hxj]at vj
       rw[hbj]
       by_cases hv:xj<=v
       ·have hjq:j<q:=by
         rcases Nat.lt_or_ge j q with h|h
         ·exact h
         ·have:=H.out.2.1.hi j h j2;omega
        have hxj:=Hd hxj
        have ebj:=Hd ebj
        clear hbj
        go_wp2
        go_roundg (q-(j+1))
        case measure=>omega
        case rel=>exact⟨j+1,by rw[ebj.out],rfl,by omega,by unfold ndH;rw[if_neg (by omega)];exact j3,rfl,rfl⟩
       ·have hjq:q<=j:=by
         rcases Nat.lt_or_ge j q with h|h
         ·have:=H.out.2.1.lo j h;omega
         ·exact h
        have hxj:=Hd hxj
        have ebj:=Hd ebj
        have hnx:=Hd hnx
        clear hbj
        go_wp2
        go_roundw
        case rel=>
         refine⟨kk,(kk:Int)-1,Z76 f kk (ndP ts s l),fun j=>if j=kk then l else mm j,by omega,by omega,rfl,Z3q HP2.out.1 hk8 _,((Z02 w2 ⟨w.heap.size,kk,none⟩ _).block _ (Gl HP2.out.2.1) (by simp)).trans HP2.out.2.1,HP2.out.2.2.1.trans ((Z02 w2 ⟨w.heap.size,kk,none⟩ _).below HP2.out.2.2.1.size (fun k hk e=>by have e2:k=w.heap.size:=e;omega)),⟨fun j hj=>?_,fun j hj=>?_,fun j hj=>?_⟩,fun j j1 j2 t ht=>?_,.inr ⟨l,rfl,hlq,by omega,hk8⟩⟩
         ·unfold Z76
          show(if j=kk then _ else _)=ndP ts s (if j=kk then _ else _)
          split
          ·rfl
          ·exact HP.out.1.eq j hj
         ·show(if j=kk then _ else _)<=q
          split
          ·exact hlq
          ·exact HP.out.1.le j hj
         ·show j<ndH ts (if j=kk then _ else _)
          split
          ·subst_vars;exact hlh
          ·exact HP.out.1.ht j hj
         ·have ht2:nx (if j=kk then l else mm j) j=some t:=ht
          split at ht2
          ·subst_vars;rw[hnx.out]at ht2;cases ht2;exact hjq
          ·exact HP.out.2.1 j (by have:=HP.out.2.2.2.2.2.2;omega) j2 t ht2
        case measure=>simp[intOf]
    case true=>
     have hLn:=Nat.le_trans (HP.out.1.le kk hk8) H.out.2.1.le
     have cn:=HP2.out.2.2.2.cell (i:=(mm kk)) (k:=kk) hLn hk8
     try unfold ndP
     go_wp2_with fail
     go_loopg [5,7] (q-(mm kk)) (fun g k5 k7 wx=>∃l,k5= .pointer (some ⟨ndB ts s l,0,none⟩)/\k7=tpt ts (nx l kk)/\l<=q/\kk<ndH ts l/\g=q-l/\w2=wx)
     case atStart=>exact⟨(mm kk),rfl,rfl,HP.out.1.le kk hk8,HP.out.1.ht kk hk8,rfl,rfl⟩
     case round=>
      clear cn
      obtain⟨l,rfl,rfl,hlq,hlh,rfl,rfl⟩:=hrel
      have hln:=Nat.le_trans hlq H.out.2.1.le
      rcases hnx:nx l kk with _|j
      ·rw[show tpt ts (none:Option Nat)= .pointer none from rfl]
       go_wp2
       go_roundw
       case rel=>
        refine⟨kk,(kk:Int)-1,Z76 f kk (ndP ts s l),fun j=>if j=kk then l else mm j,by omega,by omega,rfl,Z3q HP2.out.1 hk8 _,((Z02 w2 ⟨w.heap.size,kk,none⟩ _).block _ (Gl HP2.out.2.1) (by simp)).trans HP2.out.2.1,HP2.out.2.2.1.trans ((Z02 w2 ⟨w.heap.size,kk,none⟩ _).below HP2.out.2.2.1.size (fun k hk e=>by have e2:k=w.heap.size:=e;omega)),⟨fun j hj=>?_,fun j hj=>?_,fun j hj=>?_⟩,fun j j1 j2 t ht=>?_,.inr ⟨l,rfl,hlq,by omega,hk8⟩⟩
        ·unfold Z76
         show(if j=kk then _ else _)=ndP ts s (if j=kk then _ else _)
         split
         ·rfl
         ·exact HP.out.1.eq j hj
        ·show(if j=kk then _ else _)<=q
         split
         ·exact hlq
         ·exact HP.out.1.le j hj
        ·show j<ndH ts (if j=kk then _ else _)
         split
         ·subst_vars;exact hlh
         ·exact HP.out.1.ht j hj
        ·have ht2:nx (if j=kk then l else mm j) j=some t:=ht
         split at ht2
         ·subst_vars;rw[hnx]at ht2;cases ht2
         ·exact HP.out.2.1 j (by have:=HP.out.2.2.2.2.2.2;omega) j2 t ht2
       case measure=>simp[intOf]
      ·obtain⟨j1,j2,j3⟩:=H.out.1.ln l hln kk hk8 hlh j hnx
       rw[show tpt ts (some j)= .pointer (some ⟨(ts.getD j twD).b,0,none⟩)from rfl]
       have vj:=(HP2.out.2.2.2.twc j2).1
       obtain⟨bj,hbj⟩:∃bj,(ts.getD j twD).b=bj:=⟨_,rfl⟩
       obtain⟨xj,hxj⟩:∃xj,(ts.getD j twD).v=xj:=⟨_,rfl⟩
       have cj:=HP2.out.2.2.2.cell (i:=j+1) (k:=kk) (by omega) hk8
       have ebj:ndB ts s (j+1)=bj:=by rw[<-hbj];unfold ndB;rw[if_neg (by omega)];rfl
       rw[ebj]at cj
       rw[hbj,hxj]at vj
       rw[hbj]
       by_cases hv:xj<=v
       ·have hjq:j<q:=by
         rcases Nat.lt_or_ge j q with h|h
         ·exact h
         ·have:=H.out.2.1.hi j h j2;omega
        have hxj:=Hd hxj
        have ebj:=Hd ebj
        clear hbj
        go_wp2
        go_roundg (q-(j+1))
        case measure=>omega
        case rel=>exact⟨j+1,by rw[ebj.out],rfl,by omega,by unfold ndH;rw[if_neg (by omega)];exact j3,rfl,rfl⟩
       ·have hjq:q<=j:=by
         rcases Nat.lt_or_ge j q with h|h
         ·have:=H.out.2.1.lo j h;omega
         ·exact h
        have hxj:=Hd hxj
        have ebj:=Hd ebj
        have hnx:=Hd hnx
        clear hbj
        go_wp2
        go_roundw
        case rel=>
         refine⟨kk,(kk:Int)-1,Z76 f kk (ndP ts s l),fun j=>if j=kk then l else mm j,by omega,by omega,rfl,Z3q HP2.out.1 hk8 _,((Z02 w2 ⟨w.heap.size,kk,none⟩ _).block _ (Gl HP2.out.2.1) (by simp)).trans HP2.out.2.1,HP2.out.2.2.1.trans ((Z02 w2 ⟨w.heap.size,kk,none⟩ _).below HP2.out.2.2.1.size (fun k hk e=>by have e2:k=w.heap.size:=e;omega)),⟨fun j hj=>?_,fun j hj=>?_,fun j hj=>?_⟩,fun j j1 j2 t ht=>?_,.inr ⟨l,rfl,hlq,by omega,hk8⟩⟩
         ·unfold Z76
          show(if j=kk then _ else _)=ndP ts s (if j=kk then _ else _)
          split
          ·rfl
          ·exact HP.out.1.eq j hj
         ·show(if j=kk then _ else _)<=q
          split
          ·exact hlq
          ·exact HP.out.1.le j hj
         ·show j<ndH ts (if j=kk then _ else _)
          split
          ·subst_vars;exact hlh
          ·exact HP.out.1.ht j hj
         ·have ht2:nx (if j=kk then l else mm j) j=some t:=ht
          split at ht2
          ·subst_vars;rw[hnx.out]at ht2;cases ht2;exact hjq
          ·exact HP.out.2.1 j (by have:=HP.out.2.2.2.2.2.2;omega) j2 t ht2
        case measure=>simp[intOf]
  ·have hz1:z= -1:=by omega
   subst hz1
   have hK0:K=0:=by omega
   subst hK0
   obtain⟨g,hg⟩:∃g:Nat->Value,g=fun j=>.pointer (some ⟨ndB ts s (mm j),0,none⟩):=⟨_,rfl⟩
   have e2:paA f=paA g:=Z6g (fun j hj=>by rw[hg];exact hP.eq j hj)
   have hP:PaP ts s q g mm:=⟨fun j hj=>by rw[hg];rfl,hP.le,hP.ht⟩
   rw[e2]at h1
   clear e2
   subst hg
   obtain⟨⟨c0,c1,c2,c3,c4,c5,c6,c7⟩,zb⟩:=Z6h h1
   obtain⟨⟨d0,d1,d2,d3,d4,d5,d6,d7⟩,zr⟩:=Z6h h2
   have f0:=Z06 h2 0
   have f1:=Z06 h2 1
   have f2:=Z06 h2 2
   have f3:=Z06 h2 3
   have f4:=Z06 h2 4
   have f5:=Z06 h2 5
   have f6:=Z06 h2 6
   have f7:=Z06 h2 7
   have HR:=hi4 h2 hB hP hG
   clear h1 h2 hB hP hG hL
   go_wp2
   generalize hw7:World.setCell _ _ _=w7
   have E7:w7.heap[w.heap.size+1]?=some (.cells (paA (fun j=>.pointer (some ⟨ndB ts s (mm j),0,none⟩))) 297 (0,0)):=by rw[<-hw7];exact Zja HR.out.1 rfl
   have K7:Z01 (fun k=>k=w.heap.size+1) wr w7:=by rw[<-hw7];exact Z42 _ _ _ _ _ _ _ _ _ _
   obtain⟨⟨r0,r1,r2,r3,r4,r5,r6,r7⟩,-⟩:=Z6h E7
   refine bodyPost_ret (v:=.agg (paA (fun j=>.pointer (some ⟨ndB ts s (mm j),0,none⟩)))) (by simp[results,Tryz.results243,go_sem,paA,r0,r1,r2,r3,r4,r5,r6,r7]) rfl ?_
   exact⟨fun j=>.pointer (some ⟨ndB ts s (mm j),0,none⟩),rfl,mm,HR.out.2.2.1,fun j hj=>HR.out.2.2.2 j (Nat.zero_le _) hj,HR.out.2.1.trans (K7.below HR.out.2.1.size (fun k hk e=>by omega))⟩
structure SkG (w:World) (s:Nat) (ts:List Tw) (many most:Int) (g:Nat->Nat->Value):Prop where
 hd:w.heap[s]?=some (.cells (skA (g 0) many most) 154 (0,0))
 tw:∀j,j<ts.length->w.heap[(ts.getD j twD).b]?=some (.cells (twA (ts.getD j twD).v ((ts.getD j twD).h:Int) (g (j+1))) 152 (0,0))
structure SkO (s:Nat) (ts:List Tw) (nx:Nat->Nat->Option Nat):Prop where
 nd:∀i j,i<j->j<ts.length->(ts.getD i twD).b≠(ts.getD j twD).b
 ns:∀j,j<ts.length->(ts.getD j twD).b≠s
 hh:∀j,j<ts.length->1<=(ts.getD j twD).h/\(ts.getD j twD).h<=8
 so:∀i j,i<j->j<ts.length->(ts.getD i twD).v<=(ts.getD j twD).v
 l0:∀i,i<=ts.length->nx i 0=if i<ts.length then some i else none
 ln:∀i,i<=ts.length->∀k,k<8->k<ndH ts i->∀j,nx i k=some j->i<=j/\j<ts.length/\k<(ts.getD j twD).h
 lz:∀i,i<=ts.length->∀k,k<8->ndH ts i<=k->nx i k=none
section
variable {w w':World} {s:Nat} {ts:List Tw} {many most:Int} {g:Nat->Nat->Value} {nx:Nat->Nat->Option Nat}
theorem SkP.raw (h:SkP w s ts most nx):SkG w s ts (ts.length:Int) most (fun i k=>tpt ts (nx i k)):=⟨h.hd,h.tw⟩
theorem SkP.ord (h:SkP w s ts most nx):SkO s ts nx:=⟨h.nd,h.ns,h.hh,h.so,h.l0,h.ln,h.lz⟩
theorem SkP.of (h:SkG w s ts (ts.length:Int) most (fun i k=>tpt ts (nx i k))) (o:SkO s ts nx) (hl:(ts.length:Int)<=most) (h9:most<=1000):SkP w s ts most nx:=⟨h.hd,h.tw,o.nd,o.ns,o.hh,o.so,o.l0,o.ln,o.lz,hl,h9⟩
theorem SkG.lt (h:SkG w s ts many most g):∀k,SkF s ts k->k<w.heap.size:=fun k e=>by
 rcases e with rfl|⟨j,hj,rfl⟩
 ·exact(Gl h.hd)
 ·exact(Gl (h.tw j hj))
theorem SkG.kept {F:Nat->Prop} (h:SkG w s ts many most g) (hk:Z01 F w w') (hd:∀k,SkF s ts k->¬F k):SkG w' s ts many most g:=
 ⟨(hk.block s (h.lt s (.inl rfl)) (hd s (.inl rfl))).trans h.hd,fun j hj=>(hk.block _ (h.lt _ (.inr ⟨j,hj,rfl⟩)) (hd _ (.inr ⟨j,hj,rfl⟩))).trans (h.tw j hj)⟩
theorem SkG.below (h:SkG w s ts many most g) (hb:Below w.heap.size w w'):SkG w' s ts many most g:=h.kept (Z01.of_below (S:=fun _=>False) hb (fun k h1 h2=>by omega)) (fun _ _ h=>h)
theorem SkG.congr {g':Nat->Nat->Value} (h:SkG w s ts many most g) (he:∀i,i<=ts.length->∀k,k<8->g i k=g' i k):SkG w s ts many most g':=by
 have e1:skA (g 0) many most=skA (g' 0) many most:=by
  unfold skA
  rw[he 0 (by omega) 0 (by omega),he 0 (by omega) 1 (by omega),he 0 (by omega) 2 (by omega),he 0 (by omega) 3 (by omega),he 0 (by omega) 4 (by omega),he 0 (by omega) 5 (by omega),he 0 (by omega) 6 (by omega),he 0 (by omega) 7 (by omega)]
 refine⟨by rw[<-e1];exact h.hd,fun j hj=>?_⟩
 have e2:twA (ts.getD j twD).v ((ts.getD j twD).h:Int) (g (j+1))=twA (ts.getD j twD).v ((ts.getD j twD).h:Int) (g' (j+1)):=by
  unfold twA
  rw[he (j+1) (by omega) 0 (by omega),he (j+1) (by omega) 1 (by omega),he (j+1) (by omega) 2 (by omega),he (j+1) (by omega) 3 (by omega),he (j+1) (by omega) 4 (by omega),he (j+1) (by omega) 5 (by omega),he (j+1) (by omega) 6 (by omega),he (j+1) (by omega) 7 (by omega)]
 rw[<-e2];exact h.tw j hj
theorem SkG.cell (h:SkG w s ts many most g) {i k:Nat} (hi:i<=ts.length) (hk:k<8):w.cell? ⟨ndB ts s i,2+k,none⟩=some (g i k):=by
 unfold ndB
 split
 ·subst_vars
  simp only[World.cell?,h.hd]
  exact Zky _ _ _ k hk
 ·have:=h.tw (i-1) (by omega)
  rw[show i-1+1=i by omega]at this
  simp only[World.cell?,this]
  exact Zfv _ _ _ k hk
theorem SkG.fz (h:SkG w s ts many most g) {i:Nat} (hi:i<=ts.length) (j:Nat):w.frozen? ⟨ndB ts s i,j,none⟩=false:=by
 unfold ndB
 split
 ·simp[World.frozen?,h.hd]
 ·simp only[World.frozen?,h.tw (i-1) (by omega)]
  simp
theorem SkO.inj (o:SkO s ts nx) {i j:Nat} (hi:i<=ts.length) (hj:j<=ts.length) (h:ndB ts s i=ndB ts s j):i=j:=by
 unfold ndB at h
 split at h
 ·split at h
  ·omega
  ·exact absurd h.symm (o.ns (j-1) (by omega))
 ·split at h
  ·exact absurd h (o.ns (i-1) (by omega))
  ·rcases Nat.lt_trichotomy (i-1) (j-1)with e|e|e
   ·exact absurd h (o.nd _ _ e (by omega))
   ·omega
   ·exact absurd h.symm (o.nd _ _ e (by omega))
theorem SkG.set (h:SkG w s ts many most g) (o:SkO s ts nx) {a k:Nat} (ha:a<=ts.length) (hk:k<8) (x:Value):SkG (w.setCell ⟨ndB ts s a,2+k,none⟩ x) s ts many most (fun i l=>if i=a/\l=k then x else g i l):=by
 have hK:=Z02 w ⟨ndB ts s a,2+k,none⟩ x
 refine⟨?_,fun j hj=>?_⟩
 ·by_cases e:a=0
  ·subst e
   have h1:=Z00 h.hd (2+k) x
   rw[Zmq _ _ _ _ k hk]at h1
   rw[show ndB ts s 0=s from rfl]
   rw[h1]
   congr 3
   funext l
   unfold Z76
   by_cases e2:l=k
   ·rw[if_pos e2,if_pos ⟨rfl,e2⟩]
   ·rw[if_neg e2,if_neg (fun h=>e2 h.2)]
  ·have h1:=(hK.block s (h.lt s (.inl rfl)) (fun e2=>by
    have e3:ndB ts s 0=ndB ts s a:=e2
    exact e (o.inj ha (Nat.zero_le _) e3.symm))).trans h.hd
   rw[h1]
   congr 3
   funext l
   rw[if_neg (fun h=>e h.1.symm)]
 ·by_cases e:a=j+1
  ·subst e
   have eb:ndB ts s (j+1)=(ts.getD j twD).b:=by unfold ndB;rw[if_neg (by omega)];rfl
   have h1:=Z00 (h.tw j hj) (2+k) x
   rw[Zfw _ _ _ _ k hk]at h1
   rw[eb,h1]
   congr 3
   funext l
   unfold Z76
   by_cases e2:l=k
   ·rw[if_pos e2,if_pos ⟨rfl,e2⟩]
   ·rw[if_neg e2,if_neg (fun h=>e2 h.2)]
  ·have eb:ndB ts s (j+1)=(ts.getD j twD).b:=by unfold ndB;rw[if_neg (by omega)];rfl
   have h1:=(hK.block _ (h.lt _ (.inr ⟨j,hj,rfl⟩)) (fun e2=>by
    have e3:ndB ts s (j+1)=ndB ts s a:=eb.trans e2
    exact e (o.inj ha (by omega) e3.symm))).trans (h.tw j hj)
   rw[h1]
   congr 3
   funext l
   rw[if_neg (fun h=>e h.1.symm)]
end
def Z3r (ts:List Tw) (q:Nat) (t:Tw):List Tw:=ts.take q++t::ts.drop q
def shq (q j:Nat):Nat:=if j<q then j else j+1
def nxI (mm:Nat->Nat) (nx:Nat->Nat->Option Nat) (q h:Nat) (a k:Nat):Option Nat:=
 if a<=q then(if k<h/\a=mm k then some q else(nx a k).map (shq q))else if a=q+1 then(if k<h then(nx (mm k) k).map (shq q)else none)else(nx (a-1) k).map (shq q)
section
variable {ts:List Tw} {q:Nat} {t:Tw}
theorem Z5y (hq:q<=ts.length):(Z3r ts q t).length=ts.length+1:=by
 unfold Z3r
 rw[Lla,Llc,List.length_take,List.length_drop];omega
theorem Z6i (hq:q<=ts.length) {j:Nat} (hj:j<q):(Z3r ts q t).getD j twD=ts.getD j twD:=by
 unfold Z3r
 rw[Lgd,Lgd,Lel (by rw[List.length_take];omega),List.getElem?_take,if_pos hj]
theorem Z3s (hq:q<=ts.length):(Z3r ts q t).getD q twD=t:=by
 unfold Z3r
 rw[Lgd,Ler (by rw[List.length_take];omega),List.length_take,show q-min q ts.length=0 by omega];rfl
theorem Z8g (hq:q<=ts.length) {j:Nat} (hj:q<=j):(Z3r ts q t).getD (j+1) twD=ts.getD j twD:=by
 unfold Z3r
 rw[Lgd,Lgd,Ler (by rw[List.length_take];omega),List.length_take,show j+1-min q ts.length=(j-q)+1 by omega,List.getElem?_cons_succ,List.getElem?_drop,show q+(j-q)=j by omega]
theorem Zfz (hq:q<=ts.length) (j:Nat):(Z3r ts q t).getD (shq q j) twD=ts.getD j twD:=by
 unfold shq
 split
 ·exact Z6i hq (by assumption)
 ·exact Z8g hq (by omega)
theorem Zcf (hq:q<=ts.length) (o:Option Nat):tpt (Z3r ts q t) (o.map (shq q))=tpt ts o:=by
 cases o with
 |none=>rfl
 |some j=>unfold tpt;simp only[Option.map_some];rw[Zfz hq]
theorem Zjb (hq:q<=ts.length) (s:Nat) {i:Nat} (hi:i<=q):ndB (Z3r ts q t) s i=ndB ts s i:=by
 unfold ndB
 split
 ·rfl
 ·rw[Z6i hq (by omega)]
theorem Z8h (hq:q<=ts.length) {i:Nat} (hi:i<=q):ndH (Z3r ts q t) i=ndH ts i:=by
 unfold ndH
 split
 ·rfl
 ·rw[Z6i hq (by omega)]
theorem Z1v {j:Nat} (hq:q<=ts.length) (hj:j<(Z3r ts q t).length):(j<q/\(Z3r ts q t).getD j twD=ts.getD j twD)\/(j=q/\(Z3r ts q t).getD j twD=t)\/(q<j/\j-1<ts.length/\(Z3r ts q t).getD j twD=ts.getD (j-1) twD):=by
 rw[Z5y hq]at hj
 rcases Nat.lt_trichotomy j q with h|h|h
 ·exact .inl ⟨h,Z6i hq h⟩
 ·subst h;exact .inr (.inl ⟨rfl,Z3s hq⟩)
 ·refine .inr (.inr ⟨h,by omega,?_⟩)
  have:=Z8g (t:=t) hq (j:=j-1) (by omega)
  rwa [show j-1+1=j by omega]at this
end
theorem SkO.put {s:Nat} {ts:List Tw} {nx:Nat->Nat->Option Nat} {f:Nat->Value} {mm:Nat->Nat} {q T h:Nat} {v:Int} (o:SkO s ts nx) (hq:Qn ts v q) (hp:PaP ts s q f mm) (hG:∀j,j<8->∀t,nx (mm j) j=some t->q<=t)
 (h1:1<=h) (h8:h<=8) (hT:¬SkF s ts T):SkO s (Z3r ts q ⟨T,v,h⟩) (nxI mm nx q h):=by
 have hql:=hq.le
 have hL:=Z5y (t:=⟨T,v,h⟩) hql
 have hm0:mm 0=q:=by
  have a1:=hp.le 0 (by omega)
  have a2:=o.l0 (mm 0) (by omega)
  by_cases e:mm 0<ts.length
  ·rw[if_pos e]at a2
   have:=hG 0 (by omega) _ a2
   omega
  ·omega
 have hmh:∀k,k<8->∀j,nx (mm k) k=some j->mm k<=j/\j<ts.length/\k<(ts.getD j twD).h:=fun k hk j hj=>o.ln (mm k) (by have:=hp.le k hk;omega) k hk (hp.ht k hk) j hj
 have hTb:∀j,j<ts.length->(ts.getD j twD).b≠T:=fun j hj e=>hT (.inr ⟨j,hj,e⟩)
 refine⟨fun i j hij hj=>?_,fun j hj=>?_,fun j hj=>?_,fun i j hij hj=>?_,fun i hi=>?_,fun i hi k hk hkh j hj=>?_,fun i hi k hk hkh=>?_⟩
 ·rcases Z1v (t:=⟨T,v,h⟩) hql hj with⟨a,e⟩|⟨a,e⟩|⟨a,b,e⟩<;>rcases Z1v (t:=⟨T,v,h⟩) hql (show i<_ by omega)with⟨c,e'⟩|⟨c,e'⟩|⟨c,d,e'⟩<;>rw[e,e']
  ·exact o.nd _ _ hij (by omega)
  ·omega
  ·omega
  ·exact hTb i (by omega)
  ·omega
  ·omega
  ·exact o.nd _ _ (by omega) b
  ·exact fun h=>hTb _ b h.symm
  ·exact o.nd _ _ (by omega) b
 ·rcases Z1v (t:=⟨T,v,h⟩) hql hj with⟨a,e⟩|⟨a,e⟩|⟨a,b,e⟩<;>rw[e]
  ·exact o.ns j (by omega)
  ·exact fun e=>hT (.inl e)
  ·exact o.ns _ b
 ·rcases Z1v (t:=⟨T,v,h⟩) hql hj with⟨a,e⟩|⟨a,e⟩|⟨a,b,e⟩<;>rw[e]
  ·exact o.hh j (by omega)
  ·exact⟨h1,h8⟩
  ·exact o.hh _ b
 ·rcases Z1v (t:=⟨T,v,h⟩) hql hj with⟨a,e⟩|⟨a,e⟩|⟨a,b,e⟩<;>rcases Z1v (t:=⟨T,v,h⟩) hql (show i<_ by omega)with⟨c,e'⟩|⟨c,e'⟩|⟨c,d,e'⟩<;>rw[e,e']
  ·exact o.so _ _ hij (by omega)
  ·omega
  ·omega
  ·exact hq.lo i c
  ·omega
  ·omega
  ·have h3:=hq.lo i c
   have h4:=hq.hi (j-1) (by omega) b
   omega
  ·have h4:=hq.hi (j-1) (by omega) b
   show v<=_
   omega
  ·exact o.so _ _ (by omega) b
 ·rw[hL]at hi
  unfold nxI
  rw[hL]
  rcases Nat.lt_trichotomy i q with a|a|a
  ·rw[if_pos (by omega),if_neg (by omega),o.l0 i (by omega),if_pos (by omega),if_pos (by omega)]
   simp only[Option.map_some,shq,if_pos a]
  ·subst a
   rw[if_pos (Nat.le_refl _),if_pos ⟨by omega,hm0.symm⟩,if_pos (by omega)]
  ·rw[if_neg (by omega)]
   by_cases e:i=q+1
   ·rw[if_pos e,if_pos (by omega),hm0,o.l0 q hql]
    by_cases e2:q<ts.length
    ·rw[if_pos e2,if_pos (by omega)]
     simp only[Option.map_some,shq,if_neg (Nat.lt_irrefl q)]
     rw[e]
    ·rw[if_neg e2,if_neg (by omega)];rfl
   ·rw[if_neg e,o.l0 (i-1) (by omega)]
    by_cases e2:i-1<ts.length
    ·rw[if_pos e2,if_pos (by omega)]
     simp only[Option.map_some,shq]
     rw[if_neg (by omega),show i-1+1=i by omega]
    ·rw[if_neg e2,if_neg (by omega)];rfl
 ·rw[hL]at hi |-
  unfold nxI at hj
  have fin:∀(a j':Nat),a<=ts.length->nx a k=some j'->k<ndH ts a->shq q j'=j->shq q a<=j+(if a<q then 0 else 1)/\j<ts.length+1/\k<((Z3r ts q ⟨T,v,h⟩).getD j twD).h:=fun a j' ha hn hk2 e=>by
   obtain⟨b1,b2,b3⟩:=o.ln a ha k hk hk2 j' hn
   subst e
   refine⟨?_,?_,by rw[Zfz hql];exact b3⟩
   ·unfold shq;split<;>split<;>omega
   ·unfold shq;split<;>omega
  by_cases ha:i<=q
  ·rw[if_pos ha]at hj
   have hH:=Z8h (t:=⟨T,v,h⟩) hql ha
   rw[hH]at hkh
   by_cases e:k<h/\i=mm k
   ·rw[if_pos e]at hj
    cases hj
    exact⟨ha,by omega,by rw[Z3s hql];exact e.1⟩
   ·rw[if_neg e]at hj
    obtain⟨j',hn,e2⟩:=Option.map_eq_some_iff.1 hj
    obtain⟨b1,b2,b3⟩:=o.ln i (by omega) k hk hkh j' hn
    obtain⟨-,c2,c3⟩:=fin i j' (by omega) hn hkh e2
    refine⟨?_,c2,c3⟩
    rw[<-e2];unfold shq;split<;>omega
  ·rw[if_neg ha]at hj
   by_cases e:i=q+1
   ·rw[if_pos e]at hj
    by_cases e3:k<h
    ·rw[if_pos e3]at hj
     obtain⟨j',hn,e2⟩:=Option.map_eq_some_iff.1 hj
     have hgq:=hG k hk j' hn
     obtain⟨-,c2,c3⟩:=fin (mm k) j' (by have:=hp.le k hk;omega) hn (hp.ht k hk) e2
     refine⟨?_,c2,c3⟩
     rw[<-e2];unfold shq;rw[if_neg (by omega)];omega
    ·rw[if_neg e3]at hj;cases hj
   ·rw[if_neg e]at hj
    obtain⟨j',hn,e2⟩:=Option.map_eq_some_iff.1 hj
    have hH:ndH (Z3r ts q ⟨T,v,h⟩) i=ndH ts (i-1):=by
     unfold ndH
     rw[if_neg (by omega),if_neg (by omega)]
     have:=Z8g (t:=⟨T,v,h⟩) hql (j:=i-2) (by omega)
     rw[show i-2+1=i-1 by omega]at this
     rw[this,show i-1-1=i-2 by omega]
    rw[hH]at hkh
    obtain⟨b1,b2,b3⟩:=o.ln (i-1) (by omega) k hk hkh j' hn
    obtain⟨-,c2,c3⟩:=fin (i-1) j' (by omega) hn hkh e2
    refine⟨?_,c2,c3⟩
    rw[<-e2];unfold shq;rw[if_neg (by omega)];omega
 ·rw[hL]at hi
  unfold nxI
  by_cases ha:i<=q
  ·rw[Z8h hql ha]at hkh
   rw[if_pos ha,if_neg (fun e=>by have:=hp.ht k hk;rw[<-e.2]at this;omega),o.lz i (by omega) k hk hkh];rfl
  ·rw[if_neg ha]
   by_cases e:i=q+1
   ·subst e
    have hH:ndH (Z3r ts q ⟨T,v,h⟩) (q+1)=h:=by
     unfold ndH
     rw[if_neg (by omega),Nat.add_sub_cancel,Z3s hql]
    rw[hH]at hkh
    rw[if_pos rfl,if_neg (by omega)]
   ·have hH:ndH (Z3r ts q ⟨T,v,h⟩) i=ndH ts (i-1):=by
     unfold ndH
     rw[if_neg (by omega),if_neg (by omega)]
     have:=Z8g (t:=⟨T,v,h⟩) hql (j:=i-2) (by omega)
     rw[show i-2+1=i-1 by omega]at this
     rw[this,show i-1-1=i-2 by omega]
    rw[hH]at hkh
    rw[if_neg e,o.lz (i-1) (by omega) k hk hkh];rfl
end
end Go.Proofs.YtihljjgmkaeohaaGreat
