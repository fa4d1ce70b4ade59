/- part 6 -/
import Derived.Deep.CutBlock
import Derived.Deep.DeepCutAuto
import Derived.Laws.MakeOwn
import Derived.Test.YtihljjgmkaeohaaGreatPnAD
set_option linter.all false
set_option maxHeartbeats 16000000
set_option maxRecDepth 100000
namespace Go.Proofs.YtihljjgmkaeohaaGreat
section
open Go.RowKit Go.ChangeShapes Go.WideShapes Go.ChangeAt Go.Deep
theorem Z2d (w:World):(binOp .eql 250 .nilFunc .nilFunc).run Tryz.prog w= .ok (.bool true) w:=by kernel_rfl
theorem Z2e (w:World) (f:Fn) (a b:Array Value):(binOp .eql 250 (.func f a b) .nilFunc).run Tryz.prog w= .ok (.bool false) w:=by kernel_rfl
theorem Z3o (w:World):Calls Tryz.prog 191 #[] w fun e w'=>e= .returned (.agg #[.nilFunc,.func (.func 195) #[] #[],.func (.func 196) #[] #[]])/\Below w.heap.size w w':=by
 have q1:∀(a:Addr) (fn:Fn) (xs ys:Array Value) (u:World),(store a (.func fn xs ys)).run Tryz.prog u=stored Tryz.prog u a (.func fn xs ys) .plain:=fun a fn xs ys u=>run_store Tryz.prog u a _ .plain rfl
 have q2:∀(a:Addr) (u:World),(store a .nilFunc).run Tryz.prog u=stored Tryz.prog u a .nilFunc .plain:=fun a u=>run_store Tryz.prog u a _ .plain rfl
 go_enter Tryz.func191,Tryz.ntmps191
 go_wp2
 refine bodyPost_ret (v:=.agg #[.nilFunc,.func (.func 195) #[] #[],.func (.func 196) #[] #[]]) (by simp[results,Tryz.results191,go_sem]) rfl ⟨rfl,?_⟩
 go_grown
theorem Z3d {w:World} {b:Nat} {x0 x1 x2:Value} {t:TypeId} (h:w.heap[b]?=some (.cells #[x0,x1,x2] t (0,0))):(w.cell? ⟨b,0,none⟩=some x0/\w.cell? ⟨b,1,none⟩=some x1/\w.cell? ⟨b,2,none⟩=some x2)/\b<w.heap.size:=by
 refine⟨⟨?_,?_,?_⟩,(Gl h)⟩<;>simp[World.cell?,h]
section
variable (w:World) (s:Nat) (v:Value)
theorem Zmd (xs:List Int) (most kind y:Int) (h:Z2c w s v xs most) (hu:kind<=255) (hk:kind=0\/3<=kind):
 Calls Tryz.prog 183 #[.pointer (some ⟨s,0,none⟩),.agg #[.int .u8 kind,.int .i32 y]] w fun e w'=>e= .returned (.agg #[.int .u8 5,.int .i32 0])/\Below w.heap.size w w':=by
 have q1:∀(a:Addr) (fn:Fn) (xs ys:Array Value) (u:World),(store a (.func fn xs ys)).run Tryz.prog u=stored Tryz.prog u a (.func fn xs ys) .plain:=fun a fn xs ys u=>run_store Tryz.prog u a _ .plain rfl
 have q2:∀(a:Addr) (u:World),(store a .nilFunc).run Tryz.prog u=stored Tryz.prog u a .nilFunc .plain:=fun a u=>run_store Tryz.prog u a _ .plain rfl
 have q3:=Z2d
 have q4:=Z2e
 have H:=Hd h
 have hs:=h.lt
 have hov:∀t,v.ownBlock=some t->t<w.heap.size:=fun t e=>h.row.lt e
 clear h
 go_enter Tryz.func183,Tryz.ntmps183
 go_wp2_with fail
 refine(Z3o _).mono ?_
 rintro e w1 ⟨rfl,hb⟩
 have z1:w.heap.size+1<w1.heap.size:=by have:=hb.size;simp at this;omega
 have BA:w1.heap[w.heap.size]?=some (.cells #[.int .u8 kind,.int .i32 y] 47 (0,0)):=(hb.block w.heap.size (by simp;omega)).trans (Z05 _ _ _).1
 have BB:w1.heap[w.heap.size+1]?=some (.cells #[.int .u8 0,.int .i32 0] 43 (0,0)):=(hb.block (w.heap.size+1) (by simp)).trans (Z05 _ _ _).2
 have BW:Below w.heap.size w w1:=Below.trans (by go_grown) (hb.mono (by simp;omega))
 obtain⟨⟨a0,a1⟩,-⟩:=Z0g BA
 obtain⟨⟨e0,e1⟩,-⟩:=Z0g BB
 have f0:=Z06 BB 0
 have f1:=Z06 BB 1
 have HB1:=Hd BB
 have HA:=hi2 BA BW
 clear hb BA BB BW
 generalize hA:w1.heap.size=A
 go_upto_region 2 with fail
 generalize hW2:World.alloc _ _=w2
 have AB:w2.heap[A]?=some (.cells #[.nilFunc,.func (.func 195) #[] #[],.func (.func 196) #[] #[]] 251 (0,0)):=by rw[<-hW2];exact Z3a hA _
 have B2:Below w1.heap.size w1 w2:=by rw[<-hW2];go_grown
 have BA:=(B2.block w.heap.size (by omega)).trans HA.out.1
 have BB:=(B2.block (w.heap.size+1) (by omega)).trans HB1.out
 have zA:A<w2.heap.size:=(Gl AB)
 clear a0 a1 e0 e1 f0 f1
 obtain⟨⟨a0,a1⟩,-⟩:=Z0g BA
 obtain⟨⟨e0,e1⟩,-⟩:=Z0g BB
 obtain⟨⟨d0,d1,d2⟩,-⟩:=Z3d AB
 have f0:=Z06 BB 0
 have f1:=Z06 BB 1
 have H2:=hi3 (HA.out.2.trans (B2.mono HA.out.2.size)) BA AB
 replace HB1:=Hd BB
 clear BA AB B2 hW2 BB
 rcases hk with rfl|hk
 all_goals
  go_wp2
  generalize hw7:World.setCell _ _ _=w7
  have E2:w7.heap[w.heap.size+1]?=some (.cells #[.int .u8 5,.int .i32 0] 43 (0,0)):=by rw[<-hw7];exact Z3b HB1.out rfl
  have KE:Z01 (fun k=>k=w.heap.size+1) w2 w7:=by rw[<-hw7];exact Z0l _ _ _ _
  obtain⟨⟨r0,r1⟩,-⟩:=Z0g E2
  refine bodyPost_ret (v:=.agg #[.int .u8 5,.int .i32 0]) (by simp[results,Tryz.results183,go_sem,r0,r1]) rfl ?_
  exact⟨rfl,H2.out.1.trans (KE.below H2.out.1.size (fun k hk e=>by omega))⟩
theorem Z87 (xs:List Int) (most y:Int) (h:Z2c w s v xs most) (hm:most<=(xs.length:Int)):
 Calls Tryz.prog 183 #[.pointer (some ⟨s,0,none⟩),.agg #[.int .u8 1,.int .i32 y]] w fun e w'=>e= .returned (.agg #[.int .u8 3,.int .i32 0])/\Below w.heap.size w w':=by
 have q1:∀(a:Addr) (fn:Fn) (xs ys:Array Value) (u:World),(store a (.func fn xs ys)).run Tryz.prog u=stored Tryz.prog u a (.func fn xs ys) .plain:=fun a fn xs ys u=>run_store Tryz.prog u a _ .plain rfl
 have q2:∀(a:Addr) (u:World),(store a .nilFunc).run Tryz.prog u=stored Tryz.prog u a .nilFunc .plain:=fun a u=>run_store Tryz.prog u a _ .plain rfl
 have q3:=Z2d
 have q4:=Z2e
 have H:=Hd h
 have hs:=h.lt
 have hov:∀t,v.ownBlock=some t->t<w.heap.size:=fun t e=>h.row.lt e
 clear h
 go_enter Tryz.func183,Tryz.ntmps183
 go_wp2_with fail
 refine(Z3o _).mono ?_
 rintro e w1 ⟨rfl,hb⟩
 have z1:w.heap.size+1<w1.heap.size:=by have:=hb.size;simp at this;omega
 have BA:w1.heap[w.heap.size]?=some (.cells #[.int .u8 1,.int .i32 y] 47 (0,0)):=(hb.block w.heap.size (by simp;omega)).trans (Z05 _ _ _).1
 have BB:w1.heap[w.heap.size+1]?=some (.cells #[.int .u8 0,.int .i32 0] 43 (0,0)):=(hb.block (w.heap.size+1) (by simp)).trans (Z05 _ _ _).2
 have BW:Below w.heap.size w w1:=Below.trans (by go_grown) (hb.mono (by simp;omega))
 obtain⟨⟨a0,a1⟩,-⟩:=Z0g BA
 obtain⟨⟨e0,e1⟩,-⟩:=Z0g BB
 have f0:=Z06 BB 0
 have f1:=Z06 BB 1
 have HB1:=Hd BB
 have HA:=hi2 BA BW
 clear hb BA BB BW
 generalize hA:w1.heap.size=A
 go_upto_region 2 with fail
 generalize hW2:World.alloc _ _=w2
 have AB:w2.heap[A]?=some (.cells #[.nilFunc,.func (.func 195) #[] #[],.func (.func 196) #[] #[]] 251 (0,0)):=by rw[<-hW2];exact Z3a hA _
 have B2:Below w1.heap.size w1 w2:=by rw[<-hW2];go_grown
 have BA:=(B2.block w.heap.size (by omega)).trans HA.out.1
 have BB:=(B2.block (w.heap.size+1) (by omega)).trans HB1.out
 have zA:A<w2.heap.size:=(Gl AB)
 clear a0 a1 e0 e1 f0 f1
 obtain⟨⟨a0,a1⟩,-⟩:=Z0g BA
 obtain⟨⟨e0,e1⟩,-⟩:=Z0g BB
 obtain⟨⟨d0,d1,d2⟩,-⟩:=Z3d AB
 have f0:=Z06 BB 0
 have f1:=Z06 BB 1
 have H2:=hi3 (HA.out.2.trans (B2.mono HA.out.2.size)) BA AB
 replace HB1:=Hd BB
 clear BA AB B2 hW2 BB
 have HW:=hi2 H2.out.1.drew H2.out.2.1
 have dr:∀(b:Nat) (o:Obj),w2.heap[b]?=some o->w2.drew.heap[b]?=some o:=fun b o h=>h
 have DR:=hi3 (dr _ _ H2.out.2.1) (dr _ _ H2.out.2.2) (dr _ _ HB1.out)
 clear dr
 have zw2:w.heap.size+1<w2.heap.size:=by omega
 have hov2:∀t,v.ownBlock=some t->t<w.heap.size:=hov
 have nA:¬A=w.heap.size+1:=by omega
 have nA':¬w.heap.size+1=A:=by omega
 go_wp2_with fail
 go_region_held3 (fun wz=>wz.cell? ⟨w.heap.size,0,none⟩=some (.int .u8 1)/\wz.cell? ⟨w.heap.size,1,none⟩=some (.int .i32 y)/\wz.cell? ⟨A,1,none⟩=some (.func (.func 195) #[] #[]))
  (first|(exact⟨a0,a1,d1⟩)|(exact⟨g0,g1,gk⟩)|go_keep)
  (first|(go_at_call 195;go_split_ands;with_reducible refine Go.Calls.mono (Zdb _ s v xs most y (H.out.below (HW.out.1)) hm) ?_;rintro e w3 ⟨rfl,hb⟩;have G0:=(hb.block (w.heap.size) (by first|omega|(simp;omega))).trans DR.out.1;have GA:=(hb.block (A) (by first|omega|(simp;omega))).trans DR.out.2.1;have GB:=(hb.block (w.heap.size+1) (by first|omega|(simp;omega))).trans DR.out.2.2;have z3:w.heap.size+1<w3.heap.size:=(Gl GB);obtain⟨⟨g0,g1⟩,-⟩:=Z0g G0;obtain⟨⟨u0,u1,u2⟩,-⟩:=Z3d GA;have gk:=u1;obtain⟨⟨v0,v1⟩,-⟩:=Z0g GB;have fv0:=Z06 GB 0;have fv1:=Z06 GB 1;have HB3:=Hd GB;have H3:=hi2 (H2.out.1.drew.trans (hb.mono (by have:=H2.out.1.size;first|omega|(simp;omega)))) True.intro;clear G0 GA GB))
 all_goals
  go_wp2
  generalize hw7:World.setCell _ _ _=w7
  have E2:w7.heap[w.heap.size+1]?=some (.cells #[.int .u8 3,.int .i32 0] 43 (0,0)):=by rw[<-hw7];exact Z3b HB3.out rfl
  have KE:Z01 (fun k=>k=w.heap.size+1) w3 w7:=by rw[<-hw7];exact Z0l _ _ _ _
  obtain⟨⟨r0,r1⟩,-⟩:=Z0g E2
  refine bodyPost_ret (v:=.agg #[.int .u8 3,.int .i32 0]) (by simp[results,Tryz.results183,go_sem,r0,r1]) rfl ?_
  exact⟨rfl,H3.out.1.trans (KE.below H3.out.1.size (fun k hk e=>by omega))⟩
theorem Z88 (xs:List Int) (most y:Int) (h:Z2c w s v xs most) (hm:(xs.length:Int)<most) (hn:xs.length<=1000000):
 Calls Tryz.prog 183 #[.pointer (some ⟨s,0,none⟩),.agg #[.int .u8 1,.int .i32 y]] w fun e w'=>e= .returned (.agg #[.int .u8 1,.int .i32 0])/\∃v',Z2c w' s v' (xs++ [y]) most/\(v'.ownBlock=v.ownBlock\/∀t,v'.ownBlock=some t->w.heap.size<=t)/\Z01 (Z0r s v) w w':=by
 have q1:∀(a:Addr) (fn:Fn) (xs ys:Array Value) (u:World),(store a (.func fn xs ys)).run Tryz.prog u=stored Tryz.prog u a (.func fn xs ys) .plain:=fun a fn xs ys u=>run_store Tryz.prog u a _ .plain rfl
 have q2:∀(a:Addr) (u:World),(store a .nilFunc).run Tryz.prog u=stored Tryz.prog u a .nilFunc .plain:=fun a u=>run_store Tryz.prog u a _ .plain rfl
 have q3:=Z2d
 have q4:=Z2e
 have H:=Hd h
 have hs:=h.lt
 have hov:∀t,v.ownBlock=some t->t<w.heap.size:=fun t e=>h.row.lt e
 clear h
 go_enter Tryz.func183,Tryz.ntmps183
 go_wp2_with fail
 refine(Z3o _).mono ?_
 rintro e w1 ⟨rfl,hb⟩
 have z1:w.heap.size+1<w1.heap.size:=by have:=hb.size;simp at this;omega
 have BA:w1.heap[w.heap.size]?=some (.cells #[.int .u8 1,.int .i32 y] 47 (0,0)):=(hb.block w.heap.size (by simp;omega)).trans (Z05 _ _ _).1
 have BB:w1.heap[w.heap.size+1]?=some (.cells #[.int .u8 0,.int .i32 0] 43 (0,0)):=(hb.block (w.heap.size+1) (by simp)).trans (Z05 _ _ _).2
 have BW:Below w.heap.size w w1:=Below.trans (by go_grown) (hb.mono (by simp;omega))
 obtain⟨⟨a0,a1⟩,-⟩:=Z0g BA
 obtain⟨⟨e0,e1⟩,-⟩:=Z0g BB
 have f0:=Z06 BB 0
 have f1:=Z06 BB 1
 have HB1:=Hd BB
 have HA:=hi2 BA BW
 clear hb BA BB BW
 generalize hA:w1.heap.size=A
 go_upto_region 2 with fail
 generalize hW2:World.alloc _ _=w2
 have AB:w2.heap[A]?=some (.cells #[.nilFunc,.func (.func 195) #[] #[],.func (.func 196) #[] #[]] 251 (0,0)):=by rw[<-hW2];exact Z3a hA _
 have B2:Below w1.heap.size w1 w2:=by rw[<-hW2];go_grown
 have BA:=(B2.block w.heap.size (by omega)).trans HA.out.1
 have BB:=(B2.block (w.heap.size+1) (by omega)).trans HB1.out
 have zA:A<w2.heap.size:=(Gl AB)
 clear a0 a1 e0 e1 f0 f1
 obtain⟨⟨a0,a1⟩,-⟩:=Z0g BA
 obtain⟨⟨e0,e1⟩,-⟩:=Z0g BB
 obtain⟨⟨d0,d1,d2⟩,-⟩:=Z3d AB
 have f0:=Z06 BB 0
 have f1:=Z06 BB 1
 have H2:=hi3 (HA.out.2.trans (B2.mono HA.out.2.size)) BA AB
 replace HB1:=Hd BB
 clear BA AB B2 hW2 BB
 have HW:=hi2 H2.out.1.drew H2.out.2.1
 have dr:∀(b:Nat) (o:Obj),w2.heap[b]?=some o->w2.drew.heap[b]?=some o:=fun b o h=>h
 have DR:=hi3 (dr _ _ H2.out.2.1) (dr _ _ H2.out.2.2) (dr _ _ HB1.out)
 clear dr
 have zw2:w.heap.size+1<w2.heap.size:=by omega
 have hov2:∀t,v.ownBlock=some t->t<w.heap.size:=hov
 have nA:¬A=w.heap.size+1:=by omega
 have nA':¬w.heap.size+1=A:=by omega
 go_wp2_with fail
 go_region_held3 (fun wz=>wz.cell? ⟨w.heap.size,0,none⟩=some (.int .u8 1)/\wz.cell? ⟨w.heap.size,1,none⟩=some (.int .i32 y)/\wz.cell? ⟨A,1,none⟩=some (.func (.func 195) #[] #[]))
  (first|(exact⟨a0,a1,d1⟩)|(exact⟨g0,g1,gk⟩)|go_keep)
  (first|(go_at_call 195;go_split_ands;with_reducible refine Go.Calls.mono (Zdc _ s v xs most y (H.out.below (HW.out.1)) hm hn) ?_;rintro e w3 ⟨rfl,v',h1,ho,hk⟩;have G0:=(hk.block (w.heap.size) (by first|omega|(simp;omega)) (fun e=>by rcases e with e|e;omega;have:=hov2 _ e;omega)).trans DR.out.1;have GA:=(hk.block (A) (by first|omega|(simp;omega)) (fun e=>by rcases e with e|e;omega;have:=hov2 _ e;omega)).trans DR.out.2.1;have GB:=(hk.block (w.heap.size+1) (by first|omega|(simp;omega)) (fun e=>by rcases e with e|e;omega;have:=hov2 _ e;omega)).trans DR.out.2.2;have z3:w.heap.size+1<w3.heap.size:=(Gl GB);obtain⟨⟨g0,g1⟩,-⟩:=Z0g G0;obtain⟨⟨u0,u1,u2⟩,-⟩:=Z3d GA;have gk:=u1;obtain⟨⟨v0,v1⟩,-⟩:=Z0g GB;have fv0:=Z06 GB 0;have fv1:=Z06 GB 1;have HB3:=Hd GB;have H3:=hi3 h1 ho ((Z0b (F:=Z0r s v) H2.out.1.drew).trans hk);clear G0 GA GB))
 all_goals
  go_wp2
  generalize hw7:World.setCell _ _ _=w7
  have E2:w7.heap[w.heap.size+1]?=some (.cells #[.int .u8 1,.int .i32 0] 43 (0,0)):=by rw[<-hw7];exact Z3b HB3.out rfl
  have KE:Z01 (fun k=>k=w.heap.size+1) w3 w7:=by rw[<-hw7];exact Z0l _ _ _ _
  obtain⟨⟨r0,r1⟩,-⟩:=Z0g E2
  refine bodyPost_ret (v:=.agg #[.int .u8 1,.int .i32 0]) (by simp[results,Tryz.results183,go_sem,r0,r1]) rfl ?_
  refine⟨rfl,v',H3.out.1.kept KE (fun e=>by omega) (fun t e hh=>?_),?_,H3.out.2.2.step KE (fun i hi e=>by omega)⟩
  ·subst hh
   rcases H3.out.2.1 with h|h
   ·have:=hov _ (h ▸ e);omega
   ·have:=h _ e;simp at this;omega
  ·rcases H3.out.2.1 with h|h
   ·exact .inl h
   ·exact .inr (fun t e=>by have:=h t e;simp at this;omega)
theorem Z9q (most y:Int) (h:Z2c w s v [] most):
 Calls Tryz.prog 183 #[.pointer (some ⟨s,0,none⟩),.agg #[.int .u8 2,.int .i32 y]] w fun e w'=>e= .returned (.agg #[.int .u8 4,.int .i32 0])/\Below w.heap.size w w':=by
 have q1:∀(a:Addr) (fn:Fn) (xs ys:Array Value) (u:World),(store a (.func fn xs ys)).run Tryz.prog u=stored Tryz.prog u a (.func fn xs ys) .plain:=fun a fn xs ys u=>run_store Tryz.prog u a _ .plain rfl
 have q2:∀(a:Addr) (u:World),(store a .nilFunc).run Tryz.prog u=stored Tryz.prog u a .nilFunc .plain:=fun a u=>run_store Tryz.prog u a _ .plain rfl
 have q3:=Z2d
 have q4:=Z2e
 have H:=Hd h
 have hs:=h.lt
 have hov:∀t,v.ownBlock=some t->t<w.heap.size:=fun t e=>h.row.lt e
 clear h
 go_enter Tryz.func183,Tryz.ntmps183
 go_wp2_with fail
 refine(Z3o _).mono ?_
 rintro e w1 ⟨rfl,hb⟩
 have z1:w.heap.size+1<w1.heap.size:=by have:=hb.size;simp at this;omega
 have BA:w1.heap[w.heap.size]?=some (.cells #[.int .u8 2,.int .i32 y] 47 (0,0)):=(hb.block w.heap.size (by simp;omega)).trans (Z05 _ _ _).1
 have BB:w1.heap[w.heap.size+1]?=some (.cells #[.int .u8 0,.int .i32 0] 43 (0,0)):=(hb.block (w.heap.size+1) (by simp)).trans (Z05 _ _ _).2
 have BW:Below w.heap.size w w1:=Below.trans (by go_grown) (hb.mono (by simp;omega))
 obtain⟨⟨a0,a1⟩,-⟩:=Z0g BA
 obtain⟨⟨e0,e1⟩,-⟩:=Z0g BB
 have f0:=Z06 BB 0
 have f1:=Z06 BB 1
 have HB1:=Hd BB
 have HA:=hi2 BA BW
 clear hb BA BB BW
 generalize hA:w1.heap.size=A
 go_upto_region 2 with fail
 generalize hW2:World.alloc _ _=w2
 have AB:w2.heap[A]?=some (.cells #[.nilFunc,.func (.func 195) #[] #[],.func (.func 196) #[] #[]] 251 (0,0)):=by rw[<-hW2];exact Z3a hA _
 have B2:Below w1.heap.size w1 w2:=by rw[<-hW2];go_grown
 have BA:=(B2.block w.heap.size (by omega)).trans HA.out.1
 have BB:=(B2.block (w.heap.size+1) (by omega)).trans HB1.out
 have zA:A<w2.heap.size:=(Gl AB)
 clear a0 a1 e0 e1 f0 f1
 obtain⟨⟨a0,a1⟩,-⟩:=Z0g BA
 obtain⟨⟨e0,e1⟩,-⟩:=Z0g BB
 obtain⟨⟨d0,d1,d2⟩,-⟩:=Z3d AB
 have f0:=Z06 BB 0
 have f1:=Z06 BB 1
 have H2:=hi3 (HA.out.2.trans (B2.mono HA.out.2.size)) BA AB
 replace HB1:=Hd BB
 clear BA AB B2 hW2 BB
 have HW:=hi2 H2.out.1.drew H2.out.2.1
 have dr:∀(b:Nat) (o:Obj),w2.heap[b]?=some o->w2.drew.heap[b]?=some o:=fun b o h=>h
 have DR:=hi3 (dr _ _ H2.out.2.1) (dr _ _ H2.out.2.2) (dr _ _ HB1.out)
 clear dr
 have zw2:w.heap.size+1<w2.heap.size:=by omega
 have hov2:∀t,v.ownBlock=some t->t<w.heap.size:=hov
 have nA:¬A=w.heap.size+1:=by omega
 have nA':¬w.heap.size+1=A:=by omega
 go_wp2_with fail
 go_region_held3 (fun wz=>wz.cell? ⟨w.heap.size,0,none⟩=some (.int .u8 2)/\wz.cell? ⟨w.heap.size,1,none⟩=some (.int .i32 y)/\wz.cell? ⟨A,2,none⟩=some (.func (.func 196) #[] #[]))
  (first|(exact⟨a0,a1,d2⟩)|(exact⟨g0,g1,gk⟩)|go_keep)
  (first|(go_at_call 196;go_split_ands;with_reducible refine Go.Calls.mono (Zfk _ s v most y (H.out.below (HW.out.1))) ?_;rintro e w3 ⟨rfl,hb⟩;have G0:=(hb.block (w.heap.size) (by first|omega|(simp;omega))).trans DR.out.1;have GA:=(hb.block (A) (by first|omega|(simp;omega))).trans DR.out.2.1;have GB:=(hb.block (w.heap.size+1) (by first|omega|(simp;omega))).trans DR.out.2.2;have z3:w.heap.size+1<w3.heap.size:=(Gl GB);obtain⟨⟨g0,g1⟩,-⟩:=Z0g G0;obtain⟨⟨u0,u1,u2⟩,-⟩:=Z3d GA;have gk:=u2;obtain⟨⟨v0,v1⟩,-⟩:=Z0g GB;have fv0:=Z06 GB 0;have fv1:=Z06 GB 1;have HB3:=Hd GB;have H3:=hi2 (H2.out.1.drew.trans (hb.mono (by have:=H2.out.1.size;first|omega|(simp;omega)))) True.intro;clear G0 GA GB))
 all_goals
  go_wp2
  generalize hw7:World.setCell _ _ _=w7
  have E2:w7.heap[w.heap.size+1]?=some (.cells #[.int .u8 4,.int .i32 0] 43 (0,0)):=by rw[<-hw7];exact Z3b HB3.out rfl
  have KE:Z01 (fun k=>k=w.heap.size+1) w3 w7:=by rw[<-hw7];exact Z0l _ _ _ _
  obtain⟨⟨r0,r1⟩,-⟩:=Z0g E2
  refine bodyPost_ret (v:=.agg #[.int .u8 4,.int .i32 0]) (by simp[results,Tryz.results183,go_sem,r0,r1]) rfl ?_
  exact⟨rfl,H3.out.1.trans (KE.below H3.out.1.size (fun k hk e=>by omega))⟩
theorem Z9r (xs:List Int) (z most y:Int) (h:Z2c w s v (xs++ [z]) most) (hn:xs.length<=1000000):
 Calls Tryz.prog 183 #[.pointer (some ⟨s,0,none⟩),.agg #[.int .u8 2,.int .i32 y]] w fun e w'=>e= .returned (.agg #[.int .u8 2,.int .i32 z])/\∃v',Z2c w' s v' xs most/\(v'.ownBlock=v.ownBlock\/∀t,v'.ownBlock=some t->w.heap.size<=t)/\Z01 (Z0r s v) w w':=by
 have q1:∀(a:Addr) (fn:Fn) (xs ys:Array Value) (u:World),(store a (.func fn xs ys)).run Tryz.prog u=stored Tryz.prog u a (.func fn xs ys) .plain:=fun a fn xs ys u=>run_store Tryz.prog u a _ .plain rfl
 have q2:∀(a:Addr) (u:World),(store a .nilFunc).run Tryz.prog u=stored Tryz.prog u a .nilFunc .plain:=fun a u=>run_store Tryz.prog u a _ .plain rfl
 have q3:=Z2d
 have q4:=Z2e
 have H:=Hd h
 have hs:=h.lt
 have hov:∀t,v.ownBlock=some t->t<w.heap.size:=fun t e=>h.row.lt e
 clear h
 go_enter Tryz.func183,Tryz.ntmps183
 go_wp2_with fail
 refine(Z3o _).mono ?_
 rintro e w1 ⟨rfl,hb⟩
 have z1:w.heap.size+1<w1.heap.size:=by have:=hb.size;simp at this;omega
 have BA:w1.heap[w.heap.size]?=some (.cells #[.int .u8 2,.int .i32 y] 47 (0,0)):=(hb.block w.heap.size (by simp;omega)).trans (Z05 _ _ _).1
 have BB:w1.heap[w.heap.size+1]?=some (.cells #[.int .u8 0,.int .i32 0] 43 (0,0)):=(hb.block (w.heap.size+1) (by simp)).trans (Z05 _ _ _).2
 have BW:Below w.heap.size w w1:=Below.trans (by go_grown) (hb.mono (by simp;omega))
 obtain⟨⟨a0,a1⟩,-⟩:=Z0g BA
 obtain⟨⟨e0,e1⟩,-⟩:=Z0g BB
 have f0:=Z06 BB 0
 have f1:=Z06 BB 1
 have HB1:=Hd BB
 have HA:=hi2 BA BW
 clear hb BA BB BW
 generalize hA:w1.heap.size=A
 go_upto_region 2 with fail
 generalize hW2:World.alloc _ _=w2
 have AB:w2.heap[A]?=some (.cells #[.nilFunc,.func (.func 195) #[] #[],.func (.func 196) #[] #[]] 251 (0,0)):=by rw[<-hW2];exact Z3a hA _
 have B2:Below w1.heap.size w1 w2:=by rw[<-hW2];go_grown
 have BA:=(B2.block w.heap.size (by omega)).trans HA.out.1
 have BB:=(B2.block (w.heap.size+1) (by omega)).trans HB1.out
 have zA:A<w2.heap.size:=(Gl AB)
 clear a0 a1 e0 e1 f0 f1
 obtain⟨⟨a0,a1⟩,-⟩:=Z0g BA
 obtain⟨⟨e0,e1⟩,-⟩:=Z0g BB
 obtain⟨⟨d0,d1,d2⟩,-⟩:=Z3d AB
 have f0:=Z06 BB 0
 have f1:=Z06 BB 1
 have H2:=hi3 (HA.out.2.trans (B2.mono HA.out.2.size)) BA AB
 replace HB1:=Hd BB
 clear BA AB B2 hW2 BB
 have HW:=hi2 H2.out.1.drew H2.out.2.1
 have dr:∀(b:Nat) (o:Obj),w2.heap[b]?=some o->w2.drew.heap[b]?=some o:=fun b o h=>h
 have DR:=hi3 (dr _ _ H2.out.2.1) (dr _ _ H2.out.2.2) (dr _ _ HB1.out)
 clear dr
 have zw2:w.heap.size+1<w2.heap.size:=by omega
 have hov2:∀t,v.ownBlock=some t->t<w.heap.size:=hov
 have nA:¬A=w.heap.size+1:=by omega
 have nA':¬w.heap.size+1=A:=by omega
 go_wp2_with fail
 go_region_held3 (fun wz=>wz.cell? ⟨w.heap.size,0,none⟩=some (.int .u8 2)/\wz.cell? ⟨w.heap.size,1,none⟩=some (.int .i32 y)/\wz.cell? ⟨A,2,none⟩=some (.func (.func 196) #[] #[]))
  (first|(exact⟨a0,a1,d2⟩)|(exact⟨g0,g1,gk⟩)|go_keep)
  (first|(go_at_call 196;go_split_ands;with_reducible refine Go.Calls.mono (Zfl _ s v xs z most y (H.out.below (HW.out.1)) hn) ?_;rintro e w3 ⟨rfl,v',h1,ho,hk⟩;have G0:=(hk.block (w.heap.size) (by first|omega|(simp;omega)) (fun e=>by rcases e with e|e;omega;have:=hov2 _ e;omega)).trans DR.out.1;have GA:=(hk.block (A) (by first|omega|(simp;omega)) (fun e=>by rcases e with e|e;omega;have:=hov2 _ e;omega)).trans DR.out.2.1;have GB:=(hk.block (w.heap.size+1) (by first|omega|(simp;omega)) (fun e=>by rcases e with e|e;omega;have:=hov2 _ e;omega)).trans DR.out.2.2;have z3:w.heap.size+1<w3.heap.size:=(Gl GB);obtain⟨⟨g0,g1⟩,-⟩:=Z0g G0;obtain⟨⟨u0,u1,u2⟩,-⟩:=Z3d GA;have gk:=u2;obtain⟨⟨v0,v1⟩,-⟩:=Z0g GB;have fv0:=Z06 GB 0;have fv1:=Z06 GB 1;have HB3:=Hd GB;have H3:=hi3 h1 ho ((Z0b (F:=Z0r s v) H2.out.1.drew).trans hk);clear G0 GA GB))
 all_goals
  go_wp2
  generalize hw7:World.setCell _ _ _=w7
  have E2:w7.heap[w.heap.size+1]?=some (.cells #[.int .u8 2,.int .i32 z] 43 (0,0)):=by rw[<-hw7];exact Z3b HB3.out rfl
  have KE:Z01 (fun k=>k=w.heap.size+1) w3 w7:=by rw[<-hw7];exact Z0l _ _ _ _
  obtain⟨⟨r0,r1⟩,-⟩:=Z0g E2
  refine bodyPost_ret (v:=.agg #[.int .u8 2,.int .i32 z]) (by simp[results,Tryz.results183,go_sem,r0,r1]) rfl ?_
  refine⟨rfl,v',H3.out.1.kept KE (fun e=>by omega) (fun t e hh=>?_),?_,H3.out.2.2.step KE (fun i hi e=>by omega)⟩
  ·subst hh
   rcases H3.out.2.1 with h|h
   ·have:=hov _ (h ▸ e);omega
   ·have:=h _ e;simp at this;omega
  ·rcases H3.out.2.1 with h|h
   ·exact .inl h
   ·exact .inr (fun t e=>by have:=h t e;simp at this;omega)
end
def Z1o:List (Int×Int)->List Value
 | []=> []
 |p::l=>.int .u8 p.1:: .int .i32 p.2::Z1o l
theorem Z1e:∀L:List (Int×Int),(Z1o L).length=L.length*2
 | []=>rfl
 |p::l=>by simp only[Z1o,Llc,Z1e l];omega
theorem Z5w:∀(L:List (Int×Int)) (j:Nat),j<L.length->(Z1o L)[2*j]?=some (.int .u8 (L.getD j (0,0)).1)/\(Z1o L)[2*j+1]?=some (.int .i32 (L.getD j (0,0)).2)
 | [],j,h=>by simp at h
 |p::l,0,_=>⟨rfl,rfl⟩
 |p::l,j+1,h=>by
  have:=Z5w l j (by simpa using h)
  rw[show 2*(j+1)=2*j+1+1 by omega]
  simpa [Z1o]using this
theorem Z9s:∀(L:List (Int×Int)) (j:Nat) (p:Int×Int),Z1o (L.set j p)=((Z1o L).set (2*j) (.int .u8 p.1)).set (2*j+1) (.int .i32 p.2)
 | [],j,p=>by simp[Z1o]
 |q::l,0,p=>by simp[Z1o]
 |q::l,j+1,p=>by
  rw[show 2*(j+1)=2*j+1+1 by omega]
  simp only[List.set_cons_succ,Z1o,Z9s l j p]
def P2 (w:World) (t:TypeId) (v:Value) (L:List (Int×Int)):Prop:=w.ownsRow 0 t 2 v L.length (Z1o L)
section
variable {w w':World} {t:TypeId} {v:Value} {L:List (Int×Int)}
theorem P2.kept {S:Nat->Prop} (h:P2 w t v L) (hk:Z01 S w w') (hs:∀g,v.ownBlock=some g->¬S g):P2 w' t v L:=Z04 h hk hs
theorem P2.lt (h:P2 w t v L) {g:Nat} (hg:v.ownBlock=some g):g<w.heap.size:=(World.ownsRow.lt h g hg).2
theorem P2.below (h:P2 w t v L) (hb:Below w.heap.size w w'):P2 w' t v L:=h.kept (Z01.of_below (S:=fun _=>False) hb (fun k h1 h2=>by omega)) (fun _ _ h=>h)
theorem P2.nil (w:World) (t:TypeId):P2 w t (.slice none 0 0) []:=World.ownsRow_nil w 0 t 2
theorem P2.of {base n:Nat} {ys:List Value} (h:w.ownsRow base t 2 v n ys) (hn:n=L.length) (hy:ys=Z1o L):P2 w t v L:=by
 subst hn;subst hy
 refine⟨h.1,?_⟩
 rcases h.2 with h2|⟨g,cap,cur,h2,_,r⟩
 ·exact .inl h2
 ·exact .inr ⟨g,cap,cur,h2,Nat.zero_le _,r⟩
theorem P2.shape (h:P2 w t v L):∃ao cap,v= .slice ao L.length cap:=by
 rcases h.2 with⟨rfl,h0⟩|⟨g,cap,cur,rfl,_⟩
 ·exact⟨none,0,by rw[h0]⟩
 ·exact⟨_,cap,rfl⟩
theorem P2.pos (h:P2 w t v L) (hp:0<L.length):∃g cap,v= .slice (some ⟨g,0,none⟩) L.length cap/\L.length<=cap/\g<w.heap.size/\
 (∀j,j<L.length->w.cell? ⟨g,2*j,none⟩=some (.int .u8 (L.getD j (0,0)).1)/\w.cell? ⟨g,2*j+1,none⟩=some (.int .i32 (L.getD j (0,0)).2))/\(∀j,w.frozen? ⟨g,j,none⟩=false):=by
 rcases h.2 with⟨rfl,h0⟩|⟨g,cap,cur,rfl,_,hg,hn,_,hc,ht⟩
 ·omega
 ·refine⟨g,cap,rfl,hn,(Gl hg),fun j hj=>?_,fun j=>by simp[World.frozen?,hg]⟩
  have ha:∀i,(⟨g,0,none⟩:Addr).add i=⟨g,i,none⟩:=fun i=>by unfold Addr.add;split<;>simp_all
  have h1:=World.ownsRow.cells h (g:=g) rfl (2*j) _ (Z5w L j hj).1
  have h2:=World.ownsRow.cells h (g:=g) rfl (2*j+1) _ (Z5w L j hj).2
  rw[ha]at h1 h2
  exact⟨h1,h2⟩
theorem P2.set {g:Nat} (h:P2 w t v L) (hk:v.ownBlock=some g) (j:Nat) (hj:j<L.length) (c d:Int):P2 ((w.setCell ⟨g,2*j,none⟩ (.int .u8 c)).setCell ⟨g,2*j+1,none⟩ (.int .i32 d)) t v (L.set j (c,d)):=by
 rcases h.2 with⟨rfl,_⟩|⟨g',cap,cur,rfl,hb,hg,hn,hm,hc,ht⟩
 ·cases hk
 ·simp only[Value.ownBlock,Option.some.injEq]at hk
  subst hk
  have h1:=Z00 hg (2*j) (.int .u8 c)
  refine⟨by rw[Z1e,Lls],.inr ⟨g',cap,_,by simp,hb,Z00 h1 (2*j+1) _,by simpa using hn,hm,by simpa using hc,?_⟩⟩
  simp only[Lls,Array.toList_setIfInBounds]at ht |-
  rw[List.take_set,List.take_set,ht,Z9s]
theorem P2.take {g n cap A:Nat} (h:P2 w t (.slice (some ⟨g,0,none⟩) n cap) L) (hA:A<=L.length):P2 w t (.slice (some ⟨g,0,none⟩) A cap) (L.take A):=by
 have hl:(L.take A).length=A:=by rw[List.length_take];omega
 have ht2:∀(K:List (Int×Int)) (B:Nat),Z1o (K.take B)=(Z1o K).take (B*2):=by
  intro K
  induction K with
  |nil=>intro B;simp[Z1o]
  |cons p l ih=>
   intro B
   cases B with
   |zero=>simp[Z1o]
   |succ B=>rw[show(B+1)*2=B*2+1+1 by omega];simp[Z1o,ih]
 rcases h.2 with⟨e,_⟩|⟨g',cap',cur,e,hb,hg,hn,hm,hc,ht⟩
 ·cases e
 ·cases e
  refine⟨by rw[Z1e],.inr ⟨g,cap,cur,by rw[hl],hb,hg,by omega,hm,hc,?_⟩⟩
  rw[hl,ht2,<-ht,List.take_take,Nat.min_eq_left (by omega)]
end
theorem Z89 (n:Nat):(madeCells #[.int .u8 0,.int .i32 0] (n*2)).toList=Z1o (List.replicate n (0,0)):=by
 have hl:(madeCells #[.int .u8 0,.int .i32 0] (n*2)).toList.length=(Z1o (List.replicate n ((0:Int),(0:Int)))).length:=by
  rw[Z1e,Llr,Array.length_toList,size_madeCells]
 refine List.ext_getElem hl (fun i h1 h2=>?_)
 rw[Z1e,Llr]at h2
 have hi:i=2*(i/2)+i%2:=by omega
 have hr:∀j,j<n->(List.replicate n ((0:Int),(0:Int))).getD j (0,0)=(0,0):=fun j hj=>by
  rw[Lgd,List.getElem?_replicate,if_pos hj];rfl
 have h3:=Z5w (List.replicate n ((0:Int),(0:Int))) (i/2) (by rw[Llr];omega)
 rw[hr _ (by omega)]at h3
 rcases Nat.mod_two_eq_zero_or_one i with h0|h0
 ·have e:i=2*(i/2):=by omega
  have h4:(Z1o (List.replicate n ((0:Int),(0:Int))))[i]?=some (.int .u8 0):=by rw[e];exact h3.1
  rw[Lge (by rw[Z1e,Llr];exact h2)]at h4
  have h5:=Option.some.inj h4
  rw[h5]
  simp[madeCells,h0]
 ·have e:i=2*(i/2)+1:=by omega
  have h4:(Z1o (List.replicate n ((0:Int),(0:Int))))[i]?=some (.int .i32 0):=by rw[e];exact h3.2
  rw[Lge (by rw[Z1e,Llr];exact h2)]at h4
  have h5:=Option.some.inj h4
  rw[h5]
  simp[madeCells,h0]
theorem Z3p (w:World) (t:TypeId) (n:Nat) (hn:n<=1000000):P2 (w.alloc (.cells (madeCells #[.int .u8 0,.int .i32 0] (n*2)) t)) t (.slice (some ⟨w.heap.size,0,none⟩) n n) (List.replicate n (0,0)):=by
 refine⟨by rw[Z1e],.inr ⟨w.heap.size,n,_,by simp,Nat.zero_le _,Han _ _,by simp,by unfold maxLen;omega,by rw[size_madeCells],?_⟩⟩
 rw[Z89,List.take_of_length_le (by rw[Z1e];exact Nat.le_refl _)]
def Z08 (most:Int) (xs:List Int) (o:Int×Int):List Int×(Int×Int):=
 if o.1=1 then(if most<=(xs.length:Int)then(xs,(3,0))else(xs++ [o.2],(1,0)))
 else if o.1=2 then(if xs.length=0 then(xs,(4,0))else(xs.dropLast,(2,xs.getD (xs.length-1) 0)))
 else(xs,(5,0))
def Z09 {σ:Type} (f:σ->Int×Int->σ×(Int×Int)):σ->List (Int×Int)->σ×List (Int×Int)
 |x,[]=>(x,[])
 |x,o::l=>((Z09 f (f x o).1 l).1,(f x o).2::(Z09 f (f x o).1 l).2)
theorem Z1i {σ:Type} (f:σ->Int×Int->σ×(Int×Int)):∀(l:List (Int×Int)) (x:σ),(Z09 f x l).2.length=l.length
 | [],x=>rfl
 |o::l,x=>by simp only[Z09,Llc,Z1i f l]
theorem Z1t {σ:Type} (f:σ->Int×Int->σ×(Int×Int)) (o:Int×Int):∀(l:List (Int×Int)) (x:σ),Z09 f x (l++ [o])=((f (Z09 f x l).1 o).1,(Z09 f x l).2++ [(f (Z09 f x l).1 o).2])
 | [],x=>rfl
 |q::l,x=>by simp only[Z09,List.cons_append,Z1t f o l]
theorem Zbe (most:Int) (xs:List Int) (o:Int×Int):(Z08 most xs o).1.length<=xs.length+1:=by
 unfold Z08
 split
 ·split
  ·simp
  ·simp
 ·split
  ·split
   ·simp
   ·simp;omega
  ·simp
theorem Z41 (most:Int):∀(l:List (Int×Int)) (xs:List Int),(Z09 (Z08 most) xs l).1.length<=xs.length+l.length
 | [],xs=>by simp[Z09]
 |o::l,xs=>by
  have h1:=Z41 most l (Z08 most xs o).1
  have h2:=Zbe most xs o
  simp only[Z09,Llc]
  omega
abbrev Z39 (w:World) (v v':Value):Prop:=v'.ownBlock=v.ownBlock\/∀t,v'.ownBlock=some t->w.heap.size<=t
theorem Zqi (w:World) (s:Nat) (v:Value) (xs:List Int) (most k y:Int) (h:Z2c w s v xs most) (h0:0<=k) (h1:k<=255) (hn:xs.length<=1000000):
 Calls Tryz.prog 183 #[.pointer (some ⟨s,0,none⟩),.agg #[.int .u8 k,.int .i32 y]] w fun e w'=>e= .returned (.agg #[.int .u8 (Z08 most xs (k,y)).2.1,.int .i32 (Z08 most xs (k,y)).2.2])/\∃v',Z2c w' s v' (Z08 most xs (k,y)).1 most/\Z39 w v v'/\Z01 (Z0r s v) w w':=by
 by_cases hk1:k=1
 ·subst hk1
  by_cases hm:most<=(xs.length:Int)
  ·have e:Z08 most xs (1,y)=(xs,(3,0)):=by unfold Z08;rw[if_pos rfl,if_pos hm]
   rw[e]
   exact(Z87 w s v xs most y h hm).mono fun e w' ⟨e1,e2⟩=>⟨e1,v,h.below e2,.inl rfl,Z0b e2⟩
  ·have e:Z08 most xs (1,y)=(xs++ [y],(1,0)):=by unfold Z08;rw[if_pos rfl,if_neg hm]
   rw[e]
   exact Z88 w s v xs most y h (by omega) hn
 ·by_cases hk2:k=2
  ·subst hk2
   by_cases hx:xs.length=0
   ·have hx0:=Lnl hx
    subst hx0
    exact(Z9q w s v most y h).mono fun e w' ⟨e1,e2⟩=>⟨e1,v,h.below e2,.inl rfl,Z0b e2⟩
   ·have hx2:xs=xs.dropLast++ [xs.getD (xs.length-1) 0]:=by
     have h2:xs≠[]:=fun e=>hx (by rw[e];rfl)
     have h3:=(List.dropLast_concat_getLast h2).symm
     rw[List.getLast_eq_getElem h2]at h3
     rw[Lgd,Lge (by omega)]
     exact h3
    have e:Z08 most xs (2,y)=(xs.dropLast,(2,xs.getD (xs.length-1) 0)):=by unfold Z08;rw[if_neg (show ¬(2:Int)=1 by decide),if_pos rfl,if_neg hx]
    rw[e]
    generalize xs.getD (xs.length-1) 0=z at hx2
    rw[hx2]at h
    exact Z9r w s v xs.dropLast z most y h (by rw[List.length_dropLast];omega)
  ·have e:Z08 most xs (k,y)=(xs,(5,0)):=by unfold Z08;rw[if_neg hk1,if_neg hk2]
   rw[e]
   exact(Zmd w s v xs most k y h h1 (by omega)).mono fun e w' ⟨e1,e2⟩=>⟨e1,v,h.below e2,.inl rfl,Z0b e2⟩
theorem Z39.trans {w w1:World} {a b c:Value} (h1:Z39 w a b) (h2:Z39 w1 b c) (hs:w.heap.size<=w1.heap.size):Z39 w a c:=by
 rcases h2 with h|h
 ·rcases h1 with k|k
  ·exact .inl (h.trans k)
  ·exact .inr (fun t e=>k t (h ▸ e))
 ·exact .inr (fun t e=>Nat.le_trans hs (h t e))
theorem Z8a {w w1 w2:World} {s:Nat} {v v':Value} (h1:Z01 (Z0r s v) w w1) (ho:Z39 w v v') (h2:Z01 (Z0r s v') w1 w2):Z01 (Z0r s v) w w2:=
 h1.step h2 (fun i hi e=>by
  rcases e with e|e
  ·exact .inl e
  ·rcases ho with h|h
   ·exact .inr (h ▸ e)
   ·have:=h i e;omega)
theorem Z1f {P:Program} (s t:TypeId) (i:TypeInfo) (hs:P.underlying s=some (.slice t)) (hi:P.info? t=some i) (hz:i.zero=some (.agg #[.int .u8 0,.int .i32 0])) (hsz:i.size=2) (hby:i.bytes=8) (n:Nat) (hn:n<=1000000) (w:World):
 (Instr.makeSlice s (.int .i64 (n:Int)) (.int .i64 (n:Int))).run P w= .ok (.slice (some ⟨w.heap.size,0,none⟩) n n) (w.alloc (.cells (madeCells #[.int .u8 0,.int .i32 0] (n*2)) t)):=by
 have:=run_makeSlice (P:=P) w s t i (.agg #[.int .u8 0,.int .i32 0]) hs hi hz .i64 .i64 (n:Int) (n:Int) (by omega) (Int.le_refl _) (by rw[hsz,Int.toNat_natCast];omega) (by rw[hby];omega) (by omega)
 rw[hsz,Int.toNat_natCast]at this
 exact this
theorem Tryz.infoRes:(Tryz.prog.info? 43).map (fun i=>(i.zero,i.size,i.bytes))=some (some (.agg #[.int .u8 0,.int .i32 0]),2,8):=by kernel_rfl
theorem Z34 {l:List (Int×Int)} {i:Nat} (h:i<l.length):l.take (i+1)=l.take i++ [l.getD i (0,0)]:=by
 rw[List.take_succ_eq_append_getElem h,Lgd,Lge h];rfl
theorem Z4q {R:List (Int×Int)} {n i:Nat} (r:Int×Int) (h1:R.length=i) (h2:i<n):(R++List.replicate (n-i) (0,0)).set i r=(R++ [r])++List.replicate (n-(i+1)) (0,0):=by
 obtain⟨d,hd⟩:∃d,n-i=d+1:=⟨n-i-1,by omega⟩
 rw[hd,show n-(i+1)=d by omega,List.replicate_succ,List.set_append_right _ _ (by omega),h1,Nat.sub_self,List.set_cons_zero]
 simp
theorem Zj1 (w:World) (s:Nat) (v:Value) (xs:List Int) (most:Int) (ov:Value) (L:List (Int×Int)) (h:Z2c w s v xs most) (hp:P2 w 47 ov L) (ho:∀t,ov.ownBlock=some t->¬Z0r s v t) (hk:∀p ∈ L,0<=p.1/\p.1<=255) (hl:xs.length+L.length<=1000000):
 Calls Tryz.prog 182 #[.func (.func 183) #[.pointer (some ⟨s,0,none⟩)] #[],ov] w fun e w'=>∃u,e= .returned u/\P2 w' 43 u (Z09 (Z08 most) xs L).2/\(∀t,u.ownBlock=some t->w.heap.size<=t)/\∃v',Z2c w' s v' (Z09 (Z08 most) xs L).1 most/\Z39 w v v'/\Z01 (Z0r s v) w w':=by
 have hs:=h.lt
 have hov:∀t,v.ownBlock=some t->t<w.heap.size:=fun t e=>h.row.lt e
 obtain⟨oo,oc,rfl⟩:=hp.shape
 obtain⟨n,hn⟩:∃n,L.length=n:=⟨_,rfl⟩
 have H:=hi6 h hp ho hk hl hn
 have hn9:(n:Int)<=1000000:=by omega
 have hn0:n*2<=2000000:=by omega
 rw[hn]
 obtain⟨i0,hi,hz0,hz1,hz2⟩:=info_parts Tryz.infoRes
 have hmk:=Z1f 212 43 i0 Tryz.underlying212 hi hz0 hz1 hz2 n (by omega)
 clear h hp ho hk hl hn hi hz0 hz1 hz2
 go_enter Tryz.func182,Tryz.ntmps182
 go_wp2_with fail
 generalize hB:w.heap.size=B
 generalize hW1:World.alloc _ _=w1
 have T1:P2 w1 43 (.slice (some ⟨B,0,none⟩) n n) (List.replicate n (0,0)):=by rw[<-hW1,<-hB];exact Z3p _ _ _ (by omega)
 have B1:Below w.heap.size w w1:=by rw[<-hW1];go_grown
 have hs2:s<B:=by omega
 have hov2:∀t,v.ownBlock=some t->t<B:=fun t e=>by have:=hov t e;omega
 have H1:=hi3 T1 B1 hB
 clear hW1 T1 B1 hB hmk hs hov
 go_loopw [13] (fun k wr=>∃(i:Nat) (v':Value),i<=n/\k= .int .i64 i/\P2 wr 43 (.slice (some ⟨B,0,none⟩) n n) ((Z09 (Z08 most) xs (L.take i)).2++List.replicate (n-i) (0,0))/\Z2c wr s v' (Z09 (Z08 most) xs (L.take i)).1 most/\Z39 w v v'/\(∀t,v'.ownBlock=some t->t≠B)/\Z01 (Z0r s v) w wr) (fun k _=>n-(intOf k).toNat)
 case atStart=>exact⟨0,v,Nat.zero_le _,rfl,by simpa [Z09]using H1.out.1,by simpa [Z09]using H.out.1.below H1.out.2.1,.inl rfl,fun t e=>by have:=hov2 t e;omega,Z0b H1.out.2.1⟩
 case round=>
  obtain⟨i,v',hin,rfl,hT,hS,hO,hne,hK⟩:=hrel
  have yi:(0:Int)<=(i:Int):=by omega
  have HR:=hi5 hT hS hO hne hK
  by_cases hlt:i<n
  ·have hlt':(i:Int)<(n:Int):=by omega
   have pO:=H.out.2.1.kept hK H.out.2.2.1
   obtain⟨og,oc2,hs,-,hgl,hc,-⟩:=pO.pos (by have:=H.out.2.2.2.2.2;omega)
   rw[H.out.2.2.2.2.2]at hs
   cases hs
   obtain⟨c1,c2⟩:=hc i (by have:=H.out.2.2.2.2.2;omega)
   have hkb:=H.out.2.2.2.1 (L.getD i (0,0)) (by
    rw[Lgd,Lge (by have:=H.out.2.2.2.2.2;omega)]
    exact List.getElem_mem _)
   have hsn:=Z34 (l:=L) (i:=i) (by have:=H.out.2.2.2.2.2;omega)
   obtain⟨⟨k,y⟩,hky⟩:∃p,L.getD i (0,0)=p:=⟨_,rfl⟩
   rw[hky]at c1 c2 hkb hsn
   rw[show 2*i=i*2 by omega]at c1 c2
   have zB:B<wr.heap.size:=hT.lt rfl
   have HK:=hi2 hkb hsn
   clear hT hS hO hne hK pO hc hkb hsn hky
   go_wp2_with fail
   generalize hW2:World.alloc _ _=W2
   have B2:Below wr.heap.size wr W2:=by rw[<-hW2];go_grown
   have hlen:=Z41 most (L.take i) xs
   have hl2:(Z09 (Z08 most) xs (L.take i)).1.length<=1000000:=by
    rw[List.length_take]at hlen
    have h1:=H.out.2.2.2.2.1
    have h2:=H.out.2.2.2.2.2
    omega
   have HB2:=Hd B2
   clear hW2 B2 hlen
   refine(Zqi W2 s v' _ most k y (HR.out.2.1.below HB2.out) HK.out.1.1 HK.out.1.2 hl2).mono ?_
   rintro e w3 ⟨rfl,v3,hS3,hO3,hK3⟩
   have hFB:¬Z0r s v' B:=fun e=>by
    rcases e with e|e
    ·omega
    ·exact HR.out.2.2.2.1 B e rfl
   have T3:=(HR.out.1.below HB2.out).kept hK3 (fun t e=>by cases e;exact hFB)
   obtain⟨c,hcc⟩:∃c,(Z08 most (Z09 (Z08 most) xs (L.take i)).1 (k,y)).2=c:=⟨_,rfl⟩
   obtain⟨ca,cb⟩:=c
   rw[hcc]
   have hRl:(Z09 (Z08 most) xs (L.take i)).2.length=i:=by rw[Z1i,List.length_take];have:=H.out.2.2.2.2.2;omega
   obtain⟨tg,tc,hs,-,htl,ht,htf⟩:=T3.pos (by rw[Lla,Llr];omega)
   have e1:tg=B:=by injection hs with h1;injection h1 with h1;injection h1 with h1;exact h1.symm
   subst e1
   obtain⟨t1,t2⟩:=ht i (by rw[Lla,Llr];omega)
   rw[show 2*i=i*2 by omega]at t1 t2
   have tf1:=htf (i*2)
   have tf2:=htf (i*2+1)
   have H3:=hi6 T3 hS3 hO3 hK3 hcc hFB
   clear T3 hS3 hO3 hK3 hcc hs ht htf c1 c2 hFB
   go_wp2
   go_roundw
   case rel=>
    have KT:Z01 (fun k=>k=tg) w3 ((w3.setCell ⟨tg,i*2,none⟩ (.int .u8 ca)).setCell ⟨tg,i*2+1,none⟩ (.int .i32 cb)):=((Z01.refl (fun k=>k=tg) w3).setCell (p:=⟨tg,i*2,none⟩) (fun _=>rfl) _).setCell (p:=⟨tg,i*2+1,none⟩) (fun _=>rfl) _
    have hst:Z09 (Z08 most) xs (L.take (i+1))=((Z08 most (Z09 (Z08 most) xs (L.take i)).1 (k,y)).1,(Z09 (Z08 most) xs (L.take i)).2++ [(ca,cb)]):=by rw[HK.out.2,Z1t,H3.out.2.2.2.2.1]
    have hne3:∀t,v3.ownBlock=some t->t≠tg:=fun t e=>by
     rcases H3.out.2.2.1 with h|h
     ·exact HR.out.2.2.2.1 t (h ▸ e)
     ·have:=h t e;have:=HB2.out.size;omega
    refine⟨i+1,v3,by omega,by go_num,?_,?_,HR.out.2.2.1.trans H3.out.2.2.1 (Nat.le_trans HR.out.2.2.2.2.size HB2.out.size),hne3,?_⟩
    ·have h1:=H3.out.1.set rfl i (by rw[Lla,Llr];omega) ca cb
     rw[Z4q _ hRl hlt,show 2*i=i*2 by omega]at h1
     rw[hst]
     exact h1
    ·rw[hst]
     exact H3.out.2.1.kept KT (fun e=>by omega) (fun t e hh=>hne3 t e hh)
    ·exact(Z8a (HR.out.2.2.2.2.trans (Z0b HB2.out)) HR.out.2.2.1 H3.out.2.2.2.1).step KT (fun j hj e=>by have:=H1.out.2.2;omega)
   case measure=>simp[intOf];omega
  ·obtain rfl:i=n:=by omega
   have hL:L.take i=L:=List.take_of_length_le (by have:=H.out.2.2.2.2.2;omega)
   rw[hL]at hT hS
   rw[Nat.sub_self,List.replicate_zero,List.append_nil]at hT
   have HZ:=hi4 hT hS hO hK
   clear hT hS hO hne hK HR
   go_wp2
   go_ret
   exact⟨_,rfl,HZ.out.1,fun t e=>by have h1:B=t:=Option.some.inj e;have:=H1.out.2.2;omega,v',HZ.out.2⟩
def Z47 (k:Int):Int:=if k=1 then 0 else 1
def Zbi (x y:Int):Int:=if x<y then -1 else if y<x then 1 else 0
theorem Zox (w:World) (k v:Int):Calls Tryz.prog 129 #[.agg #[.int .u8 k,.int .i32 v]] w fun e w'=>e= .returned (.int .i64 (Z47 k))/\Below w.heap.size w w':=by
 by_cases hk:k=1
 ·subst hk
  go_enter Tryz.func129,Tryz.ntmps129
  go_wp2
  go_ret
  exact⟨rfl,by go_grown⟩
 ·have e:Z47 k=1:=if_neg hk
  rw[e]
  go_enter Tryz.func129,Tryz.ntmps129
  go_wp2
  go_ret
  exact⟨rfl,by go_grown⟩
theorem Z8e (w:World) (x:Int):Calls Tryz.prog 151 #[.int .i32 x] w fun e w'=>e= .returned (.bool false)/\w=w':=by
 go_enter Tryz.func151,Tryz.ntmps151
 go_wp2
 go_ret
 exact⟨by simp,rfl⟩
theorem Zfr (w:World) (x y:Int):Calls Tryz.prog 132 #[.int .i32 x,.int .i32 y] w fun e w'=>e= .returned (.int .i64 (Zbi x y))/\w=w':=by
 rcases Int.lt_trichotomy x y with h|h|h
 ·have e:Zbi x y= -1:=if_pos h
  rw[e]
  go_enter Tryz.func132,Tryz.ntmps132
  go_wp2_with (go_at_call 151;refine Go.Calls.mono (Z8e _ _) ?_;rintro e w' ⟨rfl,rfl⟩)
  go_ret
  exact⟨rfl,rfl⟩
 ·subst h
  have e:Zbi x x=0:=by unfold Zbi;rw[if_neg (by omega),if_neg (by omega)]
  rw[e]
  go_enter Tryz.func132,Tryz.ntmps132
  go_wp2_with (go_at_call 151;refine Go.Calls.mono (Z8e _ _) ?_;rintro e w' ⟨rfl,rfl⟩)
  go_ret
  exact⟨rfl,rfl⟩
 ·have e:Zbi x y=1:=by unfold Zbi;rw[if_neg (by omega),if_pos h]
  have h2:¬x<y:=by omega
  rw[e]
  go_enter Tryz.func132,Tryz.ntmps132
  go_wp2_with (go_at_call 151;refine Go.Calls.mono (Z8e _ _) ?_;rintro e w' ⟨rfl,rfl⟩)
  go_ret
  exact⟨rfl,rfl⟩
theorem Zoy (w:World) (k v:Int):Calls Tryz.prog 239 #[.agg #[.int .u8 k,.int .i32 v]] w fun e w'=>e= .returned (.int .i32 v)/\Below w.heap.size w w':=by
 go_enter Tryz.func239,Tryz.ntmps239
 go_wp2
 go_ret
 exact⟨rfl,by go_grown⟩
abbrev kOf (L:List (Int×Int)) (a:Int):Int:=(L.getD a.toNat (0,0)).1
abbrev vOf (L:List (Int×Int)) (a:Int):Int:=(L.getD a.toNat (0,0)).2
def Zob (L:List (Int×Int)) (a b:Int):Int:=if Z47 (kOf L a)+Z47 (kOf L b)=0 then Zbi (vOf L a) (vOf L b)else Z47 (kOf L a)-Z47 (kOf L b)
def Zj3 (L:List (Int×Int)) (a:Int):Int:=if kOf L a=1 then vOf L a else 2147483648
def Z8f (L:List (Int×Int)):Prop:=∀p ∈ L,-2147483648<=p.2/\p.2<=2147483647
theorem Z8f.at_ {L:List (Int×Int)} (h:Z8f L) (a:Int): -2147483648<=vOf L a/\vOf L a<=2147483647:=by
 unfold vOf
 by_cases ha:a.toNat<L.length
 ·rw[Lgd,Lge ha]
  exact h _ (List.getElem_mem _)
 ·rw[Lgd,List.getElem?_eq_none (by omega)]
  exact⟨by decide,by decide⟩
theorem Zj4 {L:List (Int×Int)} (h:Z8f L) (a b:Int):Zob L a b<0↔Zj3 L a<Zj3 L b:=by
 have h1:=h.at_ a
 have h2:=h.at_ b
 unfold Zob Zj3 Z47 Zbi
 split<;>split<;>split<;>(try split)<;>(try split)<;>(try split)<;>(try split)<;>omega
end
end Go.Proofs.YtihljjgmkaeohaaGreat
