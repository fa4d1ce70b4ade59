/- part 31 -/
import Derived.Test.YtihljjgmkaeohaaGreatPnBC
set_option linter.all false
set_option maxHeartbeats 16000000
set_option maxRecDepth 100000
namespace Go.Proofs.YtihljjgmkaeohaaGreat
section
open Go.RowKit Go.ChangeShapes Go.WideShapes Go.ChangeAt Go.Deep
theorem Z15 (w:World) (n:Int) (h1:1<=n) (h2:n<=1000):Calls Tryz.prog 49 #[.int .i64 n] w fun e w'=>e= .returned (.int .i64 n)/\w=w':=by
 have e1:min n 1000=n:=by omega
 have e2:max 0 n=n:=by omega
 have h3:¬n<=0:=by omega
 go_enter Tryz.func49,Tryz.ntmps49
 go_wp2
 go_ret
 exact⟨by first|rfl|(simp;done)|simp[e1,e2]|(simp;omega),rfl⟩
theorem Zcx (w:World) (u v:Value) (xs ys:List Int) (h1:R32 w u xs) (h2:R32 w v ys) (hn:xs.length<=1000000) (hm:ys.length<=1000000):Calls Tryz.prog 10 #[u,v] w fun e w'=>e= .returned (.bool (decide (xs=ys)))/\Below w.heap.size w w':=by
 obtain⟨ao,ca,rfl⟩:=Z03 h1
 obtain⟨bo,cb,rfl⟩:=Z03 h2
 by_cases he:xs.length=ys.length
 ·have H:=hi2 h1 h2
  have HE:=Hd he
  rw[<-he]
  obtain⟨n,hln⟩:∃n,xs.length=n:=⟨_,rfl⟩
  have HN:=Hd hln
  rw[hln]
  have hn':(n:Int)<=1000000:=by omega
  clear h1 h2 he hm hn hln
  go_enter Tryz.func10,Tryz.ntmps10
  go_wp2
  go_loopw [5] (fun x wr=>∃i:Nat,i<=n/\x= .int .i64 i/\Below w.heap.size w wr/\∀j,j<i->xs.getD j 0=ys.getD j 0) (fun x _=>n-(intOf x).toNat)
  case atStart=>exact⟨0,Nat.zero_le _,rfl,Brf _ _,fun j hj=>by omega⟩
  case round=>
   obtain⟨i,hi,rfl,hB,hs⟩:=hrel
   have HS:=hi2 hB hs
   have zi:(0:Int)<=(i:Int):=by omega
   clear hB hs
   by_cases hlt:i<n
   ·have hlt':(i:Int)<(n:Int):=by omega
    obtain⟨g,c1,_,e1,-⟩:=R32.pos H.out.1 (by have:=HN.out;omega)
    obtain⟨g2,c2,_,e2,-⟩:=R32.pos H.out.2 (by have:=HN.out;have:=HE.out;omega)
    have e1:=(Value.slice.inj e1).1
    have e2:=(Value.slice.inj e2).1
    subst e1;subst e2
    have x1:=R32.cellAt (j:=i) (H.out.1.below (Below.mono HS.out.1 (Nat.le_refl _))) (by have:=HN.out;omega)
    have x2:=R32.cellAt (j:=i) (H.out.2.below (Below.mono HS.out.1 (Nat.le_refl _))) (by have:=HN.out;have:=HE.out;omega)
    obtain⟨A,hA⟩:∃A,xs.getD i 0=A:=⟨_,rfl⟩
    obtain⟨B,hB⟩:∃B,ys.getD i 0=B:=⟨_,rfl⟩
    rw[hA]at x1
    rw[hB]at x2
    have HAB:=hi2 hA hB
    clear hA hB
    by_cases hq:A=B
    ·subst hq
     go_wp2_with fail
     go_region
     all_goals
      go_wp2
      go_roundw
      case rel=>exact⟨i+1,by omega,by go_num,HS.out.1.trans (Below.mono (by go_grown) HS.out.1.size),fun j hj=>by
       by_cases h:j=i
       ·subst h;rw[HAB.out.1,HAB.out.2]
       ·exact HS.out.2 j (by omega)⟩
      case measure=>simp[intOf];omega
    ·have e:decide (xs=ys)=false:=decide_eq_false (fun h=>hq (by rw[<-HAB.out.1,<-HAB.out.2,h]))
     have HE2:=Hd e
     clear e
     go_wp2_with fail
     go_region
     all_goals
      go_wp2
      go_ret
      exact⟨by rw[HE2.out];rfl,HS.out.1.trans (Below.mono (by go_grown) HS.out.1.size)⟩
   ·obtain rfl:i=n:=by omega
    have e:decide (xs=ys)=true:=decide_eq_true (by
     refine List.ext_getElem HE.out (fun j h1 h2=>?_)
     have:=HS.out.2 j (by have:=HN.out;omega)
     rwa [Lgd,Lgd,Lge h1,Lge h2]at this)
    have HE2:=Hd e
    clear e
    go_wp2
    go_ret
    exact⟨by rw[HE2.out];rfl,HS.out.1⟩
 ·have e:decide (xs=ys)=false:=decide_eq_false (fun h=>he (by rw[h]))
  rw[e]
  have he':¬(xs.length:Int)=(ys.length:Int):=by omega
  clear h1 h2
  go_enter Tryz.func10,Tryz.ntmps10
  go_wp2
  go_ret
  exact⟨rfl,Brf _ _⟩
theorem Zi2 (w:World) (v:Value) (L:List Ent) (hR:Z1q Z7v 5 w 60 v L) (hn:L.length<=1000000):Calls Tryz.prog 8 #[v] w fun e w'=>e= .returned (.int .i64 (L.countP fun e=>e.k=2))/\Below w.heap.size w w':=by
 obtain⟨ao,cap,rfl⟩:=hR.shape
 have HR:=Hd (fun i e he=>Zl6 hR i e he)
 have hn':(L.length:Int)<=1000000:=by omega
 clear hR
 go_enter Tryz.func8,Tryz.ntmps8
 go_wp2
 go_loopw [3,8] (fun y x wr=>∃i:Nat,i<=L.length/\x= .int .i64 i/\y= .int .i64 ((L.take i).countP fun e=>e.k=2)/\Below w.heap.size w wr) (fun _ x _=>L.length-(intOf x).toNat)
 case atStart=>exact⟨0,Nat.zero_le _,rfl,by simp,Brf _ _⟩
 case round=>
  obtain⟨i,hi,rfl,rfl,hB⟩:=hrel
  have zi:(0:Int)<=(i:Int):=by omega
  obtain⟨cn,hcn⟩:∃cn,((L.take i).countP fun e=>e.k=2)=cn:=⟨_,rfl⟩
  have hci:cn<=i:=by rw[<-hcn];exact Nat.le_trans List.countP_le_length (by rw[List.length_take];omega)
  rw[hcn]
  by_cases hlt:i<L.length
  ·have hlt':(i:Int)<(L.length:Int):=by omega
   obtain⟨e,he⟩:∃e,L[i]?=some e:=⟨_,Lge hlt⟩
   obtain⟨g,hao,hg,y0,y1,y2,y3,y4⟩:=HR.out i e he
   subst hao
   have hnx:(L.take (i+1)).countP (fun e=>e.k=2)=cn+(if e.k=2 then 1 else 0):=by
    rw[List.take_add_one,he,List.countP_append,hcn]
    simp[List.countP_cons]
   have x0:=(hB.cell (p:=⟨g,i*5,none⟩) hg).trans y0
   have x1:=(hB.cell (p:=⟨g,i*5+1,none⟩) hg).trans y1
   have x2:=(hB.cell (p:=⟨g,i*5+2,none⟩) hg).trans y2
   have x3:=(hB.cell (p:=⟨g,i*5+3,none⟩) hg).trans y3
   have x4:=(hB.cell (p:=⟨g,i*5+4,none⟩) hg).trans y4
   have HX:=hi2 hB hnx
   clear y0 y1 y2 y3 y4 hB hnx he hcn
   by_cases hk:e.k=2
   ·rw[hk]at x0
    have hnx:=HX.out.2
    rw[if_pos hk]at hnx
    have HN:=Hd hnx
    clear hnx hk
    go_wp2
    go_roundw
    case rel=>exact⟨i+1,by omega,by go_num,by rw[HN.out];go_num,HX.out.1.trans (Below.mono (by go_grown) HX.out.1.size)⟩
    case measure=>simp[intOf];omega
   ·have hnx:=HX.out.2
    rw[if_neg hk]at hnx
    have HN:=Hd hnx
    clear hnx
    go_wp2
    go_roundw
    case rel=>exact⟨i+1,by omega,by go_num,by rw[HN.out];go_num,HX.out.1.trans (Below.mono (by go_grown) HX.out.1.size)⟩
    case measure=>simp[intOf];omega
  ·obtain rfl:i=L.length:=by omega
   rw[List.take_length]at hcn
   have HN:=Hd hcn
   clear hcn
   go_wp2
   go_ret
   exact⟨by rw[HN.out];rfl,hB⟩
def LR (B:Nat) (w:World) (v:Value) (xs:List Int):Prop:=w.ownsRow B 21 1 v xs.length (xs.map (Value.int .i32))
theorem LR.r32 {B:Nat} {w:World} {v:Value} {xs:List Int} (h:LR B w v xs):R32 w v xs:=R32.of h rfl rfl
theorem LR.below {B:Nat} {w w':World} {v:Value} {xs:List Int} (h:LR B w v xs) (hb:Below w.heap.size w w'):LR B w' v xs:=Z04 h (Z01.of_below (S:=fun _=>False) hb (fun k h1 h2=>by omega)) (fun _ _ h=>h)
theorem Z3x {ops:Array Oper} {rest:List Oper} {o:Oper} {a:Act} {Q:Exit->Act->World->Prop} {w:World} (hgd:o.guard=none) (s x:Operand) (ho:o.op= .call {callee:=.builtin .append,args:= #[s,x],argTypes:= #[31,31]})
 (B:Nat) (v vr:Value) (xs ys:List Int) (hs:a.eval s=v) (hl:LR B w v xs) (hx:a.eval x=vr) (hr:R32 w vr ys) (hn:xs.length+ys.length<=1000000) (hB:B<=w.heap.size)
 (h:∀ao c w',LR B w' (.slice ao (xs++ys).length c) (xs++ys)->Below B w w'->wpList Tryz.prog ops Q rest (a.put o.dst (.slice ao (xs++ys).length c)) w'):wpList Tryz.prog ops Q (o::rest) a w:=by
 obtain⟨i0,hi,hz0,hz1,hz2⟩:=info_parts Tryz.info32
 refine Z0c w hgd s x 31 ho B 0 21 i0 (.int .i32 0) 1 4 Tryz.underlying31 hi hz0 hz1 hz2 rfl (by decide) v _ _ hs hl vr _ _ hx hr (fun u hu=>by obtain⟨e,-,rfl⟩:=List.mem_map.1 hu;rfl) (by unfold maxLen;omega) (by omega) hB ?_
 intro v' w' own gr _ loc
 have own':LR B w' v' (xs++ys):=by unfold LR;rw[Lla,List.map_append];exact own
 obtain⟨ao,c,rfl⟩:=own'.r32.shape
 exact h ao c w' own' ((Brf B w).grown gr hB (fun k hk=>(World.ownsRow.lt hl k hk).1))
section
variable {w:World} {b:Nat} {T:TypeId} {x0 x1:Value}
theorem Z72 (h:w.heap[b]?=some (.cells #[x0,x1] T (0,0))) (v0 v1:Value):((w.setCell ⟨b,0,none⟩ v0).setCell ⟨b,1,none⟩ v1).heap[b]?=some (.cells #[v0,v1] T (0,0)):=Z00 (Z00 h _ _) _ _
theorem Z29 (h:w.heap[b]?=some (.cells #[x0,x1] T (0,0))):w.cell? ⟨b,0,none⟩=some x0/\w.cell? ⟨b,1,none⟩=some x1:=by simp[World.cell?,h]
end
theorem Zny {w wf u:World} {b B:Nat} {v0 v1:Value} (h:(u.setCell ⟨b,0,none⟩ v0).setCell ⟨b,1,none⟩ v1=wf) (hb:Below B w u) (hB:B<=b):Below B w wf:=by rw[<-h];exact(hb.setCell (p:=⟨b,0,none⟩) hB _).setCell (p:=⟨b,1,none⟩) hB _
theorem Z24 (w:World) (b:Nat) (v0 v1:Value):Z01 (fun k=>k=b) w ((w.setCell ⟨b,0,none⟩ v0).setCell ⟨b,1,none⟩ v1):=by
 have q:∀(u:World) (j:Nat) (v:Value),Z01 (fun k=>k=b) u (u.setCell ⟨b,j,none⟩ v):=fun u j v=>(Z01.refl (fun k=>k=b) u).setCell (p:=⟨b,j,none⟩) (fun _=>rfl) v
 exact(q _ 0 v0).trans (q _ 1 v1)
structure Rb (w:World) (k x:Int) (u:World):Prop where
 b0:u.heap[w.heap.size]?=some (.cells #[.int .u8 k,.int .i32 x] 47 (0,0))
 b1:u.heap[w.heap.size+1]?=some (.cells #[.int .u8 0,.int .i32 0] 43 (0,0))
 B:Below w.heap.size w u
theorem Rb.of {w w1:World} {k x:Int} (h:(w.alloc (.cells #[.int .u8 k,.int .i32 x] 47 (0,0))).alloc (.cells #[.int .u8 0,.int .i32 0] 43 (0,0))=w1):Rb w k x w1:=by
 rw[<-h]
 exact⟨(Z05 _ _ _).1,(Z05 _ _ _).2,by go_grown⟩
theorem Rb.op {w w1:World} {k x:Int} (h:Rb w k x w1):w1.cell? ⟨w.heap.size,0,none⟩=some (.int .u8 k)/\w1.cell? ⟨w.heap.size,1,none⟩=some (.int .i32 x)/\w1.cell? ⟨w.heap.size+1,0,none⟩=some (.int .u8 0)/\w1.cell? ⟨w.heap.size+1,1,none⟩=some (.int .i32 0)/\w1.frozen? ⟨w.heap.size+1,0,none⟩=false/\w1.frozen? ⟨w.heap.size+1,1,none⟩=false/\w.heap.size+1<w1.heap.size:=
 ⟨by simp[World.cell?,h.b0],by simp[World.cell?,h.b0],by simp[World.cell?,h.b1],by simp[World.cell?,h.b1],Z06 h.b1 0,Z06 h.b1 1,(Gl h.b1)⟩
theorem Rb.next {w w1 u:World} {k x:Int} {B:Nat} (h:Rb w k x w1) (hb:Below B w1 u) (hB:w.heap.size+2<=B):Rb w k x u:=
 ⟨(hb.block _ (by omega)).trans h.b0,(hb.block _ (by omega)).trans h.b1,h.B.trans (hb.mono (by omega))⟩
section
variable {w w1 wf:World} {k x:Int} {v0 v1:Value}
theorem Rb.fin (h:Rb w k x w1) (hF:(w1.setCell ⟨w.heap.size+1,0,none⟩ v0).setCell ⟨w.heap.size+1,1,none⟩ v1=wf):wf.cell? ⟨w.heap.size+1,0,none⟩=some v0/\wf.cell? ⟨w.heap.size+1,1,none⟩=some v1/\(w1.heap[w.heap.size+1]?=some (.cells #[.int .u8 0,.int .i32 0] 43 (0,0))/\Z01 (fun k=>k=w.heap.size+1) w1 wf)/\Below w.heap.size w wf:=by
 have q:=Z72 h.b1 v0 v1
 have K:=Z24 w1 (w.heap.size+1) v0 v1
 rw[hF]at q K
 exact⟨(Z29 q).1,(Z29 q).2,⟨h.b1,K⟩,Zny hF h.B (by omega)⟩
theorem Rb.finD (h:Rb w k x w1) (hF:(w1.setCell ⟨w.heap.size+1,0,none⟩ v0).setCell ⟨w.heap.size+1,1,none⟩ v1=wf):wf.drew.cell? ⟨w.heap.size+1,0,none⟩=some v0/\wf.drew.cell? ⟨w.heap.size+1,1,none⟩=some v1/\(w1.heap[w.heap.size+1]?=some (.cells #[.int .u8 0,.int .i32 0] 43 (0,0))/\Z01 (fun k=>k=w.heap.size+1) w1 wf.drew)/\Below w.heap.size w wf.drew:=by
 obtain⟨a,b,⟨c,d⟩,e⟩:=h.fin hF
 exact⟨a,b,⟨c,d.drew⟩,e.drew⟩
end
section
variable {w:World} {v:Value} {xs:List Int} {g:Nat} {cs:Array Value}
theorem R32.noT {T:TypeId} (h:R32 w v xs) (hg:v.ownBlock=some g) (hT:¬T=21) (hb:w.heap[g]?=some (.cells cs T (0,0))):False:=by
 rcases h.2 with⟨rfl,-⟩|⟨g',cap,cur,rfl,-,h1,-⟩
 ·cases hg
 ·obtain rfl:g'=g:=by simpa [Value.ownBlock]using hg
  rw[hb]at h1
  injection h1 with h2
  injection h2 with _ h3
  exact hT h3
theorem R32.noRes (h:R32 w v xs) (hg:v.ownBlock=some g) (hb:w.heap[g]?=some (.cells cs 43 (0,0))):False:=h.noT hg (by decide) hb
end
theorem Zea {w1 wf:World} {b:Nat} {v:Value} {xs:List Int} {cs:Array Value} (h:R32 w1 v xs) (K:w1.heap[b]?=some (.cells cs 43 (0,0))/\Z01 (fun k=>k=b) w1 wf):R32 wf v xs:=h.kept K.2 (fun g hg e=>by have e2:g=b:=e;subst e2;exact h.noRes hg K.1)
theorem Zeb {B b:Nat} {w1 wf:World} {v:Value} {xs:List Int} {cs:Array Value} (h:LR B w1 v xs) (K:w1.heap[b]?=some (.cells cs 43 (0,0))/\Z01 (fun k=>k=b) w1 wf):R32 wf v xs:=Zea h.r32 K
def Z2f (w w':World) (e:Ending) (r:List Int×(Int×Int)):Prop:=∃v',e= .returned (.tuple #[v',.agg #[.int .u8 r.2.1,.int .i32 r.2.2]])/\R32 w' v' r.1/\Below w.heap.size w w'
section
variable (w:World) (v:Value) (most k x:Int) (xs:List Int)
theorem Zpy (hR:R32 w v xs) (hn:xs.length<=1000000) (h1:1<=most) (h2:most<=1000) (hk:k=1) (hm:most<=(xs.length:Int)):Calls Tryz.prog 26 #[.int .i64 most,v,.agg #[.int .u8 k,.int .i32 x]] w fun e w'=>Z2f w w' e (Z08 most xs (k,x)):=by
 have e:Z08 most xs (k,x)=(xs,(3,0)):=by unfold Z08;simp[hk,hm]
 rw[e]
 unfold Z2f
 subst hk
 clear e
 obtain⟨ao,cap,rfl⟩:=hR.shape
 have HR:=Hd hR
 clear hR
 have hn':(xs.length:Int)<=1000000:=by omega
 go_enter Tryz.func26,Tryz.ntmps26
 go_wp2_with fail
 generalize hW:World.alloc (World.alloc _ _) _=w1
 have H1:=Hd (Rb.of hW)
 clear hW
 obtain⟨p0,p1,q0,q1,f0,f1,z1⟩:=H1.out.op
 refine(Z15 w1 most h1 h2).mono ?_
 rintro e w2 ⟨rfl,rfl⟩
 go_wp2
 generalize hF:World.setCell _ _ _=wf
 obtain⟨r0,r1,K,BF⟩:=H1.out.fin hF
 refine bodyPost_ret (v:=.tuple #[.slice ao xs.length cap,.agg #[.int .u8 3,.int .i32 0]]) (by simp[results,Tryz.results26,go_sem,r0,r1]) rfl ⟨_,by first|rfl|simp,(Zea (HR.out.below H1.out.B) K),BF⟩
theorem Zpz (hR:R32 w v xs) (hn:xs.length<=1000000) (h1:1<=most) (h2:most<=1000) (hk:k=1) (hm:(xs.length:Int)<most):Calls Tryz.prog 26 #[.int .i64 most,v,.agg #[.int .u8 k,.int .i32 x]] w fun e w'=>Z2f w w' e (Z08 most xs (k,x)):=by
 have e:Z08 most xs (k,x)=(xs++ [x],(1,0)):=by unfold Z08;simp[hk];omega
 rw[e]
 unfold Z2f
 subst hk
 clear e
 obtain⟨ao,cap,rfl⟩:=hR.shape
 have HR:=Hd hR
 clear hR
 have hn':(xs.length:Int)<=1000000:=by omega
 go_enter Tryz.func26,Tryz.ntmps26
 go_wp2_with fail
 generalize hW:World.alloc (World.alloc _ _) _=w1
 have H1:=Hd (Rb.of hW)
 clear hW
 obtain⟨p0,p1,q0,q1,f0,f1,z1⟩:=H1.out.op
 refine(Z15 w1 most h1 h2).mono ?_
 rintro e w2 ⟨rfl,rfl⟩
 go_wp2_with (at_builtin;refine Z3x rfl _ _ rfl w1.heap.size _ _ [] xs rfl (World.ownsRow_nil _ _ _ _) rfl (HR.out.below H1.out.B) (by first|omega|(simp;done)|(simp;omega)) (Nat.le_refl _) ?_)
 intro ao3 c3 w3 L3 b3
 have L3:LR w1.heap.size w3 (.slice ao3 _ c3) (xs):=L3
 try simp only[List.nil_append]
 clear p0 p1 q0 q1 f0 f1
 have zz3:=(Below.trans (by go_grown) b3:Below w1.heap.size w1 w3).size
 replace H1:=Hd (H1.out.next (Below.trans (by go_grown) b3) (by omega))
 obtain⟨p0,p1,q0,q1,f0,f1,-⟩:=H1.out.op
 have HL3:=Hd (fun(u:World) (hu:Below w3.heap.size w3 u)=>L3.below hu)
 clear L3 b3
 go_wp2_with (at_builtin;refine Z3x rfl _ _ rfl w1.heap.size _ _ xs [x] rfl (HL3.out _ (by go_grown)) rfl (Z3c (vs:= [x]) (Han _ _) rfl (by omega)) (by first|omega|(simp;done)|(simp;omega)) (by first|omega|(simp;done)|(simp;omega)) ?_)
 intro ao4 c4 w4 L4 b4
 have L4:LR w1.heap.size w4 (.slice ao4 _ c4) (xs++ [x]):=L4
 try simp only[List.nil_append]
 clear p0 p1 q0 q1 f0 f1
 have zz4:=(Below.trans (by go_grown) b4:Below w1.heap.size w3 w4).size
 replace H1:=Hd (H1.out.next (Below.trans (by go_grown) b4) (by omega))
 obtain⟨p0,p1,q0,q1,f0,f1,-⟩:=H1.out.op
 have HL4:=Hd (fun(u:World) (hu:Below w4.heap.size w4 u)=>L4.below hu)
 clear L4 b4
 go_wp2
 generalize hF:World.setCell _ _ _=wf
 obtain⟨r0,r1,K,BF⟩:=H1.out.fin hF
 refine bodyPost_ret (v:=.tuple #[.slice ao4 (xs.length+1) c4,.agg #[.int .u8 1,.int .i32 0]]) (by simp[results,Tryz.results26,go_sem,r0,r1]) rfl ⟨_,by first|rfl|simp,(Zeb (HL4.out _ (Brf _ _)) K),BF⟩
theorem Zq0 (hR:R32 w v xs) (hn:xs.length<=1000000) (h1:1<=most) (h2:most<=1000) (hk:k=2) (hm:xs.length=0):Calls Tryz.prog 26 #[.int .i64 most,v,.agg #[.int .u8 k,.int .i32 x]] w fun e w'=>Z2f w w' e (Z08 most xs (k,x)):=by
 have e:Z08 most xs (k,x)=(xs,(4,0)):=by unfold Z08;simp[hk,hm]
 rw[e]
 unfold Z2f
 subst hk
 clear e
 obtain⟨ao,cap,rfl⟩:=hR.shape
 have HR:=Hd hR
 clear hR
 have hn':(xs.length:Int)<=1000000:=by omega
 go_enter Tryz.func26,Tryz.ntmps26
 go_upto_region 2 with fail
 generalize hW:World.alloc (World.alloc _ _) _=w1
 have H1:=Hd (Rb.of hW)
 clear hW
 obtain⟨p0,p1,q0,q1,f0,f1,z1⟩:=H1.out.op
 go_wp2
 generalize hF:World.setCell _ _ _=wf
 obtain⟨r0,r1,K,BF⟩:=H1.out.fin hF
 refine bodyPost_ret (v:=.tuple #[.slice ao xs.length cap,.agg #[.int .u8 4,.int .i32 0]]) (by simp[results,Tryz.results26,go_sem,r0,r1]) rfl ⟨_,by first|rfl|simp,(Zea (HR.out.below H1.out.B) K),BF⟩
theorem Zq1 (hR:R32 w v xs) (hn:xs.length<=1000000) (h1:1<=most) (h2:most<=1000) (hk:k≠1) (hm:k≠2):Calls Tryz.prog 26 #[.int .i64 most,v,.agg #[.int .u8 k,.int .i32 x]] w fun e w'=>Z2f w w' e (Z08 most xs (k,x)):=by
 have e:Z08 most xs (k,x)=(xs,(5,0)):=by unfold Z08;simp[hk,hm]
 rw[e]
 unfold Z2f
 skip
 clear e
 obtain⟨ao,cap,rfl⟩:=hR.shape
 have HR:=Hd hR
 clear hR
 have hn':(xs.length:Int)<=1000000:=by omega
 go_enter Tryz.func26,Tryz.ntmps26
 go_upto_region 2 with fail
 generalize hW:World.alloc (World.alloc _ _) _=w1
 have H1:=Hd (Rb.of hW)
 clear hW
 obtain⟨p0,p1,q0,q1,f0,f1,z1⟩:=H1.out.op
 go_wp2
 generalize hF:World.setCell _ _ _=wf
 obtain⟨r0,r1,K,BF⟩:=H1.out.fin hF
 refine bodyPost_ret (v:=.tuple #[.slice ao xs.length cap,.agg #[.int .u8 5,.int .i32 0]]) (by simp[results,Tryz.results26,go_sem,r0,r1]) rfl ⟨_,by first|rfl|simp,(Zea (HR.out.below H1.out.B) K),BF⟩
end
theorem Zi3 (w:World) (v:Value) (most x y:Int) (ys:List Int) (hR:R32 w v (ys++ [y])) (hn:ys.length<900000) (h1:1<=most) (h2:most<=1000):Calls Tryz.prog 26 #[.int .i64 most,v,.agg #[.int .u8 2,.int .i32 x]] w fun e w'=>Z2f w w' e (ys,(2,y)):=by
 unfold Z2f
 obtain⟨g,cap,cur,rfl,hg,hcs,hle,hc,-⟩:=hR.pos (by simp)
 have hgz:=hR.lt (g:=g) rfl
 have hll:(ys++ [y]).length=ys.length+1:=by simp
 have cy:=hc ys.length (by simp)
 rw[show(ys++ [y]).getD ys.length 0=y by simp]at cy
 rw[hll]at hle |-
 obtain⟨n,hnn⟩:∃n,ys.length=n:=⟨_,rfl⟩
 have HT:=Hd (show R32 w (.slice (some ⟨g,0,none⟩) n cap) ys from by have h1:=R32.take (A:=n) hR (by simp;omega);rw[<-hnn,List.take_left,hnn]at h1;exact h1)
 have HN:=Hd hnn
 rw[hnn]at cy hle hn |-
 have zc:(n:Int)<=(cap:Int):=by omega
 have zn:(n:Int)<=1000000:=by omega
 have z0:(0:Int)<=(n:Int):=by omega
 have zw:IntKind.i64.wrap (n:Int)=(n:Int):=I6n _ (by omega)
 have zcn:n<=cap:=by omega
 clear hR hc hg hcs hll hnn
 go_enter Tryz.func26,Tryz.ntmps26
 go_upto_region 2 with fail
 generalize hW:World.alloc (World.alloc _ _) _=w1
 have H1:=Hd (Rb.of hW)
 clear hW
 obtain⟨p0,p1,q0,q1,f0,f1,z1⟩:=H1.out.op
 go_wp2_with (at_builtin;refine Z3x rfl _ _ rfl w1.heap.size _ _ [] ys rfl (World.ownsRow_nil _ _ _ _) rfl (HT.out.below H1.out.B) (by have:=HN.out;simp;omega) (by omega) ?_)
 intro ao3 c3 w3 L3 b3
 have L3:LR w1.heap.size w3 (.slice ao3 _ c3) (ys):=L3
 try simp only[List.nil_append]
 clear p0 p1 q0 q1 f0 f1
 have zz3:=(Below.trans (by go_grown) b3:Below w1.heap.size w1 w3).size
 replace H1:=Hd (H1.out.next (Below.trans (by go_grown) b3) (by omega))
 obtain⟨p0,p1,q0,q1,f0,f1,-⟩:=H1.out.op
 have HL3:=Hd (fun(u:World) (hu:Below w3.heap.size w3 u)=>L3.below hu)
 clear L3 b3
 rw[HN.out]at HL3 |-
 have cy3:=(Below.cell (p:=⟨g,n,none⟩) H1.out.B hgz).trans cy
 have hg3:g<w3.heap.size:=by have:=H1.out.B.size;omega
 have z3:w.heap.size+1<w3.heap.size:=by omega
 clear cy
 go_wp2_with fail
 go_region
 all_goals
  go_wp2
  generalize hF:World.setCell _ _ _=wf
  obtain⟨r0,r1,K,BF⟩:=H1.out.finD hF
  refine bodyPost_ret (v:=.tuple #[.slice ao3 n c3,.agg #[.int .u8 2,.int .i32 y]]) (by simp[results,Tryz.results26,go_sem,r0,r1]) rfl ⟨_,by first|rfl|simp,(Zeb (HL3.out _ (Brf _ _)) K),BF⟩
theorem Zq2 (w:World) (v:Value) (most k x:Int) (xs:List Int) (hR:R32 w v xs) (hn:xs.length<900000) (h1:1<=most) (h2:most<=1000):Calls Tryz.prog 26 #[.int .i64 most,v,.agg #[.int .u8 k,.int .i32 x]] w fun e w'=>Z2f w w' e (Z08 most xs (k,x)):=by
 by_cases e1:k=1
 ·by_cases e2:most<=(xs.length:Int)
  ·exact Zpy w v most k x xs hR (by omega) h1 h2 e1 e2
  ·exact Zpz w v most k x xs hR (by omega) h1 h2 e1 (by omega)
 by_cases e2:k=2
 ·by_cases e3:xs.length=0
  ·exact Zq0 w v most k x xs hR (by omega) h1 h2 e2 e3
  ·have hne:xs≠[]:=fun h=>e3 (by rw[h];rfl)
   obtain⟨ys,y,rfl⟩:∃ys y,xs=ys++ [y]:=⟨xs.dropLast,xs.getLast hne,(List.dropLast_concat_getLast hne).symm⟩
   subst e2
   have e:Z08 most (ys++ [y]) (2,x)=(ys,(2,y)):=by unfold Z08;simp
   rw[e]
   exact Zi3 w v most x y ys hR (by simp at hn;omega) h1 h2
 ·exact Zq1 w v most k x xs hR (by omega) h1 h2 e1 e2
def f8 (cs:List Int) (k:Int):Int:=if k<(cs.length:Int)then cs.getD k.toNat 0 else 0
theorem Zat {cs:List Int} (h:∀x ∈ cs,(Lit.int .u8 x).wf=true) (k:Int) (h0:0<=k):0<=f8 cs k/\f8 cs k<=255:=by
 unfold f8
 by_cases hk:k<(cs.length:Int)
 ·rw[if_pos hk];have:=bounds_u8 (Zb3 h k.toNat (by omega));omega
 ·rw[if_neg hk];omega
theorem Zau (c:Value) (cs:List Int) (w:World) (h:Z1s .u8 w c cs) (k:Int) (h0:0<=k):
 Calls Tryz.prog 15 #[c,.int .i64 k] w fun e w'=>e= .returned (.int .i64 (f8 cs k))/\w=w':=by
 obtain⟨ao,cap,rfl,hwf,hmax,hcells⟩:=h
 by_cases hk:k<(cs.length:Int)
 ·obtain⟨b,off,rfl,hb,hc⟩:=hcells (by omega)
  have hx:=hc k.toNat (by omega)
  have hr:=bounds_u8 (Zb3 hwf k.toNat (by omega))
  rw[f8,if_pos hk]
  obtain⟨x,hxx⟩:∃x,cs.getD k.toNat 0=x:=⟨_,rfl⟩
  rw[hxx]at hx hr |-
  obtain⟨hr1,hr2⟩:=hr
  clear hc hwf hxx
  go_enter Tryz.func15,Tryz.ntmps15
  go_wp2
  go_ret
  exact⟨rfl,rfl⟩
 ·rw[f8,if_neg hk]
  have hk2:(cs.length:Int)<=k:=by omega
  clear hcells hwf
  go_enter Tryz.func15,Tryz.ntmps15
  go_wp2
  go_ret
  exact⟨rfl,rfl⟩
theorem Zec (v:Value) (cs:List Int) (w:World) (h:Z1s .u8 w v cs) (hw:∀x ∈ cs,(Lit.int .u8 x).wf=true):
 Calls Tryz.prog 14 #[v] w fun e w'=>∃c:Cfg,e= .returned (.agg #[.int .u8 c.ob,.int .i64 c.th,.int .i64 c.cap,.int .i64 c.age,.int .i64 c.ps,.bool c.pl])/\Z0e c=true/\Below w.heap.size w w':=by
 have r0:=Zat hw 0 (by omega)
 have r1:=Zat hw 1 (by omega)
 have H:=Hd (fun(u:World) (hu:Below w.heap.size w u)=>h.below hu)
 obtain⟨x,hx⟩:∃x,f8 cs 0=x:=⟨_,rfl⟩
 obtain⟨y,hy⟩:∃y,f8 cs 1=y:=⟨_,rfl⟩
 rw[hx]at r0
 rw[hy]at r1
 have HX:=hi2 hx hy
 obtain⟨x1,x2⟩:=r0
 obtain⟨y1,y2⟩:=r1
 clear h hw hx hy
 go_enter Tryz.func14,Tryz.ntmps14
 go_wp2_with fail
 refine(Zau v cs _ (H.out _ (by go_grown)) 0 (by omega)).mono ?_
 rintro e w1 ⟨rfl,rfl⟩
 rw[HX.out.1]
 go_wp2_with fail
 refine(Zau v cs _ (H.out _ (by go_grown)) 1 (by omega)).mono ?_
 rintro e w1 ⟨rfl,rfl⟩
 rw[HX.out.2]
 go_wp2
 generalize hF:World.alloc _ _=wf
 have q2:wf.heap[w.heap.size]?=some (.cells #[.int .u8 (1+x%3),.int .i64 (1+x/3%4),.int .i64 (1+x/12%6),.int .i64 (1+y%3),.int .i64 (1+y/3%3),.bool (decide (128<=y))] 25 (0,0)):=by rw[<-hF];exact Han _ _
 have B3:Below w.heap.size w wf:=by rw[<-hF];go_grown
 obtain⟨r0,r1,r2,r3,r4,r5⟩:=Z1g q2
 refine bodyPost_ret (v:=.agg #[.int .u8 (1+x%3),.int .i64 (1+x/3%4),.int .i64 (1+x/12%6),.int .i64 (1+y%3),.int .i64 (1+y/3%3),.bool (decide (128<=y))]) (by simp[results,Tryz.results14,go_sem,r0,r1,r2,r3,r4,r5]) rfl ⟨⟨1+x%3,1+x/3%4,1+x/12%6,1+y%3,1+y/3%3,decide (128<=y)⟩,rfl,?_,B3⟩
 simp only[Z0e,inB,Bool.and_eq_true,decide_eq_true_eq]
 omega
theorem Zq3 (v:Value) (cs:List Int) (t:Int) (w:World) (h:Z1s .u8 w v cs) (hw:∀x ∈ cs,(Lit.int .u8 x).wf=true) (t0:0<=t) (t1:t<=255):
 Calls Tryz.prog 5 #[v,.int .u8 t] w fun e w'=>∃c:Cfg,e= .returned (.agg #[.int .u8 c.ob,.int .i64 c.th,.int .i64 c.cap,.int .i64 c.age,.int .i64 c.ps,.bool c.pl])/\Z0e c=true/\c.th<=9/\Below w.heap.size w w':=by
 have H:=hi2 (fun(u:World) (hu:Below w.heap.size w u)=>h.below hu) hw
 clear h hw
 go_enter Tryz.func5,Tryz.ntmps5
 go_wp2_with fail
 refine(Zec v cs _ (H.out.1 _ (by go_grown)) H.out.2).mono ?_
 rintro e w1 ⟨c,rfl,hc,hb⟩
 have hb0:=(hb.block w.heap.size (by simp)).trans (Han w _)
 have z1:w.heap.size<w1.heap.size:=(Gl hb0)
 have hb9:Below w.heap.size _ w1:=hb.mono (by simp)
 have B1:Below w.heap.size w w1:=((Brf w.heap.size w).alloc (Nat.le_refl _) _).trans hb9
 clear hb9
 have H1:=hi3 hc B1 hb0
 have q0:w1.cell? ⟨w.heap.size,0,none⟩=some (.int .u8 0):=by simp[World.cell?,hb0]
 have q1:w1.cell? ⟨w.heap.size,1,none⟩=some (.int .i64 0):=by simp[World.cell?,hb0]
 have q2:w1.cell? ⟨w.heap.size,2,none⟩=some (.int .i64 0):=by simp[World.cell?,hb0]
 have q3:w1.cell? ⟨w.heap.size,3,none⟩=some (.int .i64 0):=by simp[World.cell?,hb0]
 have q4:w1.cell? ⟨w.heap.size,4,none⟩=some (.int .i64 0):=by simp[World.cell?,hb0]
 have q5:w1.cell? ⟨w.heap.size,5,none⟩=some (.bool false):=by simp[World.cell?,hb0]
 have f0:=Z06 hb0 0
 have f1:=Z06 hb0 1
 have f2:=Z06 hb0 2
 have f3:=Z06 hb0 3
 have f4:=Z06 hb0 4
 have f5:=Z06 hb0 5
 clear hb hb0 B1 hc
 go_upto_region 2 with fail
 generalize hW:w1.alloc _=w2
 have hb2:w2.heap[w1.heap.size]?=some (.cells #[.int .u8 c.ob,.int .i64 c.th,.int .i64 c.cap,.int .i64 c.age,.int .i64 c.ps,.bool c.pl] 25 (0,0)):=by rw[<-hW];exact Han _ _
 have B12:Below w1.heap.size w1 w2:=by rw[<-hW];go_grown
 have hb0:=(B12.block _ z1).trans H1.out.2.2
 have z2:w1.heap.size<w2.heap.size:=(Gl hb2)
 clear q0 q1 q2 q3 q4 q5 f0 f1 f2 f3 f4 f5 hW
 obtain⟨q0,q1,q2,q3,q4,q5⟩:=Z1g hb0
 obtain⟨s0,s1,s2,s3,s4,s5⟩:=Z1g hb2
 have f0:=Z06 hb0 0
 have f1:=Z06 hb0 1
 have f2:=Z06 hb0 2
 have f3:=Z06 hb0 3
 have f4:=Z06 hb0 4
 have f5:=Z06 hb0 5
 have g1:=Z06 hb2 1
 have H2:=hi3 hb0 hb2 B12
 clear hb0 hb2 B12
 go_wp2_with fail
 have K3:=Z02 w2 ⟨w1.heap.size,1,none⟩ (.int .i64 (1+t%9))
 have hb3:=(K3.block w.heap.size (by omega) (fun e=>by have e2:w.heap.size=w1.heap.size:=e;omega)).trans H2.out.1
 have B3:Below w.heap.size w (w2.setCell ⟨w1.heap.size,1,none⟩ (.int .i64 (1+t%9))):=(H1.out.2.1.trans (H2.out.2.2.mono (by omega))).setCell (p:=⟨w1.heap.size,1,none⟩) (by show w.heap.size<=w1.heap.size;omega) _
 generalize hW3:World.setCell w2 _ _=w3
 rw[hW3]at hb3 B3
 have q3:=Zbz hb3 (.int .u8 c.ob) (.int .i64 (1+t%9)) (.int .i64 c.cap) (.int .i64 c.age) (.int .i64 c.ps) (.bool c.pl)
 have K4:=Zcw w3 w.heap.size (.int .u8 c.ob) (.int .i64 (1+t%9)) (.int .i64 c.cap) (.int .i64 c.age) (.int .i64 c.ps) (.bool c.pl)
 generalize hF:World.setCell _ _ _=wf
 rw[hF]at q3 K4
 obtain⟨r0,r1,r2,r3,r4,r5⟩:=Z1g q3
 have hr:=Z2r H1.out.1
 refine bodyPost_ret (v:=.agg #[.int .u8 c.ob,.int .i64 (1+t%9),.int .i64 c.cap,.int .i64 c.age,.int .i64 c.ps,.bool c.pl]) (by simp[results,Tryz.results5,go_sem,r0,r1,r2,r3,r4,r5]) rfl ⟨⟨c.ob,1+t%9,c.cap,c.age,c.ps,c.pl⟩,rfl,?_,?_,B3.trans (K4.below B3.size (fun k h1 h2=>by have e:k=w.heap.size:=h2;omega))⟩
 ·simp only[Z0e,inB,Bool.and_eq_true,decide_eq_true_eq];omega
 ·show 1+t%9<=9;omega
theorem Tryz.infoEnt:(Tryz.prog.info? 60).map (fun i=>(i.zero,i.size,i.bytes))=some (some (.agg #[.int .u8 0,.int .i64 0,.int .u8 0,.int .i32 0,.int .u8 0]),5,32):=by kernel_rfl
def ER (B:Nat) (w:World) (v:Value) (L:List Ent):Prop:=w.ownsRow B 60 5 v L.length (L.flatMap Z7v)
theorem ER.rec {B:Nat} {w:World} {v:Value} {L:List Ent} (h:ER B w v L):Z1q Z7v 5 w 60 v L:=Z1q.of h rfl rfl
theorem ER.below {B:Nat} {w w':World} {v:Value} {L:List Ent} (h:ER B w v L) (hb:Below w.heap.size w w'):ER B w' v L:=Z04 h (Z01.of_below (S:=fun _=>False) hb (fun k h1 h2=>by omega)) (fun _ _ h=>h)
theorem ER.nil (B:Nat) (w:World):ER B w (.slice none 0 0) []:=World.ownsRow_nil _ _ _ _
theorem ER.shape {B:Nat} {w:World} {v:Value} {L:List Ent} (h:ER B w v L):∃ao cap,v= .slice ao L.length cap:=Z03 h
theorem Znz (e:Ent):∀u ∈ Z7v e,u.oneCell'=true:=by
 intro u hu
 simp only[Z7v,List.mem_cons,List.not_mem_nil,or_false]at hu
 rcases hu with rfl|rfl|rfl|rfl|rfl<;>rfl
theorem Z96 (L:List Ent):∀u ∈ L.flatMap Z7v,u.oneCell'=true:=fun u hu=>by
 obtain⟨e,-,he⟩:=List.mem_flatMap.1 hu
 exact Znz e u he
theorem Z3h {w:World} {g:Nat} {e:Ent} (h:w.heap[g]?=some (.cells #[.int .u8 e.k,.int .i64 e.t,.int .u8 e.ok,.int .i32 e.ov,.int .u8 e.bits] 60 (0,0))):Z1q Z7v 5 w 60 (.slice (some ⟨g,0,none⟩) 1 1) [e]:=
 ⟨rfl,.inr ⟨g,1,_,rfl,Nat.zero_le _,h,Nat.le_refl _,by unfold maxLen;omega,rfl,rfl⟩⟩
theorem Zko {w:World} {g:Nat} {e f:Ent} (h:w.heap[g]?=some (.cells #[.int .u8 e.k,.int .i64 e.t,.int .u8 e.ok,.int .i32 e.ov,.int .u8 e.bits,.int .u8 f.k,.int .i64 f.t,.int .u8 f.ok,.int .i32 f.ov,.int .u8 f.bits] 60 (0,0))):Z1q Z7v 5 w 60 (.slice (some ⟨g,0,none⟩) 2 2) [e,f]:=
 ⟨rfl,.inr ⟨g,2,_,rfl,Nat.zero_le _,h,Nat.le_refl _,by unfold maxLen;omega,rfl,rfl⟩⟩
theorem Zi4 {ops:Array Oper} {rest:List Oper} {o:Oper} {a:Act} {Q:Exit->Act->World->Prop} {w:World} (hgd:o.guard=none) (s x:Operand) (ho:o.op= .call {callee:=.builtin .append,args:= #[s,x],argTypes:= #[23,23]})
 (B:Nat) (v vr:Value) (L K:List Ent) (hs:a.eval s=v) (hl:ER B w v L) (hx:a.eval x=vr) (hr:Z1q Z7v 5 w 60 vr K) (hn:L.length+K.length<=1000000) (hB:B<=w.heap.size)
 (h:∀ao c w',ER B w' (.slice ao (L++K).length c) (L++K)->Below B w w'->wpList Tryz.prog ops Q rest (a.put o.dst (.slice ao (L++K).length c)) w'):wpList Tryz.prog ops Q (o::rest) a w:=by
 obtain⟨i0,hi,hz0,hz1,hz2⟩:=info_parts Tryz.infoEnt
 refine Z0c w hgd s x 23 ho B 0 60 i0 (.agg #[.int .u8 0,.int .i64 0,.int .u8 0,.int .i32 0,.int .u8 0]) 5 32 Tryz.underlying23 hi hz0 hz1 hz2 rfl (by decide) v _ _ hs hl vr _ _ hx hr (Z96 K) (by unfold maxLen;omega) (by omega) hB ?_
 intro v' w' own gr _ loc
 have own':ER B w' v' (L++K):=by unfold ER;rw[Lla,List.flatMap_append];exact own
 obtain⟨ao,c,rfl⟩:=own'.shape
 exact h ao c w' own' ((Brf B w).grown gr hB (fun k hk=>(World.ownsRow.lt hl k hk).1))
def rnd (j:Nat):List Ent:=(List.range j).map fun(t:Nat)=>⟨2,(t:Int),0,0,0⟩
def Z73 (th n:Nat):List Ent:=(List.range n).flatMap fun _=>rnd th
theorem Zkp (j:Nat):rnd (j+1)=rnd j++ [⟨2,(j:Int),0,0,0⟩]:=by simp[rnd,List.range_succ]
theorem Zav (th n:Nat):Z73 th (n+1)=Z73 th n++rnd th:=by simp[Z73,List.range_succ]
theorem Zi5 (j:Nat):(rnd j).length=j:=by simp[rnd]
theorem Z66 (th n:Nat):(Z73 th n).length=n*th:=by
 induction n with
 |zero=>simp[Z73]
 |succ n ih=>rw[Zav,Lla,ih,Zi5,Nat.succ_mul]
theorem Zi6 (th n:Nat):∀e ∈ Z73 th n,Z2h e:=fun e he=>by
 obtain⟨k,-,hk⟩:=List.mem_flatMap.1 he
 obtain⟨t,-,rfl⟩:=List.mem_map.1 hk
 exact⟨by dsimp only;omega,by dsimp only;omega,by dsimp only;omega,by dsimp only;omega⟩
theorem Z7z (w:World) (th n:Nat) (h1:1<=th) (h2:th<=64) (h3:1<=n) (h4:n<=200):Calls Tryz.prog 13 #[.int .i64 th,.int .i64 n] w fun e w'=>∃u,e= .returned u/\ER w.heap.size w' u (Z73 th n)/\Below w.heap.size w w':=by
 have a1:¬(th:Int)<1:=by omega
 have a2:¬(n:Int)<1:=by omega
 have a3:¬(20000:Int)<th:=by omega
 have a4:¬(20000:Int)<n:=by omega
 have a5:th*n<=64*200:=Nat.mul_le_mul h2 h4
 have a6:(th:Int)*(n:Int)=((th*n:Nat):Int):=by simp
 obtain⟨q,hq⟩:∃q,th*n=q:=⟨_,rfl⟩
 have a7:IntKind.i64.wrap ((th:Int)*(n:Int))=(q:Int):=by rw[a6,hq];exact I6n _ (by omega)
 have a8:¬(20000:Int)<(q:Int):=by omega
 have HQ:=Hd a5
 clear a5 a6 hq
 go_enter Tryz.func13,Tryz.ntmps13
 go_wp2
 go_loopw [5,6,7] (fun l x _ wr=>∃(i:Nat),i<=n/\x= .int .i64 i/\ER w.heap.size wr l (Z73 th i)/\Below w.heap.size w wr) (fun _ x _ _=>n-(intOf x).toNat)
 case atStart=>exact⟨0,Nat.zero_le _,rfl,ER.nil _ _,Brf _ _⟩
 case round=>
  obtain⟨i,hi,rfl,hL,hB⟩:=hrel
  have zi:(0:Int)<=(i:Int):=by omega
  by_cases hlt:i<n
  ·have hlt':(i:Int)<(n:Int):=by omega
   have HI:=hi2 hL hB
   clear hL hB a1 a2 a3 a4 a7 a8
   go_wp2
   go_loopw [5,7] (fun l y wq=>∃(j:Nat),j<=th/\y= .int .i64 j/\ER w.heap.size wq l (Z73 th i++rnd j)/\Below w.heap.size w wq) (fun _ y _=>th-(intOf y).toNat)
   case atStart=>exact⟨0,Nat.zero_le _,rfl,by simpa [rnd]using HI.out.1,HI.out.2⟩
   case round=>
    obtain⟨j,hj,rfl,hL,hB⟩:=hrel
    have zj:(0:Int)<=(j:Int):=by omega
    by_cases hlj:j<th
    ·have hlj':(j:Int)<(th:Int):=by omega
     obtain⟨ao,cap,rfl⟩:=hL.shape
     have hlen:(Z73 th i++rnd j).length<=20000:=by
      rw[Lla,Z66,Zi5]
      have h5:i*th<=200*64:=Nat.mul_le_mul (by omega) h2
      omega
     have hw0:w.heap.size<=wr.heap.size:=hB.size
     have RU:=Hd (fun(u:World) (hu:Below wr.heap.size wr u)=>hL.below hu)
     have HJ:=hi2 hB hlen
     clear hL hB hlen
     go_wp2_with (at_builtin;refine Zi4 rfl _ _ rfl w.heap.size _ _ (Z73 th i++rnd j) [⟨2,(j:Int),0,0,0⟩] rfl (RU.out _ (by go_grown)) rfl (Z3h (e:=⟨2,(j:Int),0,0,0⟩) (Han _ _)) (by have:=HJ.out.2;simp only[Llc,List.length_nil];omega) (by simp;omega) ?_)
     intro ao5 c5 w5 L5 b5
     have H5:=hi2 L5 b5
     clear L5 b5
     go_wp2
     go_roundw
     case rel=>exact⟨j+1,by omega,by go_num,by rw[Zkp];first|exact H5.out.1|(rw[<-List.append_assoc];exact H5.out.1),HJ.out.1.trans (Below.trans (by go_grown) H5.out.2)⟩
     case measure=>simp[intOf];omega
    ·obtain rfl:j=th:=by omega
     have HJ:=hi2 hL hB
     clear hL hB
     go_wp2
     go_roundw
     case rel=>exact⟨i+1,by omega,by go_num,by rw[Zav];exact HJ.out.1,HJ.out.2⟩
     case measure=>simp[intOf];omega
  ·obtain rfl:i=n:=by omega
   have HI:=hi2 hL hB
   clear hL hB a1 a2 a3 a4 a7 a8
   go_wp2
   go_ret
   exact⟨_,rfl,HI.out.1,HI.out.2⟩
theorem stER {ops:Array Oper} {o:Oper} {a:Act} {w:World} {K:Act->World->Prop} {Q:Exit->Act->World->Prop} {E:Prop} (hgd:o.guard=none) (s x:Operand) (ho:o.op= .call {callee:=.builtin .append,args:= #[s,x],argTypes:= #[23,23]})
 (B:Nat) (v vr:Value) (L M:List Ent) (hs:a.eval s=v) (hl:ER B w v L) (hx:a.eval x=vr) (hr:Z1q Z7v 5 w 60 vr M) (hn:L.length+M.length<=1000000) (hB:B<=w.heap.size)
 (h:∀ao c w',ER B w' (.slice ao (L++M).length c) (L++M)->Below B w w'->K (a.put o.dst (.slice ao (L++M).length c)) w'):if Region.wanted o (yielded ops a.tmps)=true then Oper.wp Tryz.prog o a w K Q else E:=by
 obtain⟨i0,hi,hz0,hz1,hz2⟩:=info_parts Tryz.infoEnt
 refine Z0q hgd s x 23 ho B 0 60 i0 (.agg #[.int .u8 0,.int .i64 0,.int .u8 0,.int .i32 0,.int .u8 0]) 5 32 Tryz.underlying23 hi hz0 hz1 hz2 rfl (by decide) v _ _ hs hl vr _ _ hx hr (Z96 M) (by unfold maxLen;omega) (by omega) hB ?_
 intro v' w' own gr loc
 have own':ER B w' v' (L++M):=by unfold ER;rw[Lla,List.flatMap_append];exact own
 obtain⟨ao,c,rfl⟩:=own'.shape
 exact h ao c w' own' ((Brf B w).grown gr hB (fun k hk=>(World.ownsRow.lt hl k hk).1))
def Z4b:List Ent:= [⟨1,0,1,7,0⟩,⟨1,1,2,0,0⟩]
theorem Zia (w:World) (g1 g2:Nat) (h1:g1<w.heap.size) (h2:g2<w.heap.size) (c0:w.cell? ⟨g1,0,none⟩=some (.int .i64 0)) (c1:w.cell? ⟨g1,1,none⟩=some (.int .i64 1))
 (d0:w.cell? ⟨g2,0,none⟩=some (.int .u8 1)) (d1:w.cell? ⟨g2,1,none⟩=some (.int .i32 7)) (d2:w.cell? ⟨g2,2,none⟩=some (.int .u8 2)) (d3:w.cell? ⟨g2,3,none⟩=some (.int .i32 0)):
 Calls Tryz.prog 12 #[.slice (some ⟨g1,0,none⟩) 2 2,.slice (some ⟨g2,0,none⟩) 2 2] w fun e w'=>∃u,e= .returned u/\ER w.heap.size w' u Z4b/\Below w.heap.size w w':=by
 have HC:=hi7 (And.intro h1 h2) c0 c1 d0 d1 d2 d3
 clear h1 h2 c0 c1 d0 d1 d2 d3
 go_enter Tryz.func12,Tryz.ntmps12
 go_wp2
 go_loopw [5,6,12] (fun l _ x wr=>∃(i:Nat),i<=2/\x= .int .i64 i/\ER w.heap.size wr l (Z4b.take i)/\Below w.heap.size w wr) (fun _ _ x _=>2-(intOf x).toNat)
 case atStart=>exact⟨0,by omega,rfl,ER.nil _ _,Brf _ _⟩
 case round=>
  obtain⟨i,hi,rfl,hL,hB⟩:=hrel
  obtain⟨la,lc,rfl⟩:=hL.shape
  have hw0:w.heap.size<=wr.heap.size:=hB.size
  have RU:=Hd (fun(u:World) (hu:Below wr.heap.size wr u)=>hL.below hu)
  obtain⟨⟨h1,h2⟩,c0,c1,d0,d1,d2,d3⟩:=HC.out
  have e0:=(hB.cell (p:=⟨g1,0,none⟩) h1).trans c0
  have e1:=(hB.cell (p:=⟨g1,1,none⟩) h1).trans c1
  have f0:=(hB.cell (p:=⟨g2,0,none⟩) h2).trans d0
  have f1:=(hB.cell (p:=⟨g2,1,none⟩) h2).trans d1
  have f2:=(hB.cell (p:=⟨g2,2,none⟩) h2).trans d2
  have f3:=(hB.cell (p:=⟨g2,3,none⟩) h2).trans d3
  have HJ:=hi2 hL hB
  clear hL hB h1 h2 c0 c1 d0 d1 d2 d3
  by_cases i0:i=0
  ·subst i0
   go_wp2_with fail
   go_region_law (refine stER rfl _ _ rfl w.heap.size _ _ (Z4b.take 0) [⟨1,0,1,7,0⟩] rfl (RU.out _ (by go_grown)) rfl (Z3h (e:=⟨1,0,1,7,0⟩) (by first|exact Han _ _|exact Z0t _ _)) (by decide) (by first|omega|(simp;omega)) ?_;intro ao5 c5 w5 L5 b5;have H5:=hi2 L5 b5;clear L5 b5)
   all_goals
    go_wp2
    go_roundw
    case rel=>exact⟨1,by omega,by go_num,H5.out.1,HJ.out.2.trans (Below.trans (by go_grown) H5.out.2)⟩
    case measure=>simp[intOf]
  by_cases i1:i=1
  ·subst i1
   go_wp2_with fail
   go_region_law (refine stER rfl _ _ rfl w.heap.size _ _ (Z4b.take 1) [⟨1,1,2,0,0⟩] rfl (RU.out _ (by go_grown)) rfl (Z3h (e:=⟨1,1,2,0,0⟩) (by first|exact Han _ _|exact Z0t _ _)) (by decide) (by first|omega|(simp;omega)) ?_;intro ao5 c5 w5 L5 b5;have H5:=hi2 L5 b5;clear L5 b5)
   all_goals
    go_wp2
    go_roundw
    case rel=>exact⟨2,by omega,by go_num,H5.out.1,HJ.out.2.trans (Below.trans (by go_grown) H5.out.2)⟩
    case measure=>simp[intOf]
  obtain rfl:i=2:=by omega
  go_wp2
  go_ret
  exact⟨_,rfl,HJ.out.1,HJ.out.2⟩
theorem Z74 {ops:Array Oper} {rest:List Oper} {o:Oper} {a:Act} {Q:Exit->Act->World->Prop} {w:World} (hgd:o.guard=none) (s x:Operand) (ho:o.op= .call {callee:=.builtin .append,args:= #[s,x],argTypes:= #[31,31]})
 (B:Nat) (v:Value) (xs ys:List Int) (g A m c:Nat) (hs:a.eval s=v) (hl:LR B w v xs) (hx:a.eval x= .slice (some ⟨g,A,none⟩) m c) (hm:m=(ys.drop A).length) (hc:∀(j:Nat) (u:Value),((ys.drop A).map (Value.int .i32))[j]?=some u->w.cell? ((⟨g,A,none⟩:Addr).add j)=some u) (hn:xs.length+ys.length<=1000000) (hB:B<=w.heap.size)
 (h:∀ao c w',LR B w' (.slice ao (xs++ys.drop A).length c) (xs++ys.drop A)->Below B w w'->wpList Tryz.prog ops Q rest (a.put o.dst (.slice ao (xs++ys.drop A).length c)) w'):wpList Tryz.prog ops Q (o::rest) a w:=by
 obtain⟨i0,hi,hz0,hz1,hz2⟩:=info_parts Tryz.info32
 subst hm
 have hdl:(ys.drop A).length<=ys.length:=by rw[List.length_drop];omega
 refine wpList_append_own_at w hgd s x 31 ho B 21 i0 (.int .i32 0) 1 4 Tryz.underlying31 hi hz0 hz1 hz2 rfl (by decide) v _ _ hs hl ⟨g,A,none⟩ _ c _ hx (by rw[Llm,Nat.mul_one]) hc (fun u hu=>by obtain⟨e,-,rfl⟩:=List.mem_map.1 hu;rfl) (by unfold maxLen;omega) (by omega) hB ?_
 intro v' w' own gr _ loc
 have own':LR B w' v' (xs++ys.drop A):=by unfold LR;rw[Lla,List.map_append];exact own
 obtain⟨ao,c',rfl⟩:=own'.r32.shape
 exact h ao c' w' own' ((Brf B w).grown gr hB (fun k hk=>(World.ownsRow.lt hl k hk).1))
section
variable (w:World) (v:Value) (most k x:Int) (xs:List Int)
theorem Zie (hR:R32 w v xs) (hn:xs.length<1000000) (h1:1<=most) (h2:most<=1000) (hk:k<1):Calls Tryz.prog 27 #[.int .i64 most,v,.agg #[.int .u8 k,.int .i32 x]] w fun e w'=>Z2f w w' e (Z07 most xs (k,x)):=by
 have e:Z07 most xs (k,x)=(xs,(5,0)):=by unfold Z07;rw[if_neg (show ¬k=1 by omega),if_neg (show ¬k=2 by omega),if_neg (show ¬k=3 by omega),if_neg (show ¬k=4 by omega)]
 rw[e]
 unfold Z2f
 skip
 clear e
 obtain⟨ao,cap,rfl⟩:=hR.shape
 have HR:=Hd hR
 clear hR
 have hn':(xs.length:Int)<=1000000:=by omega
 go_enter Tryz.func27,Tryz.ntmps27
 go_wp2_with fail
 generalize hW:World.alloc (World.alloc _ _) _=w1
 have H1:=Hd (Rb.of hW)
 clear hW
 obtain⟨p0,p1,q0,q1,f0,f1,z1⟩:=H1.out.op
 refine(Z15 w1 most h1 h2).mono ?_
 rintro e w2 ⟨rfl,rfl⟩
 go_wp2
 generalize hF:World.setCell _ _ _=wf
 obtain⟨r0,r1,K,BF⟩:=H1.out.fin hF
 refine bodyPost_ret (v:=.tuple #[.slice ao xs.length cap,.agg #[.int .u8 5,.int .i32 0]]) (by simp[results,Tryz.results27,go_sem,r0,r1]) rfl ⟨_,by first|rfl|simp,(Zea (HR.out.below H1.out.B) K),BF⟩
theorem Zif (hR:R32 w v xs) (hn:xs.length<1000000) (h1:1<=most) (h2:most<=1000) (hk:4<k):Calls Tryz.prog 27 #[.int .i64 most,v,.agg #[.int .u8 k,.int .i32 x]] w fun e w'=>Z2f w w' e (Z07 most xs (k,x)):=by
 have e:Z07 most xs (k,x)=(xs,(5,0)):=by unfold Z07;rw[if_neg (show ¬k=1 by omega),if_neg (show ¬k=2 by omega),if_neg (show ¬k=3 by omega),if_neg (show ¬k=4 by omega)]
 rw[e]
 unfold Z2f
 skip
 clear e
 obtain⟨ao,cap,rfl⟩:=hR.shape
 have HR:=Hd hR
 clear hR
 have hn':(xs.length:Int)<=1000000:=by omega
 go_enter Tryz.func27,Tryz.ntmps27
 go_wp2_with fail
 generalize hW:World.alloc (World.alloc _ _) _=w1
 have H1:=Hd (Rb.of hW)
 clear hW
 obtain⟨p0,p1,q0,q1,f0,f1,z1⟩:=H1.out.op
 refine(Z15 w1 most h1 h2).mono ?_
 rintro e w2 ⟨rfl,rfl⟩
 go_wp2
 generalize hF:World.setCell _ _ _=wf
 obtain⟨r0,r1,K,BF⟩:=H1.out.fin hF
 refine bodyPost_ret (v:=.tuple #[.slice ao xs.length cap,.agg #[.int .u8 5,.int .i32 0]]) (by simp[results,Tryz.results27,go_sem,r0,r1]) rfl ⟨_,by first|rfl|simp,(Zea (HR.out.below H1.out.B) K),BF⟩
theorem Zee (hR:R32 w v xs) (hn:xs.length<1000000) (h1:1<=most) (h2:most<=1000) (hk:k=1) (hm:most<=(xs.length:Int)):Calls Tryz.prog 27 #[.int .i64 most,v,.agg #[.int .u8 k,.int .i32 x]] w fun e w'=>Z2f w w' e (Z07 most xs (k,x)):=by
 have e:Z07 most xs (k,x)=(xs,(3,0)):=by unfold Z07;simp[hk,hm]
 rw[e]
 unfold Z2f
 subst hk
 clear e
 obtain⟨ao,cap,rfl⟩:=hR.shape
 have HR:=Hd hR
 clear hR
 have hn':(xs.length:Int)<=1000000:=by omega
 go_enter Tryz.func27,Tryz.ntmps27
 go_wp2_with fail
 generalize hW:World.alloc (World.alloc _ _) _=w1
 have H1:=Hd (Rb.of hW)
 clear hW
 obtain⟨p0,p1,q0,q1,f0,f1,z1⟩:=H1.out.op
 refine(Z15 w1 most h1 h2).mono ?_
 rintro e w2 ⟨rfl,rfl⟩
 go_wp2
 generalize hF:World.setCell _ _ _=wf
 obtain⟨r0,r1,K,BF⟩:=H1.out.fin hF
 refine bodyPost_ret (v:=.tuple #[.slice ao xs.length cap,.agg #[.int .u8 3,.int .i32 0]]) (by simp[results,Tryz.results27,go_sem,r0,r1]) rfl ⟨_,by first|rfl|simp,(Zea (HR.out.below H1.out.B) K),BF⟩
theorem Zef (hR:R32 w v xs) (hn:xs.length<1000000) (h1:1<=most) (h2:most<=1000) (hk:k=2) (hm:most<=(xs.length:Int)):Calls Tryz.prog 27 #[.int .i64 most,v,.agg #[.int .u8 k,.int .i32 x]] w fun e w'=>Z2f w w' e (Z07 most xs (k,x)):=by
 have e:Z07 most xs (k,x)=(xs,(3,0)):=by unfold Z07;simp[hk,hm]
 rw[e]
 unfold Z2f
 subst hk
 clear e
 obtain⟨ao,cap,rfl⟩:=hR.shape
 have HR:=Hd hR
 clear hR
 have hn':(xs.length:Int)<=1000000:=by omega
 go_enter Tryz.func27,Tryz.ntmps27
 go_wp2_with fail
 generalize hW:World.alloc (World.alloc _ _) _=w1
 have H1:=Hd (Rb.of hW)
 clear hW
 obtain⟨p0,p1,q0,q1,f0,f1,z1⟩:=H1.out.op
 refine(Z15 w1 most h1 h2).mono ?_
 rintro e w2 ⟨rfl,rfl⟩
 go_wp2
 generalize hF:World.setCell _ _ _=wf
 obtain⟨r0,r1,K,BF⟩:=H1.out.fin hF
 refine bodyPost_ret (v:=.tuple #[.slice ao xs.length cap,.agg #[.int .u8 3,.int .i32 0]]) (by simp[results,Tryz.results27,go_sem,r0,r1]) rfl ⟨_,by first|rfl|simp,(Zea (HR.out.below H1.out.B) K),BF⟩
theorem Zeg (hR:R32 w v xs) (hn:xs.length<1000000) (h1:1<=most) (h2:most<=1000) (hk:k=3) (hm:xs.length=0):Calls Tryz.prog 27 #[.int .i64 most,v,.agg #[.int .u8 k,.int .i32 x]] w fun e w'=>Z2f w w' e (Z07 most xs (k,x)):=by
 have e:Z07 most xs (k,x)=(xs,(4,0)):=by unfold Z07;simp[hk,hm]
 rw[e]
 unfold Z2f
 subst hk
 clear e
 obtain⟨ao,cap,rfl⟩:=hR.shape
 have HR:=Hd hR
 clear hR
 have hn':(xs.length:Int)<=1000000:=by omega
 go_enter Tryz.func27,Tryz.ntmps27
 go_wp2_with fail
 generalize hW:World.alloc (World.alloc _ _) _=w1
 have H1:=Hd (Rb.of hW)
 clear hW
 obtain⟨p0,p1,q0,q1,f0,f1,z1⟩:=H1.out.op
 refine(Z15 w1 most h1 h2).mono ?_
 rintro e w2 ⟨rfl,rfl⟩
 go_wp2
 generalize hF:World.setCell _ _ _=wf
 obtain⟨r0,r1,K,BF⟩:=H1.out.fin hF
 refine bodyPost_ret (v:=.tuple #[.slice ao 0 cap,.agg #[.int .u8 4,.int .i32 0]]) (by simp[results,Tryz.results27,go_sem,r0,r1]) rfl ⟨_,by first|rfl|simp,(by rw[<-hm];exact(Zea (HR.out.below H1.out.B) K)),BF⟩
theorem Zeh (hR:R32 w v xs) (hn:xs.length<1000000) (h1:1<=most) (h2:most<=1000) (hk:k=4) (hm:xs.length=0):Calls Tryz.prog 27 #[.int .i64 most,v,.agg #[.int .u8 k,.int .i32 x]] w fun e w'=>Z2f w w' e (Z07 most xs (k,x)):=by
 have e:Z07 most xs (k,x)=(xs,(4,0)):=by unfold Z07;simp[hk,hm]
 rw[e]
 unfold Z2f
 subst hk
 clear e
 obtain⟨ao,cap,rfl⟩:=hR.shape
 have HR:=Hd hR
 clear hR
 have hn':(xs.length:Int)<=1000000:=by omega
 go_enter Tryz.func27,Tryz.ntmps27
 go_wp2_with fail
 generalize hW:World.alloc (World.alloc _ _) _=w1
 have H1:=Hd (Rb.of hW)
 clear hW
 obtain⟨p0,p1,q0,q1,f0,f1,z1⟩:=H1.out.op
 refine(Z15 w1 most h1 h2).mono ?_
 rintro e w2 ⟨rfl,rfl⟩
 go_wp2
 generalize hF:World.setCell _ _ _=wf
 obtain⟨r0,r1,K,BF⟩:=H1.out.fin hF
 refine bodyPost_ret (v:=.tuple #[.slice ao 0 cap,.agg #[.int .u8 4,.int .i32 0]]) (by simp[results,Tryz.results27,go_sem,r0,r1]) rfl ⟨_,by first|rfl|simp,(by rw[<-hm];exact(Zea (HR.out.below H1.out.B) K)),BF⟩
theorem Zei (hR:R32 w v xs) (hn:xs.length<1000000) (h1:1<=most) (h2:most<=1000) (hk:k=1) (hm:(xs.length:Int)<most):Calls Tryz.prog 27 #[.int .i64 most,v,.agg #[.int .u8 k,.int .i32 x]] w fun e w'=>Z2f w w' e (Z07 most xs (k,x)):=by
 have e:Z07 most xs (k,x)=(x::xs,(1,0)):=by unfold Z07;simp[hk];omega
 rw[e]
 unfold Z2f
 subst hk
 clear e
 obtain⟨ao,cap,rfl⟩:=hR.shape
 have HR:=Hd hR
 clear hR
 have hn':(xs.length:Int)<=1000000:=by omega
 go_enter Tryz.func27,Tryz.ntmps27
 go_wp2_with fail
 generalize hW:World.alloc (World.alloc _ _) _=w1
 have H1:=Hd (Rb.of hW)
 clear hW
 obtain⟨p0,p1,q0,q1,f0,f1,z1⟩:=H1.out.op
 refine(Z15 w1 most h1 h2).mono ?_
 rintro e w2 ⟨rfl,rfl⟩
 go_wp2_with (at_builtin;refine Z3x rfl _ _ rfl w1.heap.size _ _ [] [x] rfl (World.ownsRow_nil _ _ _ _) rfl (Z3c (vs:= [x]) (Han _ _) rfl (by omega)) (by first|omega|(simp;done)|(simp;omega)) (by first|omega|(simp;done)|(simp;omega)) ?_)
 intro ao3 c3 w3 L3 b3
 have L3:LR w1.heap.size w3 (.slice ao3 _ c3) ([x]):=L3
 try simp only[List.nil_append]
 clear p0 p1 q0 q1 f0 f1
 have zz3:=(Below.trans (by go_grown) b3:Below w1.heap.size w1 w3).size
 replace H1:=Hd (H1.out.next (Below.trans (by go_grown) b3) (by omega))
 obtain⟨p0,p1,q0,q1,f0,f1,-⟩:=H1.out.op
 have HL3:=Hd (fun(u:World) (hu:Below w3.heap.size w3 u)=>L3.below hu)
 clear L3 b3
 go_wp2_with (at_builtin;refine Z3x rfl _ _ rfl w1.heap.size _ _ [x] xs rfl (HL3.out _ (by go_grown)) rfl (HR.out.below (H1.out.B)) (by first|omega|(simp;done)|(simp;omega)) (by omega) ?_)
 intro ao4 c4 w4 L4 b4
 have L4:LR w1.heap.size w4 (.slice ao4 _ c4) ([x]++xs):=L4
 try simp only[List.nil_append]
 clear p0 p1 q0 q1 f0 f1
 have zz4:=(Below.trans (by go_grown) b4:Below w1.heap.size w3 w4).size
 replace H1:=Hd (H1.out.next (Below.trans (by go_grown) b4) (by omega))
 obtain⟨p0,p1,q0,q1,f0,f1,-⟩:=H1.out.op
 have HL4:=Hd (fun(u:World) (hu:Below w4.heap.size w4 u)=>L4.below hu)
 clear L4 b4
 go_wp2
 generalize hF:World.setCell _ _ _=wf
 obtain⟨r0,r1,K,BF⟩:=H1.out.fin hF
 refine bodyPost_ret (v:=.tuple #[.slice ao4 (xs.length+1) c4,.agg #[.int .u8 1,.int .i32 0]]) (by simp[results,Tryz.results27,go_sem,r0,r1]) rfl ⟨_,by first|rfl|simp,(Zeb (HL4.out _ (Brf _ _)) K),BF⟩
theorem Zig (hR:R32 w v xs) (hn:xs.length<1000000) (h1:1<=most) (h2:most<=1000) (hk:k=2) (hm:(xs.length:Int)<most):Calls Tryz.prog 27 #[.int .i64 most,v,.agg #[.int .u8 k,.int .i32 x]] w fun e w'=>Z2f w w' e (Z07 most xs (k,x)):=by
 have e:Z07 most xs (k,x)=(xs++ [x],(1,0)):=by unfold Z07;simp[hk];omega
 rw[e]
 unfold Z2f
 subst hk
 clear e
 obtain⟨ao,cap,rfl⟩:=hR.shape
 have HR:=Hd hR
 clear hR
 have hn':(xs.length:Int)<=1000000:=by omega
 go_enter Tryz.func27,Tryz.ntmps27
 go_wp2_with fail
 generalize hW:World.alloc (World.alloc _ _) _=w1
 have H1:=Hd (Rb.of hW)
 clear hW
 obtain⟨p0,p1,q0,q1,f0,f1,z1⟩:=H1.out.op
 refine(Z15 w1 most h1 h2).mono ?_
 rintro e w2 ⟨rfl,rfl⟩
 go_wp2_with (at_builtin;refine Z3x rfl _ _ rfl w1.heap.size _ _ [] xs rfl (World.ownsRow_nil _ _ _ _) rfl (HR.out.below (H1.out.B)) (by first|omega|(simp;done)|(simp;omega)) (by omega) ?_)
 intro ao3 c3 w3 L3 b3
 have L3:LR w1.heap.size w3 (.slice ao3 _ c3) (xs):=L3
 try simp only[List.nil_append]
 clear p0 p1 q0 q1 f0 f1
 have zz3:=(Below.trans (by go_grown) b3:Below w1.heap.size w1 w3).size
 replace H1:=Hd (H1.out.next (Below.trans (by go_grown) b3) (by omega))
 obtain⟨p0,p1,q0,q1,f0,f1,-⟩:=H1.out.op
 have HL3:=Hd (fun(u:World) (hu:Below w3.heap.size w3 u)=>L3.below hu)
 clear L3 b3
 go_wp2_with (at_builtin;refine Z3x rfl _ _ rfl w1.heap.size _ _ xs [x] rfl (HL3.out _ (by go_grown)) rfl (Z3c (vs:= [x]) (Han _ _) rfl (by omega)) (by first|omega|(simp;done)|(simp;omega)) (by first|omega|(simp;done)|(simp;omega)) ?_)
 intro ao4 c4 w4 L4 b4
 have L4:LR w1.heap.size w4 (.slice ao4 _ c4) (xs++ [x]):=L4
 try simp only[List.nil_append]
 clear p0 p1 q0 q1 f0 f1
 have zz4:=(Below.trans (by go_grown) b4:Below w1.heap.size w3 w4).size
 replace H1:=Hd (H1.out.next (Below.trans (by go_grown) b4) (by omega))
 obtain⟨p0,p1,q0,q1,f0,f1,-⟩:=H1.out.op
 have HL4:=Hd (fun(u:World) (hu:Below w4.heap.size w4 u)=>L4.below hu)
 clear L4 b4
 go_wp2
 generalize hF:World.setCell _ _ _=wf
 obtain⟨r0,r1,K,BF⟩:=H1.out.fin hF
 refine bodyPost_ret (v:=.tuple #[.slice ao4 (xs.length+1) c4,.agg #[.int .u8 1,.int .i32 0]]) (by simp[results,Tryz.results27,go_sem,r0,r1]) rfl ⟨_,by first|rfl|simp,(Zeb (HL4.out _ (Brf _ _)) K),BF⟩
end
section
variable (w:World) (v:Value) (most x y:Int) (ys:List Int)
theorem Zih (hR:R32 w v (ys++ [y])) (hn:ys.length<900000) (h1:1<=most) (h2:most<=1000):Calls Tryz.prog 27 #[.int .i64 most,v,.agg #[.int .u8 4,.int .i32 x]] w fun e w'=>Z2f w w' e (ys,(2,y)):=by
 unfold Z2f
 obtain⟨g,cap,cur,rfl,hg,hcs,hle,hc,-⟩:=hR.pos (by simp)
 have hgz:=hR.lt (g:=g) rfl
 have hll:(ys++ [y]).length=ys.length+1:=by simp
 have cy:=hc ys.length (by simp)
 rw[show(ys++ [y]).getD ys.length 0=y by simp]at cy
 rw[hll]at hle |-
 obtain⟨n,hnn⟩:∃n,ys.length=n:=⟨_,rfl⟩
 have HT:=Hd (show R32 w (.slice (some ⟨g,0,none⟩) n cap) ys from by have h1:=R32.take (A:=n) hR (by simp;omega);rw[<-hnn,List.take_left,hnn]at h1;exact h1)
 have HN:=Hd hnn
 rw[hnn]at cy hle hn |-
 have zc:(n:Int)<=(cap:Int):=by omega
 have zn:(n:Int)<=1000000:=by omega
 have z0:(0:Int)<=(n:Int):=by omega
 have zw:IntKind.i64.wrap (n:Int)=(n:Int):=I6n _ (by omega)
 have zcn:n<=cap:=by omega
 clear hR hc hg hcs hll hnn
 go_enter Tryz.func27,Tryz.ntmps27
 go_wp2_with fail
 generalize hW:World.alloc (World.alloc _ _) _=w1
 have H1:=Hd (Rb.of hW)
 clear hW
 obtain⟨p0,p1,q0,q1,f0,f1,z1⟩:=H1.out.op
 refine(Z15 w1 most h1 h2).mono ?_
 rintro e w2 ⟨rfl,rfl⟩
 go_wp2_with (at_builtin;refine Z3x rfl _ _ rfl w1.heap.size _ _ [] ys rfl (World.ownsRow_nil _ _ _ _) rfl (HT.out.below H1.out.B) (by have:=HN.out;simp;omega) (by omega) ?_)
 intro ao3 c3 w3 L3 b3
 have L3:LR w1.heap.size w3 (.slice ao3 _ c3) (ys):=L3
 try simp only[List.nil_append]
 clear p0 p1 q0 q1 f0 f1
 have zz3:=(Below.trans (by go_grown) b3:Below w1.heap.size w1 w3).size
 replace H1:=Hd (H1.out.next (Below.trans (by go_grown) b3) (by omega))
 obtain⟨p0,p1,q0,q1,f0,f1,-⟩:=H1.out.op
 have HL3:=Hd (fun(u:World) (hu:Below w3.heap.size w3 u)=>L3.below hu)
 clear L3 b3
 rw[HN.out]at HL3 |-
 have cy3:=(Below.cell (p:=⟨g,n,none⟩) H1.out.B hgz).trans cy
 have hg3:g<w3.heap.size:=by have:=H1.out.B.size;omega
 have z3:w.heap.size+1<w3.heap.size:=by omega
 clear cy
 go_wp2_with fail
 go_region
 all_goals
  go_wp2
  generalize hF:World.setCell _ _ _=wf
  obtain⟨r0,r1,K,BF⟩:=H1.out.finD hF
  refine bodyPost_ret (v:=.tuple #[.slice ao3 n c3,.agg #[.int .u8 2,.int .i32 y]]) (by simp[results,Tryz.results27,go_sem,r0,r1]) rfl ⟨_,by first|rfl|simp,(Zeb (HL3.out _ (Brf _ _)) K),BF⟩
theorem Zej (hR:R32 w v (y::ys)) (hn:ys.length<900000) (h1:1<=most) (h2:most<=1000):Calls Tryz.prog 27 #[.int .i64 most,v,.agg #[.int .u8 3,.int .i32 x]] w fun e w'=>Z2f w w' e (ys,(2,y)):=by
 unfold Z2f
 obtain⟨g,cap,cur,rfl,hg,hcs,hle,hc,-⟩:=hR.pos (by simp)
 have hgz:=hR.lt (g:=g) rfl
 have hll:(y::ys).length=ys.length+1:=by simp
 have cy:=hc 0 (by simp)
 rw[show(y::ys).getD 0 0=y by simp]at cy
 rw[hll]at hle |-
 obtain⟨n,hnn⟩:∃n,ys.length=n:=⟨_,rfl⟩
 have HT:=Hd (fun(u:World) (hu:Below w.heap.size w u)=>R32.cellsFrom (hR.below hu) 1)
 have HN:=Hd hnn
 rw[hnn]at hle hn |-
 have zc:(n:Int)+1<=(cap:Int):=by omega
 have zn:(n:Int)<=1000000:=by omega
 have z0:(0:Int)<=(n:Int):=by omega
 have zcn:n+1<=cap:=by omega
 clear hR hc hg hcs hll hnn
 by_cases hc1:cap=1
 ·obtain rfl:ys= []:=Lnl (by have:=HN.out;omega)
  obtain rfl:n=0:=by omega
  subst hc1
  clear HT HN
  go_enter Tryz.func27,Tryz.ntmps27
  go_wp2_with fail
  generalize hW:World.alloc (World.alloc _ _) _=w1
  have H1:=Hd (Rb.of hW)
  clear hW
  obtain⟨p0,p1,q0,q1,f0,f1,z1⟩:=H1.out.op
  refine(Z15 w1 most h1 h2).mono ?_
  rintro e w2 ⟨rfl,rfl⟩
  go_wp2_with (at_builtin;refine Z74 rfl _ _ rfl w1.heap.size _ [] [] g 0 0 _ rfl (World.ownsRow_nil _ _ _ _) rfl rfl (fun j u hj=>by simp at hj) (by simp) (by omega) ?_)
  intro ao3 c3 w3 L3 b3
  have L3:LR w1.heap.size w3 (.slice ao3 _ c3) (([]:List Int)):=L3
  try simp only[List.nil_append]
  clear p0 p1 q0 q1 f0 f1
  have zz3:=(Below.trans (by go_grown) b3:Below w1.heap.size w1 w3).size
  replace H1:=Hd (H1.out.next (Below.trans (by go_grown) b3) (by omega))
  obtain⟨p0,p1,q0,q1,f0,f1,-⟩:=H1.out.op
  have HL3:=Hd (fun(u:World) (hu:Below w3.heap.size w3 u)=>L3.below hu)
  clear L3 b3
  have cy3:=(Below.cell (p:=⟨g,0,none⟩) H1.out.B hgz).trans cy
  have hg3:g<w3.heap.size:=by have:=H1.out.B.size;omega
  have z3:w.heap.size+1<w3.heap.size:=by omega
  clear cy
  go_wp2_with fail
  go_region
  all_goals
   go_wp2
   generalize hF:World.setCell _ _ _=wf
   obtain⟨r0,r1,K,BF⟩:=H1.out.finD hF
   refine bodyPost_ret (v:=.tuple #[.slice ao3 0 c3,.agg #[.int .u8 2,.int .i32 y]]) (by simp[results,Tryz.results27,go_sem,r0,r1]) rfl ⟨_,by first|rfl|simp,(Zeb (HL3.out _ (Brf _ _)) K),BF⟩
 ·have hc2:1<cap:=by omega
  have hc3:(1:Int)<(cap:Int):=by omega
  go_enter Tryz.func27,Tryz.ntmps27
  go_wp2_with fail
  generalize hW:World.alloc (World.alloc _ _) _=w1
  have H1:=Hd (Rb.of hW)
  clear hW
  obtain⟨p0,p1,q0,q1,f0,f1,z1⟩:=H1.out.op
  refine(Z15 w1 most h1 h2).mono ?_
  rintro e w2 ⟨rfl,rfl⟩
  go_wp2_with (at_builtin;refine Z74 rfl _ _ rfl w1.heap.size _ [] (y::ys) g 1 n _ rfl (World.ownsRow_nil _ _ _ _) rfl (by have:=HN.out;simp;omega) (HT.out _ H1.out.B) (by have:=HN.out;simp;omega) (by omega) ?_)
  intro ao3 c3 w3 L3 b3
  have L3:LR w1.heap.size w3 (.slice ao3 _ c3) (ys):=L3
  try simp only[List.nil_append]
  clear p0 p1 q0 q1 f0 f1
  have zz3:=(Below.trans (by go_grown) b3:Below w1.heap.size w1 w3).size
  replace H1:=Hd (H1.out.next (Below.trans (by go_grown) b3) (by omega))
  obtain⟨p0,p1,q0,q1,f0,f1,-⟩:=H1.out.op
  have HL3:=Hd (fun(u:World) (hu:Below w3.heap.size w3 u)=>L3.below hu)
  clear L3 b3
  rw[HN.out]at HL3 |-
  have cy3:=(Below.cell (p:=⟨g,0,none⟩) H1.out.B hgz).trans cy
  have hg3:g<w3.heap.size:=by have:=H1.out.B.size;omega
  have z3:w.heap.size+1<w3.heap.size:=by omega
  clear cy
  go_wp2_with fail
  go_region
  all_goals
   go_wp2
   generalize hF:World.setCell _ _ _=wf
   obtain⟨r0,r1,K,BF⟩:=H1.out.finD hF
   refine bodyPost_ret (v:=.tuple #[.slice ao3 n c3,.agg #[.int .u8 2,.int .i32 y]]) (by simp[results,Tryz.results27,go_sem,r0,r1]) rfl ⟨_,by first|rfl|simp,(Zeb (HL3.out _ (Brf _ _)) K),BF⟩
end
theorem Zqd (w:World) (v:Value) (most k x:Int) (xs:List Int) (hR:R32 w v xs) (hn:xs.length<900000) (h1:1<=most) (h2:most<=1000):Calls Tryz.prog 27 #[.int .i64 most,v,.agg #[.int .u8 k,.int .i32 x]] w fun e w'=>Z2f w w' e (Z07 most xs (k,x)):=by
 by_cases e0:k<1
 ·exact Zie w v most k x xs hR (by omega) h1 h2 e0
 by_cases e9:4<k
 ·exact Zif w v most k x xs hR (by omega) h1 h2 e9
 by_cases e1:k=1
 ·by_cases hm:most<=(xs.length:Int)
  ·exact Zee w v most k x xs hR (by omega) h1 h2 e1 hm
  ·exact Zei w v most k x xs hR (by omega) h1 h2 e1 (by omega)
 by_cases e2:k=2
 ·by_cases hm:most<=(xs.length:Int)
  ·exact Zef w v most k x xs hR (by omega) h1 h2 e2 hm
  ·exact Zig w v most k x xs hR (by omega) h1 h2 e2 (by omega)
 by_cases e3:k=3
 ·by_cases hm:xs.length=0
  ·exact Zeg w v most k x xs hR (by omega) h1 h2 e3 hm
  ·subst e3
   match xs,hR,hn,hm with
   | [],_,_,hm=>exact absurd rfl hm
   |y::ys,hR,hn,_=>
    have e:Z07 most (y::ys) (3,x)=(ys,(2,y)):=by unfold Z07;simp
    rw[e]
    exact Zej w v most x y ys hR (by simp at hn;omega) h1 h2
 have e4:k=4:=by omega
 by_cases hm:xs.length=0
 ·exact Zeh w v most k x xs hR (by omega) h1 h2 e4 hm
 ·have hne:xs≠[]:=fun h=>hm (by rw[h];rfl)
  obtain⟨ys,y,rfl⟩:∃ys y,xs=ys++ [y]:=⟨xs.dropLast,xs.getLast hne,(List.dropLast_concat_getLast hne).symm⟩
  subst e4
  have e:Z07 most (ys++ [y]) (4,x)=(ys,(2,y)):=by unfold Z07;simp
  rw[e]
  exact Zih w v most x y ys hR (by simp at hn;omega) h1 h2
section
variable (w:World) (v:Value) (most k x:Int) (xs:List Int)
theorem Zii (hR:R32 w v xs) (hn:xs.length<900000) (h1:1<=most) (h2:most<=1000) (hk:k=1) (hm:most<=(xs.length:Int)):Calls Tryz.prog 28 #[.int .i64 most,v,.agg #[.int .u8 k,.int .i32 x]] w fun e w'=>Z2f w w' e (Z0u most xs (k,x)):=by
 have e:Z0u most xs (k,x)=(xs,(3,0)):=by unfold Z0u;simp[hk,hm]
 rw[e]
 unfold Z2f
 subst hk
 clear e
 obtain⟨ao,cap,rfl⟩:=hR.shape
 have HR:=Hd hR
 clear hR
 have hn':(xs.length:Int)<=1000000:=by omega
 go_enter Tryz.func28,Tryz.ntmps28
 go_wp2_with fail
 generalize hW:World.alloc (World.alloc _ _) _=w1
 have H1:=Hd (Rb.of hW)
 clear hW
 obtain⟨p0,p1,q0,q1,f0,f1,z1⟩:=H1.out.op
 refine(Z15 w1 most h1 h2).mono ?_
 rintro e w2 ⟨rfl,rfl⟩
 go_wp2
 generalize hF:World.setCell _ _ _=wf
 obtain⟨r0,r1,K,BF⟩:=H1.out.fin hF
 refine bodyPost_ret (v:=.tuple #[.slice ao xs.length cap,.agg #[.int .u8 3,.int .i32 0]]) (by simp[results,Tryz.results28,go_sem,r0,r1]) rfl ⟨_,by first|rfl|simp,(Zea (HR.out.below H1.out.B) K),BF⟩
theorem Zij (hR:R32 w v xs) (hn:xs.length<900000) (h1:1<=most) (h2:most<=1000) (hk:k=2) (hm:xs.length=0):Calls Tryz.prog 28 #[.int .i64 most,v,.agg #[.int .u8 k,.int .i32 x]] w fun e w'=>Z2f w w' e (Z0u most xs (k,x)):=by
 have e:Z0u most xs (k,x)=(xs,(4,0)):=by unfold Z0u;simp[hk,hm]
 rw[e]
 unfold Z2f
 subst hk
 clear e
 obtain⟨ao,cap,rfl⟩:=hR.shape
 have HR:=Hd hR
 clear hR
 have hn':(xs.length:Int)<=1000000:=by omega
 go_enter Tryz.func28,Tryz.ntmps28
 go_upto_region 1 with fail
 generalize hW:World.alloc (World.alloc _ _) _=w1
 have H1:=Hd (Rb.of hW)
 clear hW
 obtain⟨p0,p1,q0,q1,f0,f1,z1⟩:=H1.out.op
 go_wp2
 generalize hF:World.setCell _ _ _=wf
 obtain⟨r0,r1,K,BF⟩:=H1.out.fin hF
 refine bodyPost_ret (v:=.tuple #[.slice ao xs.length cap,.agg #[.int .u8 4,.int .i32 0]]) (by simp[results,Tryz.results28,go_sem,r0,r1]) rfl ⟨_,by first|rfl|simp,(Zea (HR.out.below H1.out.B) K),BF⟩
theorem Zks (hR:R32 w v xs) (hn:xs.length<900000) (h1:1<=most) (h2:most<=1000) (hk:k≠1) (hm:k≠2):Calls Tryz.prog 28 #[.int .i64 most,v,.agg #[.int .u8 k,.int .i32 x]] w fun e w'=>Z2f w w' e (Z0u most xs (k,x)):=by
 have e:Z0u most xs (k,x)=(xs,(5,0)):=by unfold Z0u;simp[hk,hm]
 rw[e]
 unfold Z2f
 skip
 clear e
 obtain⟨ao,cap,rfl⟩:=hR.shape
 have HR:=Hd hR
 clear hR
 have hn':(xs.length:Int)<=1000000:=by omega
 go_enter Tryz.func28,Tryz.ntmps28
 go_upto_region 1 with fail
 generalize hW:World.alloc (World.alloc _ _) _=w1
 have H1:=Hd (Rb.of hW)
 clear hW
 obtain⟨p0,p1,q0,q1,f0,f1,z1⟩:=H1.out.op
 go_wp2
 generalize hF:World.setCell _ _ _=wf
 obtain⟨r0,r1,K,BF⟩:=H1.out.fin hF
 refine bodyPost_ret (v:=.tuple #[.slice ao xs.length cap,.agg #[.int .u8 5,.int .i32 0]]) (by simp[results,Tryz.results28,go_sem,r0,r1]) rfl ⟨_,by first|rfl|simp,(Zea (HR.out.below H1.out.B) K),BF⟩
end
theorem Zek (w:World) (v:Value) (most x y:Int) (ys:List Int) (hR:R32 w v (y::ys)) (hn:ys.length<900000) (h1:1<=most) (h2:most<=1000):Calls Tryz.prog 28 #[.int .i64 most,v,.agg #[.int .u8 2,.int .i32 x]] w fun e w'=>Z2f w w' e (ys,(2,y)):=by
 unfold Z2f
 obtain⟨g,cap,cur,rfl,hg,hcs,hle,hc,-⟩:=hR.pos (by simp)
 have hgz:=hR.lt (g:=g) rfl
 have hll:(y::ys).length=ys.length+1:=by simp
 have cy:=hc 0 (by simp)
 rw[show(y::ys).getD 0 0=y by simp]at cy
 rw[hll]at hle |-
 obtain⟨n,hnn⟩:∃n,ys.length=n:=⟨_,rfl⟩
 have HT:=Hd (fun(u:World) (hu:Below w.heap.size w u)=>R32.cellsFrom (hR.below hu) 1)
 have HN:=Hd hnn
 rw[hnn]at hle hn |-
 have zc:(n:Int)+1<=(cap:Int):=by omega
 have zn:(n:Int)<=1000000:=by omega
 have z0:(0:Int)<=(n:Int):=by omega
 have zcn:n+1<=cap:=by omega
 clear hR hc hg hcs hll hnn
 by_cases hc1:cap=1
 ·obtain rfl:ys= []:=Lnl (by have:=HN.out;omega)
  obtain rfl:n=0:=by omega
  subst hc1
  clear HT HN
  go_enter Tryz.func28,Tryz.ntmps28
  go_upto_region 1 with fail
  generalize hW:World.alloc (World.alloc _ _) _=w1
  have H1:=Hd (Rb.of hW)
  clear hW
  obtain⟨p0,p1,q0,q1,f0,f1,z1⟩:=H1.out.op
  go_wp2_with (at_builtin;refine Z74 rfl _ _ rfl w1.heap.size _ [] [] g 0 0 _ rfl (World.ownsRow_nil _ _ _ _) rfl rfl (fun j u hj=>by simp at hj) (by simp) (by omega) ?_)
  intro ao3 c3 w3 L3 b3
  have L3:LR w1.heap.size w3 (.slice ao3 _ c3) (([]:List Int)):=L3
  try simp only[List.nil_append]
  clear p0 p1 q0 q1 f0 f1
  have zz3:=(Below.trans (by go_grown) b3:Below w1.heap.size w1 w3).size
  replace H1:=Hd (H1.out.next (Below.trans (by go_grown) b3) (by omega))
  obtain⟨p0,p1,q0,q1,f0,f1,-⟩:=H1.out.op
  have HL3:=Hd (fun(u:World) (hu:Below w3.heap.size w3 u)=>L3.below hu)
  clear L3 b3
  have cy3:=(Below.cell (p:=⟨g,0,none⟩) H1.out.B hgz).trans cy
  have hg3:g<w3.heap.size:=by have:=H1.out.B.size;omega
  have z3:w.heap.size+1<w3.heap.size:=by omega
  clear cy
  go_wp2_with fail
  go_region
  all_goals
   go_wp2
   generalize hF:World.setCell _ _ _=wf
   obtain⟨r0,r1,K,BF⟩:=H1.out.finD hF
   refine bodyPost_ret (v:=.tuple #[.slice ao3 0 c3,.agg #[.int .u8 2,.int .i32 y]]) (by simp[results,Tryz.results28,go_sem,r0,r1]) rfl ⟨_,by first|rfl|simp,(Zeb (HL3.out _ (Brf _ _)) K),BF⟩
 ·have hc2:1<cap:=by omega
  have hc3:(1:Int)<(cap:Int):=by omega
  go_enter Tryz.func28,Tryz.ntmps28
  go_upto_region 1 with fail
  generalize hW:World.alloc (World.alloc _ _) _=w1
  have H1:=Hd (Rb.of hW)
  clear hW
  obtain⟨p0,p1,q0,q1,f0,f1,z1⟩:=H1.out.op
  go_wp2_with (at_builtin;refine Z74 rfl _ _ rfl w1.heap.size _ [] (y::ys) g 1 n _ rfl (World.ownsRow_nil _ _ _ _) rfl (by have:=HN.out;simp;omega) (HT.out _ H1.out.B) (by have:=HN.out;simp;omega) (by omega) ?_)
  intro ao3 c3 w3 L3 b3
  have L3:LR w1.heap.size w3 (.slice ao3 _ c3) (ys):=L3
  try simp only[List.nil_append]
  clear p0 p1 q0 q1 f0 f1
  have zz3:=(Below.trans (by go_grown) b3:Below w1.heap.size w1 w3).size
  replace H1:=Hd (H1.out.next (Below.trans (by go_grown) b3) (by omega))
  obtain⟨p0,p1,q0,q1,f0,f1,-⟩:=H1.out.op
  have HL3:=Hd (fun(u:World) (hu:Below w3.heap.size w3 u)=>L3.below hu)
  clear L3 b3
  rw[HN.out]at HL3 |-
  have cy3:=(Below.cell (p:=⟨g,0,none⟩) H1.out.B hgz).trans cy
  have hg3:g<w3.heap.size:=by have:=H1.out.B.size;omega
  have z3:w.heap.size+1<w3.heap.size:=by omega
  clear cy
  go_wp2_with fail
  go_region
  all_goals
   go_wp2
   generalize hF:World.setCell _ _ _=wf
   obtain⟨r0,r1,K,BF⟩:=H1.out.finD hF
   refine bodyPost_ret (v:=.tuple #[.slice ao3 n c3,.agg #[.int .u8 2,.int .i32 y]]) (by simp[results,Tryz.results28,go_sem,r0,r1]) rfl ⟨_,by first|rfl|simp,(Zeb (HL3.out _ (Brf _ _)) K),BF⟩
theorem Z98 (x:Int):∀(xs:List Int) (p:Nat),p<=xs.length->(∀j,j<p->xs.getD j 0<=x)->(p<xs.length->x<xs.getD p 0)->Z5t x xs=xs.take p++x::xs.drop p
 | [],p,hp,_,_=>by simp at hp;subst hp;rfl
 |y::l,0,_,_,h=>by
  have:=h (by simp)
  have h2:x<y:=this
  unfold Z5t
  rw[if_pos h2];rfl
 |y::l,p+1,hp,hs,h=>by
  have h0:=hs 0 (by omega)
  have h1:¬x<y:=by have h2:y<=x:=h0;omega
  unfold Z5t
  rw[if_neg h1,Z98 x l p (by simpa using hp) (fun j hj=>by simpa using hs (j+1) (by omega)) (fun hq=>by simpa using h (by simpa using hq))]
  rfl
theorem Zik (w:World) (g cap n:Nat) (most x:Int) (xs:List Int) (hR:R32 w (.slice (some ⟨g,0,none⟩) n cap) xs) (hln:xs.length=n) (hle:n<=cap) (hn:n<900000) (h1:1<=most) (h2:most<=1000) (hm:(n:Int)<most):Calls Tryz.prog 28 #[.int .i64 most,.slice (some ⟨g,0,none⟩) n cap,.agg #[.int .u8 1,.int .i32 x]] w fun e w'=>Z2f w w' e (Z5t x xs,(1,0)):=by
 unfold Z2f
 have hgz:=hR.lt (g:=g) rfl
 have HT:=Hd (fun(p:Nat) (hp:p<=xs.length)=>R32.take (A:=p) hR hp)
 have HC:=Hd (fun(u:World) (hu:Below w.heap.size w u)=>R32.cellsFrom (hR.below hu))
 have HA:=Hd (fun(u:World) (hu:Below w.heap.size w u) (j:Nat) (hj:j<xs.length)=>R32.cellAt (j:=j) (hR.below hu) hj)
 have HN:=Hd hln
 have hn':(n:Int)<=1000000:=by omega
 have zn:(n:Int)<=(cap:Int):=by omega
 clear hR hln
 go_enter Tryz.func28,Tryz.ntmps28
 go_wp2_with fail
 generalize hW:World.alloc (World.alloc _ _) _=w1
 have H1:=Hd (Rb.of hW)
 clear hW
 obtain⟨p0,p1,q0,q1,f0,f1,z1⟩:=H1.out.op
 refine(Z15 w1 most h1 h2).mono ?_
 rintro e w2 ⟨rfl,rfl⟩
 have hbase:=H1.out.B.size
 go_wp2
 clear p0 p1 q0 q1 f0 f1
 go_loopw [8] (fun y wr=>∃i:Nat,i<=n/\y= .int .i64 i/\Below w1.heap.size w1 wr/\∀j,j<i->xs.getD j 0<=x) (fun y _=>n-(intOf y).toNat)
 case atStart=>exact⟨0,Nat.zero_le _,rfl,Brf _ _,fun j hj=>by omega⟩
 case round=>
  obtain⟨i,hi,rfl,hB,hs⟩:=hrel
  have zi:(0:Int)<=(i:Int):=by omega
  have zc:(i:Int)<=(cap:Int):=by omega
  have zcn:i<=cap:=by omega
  have zin:(i:Int)<=(n:Int):=by omega
  have H3:=Hd (H1.out.next hB (by omega))
  have B1:=H3.out.B
  obtain⟨p0,p1,q0,q1,f0,f1,-⟩:=H3.out.op
  have zr:=hB.size
  by_cases hlt:i<n
  ·have hlt':(i:Int)<(n:Int):=by omega
   have x1:=HA.out _ B1 i (by have:=HN.out;omega)
   obtain⟨A,hA⟩:∃A,xs.getD i 0=A:=⟨_,rfl⟩
   rw[hA]at x1
   by_cases hq:A<=x
   ·have HS:=hi3 hB hs hA
    clear hB hs hA B1
    go_wp2_with fail
    go_region
    all_goals
     go_wp2
     go_roundw
     case rel=>exact⟨i+1,by omega,by go_num,HS.out.1.trans (Below.mono (by go_grown) HS.out.1.size),fun j hj=>by
      by_cases h:j=i
      ·subst h;rw[HS.out.2.2];exact hq
      ·exact HS.out.2.1 j (by omega)⟩
     case measure=>simp[intOf];omega
   ·have hq':x<A:=by omega
    have HP:=Hd (Z98 x xs i (by have:=HN.out;omega) hs (fun _=>by rw[hA];exact hq'))
    have H1:=H3
    clear hB hs hA B1
    go_wp2_with fail
    go_region
    all_goals
     skip
     go_wp2_with (at_builtin;refine Z3x rfl _ _ rfl w1.heap.size _ _ [] (xs.take i) rfl (World.ownsRow_nil _ _ _ _) rfl ((HT.out i (by have:=HN.out;omega)).below (H1.out.B.trans (Below.mono (by go_grown) H1.out.B.size))) (by simp;omega) (by first|omega|(simp;omega)) ?_)
     intro ao3 c3 w3 L3 b3
     have L3:LR w1.heap.size w3 (.slice ao3 _ c3) (xs.take i):=L3
     try simp only[List.nil_append]
     clear p0 p1 q0 q1 f0 f1
     have zz3:=(Below.trans (by go_grown) b3:Below w1.heap.size wr w3).size
     replace H1:=Hd (H1.out.next (Below.trans (by go_grown) b3) (by omega))
     obtain⟨p0,p1,q0,q1,f0,f1,-⟩:=H1.out.op
     have HL3:=Hd (fun(u:World) (hu:Below w3.heap.size w3 u)=>L3.below hu)
     clear L3 b3
     go_wp2_with (at_builtin;refine Z3x rfl _ _ rfl w1.heap.size _ _ (xs.take i) [x] rfl (HL3.out _ (by go_grown)) rfl (Z3c (vs:= [x]) (Han _ _) rfl (by omega)) (by first|omega|(simp;done)|(simp;omega)) (by first|omega|(simp;done)|(simp;omega)) ?_)
     intro ao4 c4 w4 L4 b4
     have L4:LR w1.heap.size w4 (.slice ao4 _ c4) (xs.take i++ [x]):=L4
     try simp only[List.nil_append]
     clear p0 p1 q0 q1 f0 f1
     have zz4:=(Below.trans (by go_grown) b4:Below w1.heap.size w3 w4).size
     replace H1:=Hd (H1.out.next (Below.trans (by go_grown) b4) (by omega))
     obtain⟨p0,p1,q0,q1,f0,f1,-⟩:=H1.out.op
     have HL4:=Hd (fun(u:World) (hu:Below w4.heap.size w4 u)=>L4.below hu)
     clear L4 b4
     go_wp2_with (at_builtin;refine Z74 rfl _ _ rfl w1.heap.size _ (xs.take i++ [x]) xs g i _ _ rfl (HL4.out _ (by go_grown)) rfl (by have:=HN.out;simp;omega) (HC.out _ (H1.out.B.trans (Below.mono (by go_grown) H1.out.B.size)) i) (by have:=HN.out;simp;omega) (by first|omega|(simp;done)|(simp;omega)) ?_)
     intro ao5 c5 w5 L5 b5
     have e5:min i xs.length+(xs.length-i+1)=n+1:=by have:=HN.out;omega
     try simp only[List.append_nil,List.drop_nil]at L5 |-
     rw[e5]at L5 |-
     have L5:LR w1.heap.size w5 (.slice ao5 (n+1) c5) (Z5t x xs):=by rw[HP.out];first|exact L5|simpa using L5
     clear p0 p1 q0 q1 f0 f1
     have zz5:=(Below.trans (by go_grown) b5:Below w1.heap.size w4 w5).size
     replace H1:=Hd (H1.out.next (Below.trans (by go_grown) b5) (by omega))
     obtain⟨p0,p1,q0,q1,f0,f1,-⟩:=H1.out.op
     have HL5:=Hd (fun(u:World) (hu:Below w5.heap.size w5 u)=>L5.below hu)
     clear L5 b5
     go_wp2
     generalize hF:World.setCell _ _ _=wf
     obtain⟨r0,r1,K,BF⟩:=H1.out.fin hF
     refine bodyPost_ret (v:=.tuple #[.slice ao5 (n+1) c5,.agg #[.int .u8 1,.int .i32 0]]) (by simp[results,Tryz.results28,go_sem,r0,r1]) rfl ⟨_,by first|rfl|simp,(Zeb (HL5.out _ (Brf _ _)) K),BF⟩
  ·obtain rfl:i=n:=by omega
   have HP:=Hd (Z98 x xs i (by have:=HN.out;omega) hs (fun h=>by have:=HN.out;omega))
   have H1:=H3
   clear hB hs B1
   by_cases hcn:cap=i
   ·subst hcn
    go_wp2_with fail
    go_region
    all_goals
     skip
     go_wp2_with (at_builtin;refine Z3x rfl _ _ rfl w1.heap.size _ _ [] (xs.take cap) rfl (World.ownsRow_nil _ _ _ _) rfl ((HT.out cap (by have:=HN.out;omega)).below (H1.out.B.trans (Below.mono (by go_grown) H1.out.B.size))) (by simp;omega) (by first|omega|(simp;omega)) ?_)
     intro ao3 c3 w3 L3 b3
     have L3:LR w1.heap.size w3 (.slice ao3 _ c3) (xs.take cap):=L3
     try simp only[List.nil_append]
     clear p0 p1 q0 q1 f0 f1
     have zz3:=(Below.trans (by go_grown) b3:Below w1.heap.size wr w3).size
     replace H1:=Hd (H1.out.next (Below.trans (by go_grown) b3) (by omega))
     obtain⟨p0,p1,q0,q1,f0,f1,-⟩:=H1.out.op
     have HL3:=Hd (fun(u:World) (hu:Below w3.heap.size w3 u)=>L3.below hu)
     clear L3 b3
     go_wp2_with (at_builtin;refine Z3x rfl _ _ rfl w1.heap.size _ _ (xs.take cap) [x] rfl (HL3.out _ (by go_grown)) rfl (Z3c (vs:= [x]) (Han _ _) rfl (by omega)) (by first|omega|(simp;done)|(simp;omega)) (by first|omega|(simp;done)|(simp;omega)) ?_)
     intro ao4 c4 w4 L4 b4
     have L4:LR w1.heap.size w4 (.slice ao4 _ c4) (xs.take cap++ [x]):=L4
     try simp only[List.nil_append]
     clear p0 p1 q0 q1 f0 f1
     have zz4:=(Below.trans (by go_grown) b4:Below w1.heap.size w3 w4).size
     replace H1:=Hd (H1.out.next (Below.trans (by go_grown) b4) (by omega))
     obtain⟨p0,p1,q0,q1,f0,f1,-⟩:=H1.out.op
     have HL4:=Hd (fun(u:World) (hu:Below w4.heap.size w4 u)=>L4.below hu)
     clear L4 b4
     go_wp2_with (at_builtin;refine Z74 rfl _ _ rfl w1.heap.size _ (xs.take cap++ [x]) [] g 0 0 _ rfl (HL4.out _ (by go_grown)) rfl rfl (fun j u hj=>by simp at hj) (by have:=HN.out;simp;omega) (by first|omega|(simp;done)|(simp;omega)) ?_)
     intro ao5 c5 w5 L5 b5
     have e5:min cap xs.length+1=cap+1:=by have:=HN.out;omega
     try simp only[List.append_nil,List.drop_nil]at L5 |-
     rw[e5]at L5 |-
     have L5:LR w1.heap.size w5 (.slice ao5 (cap+1) c5) (Z5t x xs):=by rw[HP.out,List.drop_eq_nil_of_le (show xs.length<=cap by have:=HN.out;omega)];first|exact L5|simpa using L5
     clear p0 p1 q0 q1 f0 f1
     have zz5:=(Below.trans (by go_grown) b5:Below w1.heap.size w4 w5).size
     replace H1:=Hd (H1.out.next (Below.trans (by go_grown) b5) (by omega))
     obtain⟨p0,p1,q0,q1,f0,f1,-⟩:=H1.out.op
     have HL5:=Hd (fun(u:World) (hu:Below w5.heap.size w5 u)=>L5.below hu)
     clear L5 b5
     go_wp2
     generalize hF:World.setCell _ _ _=wf
     obtain⟨r0,r1,K,BF⟩:=H1.out.fin hF
     refine bodyPost_ret (v:=.tuple #[.slice ao5 (cap+1) c5,.agg #[.int .u8 1,.int .i32 0]]) (by simp[results,Tryz.results28,go_sem,r0,r1]) rfl ⟨_,by first|rfl|simp,(Zeb (HL5.out _ (Brf _ _)) K),BF⟩
   ·have hcn1:i<cap:=by omega
    have hcn2:(i:Int)<(cap:Int):=by omega
    go_wp2_with fail
    go_region
    all_goals
     skip
     go_wp2_with (at_builtin;refine Z3x rfl _ _ rfl w1.heap.size _ _ [] (xs.take i) rfl (World.ownsRow_nil _ _ _ _) rfl ((HT.out i (by have:=HN.out;omega)).below (H1.out.B.trans (Below.mono (by go_grown) H1.out.B.size))) (by simp;omega) (by first|omega|(simp;omega)) ?_)
     intro ao3 c3 w3 L3 b3
     have L3:LR w1.heap.size w3 (.slice ao3 _ c3) (xs.take i):=L3
     try simp only[List.nil_append]
     clear p0 p1 q0 q1 f0 f1
     have zz3:=(Below.trans (by go_grown) b3:Below w1.heap.size wr w3).size
     replace H1:=Hd (H1.out.next (Below.trans (by go_grown) b3) (by omega))
     obtain⟨p0,p1,q0,q1,f0,f1,-⟩:=H1.out.op
     have HL3:=Hd (fun(u:World) (hu:Below w3.heap.size w3 u)=>L3.below hu)
     clear L3 b3
     go_wp2_with (at_builtin;refine Z3x rfl _ _ rfl w1.heap.size _ _ (xs.take i) [x] rfl (HL3.out _ (by go_grown)) rfl (Z3c (vs:= [x]) (Han _ _) rfl (by omega)) (by first|omega|(simp;done)|(simp;omega)) (by first|omega|(simp;done)|(simp;omega)) ?_)
     intro ao4 c4 w4 L4 b4
     have L4:LR w1.heap.size w4 (.slice ao4 _ c4) (xs.take i++ [x]):=L4
     try simp only[List.nil_append]
     clear p0 p1 q0 q1 f0 f1
     have zz4:=(Below.trans (by go_grown) b4:Below w1.heap.size w3 w4).size
     replace H1:=Hd (H1.out.next (Below.trans (by go_grown) b4) (by omega))
     obtain⟨p0,p1,q0,q1,f0,f1,-⟩:=H1.out.op
     have HL4:=Hd (fun(u:World) (hu:Below w4.heap.size w4 u)=>L4.below hu)
     clear L4 b4
     go_wp2_with (at_builtin;refine Z74 rfl _ _ rfl w1.heap.size _ (xs.take i++ [x]) xs g i _ _ rfl (HL4.out _ (by go_grown)) rfl (by have:=HN.out;simp;omega) (HC.out _ (H1.out.B.trans (Below.mono (by go_grown) H1.out.B.size)) i) (by have:=HN.out;simp;omega) (by first|omega|(simp;done)|(simp;omega)) ?_)
     intro ao5 c5 w5 L5 b5
     have e5:min i xs.length+(xs.length-i+1)=i+1:=by have:=HN.out;omega
     try simp only[List.append_nil,List.drop_nil]at L5 |-
     rw[e5]at L5 |-
     have L5:LR w1.heap.size w5 (.slice ao5 (i+1) c5) (Z5t x xs):=by rw[HP.out];first|exact L5|simpa using L5
     clear p0 p1 q0 q1 f0 f1
     have zz5:=(Below.trans (by go_grown) b5:Below w1.heap.size w4 w5).size
     replace H1:=Hd (H1.out.next (Below.trans (by go_grown) b5) (by omega))
     obtain⟨p0,p1,q0,q1,f0,f1,-⟩:=H1.out.op
     have HL5:=Hd (fun(u:World) (hu:Below w5.heap.size w5 u)=>L5.below hu)
     clear L5 b5
     go_wp2
     generalize hF:World.setCell _ _ _=wf
     obtain⟨r0,r1,K,BF⟩:=H1.out.fin hF
     refine bodyPost_ret (v:=.tuple #[.slice ao5 (i+1) c5,.agg #[.int .u8 1,.int .i32 0]]) (by simp[results,Tryz.results28,go_sem,r0,r1]) rfl ⟨_,by first|rfl|simp,(Zeb (HL5.out _ (Brf _ _)) K),BF⟩
theorem Zkt (w:World) (most x:Int) (h1:1<=most) (h2:most<=1000):Calls Tryz.prog 28 #[.int .i64 most,.slice none 0 0,.agg #[.int .u8 1,.int .i32 x]] w fun e w'=>Z2f w w' e ([x],(1,0)):=by
 unfold Z2f
 have hm:(0:Int)<most:=by omega
 go_enter Tryz.func28,Tryz.ntmps28
 go_wp2_with fail
 generalize hW:World.alloc (World.alloc _ _) _=w1
 have H1:=Hd (Rb.of hW)
 clear hW
 obtain⟨p0,p1,q0,q1,f0,f1,z1⟩:=H1.out.op
 refine(Z15 w1 most h1 h2).mono ?_
 rintro e w2 ⟨rfl,rfl⟩
 have hbase:=H1.out.B.size
 go_wp2
 clear p0 p1 q0 q1 f0 f1
 go_loopw [8] (fun y wr=>y= .int .i64 0/\Below w1.heap.size w1 wr) (fun y _=>0)
 case atStart=>exact⟨rfl,Brf _ _⟩
 case round=>
  obtain⟨rfl,hB⟩:=hrel
  have H3:=Hd (H1.out.next hB (by omega))
  have B1:=H3.out.B
  obtain⟨p0,p1,q0,q1,f0,f1,-⟩:=H3.out.op
  have zr:=hB.size
  have H1:=H3
  clear hB B1
  go_wp2_with fail
  go_region
  all_goals
   skip
   go_wp2_with (at_builtin;refine Z3x rfl _ _ rfl w1.heap.size _ _ [] [] rfl (World.ownsRow_nil _ _ _ _) rfl (R32.nil _) (by first|omega|(simp;done)|(simp;omega)) (by first|omega|(simp;done)|(simp;omega)) ?_)
   intro ao3 c3 w3 L3 b3
   have L3:LR w1.heap.size w3 (.slice ao3 _ c3) (([]:List Int)):=L3
   try simp only[List.nil_append]
   clear p0 p1 q0 q1 f0 f1
   have zz3:=(Below.trans (by go_grown) b3:Below w1.heap.size wr w3).size
   replace H1:=Hd (H1.out.next (Below.trans (by go_grown) b3) (by omega))
   obtain⟨p0,p1,q0,q1,f0,f1,-⟩:=H1.out.op
   have HL3:=Hd (fun(u:World) (hu:Below w3.heap.size w3 u)=>L3.below hu)
   clear L3 b3
   go_wp2_with (at_builtin;refine Z3x rfl _ _ rfl w1.heap.size _ _ [] [x] rfl (HL3.out _ (by go_grown)) rfl (Z3c (vs:= [x]) (Han _ _) rfl (by omega)) (by first|omega|(simp;done)|(simp;omega)) (by first|omega|(simp;done)|(simp;omega)) ?_)
   intro ao4 c4 w4 L4 b4
   have L4:LR w1.heap.size w4 (.slice ao4 _ c4) ([x]):=L4
   try simp only[List.nil_append]
   clear p0 p1 q0 q1 f0 f1
   have zz4:=(Below.trans (by go_grown) b4:Below w1.heap.size w3 w4).size
   replace H1:=Hd (H1.out.next (Below.trans (by go_grown) b4) (by omega))
   obtain⟨p0,p1,q0,q1,f0,f1,-⟩:=H1.out.op
   have HL4:=Hd (fun(u:World) (hu:Below w4.heap.size w4 u)=>L4.below hu)
   clear L4 b4
   go_wp2_with (at_builtin;refine Z3x rfl _ _ rfl w1.heap.size _ _ [x] [] rfl (HL4.out _ (by go_grown)) rfl (R32.nil _) (by first|omega|(simp;done)|(simp;omega)) (by first|omega|(simp;done)|(simp;omega)) ?_)
   intro ao5 c5 w5 L5 b5
   have L5:LR w1.heap.size w5 (.slice ao5 _ c5) ([x]):=L5
   try simp only[List.nil_append]
   clear p0 p1 q0 q1 f0 f1
   have zz5:=(Below.trans (by go_grown) b5:Below w1.heap.size w4 w5).size
   replace H1:=Hd (H1.out.next (Below.trans (by go_grown) b5) (by omega))
   obtain⟨p0,p1,q0,q1,f0,f1,-⟩:=H1.out.op
   have HL5:=Hd (fun(u:World) (hu:Below w5.heap.size w5 u)=>L5.below hu)
   clear L5 b5
   go_wp2
   generalize hF:World.setCell _ _ _=wf
   obtain⟨r0,r1,K,BF⟩:=H1.out.fin hF
   refine bodyPost_ret (v:=.tuple #[.slice ao5 1 c5,.agg #[.int .u8 1,.int .i32 0]]) (by simp[results,Tryz.results28,go_sem,r0,r1]) rfl ⟨_,by first|rfl|simp,(Zeb (HL5.out _ (Brf _ _)) K),BF⟩
section
variable (w:World) (v:Value) (most k x:Int) (xs:List Int)
theorem Zqe (hR:R32 w v xs) (hn:xs.length<900000) (h1:1<=most) (h2:most<=1000):Calls Tryz.prog 28 #[.int .i64 most,v,.agg #[.int .u8 k,.int .i32 x]] w fun e w'=>Z2f w w' e (Z0u most xs (k,x)):=by
 by_cases e1:k=1
 ·by_cases hm:most<=(xs.length:Int)
  ·exact Zii w v most k x xs hR hn h1 h2 e1 hm
  ·subst e1
   have e:Z0u most xs (1,x)=(Z5t x xs,(1,0)):=by unfold Z0u;simp;omega
   rw[e]
   rcases id hR.2 with⟨rfl,h0⟩|⟨g,cap,cur,rfl,-,hg,hle,-⟩
   ·obtain rfl:xs= []:=Lnl h0
    exact Zkt w most x h1 h2
   ·exact Zik w g cap xs.length most x xs hR rfl hle (by omega) h1 h2 (by omega)
 by_cases e2:k=2
 ·by_cases hm:xs.length=0
  ·exact Zij w v most k x xs hR hn h1 h2 e2 hm
  ·subst e2
   match xs,hR,hn,hm with
   | [],_,_,hm=>exact absurd rfl hm
   |y::ys,hR,hn,_=>
    have e:Z0u most (y::ys) (2,x)=(ys,(2,y)):=by unfold Z0u;simp
    rw[e]
    exact Zek w v most x y ys hR (by simp at hn;omega) h1 h2
 ·exact Zks w v most k x xs hR hn h1 h2 e1 e2
theorem Zo6 (hR:R32 w v xs) (hn:xs.length<900000) (h1:1<=most) (h2:most<=1000):Calls Tryz.prog 9 #[.int .u8 1,.int .i64 most,v,.agg #[.int .u8 k,.int .i32 x]] w fun e w'=>Z2f w w' e (Z08 most xs (k,x)):=by
 have HR:=Hd hR
 obtain⟨ao,cap,rfl⟩:=hR.shape
 obtain⟨ys,rc,rv,hr⟩:∃ys rc rv,Z08 most xs (k,x)=(ys,(rc,rv)):=⟨_,_,_,rfl⟩
 rw[hr]
 unfold Z2f
 have HE:=Hd hr
 clear hR hr
 go_enter Tryz.func9,Tryz.ntmps9
 go_wp2_with fail
 generalize hW:World.alloc (World.alloc (World.alloc _ _) _) _=w1
 have hb1:w1.heap[w.heap.size+1]?=some (.cells #[.int .u8 0,.int .i32 0] 43 (0,0)):=by rw[<-hW];exact(Below.heap_alloc _ _ _ (by simp)).trans (Z05 _ _ _).2
 have hb2:w1.heap[w.heap.size+1+1]?=some (.cells #[.int .u8 5,.int .i32 0] 43 (0,0)):=by rw[<-hW];simpa using Han ((w.alloc (.cells #[.int .u8 k,.int .i32 x] 47 (0,0))).alloc (.cells #[.int .u8 0,.int .i32 0] 43 (0,0))) (.cells #[.int .u8 5,.int .i32 0] 43 (0,0))
 have B1:Below w.heap.size w w1:=by rw[<-hW];go_grown
 clear hW
 have z2:=(Gl hb2)
 refine(Zq2 w1 (.slice ao xs.length cap) most k x xs (HR.out.below B1) (by omega) h1 h2).mono ?_
 rintro e w2 ⟨v',rfl,R2,b2⟩
 rw[HE.out]at R2 |-
 obtain⟨va,vc,rfl⟩:=R2.shape
 have hb1:=(b2.block _ (by omega)).trans hb1
 have hb2:=(b2.block _ z2).trans hb2
 have B2:=B1.trans (b2.mono B1.size)
 have z3:=(Gl hb2)
 have hz1:w.heap.size+1<w2.heap.size:=by omega
 obtain⟨p0,p1⟩:=Z29 hb1
 obtain⟨q0,q1⟩:=Z29 hb2
 have f0:=Z06 hb1 0
 have f1:=Z06 hb1 1
 have g0:=Z06 hb2 0
 have g1:=Z06 hb2 1
 have H2:=hi4 hb1 hb2 R2 B2
 clear hb1 hb2 R2 B1 B2 b2 z2
 go_wp2_with fail
 go_region
 all_goals
  go_wp2
  have k1:=Z24 w2 (w.heap.size+1+1) (.int .u8 rc) (.int .i32 rv)
  have hb1:=(k1.block (w.heap.size+1) hz1 (fun e=>by have e2:w.heap.size+1=w.heap.size+1+1:=e;omega)).trans H2.out.1
  have q3:=Z72 hb1 (.int .u8 rc) (.int .i32 rv)
  have k2:=Z24 ((w2.setCell ⟨w.heap.size+1+1,0,none⟩ (.int .u8 rc)).setCell ⟨w.heap.size+1+1,1,none⟩ (.int .i32 rv)) (w.heap.size+1) (.int .u8 rc) (.int .i32 rv)
  have K:Z01 (fun k=>k=w.heap.size+1\/k=w.heap.size+1+1) w2 _:=(k1.mono (fun _ _ e=>.inr e)).trans (k2.mono (fun _ _ e=>.inl e))
  generalize hF:World.setCell _ _ _=wf
  rw[hF]at q3 K
  obtain⟨r0,r1⟩:=Z29 (w:=wf.drew) q3
  refine bodyPost_ret (v:=.tuple #[.slice va ys.length vc,.agg #[.int .u8 rc,.int .i32 rv]]) (by simp[results,Tryz.results9,go_sem,r0,r1]) rfl ⟨_,by first|rfl|simp,H2.out.2.2.1.kept K.drew (fun g hg e=>?_),(H2.out.2.2.2.trans (K.below H2.out.2.2.2.size (fun k h1 h2=>by have e:k=w.heap.size+1\/k=w.heap.size+1+1:=h2;omega))).drew⟩
  rcases e with e|e
  ·exact H2.out.2.2.1.noRes hg (e ▸ H2.out.1)
  ·exact H2.out.2.2.1.noRes hg (e ▸ H2.out.2.1)
theorem Zo7 (hR:R32 w v xs) (hn:xs.length<900000) (h1:1<=most) (h2:most<=1000):Calls Tryz.prog 9 #[.int .u8 2,.int .i64 most,v,.agg #[.int .u8 k,.int .i32 x]] w fun e w'=>Z2f w w' e (Z07 most xs (k,x)):=by
 have HR:=Hd hR
 obtain⟨ao,cap,rfl⟩:=hR.shape
 obtain⟨ys,rc,rv,hr⟩:∃ys rc rv,Z07 most xs (k,x)=(ys,(rc,rv)):=⟨_,_,_,rfl⟩
 rw[hr]
 unfold Z2f
 have HE:=Hd hr
 clear hR hr
 go_enter Tryz.func9,Tryz.ntmps9
 go_wp2_with fail
 generalize hW:World.alloc (World.alloc (World.alloc _ _) _) _=w1
 have hb1:w1.heap[w.heap.size+1]?=some (.cells #[.int .u8 0,.int .i32 0] 43 (0,0)):=by rw[<-hW];exact(Below.heap_alloc _ _ _ (by simp)).trans (Z05 _ _ _).2
 have hb2:w1.heap[w.heap.size+1+1]?=some (.cells #[.int .u8 5,.int .i32 0] 43 (0,0)):=by rw[<-hW];simpa using Han ((w.alloc (.cells #[.int .u8 k,.int .i32 x] 47 (0,0))).alloc (.cells #[.int .u8 0,.int .i32 0] 43 (0,0))) (.cells #[.int .u8 5,.int .i32 0] 43 (0,0))
 have B1:Below w.heap.size w w1:=by rw[<-hW];go_grown
 clear hW
 have z2:=(Gl hb2)
 refine(Zqd w1 (.slice ao xs.length cap) most k x xs (HR.out.below B1) (by omega) h1 h2).mono ?_
 rintro e w2 ⟨v',rfl,R2,b2⟩
 rw[HE.out]at R2 |-
 obtain⟨va,vc,rfl⟩:=R2.shape
 have hb1:=(b2.block _ (by omega)).trans hb1
 have hb2:=(b2.block _ z2).trans hb2
 have B2:=B1.trans (b2.mono B1.size)
 have z3:=(Gl hb2)
 have hz1:w.heap.size+1<w2.heap.size:=by omega
 obtain⟨p0,p1⟩:=Z29 hb1
 obtain⟨q0,q1⟩:=Z29 hb2
 have f0:=Z06 hb1 0
 have f1:=Z06 hb1 1
 have g0:=Z06 hb2 0
 have g1:=Z06 hb2 1
 have H2:=hi4 hb1 hb2 R2 B2
 clear hb1 hb2 R2 B1 B2 b2 z2
 go_wp2_with fail
 go_region
 all_goals
  go_wp2
  have k1:=Z24 w2 (w.heap.size+1+1) (.int .u8 rc) (.int .i32 rv)
  have hb1:=(k1.block (w.heap.size+1) hz1 (fun e=>by have e2:w.heap.size+1=w.heap.size+1+1:=e;omega)).trans H2.out.1
  have q3:=Z72 hb1 (.int .u8 rc) (.int .i32 rv)
  have k2:=Z24 ((w2.setCell ⟨w.heap.size+1+1,0,none⟩ (.int .u8 rc)).setCell ⟨w.heap.size+1+1,1,none⟩ (.int .i32 rv)) (w.heap.size+1) (.int .u8 rc) (.int .i32 rv)
  have K:Z01 (fun k=>k=w.heap.size+1\/k=w.heap.size+1+1) w2 _:=(k1.mono (fun _ _ e=>.inr e)).trans (k2.mono (fun _ _ e=>.inl e))
  generalize hF:World.setCell _ _ _=wf
  rw[hF]at q3 K
  obtain⟨r0,r1⟩:=Z29 (w:=wf.drew) q3
  refine bodyPost_ret (v:=.tuple #[.slice va ys.length vc,.agg #[.int .u8 rc,.int .i32 rv]]) (by simp[results,Tryz.results9,go_sem,r0,r1]) rfl ⟨_,by first|rfl|simp,H2.out.2.2.1.kept K.drew (fun g hg e=>?_),(H2.out.2.2.2.trans (K.below H2.out.2.2.2.size (fun k h1 h2=>by have e:k=w.heap.size+1\/k=w.heap.size+1+1:=h2;omega))).drew⟩
  rcases e with e|e
  ·exact H2.out.2.2.1.noRes hg (e ▸ H2.out.1)
  ·exact H2.out.2.2.1.noRes hg (e ▸ H2.out.2.1)
theorem Zo8 (hR:R32 w v xs) (hn:xs.length<900000) (h1:1<=most) (h2:most<=1000):Calls Tryz.prog 9 #[.int .u8 3,.int .i64 most,v,.agg #[.int .u8 k,.int .i32 x]] w fun e w'=>Z2f w w' e (Z0u most xs (k,x)):=by
 have HR:=Hd hR
 obtain⟨ao,cap,rfl⟩:=hR.shape
 obtain⟨ys,rc,rv,hr⟩:∃ys rc rv,Z0u most xs (k,x)=(ys,(rc,rv)):=⟨_,_,_,rfl⟩
 rw[hr]
 unfold Z2f
 have HE:=Hd hr
 clear hR hr
 go_enter Tryz.func9,Tryz.ntmps9
 go_wp2_with fail
 generalize hW:World.alloc (World.alloc (World.alloc _ _) _) _=w1
 have hb1:w1.heap[w.heap.size+1]?=some (.cells #[.int .u8 0,.int .i32 0] 43 (0,0)):=by rw[<-hW];exact(Below.heap_alloc _ _ _ (by simp)).trans (Z05 _ _ _).2
 have hb2:w1.heap[w.heap.size+1+1]?=some (.cells #[.int .u8 5,.int .i32 0] 43 (0,0)):=by rw[<-hW];simpa using Han ((w.alloc (.cells #[.int .u8 k,.int .i32 x] 47 (0,0))).alloc (.cells #[.int .u8 0,.int .i32 0] 43 (0,0))) (.cells #[.int .u8 5,.int .i32 0] 43 (0,0))
 have B1:Below w.heap.size w w1:=by rw[<-hW];go_grown
 clear hW
 have z2:=(Gl hb2)
 refine(Zqe w1 (.slice ao xs.length cap) most k x xs (HR.out.below B1) (by omega) h1 h2).mono ?_
 rintro e w2 ⟨v',rfl,R2,b2⟩
 rw[HE.out]at R2 |-
 obtain⟨va,vc,rfl⟩:=R2.shape
 have hb1:=(b2.block _ (by omega)).trans hb1
 have hb2:=(b2.block _ z2).trans hb2
 have B2:=B1.trans (b2.mono B1.size)
 have z3:=(Gl hb2)
 have hz1:w.heap.size+1<w2.heap.size:=by omega
 obtain⟨p0,p1⟩:=Z29 hb1
 obtain⟨q0,q1⟩:=Z29 hb2
 have f0:=Z06 hb1 0
 have f1:=Z06 hb1 1
 have g0:=Z06 hb2 0
 have g1:=Z06 hb2 1
 have H2:=hi4 hb1 hb2 R2 B2
 clear hb1 hb2 R2 B1 B2 b2 z2
 go_wp2_with fail
 go_region
 all_goals
  go_wp2
  have k1:=Z24 w2 (w.heap.size+1+1) (.int .u8 rc) (.int .i32 rv)
  have hb1:=(k1.block (w.heap.size+1) hz1 (fun e=>by have e2:w.heap.size+1=w.heap.size+1+1:=e;omega)).trans H2.out.1
  have q3:=Z72 hb1 (.int .u8 rc) (.int .i32 rv)
  have k2:=Z24 ((w2.setCell ⟨w.heap.size+1+1,0,none⟩ (.int .u8 rc)).setCell ⟨w.heap.size+1+1,1,none⟩ (.int .i32 rv)) (w.heap.size+1) (.int .u8 rc) (.int .i32 rv)
  have K:Z01 (fun k=>k=w.heap.size+1\/k=w.heap.size+1+1) w2 _:=(k1.mono (fun _ _ e=>.inr e)).trans (k2.mono (fun _ _ e=>.inl e))
  generalize hF:World.setCell _ _ _=wf
  rw[hF]at q3 K
  obtain⟨r0,r1⟩:=Z29 (w:=wf.drew) q3
  refine bodyPost_ret (v:=.tuple #[.slice va ys.length vc,.agg #[.int .u8 rc,.int .i32 rv]]) (by simp[results,Tryz.results9,go_sem,r0,r1]) rfl ⟨_,by first|rfl|simp,H2.out.2.2.1.kept K.drew (fun g hg e=>?_),(H2.out.2.2.2.trans (K.below H2.out.2.2.2.size (fun k h1 h2=>by have e:k=w.heap.size+1\/k=w.heap.size+1+1:=h2;omega))).drew⟩
  rcases e with e|e
  ·exact H2.out.2.2.1.noRes hg (e ▸ H2.out.1)
  ·exact H2.out.2.2.1.noRes hg (e ▸ H2.out.2.1)
end
theorem Zo9 (w:World) (v:Value) (ob most k x:Int) (xs:List Int) (hR:R32 w v xs) (hn:xs.length<900000) (h1:1<=most) (h2:most<=1000) (o1:1<=ob) (o2:ob<=3):Calls Tryz.prog 9 #[.int .u8 ob,.int .i64 most,v,.agg #[.int .u8 k,.int .i32 x]] w fun e w'=>Z2f w w' e (Z0d ob most xs (k,x)):=by
 by_cases e1:ob=1
 ·subst e1;rw[Z5e];exact Zo6 w v most k x xs hR hn h1 h2
 by_cases e2:ob=2
 ·subst e2;rw[Z6o];exact Zo7 w v most k x xs hR hn h1 h2
 obtain rfl:ob=3:=by omega
 rw[Z6p];exact Zo8 w v most k x xs hR hn h1 h2
end
end Go.Proofs.YtihljjgmkaeohaaGreat
