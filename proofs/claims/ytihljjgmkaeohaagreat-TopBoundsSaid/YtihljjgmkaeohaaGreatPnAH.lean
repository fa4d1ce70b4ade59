/- part 8 -/
import Derived.Test.YtihljjgmkaeohaaGreatPnAG
set_option linter.all false
set_option maxHeartbeats 16000000
set_option maxRecDepth 100000
namespace Go.Proofs.YtihljjgmkaeohaaGreat
section
open Go.RowKit Go.ChangeShapes Go.WideShapes Go.ChangeAt Go.Deep
section
variable (w:World) (g N cap a m b F p1 p2:Nat) (G:World->Prop) (C:Int->Int->Int) (κ:Int->Int) (D:Int->Prop) (xs:List Int)
theorem Zmg (hC:Z8c F p1 p2 g G C κ D) (hG:G w) (h:SoP w g N cap xs) (hD:∀x ∈ xs,D x) (hL:SR κ xs a m) (hM:SR κ xs m b) (hX:Cr xs a m b) (ham:a<m) (hmb:m<b) (hbN:b<=N) (h9:N<=1000000) (h1:m=a+1):Calls Tryz.prog 155 #[.slice (some ⟨g,0,none⟩) N cap,.int .i64 (a:Int),.int .i64 (m:Int),.int .i64 (b:Int),.func (.func F) #[] #[.pointer (some ⟨p1,0,none⟩),.pointer (some ⟨p2,0,none⟩)]] w fun en w'=>en= .returned (.tuple #[])/\∃ys,SoP w' g N cap ys/\Sw a b xs ys/\SR κ ys a b/\Z01 (fun k=>k=g) w w':=by
 have H:=hi7 h hC hG hD hL hM hX
 have ent:=hC.ent
 have w1:IntKind.i64.wrap ((m:Int)-(a:Int))=((1:Int)):=by rw[show((m:Int)-(a:Int))=((1:Int)) by omega];exact I6n _ (by omega)
 have H1:=Hd h1
 clear h hC hG hD hL hM hX h1
 go_enter Tryz.func155,Tryz.ntmps155
 go_wp2_with fail
 go_loopw [10,11] (fun k1 k2 wr=>∃(i j:Nat),m<=i/\i<=j/\j<=b/\k1= .int .i64 i/\k2= .int .i64 j/\SoP wr g N cap xs/\(i=m\/κ (at0 xs (i-1))<κ (at0 xs a))/\(j=b\/κ (at0 xs a)<=κ (at0 xs j))/\Z01 (fun k=>k=g) w wr) (fun k1 k2 _=>(intOf k2).toNat-(intOf k1).toNat)
 case atStart=>exact⟨m,b,Nat.le_refl _,by omega,Nat.le_refl _,rfl,rfl,H.out.1,.inl rfl,.inl rfl,Z01.refl _ _⟩
 case round=>
  obtain⟨i,j,hi,hij,hj,rfl,rfl,hS,hl,hr,hKr⟩:=hrel
  by_cases hlt:i<j
  ·have hlt':(i:Int)<(j:Int):=by omega
   obtain⟨zs,hzs⟩:∃zs,xs=zs:=⟨_,rfl⟩
   have hDz:=H.out.2.2.2.1
   rw[hzs]at hS hl hr hDz
   have HL:=hi3 hl hr hzs
   clear hl hr hzs
   obtain⟨q,hq⟩:∃q,(i+j)/2=q:=⟨_,rfl⟩
   have hq1:i<=q:=by omega
   have hq2:q<j:=by omega
   have hqq:((i:Int)+(j:Int))/2=(q:Int):=by omega
   have wq:IntKind.i64.wrap ((q:Int)+1)=(((q+1:Nat):Int)):=by rw[show((q:Int)+1)=(((q+1:Nat):Int)) by omega];exact I6n _ (by omega)
   clear hq
   have dx:=hS.Ds hDz (j:=q) (by omega)
   have dy:=hS.Ds hDz (j:=a) (by omega)
   have ci:=H.out.2.1.iff _ _ dx dy
   have cx:=hS.at_ (j:=q) (by omega)
   have cy:=hS.at_ (j:=a) (by omega)
   have zg:=hS.lt
   have zx:((q:Nat):Int)<(N:Int):=by omega
   have zy:((a:Nat):Int)<(N:Int):=by omega
   have zx0:(0:Int)<=((q:Nat):Int):=by omega
   have zy0:(0:Int)<=((a:Nat):Int):=by omega
   obtain⟨x,hx⟩:∃x,at0 zs q=x:=⟨_,rfl⟩
   obtain⟨y,hy⟩:∃y,at0 zs a=y:=⟨_,rfl⟩
   rw[hx]at cx dx ci
   rw[hy]at cy dy ci
   have cA:∀u,Below wr.heap.size wr u->Calls Tryz.prog F #[.int .i64 x,.int .i64 y,.pointer (some ⟨p1,0,none⟩),.pointer (some ⟨p2,0,none⟩)] u fun e u'=>e= .returned (.int .i64 (C x y))/\Below wr.heap.size wr u':=fun u hu=>(H.out.2.1.call u x y (H.out.2.1.keep _ _ H.out.2.2.1 (hKr.trans (Z0b hu))) dx dy).mono fun e u' ⟨h1,h2⟩=>⟨h1,hu.trans (h2.mono hu.size)⟩
   have cA:=Hd cA
   have x0:=Bel.cell zg cx
   have x1:=Bel.cell zg cy
   obtain⟨c,hc⟩:∃c,C x y=c:=⟨_,rfl⟩
   rw[hc]at cA ci
   have HI:=hi5 hS hKr ci hx hy
   clear hS hKr ci hx hy hc hDz cx cy
   go_wp2_with fail
   refine Z0p (by kernel_rfl) (by kernel_rfl) wr (Brf _ _).drew ?_
   repeat (go_big_quiet_step ((with_reducible refine(cA.out _ (Bel.h _)).mono ?_;rintro e w9 ⟨rfl,hb⟩;exact⟨rfl,⟨w9,hb⟩,rfl⟩)))
   refine wpQuiet_nil ?_
   rintro _ ⟨⟨u,hu⟩,rfl⟩
   have HU:=Hd hu
   clear hu x0 x1 cA
   by_cases hc0:c<0
   ·have hd:decide (c<0)=true:=decide_eq_true hc0
    go_wp2
    go_roundw
    case rel=>
     obtain⟨hS,hKr,ci,hx,hy⟩:=HI.out
     obtain⟨hl,hr,rfl⟩:=HL.out
     exact⟨q+1,j,by omega,by omega,hj,by go_num,rfl,hS.below HU.out,.inr (by rw[Nat.add_sub_cancel,hx,hy];exact ci.1 hc0),hr,hKr.trans (Z0b HU.out)⟩
    case measure=>simp[intOf];omega
   ·have hd:decide (c<0)=false:=decide_eq_false hc0
    go_wp2
    go_roundw
    case rel=>
     obtain⟨hS,hKr,ci,hx,hy⟩:=HI.out
     obtain⟨hl,hr,rfl⟩:=HL.out
     exact⟨i,q,by omega,by omega,by omega,rfl,by go_num,hS.below HU.out,hl,.inr (by rw[hx,hy];exact Int.not_lt.1 (fun h=>hc0 (ci.2 h))),hKr.trans (Z0b HU.out)⟩
    case measure=>simp[intOf];omega
  ·have e:i=j:=by omega
   subst e
   have hlt':¬(i:Int)<(i:Int):=by omega
   have hO:=Zfo (by rw[H1.out]at H;exact H.out.2.2.2.2.2.1) (by rw[H1.out]at H;exact H.out.2.2.2.2.2.2) (by have:=H1.out;omega) hj (by rw[<-H1.out];exact hl) (hr.imp id (fun h=>Int.not_lt.2 h))
   have wi:IntKind.i64.wrap ((i:Int)-1)=(((i-1:Nat):Int)):=by rw[show((i:Int)-1)=(((i-1:Nat):Int)) by omega];exact I6n _ (by omega)
   have HO:=hi3 hO hS hKr
   clear hO hS hKr hl hr
   go_wp2_with fail
   go_loopw [13] (fun k wr=>∃(j:Nat) (zs:List Int),a<=j/\j<=i-1/\k= .int .i64 j/\SoP wr g N cap zs/\Up a j b xs zs/\Z01 (fun k=>k=g) w wr) (fun k _=>i-(intOf k).toNat)
   case atStart=>exact⟨a,xs,Nat.le_refl _,by have:=H1.out;omega,rfl,HO.out.2.1,Up.start _ _ _,HO.out.2.2⟩
   case round=>
    obtain⟨j,zs,hj1,hj2,rfl,hS,hU,hKr⟩:=hrel
    by_cases hlt:j<i-1
    ·have hlt':(j:Int)<((i-1:Nat):Int):=by omega
     obtain⟨p,hp⟩:∃p,j+1=p:=⟨_,rfl⟩
     have wp:IntKind.i64.wrap ((j:Int)+1)=(p:Int):=by rw[show(j:Int)+1=(p:Int) by omega];exact I6n _ (by omega)
     have hjp:¬j=p:=by omega
     have hpj:¬p=j:=by omega
     have cx:=hS.at_ (j:=j) (by omega)
     have cy:=hS.at_ (j:=p) (by omega)
     have fz:=hS.fz (by omega)
     have fx:=fz j
     have fy:=fz p
     have zg:=hS.lt
     have zx:(j:Int)<(N:Int):=by omega
     have zy:(p:Int)<(N:Int):=by omega
     have zx0:(0:Int)<=(j:Int):=by omega
     have zy0:(0:Int)<=(p:Int):=by omega
     obtain⟨x,hx⟩:∃x,at0 zs j=x:=⟨_,rfl⟩
     obtain⟨y,hy⟩:∃y,at0 zs p=y:=⟨_,rfl⟩
     rw[hx]at cx
     rw[hy]at cy
     have HI:=hi6 hS hU hKr hx hy hp
     clear hS hU hKr hx hy hp fz
     go_wp2_with fail
     go_region
     all_goals
      go_wp2
      go_roundw
      case rel=>
       obtain⟨hS,hU,hKr,hx,hy,hp⟩:=HI.out
       have h5:=hS.drew.swp (i:=j) (j:=p) (by omega) (by omega)
       rw[hx,hy]at h5
       subst hp
       exact⟨j+1,swp zs j (j+1),by omega,by omega,by go_num,h5,hU.step hj1 (by omega) (by have:=H.out.1.len;omega),hKr.drew.trans (Z5x _ _ _ _ _ _)⟩
      case measure=>
       have hp:=HI.out.2.2.2.2.2
       simp[intOf];omega
    ·have e:j=i-1:=by omega
     have hlt':¬(j:Int)<((i-1:Nat):Int):=by omega
     have HU:=hi4 hS hU hKr e
     clear hS hU hKr e
     go_wp2
     refine bodyPost_ret (results_none rfl _ _ _) rfl ?_
     obtain⟨hS,hU,hKr,e⟩:=HU.out
     subst e
     exact⟨rfl,zs,hS,hU.sw,hU.done (by rw[H1.out]at H;exact H.out.2.2.2.2.2.1) (by have:=H1.out;omega) hj HO.out.1.1 HO.out.1.2,hKr⟩
theorem Zmh (hC:Z8c F p1 p2 g G C κ D) (hG:G w) (h:SoP w g N cap xs) (hD:∀x ∈ xs,D x) (hL:SR κ xs a m) (hM:SR κ xs m b) (hX:Cr xs a m b) (ham:a<m) (hmb:m<b) (hbN:b<=N) (h9:N<=1000000) (h1:¬m=a+1) (h2:b=m+1):Calls Tryz.prog 155 #[.slice (some ⟨g,0,none⟩) N cap,.int .i64 (a:Int),.int .i64 (m:Int),.int .i64 (b:Int),.func (.func F) #[] #[.pointer (some ⟨p1,0,none⟩),.pointer (some ⟨p2,0,none⟩)]] w fun en w'=>en= .returned (.tuple #[])/\∃ys,SoP w' g N cap ys/\Sw a b xs ys/\SR κ ys a b/\Z01 (fun k=>k=g) w w':=by
 have H:=hi7 h hC hG hD hL hM hX
 have ent:=hC.ent
 have w1:IntKind.i64.wrap ((m:Int)-(a:Int))=(((m-a:Nat):Int)):=by rw[show((m:Int)-(a:Int))=(((m-a:Nat):Int)) by omega];exact I6n _ (by omega)
 have w2:IntKind.i64.wrap ((b:Int)-(m:Int))=((1:Int)):=by rw[show((b:Int)-(m:Int))=((1:Int)) by omega];exact I6n _ (by omega)
 have n1:¬((m-a:Nat):Int)=1:=by omega
 have H1:=Hd h2
 clear h hC hG hD hL hM hX h1 h2
 go_enter Tryz.func155,Tryz.ntmps155
 go_wp2_with fail
 go_loopw [14,15] (fun k1 k2 wr=>∃(i j:Nat),a<=i/\i<=j/\j<=m/\k1= .int .i64 i/\k2= .int .i64 j/\SoP wr g N cap xs/\(i=a\/κ (at0 xs (i-1))<=κ (at0 xs m))/\(j=m\/κ (at0 xs m)<κ (at0 xs j))/\Z01 (fun k=>k=g) w wr) (fun k1 k2 _=>(intOf k2).toNat-(intOf k1).toNat)
 case atStart=>exact⟨a,m,Nat.le_refl _,by omega,Nat.le_refl _,rfl,rfl,H.out.1,.inl rfl,.inl rfl,Z01.refl _ _⟩
 case round=>
  obtain⟨i,j,hi,hij,hj,rfl,rfl,hS,hl,hr,hKr⟩:=hrel
  by_cases hlt:i<j
  ·have hlt':(i:Int)<(j:Int):=by omega
   obtain⟨zs,hzs⟩:∃zs,xs=zs:=⟨_,rfl⟩
   have hDz:=H.out.2.2.2.1
   rw[hzs]at hS hl hr hDz
   have HL:=hi3 hl hr hzs
   clear hl hr hzs
   obtain⟨q,hq⟩:∃q,(i+j)/2=q:=⟨_,rfl⟩
   have hq1:i<=q:=by omega
   have hq2:q<j:=by omega
   have hqq:((i:Int)+(j:Int))/2=(q:Int):=by omega
   have wq:IntKind.i64.wrap ((q:Int)+1)=(((q+1:Nat):Int)):=by rw[show((q:Int)+1)=(((q+1:Nat):Int)) by omega];exact I6n _ (by omega)
   clear hq
   have dx:=hS.Ds hDz (j:=m) (by omega)
   have dy:=hS.Ds hDz (j:=q) (by omega)
   have ci:=H.out.2.1.iff _ _ dx dy
   have cx:=hS.at_ (j:=m) (by omega)
   have cy:=hS.at_ (j:=q) (by omega)
   have zg:=hS.lt
   have zx:((m:Nat):Int)<(N:Int):=by omega
   have zy:((q:Nat):Int)<(N:Int):=by omega
   have zx0:(0:Int)<=((m:Nat):Int):=by omega
   have zy0:(0:Int)<=((q:Nat):Int):=by omega
   obtain⟨x,hx⟩:∃x,at0 zs m=x:=⟨_,rfl⟩
   obtain⟨y,hy⟩:∃y,at0 zs q=y:=⟨_,rfl⟩
   rw[hx]at cx dx ci
   rw[hy]at cy dy ci
   have cA:∀u,Below wr.heap.size wr u->Calls Tryz.prog F #[.int .i64 x,.int .i64 y,.pointer (some ⟨p1,0,none⟩),.pointer (some ⟨p2,0,none⟩)] u fun e u'=>e= .returned (.int .i64 (C x y))/\Below wr.heap.size wr u':=fun u hu=>(H.out.2.1.call u x y (H.out.2.1.keep _ _ H.out.2.2.1 (hKr.trans (Z0b hu))) dx dy).mono fun e u' ⟨h1,h2⟩=>⟨h1,hu.trans (h2.mono hu.size)⟩
   have cA:=Hd cA
   have x0:=Bel.cell zg cx
   have x1:=Bel.cell zg cy
   obtain⟨c,hc⟩:∃c,C x y=c:=⟨_,rfl⟩
   rw[hc]at cA ci
   have HI:=hi5 hS hKr ci hx hy
   clear hS hKr ci hx hy hc hDz cx cy
   go_wp2_with fail
   refine Z0p (by kernel_rfl) (by kernel_rfl) wr (Brf _ _).drew ?_
   repeat (go_big_quiet_step ((with_reducible refine(cA.out _ (Bel.h _)).mono ?_;rintro e w9 ⟨rfl,hb⟩;exact⟨rfl,⟨w9,hb⟩,rfl⟩)))
   refine wpQuiet_nil ?_
   rintro _ ⟨⟨u,hu⟩,rfl⟩
   have HU:=Hd hu
   clear hu x0 x1 cA
   by_cases hc0:c<0
   ·have hd:(!decide (c<0))=false:=by rw[decide_eq_true hc0];rfl
    go_wp2
    all_goals first
     |(exfalso;rename_i hh;rw[hd]at hh;cases hh;done)
     |skip
    go_roundw
    case rel=>
     obtain⟨hS,hKr,ci,hx,hy⟩:=HI.out
     obtain⟨hl,hr,rfl⟩:=HL.out
     exact⟨i,q,by omega,by omega,by omega,rfl,by go_num,hS.below HU.out,hl,.inr (by rw[hx,hy];exact ci.1 hc0),hKr.trans (Z0b HU.out)⟩
    case measure=>simp[intOf];omega
   ·have hd:(!decide (c<0))=true:=by rw[decide_eq_false hc0];rfl
    go_wp2
    all_goals first
     |(exfalso;rename_i hh;rw[hd]at hh;cases hh;done)
     |skip
    go_roundw
    case rel=>
     obtain⟨hS,hKr,ci,hx,hy⟩:=HI.out
     obtain⟨hl,hr,rfl⟩:=HL.out
     exact⟨q+1,j,by omega,by omega,hj,by go_num,rfl,hS.below HU.out,.inr (by rw[Nat.add_sub_cancel,hx,hy];exact Int.not_lt.1 (fun h=>hc0 (ci.2 h))),hr,hKr.trans (Z0b HU.out)⟩
    case measure=>simp[intOf];omega
  ·have e:i=j:=by omega
   subst e
   have hlt':¬(i:Int)<(i:Int):=by omega
   have hO:=Zdf H.out.2.2.2.2.1 (by rw[H1.out]at H;exact H.out.2.2.2.2.2.2) hi hj (hl.imp id (fun h=>Int.not_lt.2 h)) hr
   have HO:=hi3 hO hS hKr
   clear hO hS hKr hl hr
   go_wp2_with fail
   go_loopw [17] (fun k wr=>∃(j:Nat) (zs:List Int),i<=j/\j<=m/\k= .int .i64 j/\SoP wr g N cap zs/\Dn a j m xs zs/\Z01 (fun k=>k=g) w wr) (fun k _=>(intOf k).toNat)
   case atStart=>exact⟨m,xs,hj,Nat.le_refl _,rfl,HO.out.2.1,Dn.start _ _ _,HO.out.2.2⟩
   case round=>
    obtain⟨j,zs,hj1,hj2,rfl,hS,hU,hKr⟩:=hrel
    by_cases hlt:i<j
    ·have hlt':(i:Int)<(j:Int):=by omega
     obtain⟨p,hp⟩:∃p,p+1=j:=⟨j-1,by omega⟩
     have wp:IntKind.i64.wrap ((j:Int)-1)=(p:Int):=by rw[show(j:Int)-1=(p:Int) by omega];exact I6n _ (by omega)
     have hjp:¬j=p:=by omega
     have hpj:¬p=j:=by omega
     have cx:=hS.at_ (j:=j) (by omega)
     have cy:=hS.at_ (j:=p) (by omega)
     have fz:=hS.fz (by omega)
     have fx:=fz j
     have fy:=fz p
     have zg:=hS.lt
     have zx:(j:Int)<(N:Int):=by omega
     have zy:(p:Int)<(N:Int):=by omega
     have zx0:(0:Int)<=(j:Int):=by omega
     have zy0:(0:Int)<=(p:Int):=by omega
     obtain⟨x,hx⟩:∃x,at0 zs j=x:=⟨_,rfl⟩
     obtain⟨y,hy⟩:∃y,at0 zs p=y:=⟨_,rfl⟩
     rw[hx]at cx
     rw[hy]at cy
     have HI:=hi6 hS hU hKr hx hy hp
     clear hS hU hKr hx hy hp fz
     go_wp2_with fail
     go_region
     all_goals
      go_wp2
      go_roundw
      case rel=>
       obtain⟨hS,hU,hKr,hx,hy,hp⟩:=HI.out
       have h5:=hS.drew.swp (i:=j) (j:=p) (by omega) (by omega)
       rw[hx,hy]at h5
       subst hp
       exact⟨p,swp zs (p+1) p,by omega,by omega,by go_num,h5,hU.step (by omega) (by omega) (by have:=H.out.1.len;omega),hKr.drew.trans (Z5x _ _ _ _ _ _)⟩
      case measure=>
       have hp:=HI.out.2.2.2.2.2
       simp[intOf];omega
    ·have e:j=i:=by omega
     subst e
     have hlt':¬(j:Int)<(j:Int):=by omega
     have HU:=hi3 hS hU hKr
     clear hS hU hKr
     go_wp2
     refine bodyPost_ret (results_none rfl _ _ _) rfl ?_
     obtain⟨hS,hU,hKr⟩:=HU.out
     have e2:=H1.out
     subst e2
     exact⟨rfl,zs,hS,hU.sw,hU.done H.out.2.2.2.2.1 hi hj HO.out.1.1 HO.out.1.2,hKr⟩
end
theorem Zfp (g N cap F p1 p2:Nat) (G:World->Prop) (C:Int->Int->Int) (κ:Int->Int) (D:Int->Prop) (hC:Z8c F p1 p2 g G C κ D) (h9:N<=1000000) (K:Nat):∀(w:World) (a m b:Nat) (xs:List Int),G w->SoP w g N cap xs->(∀x ∈ xs,D x)->SR κ xs a m->SR κ xs m b->Cr xs a m b->a<m->m<b->b<=N->b-a<=K->
 Calls Tryz.prog 155 #[.slice (some ⟨g,0,none⟩) N cap,.int .i64 (a:Int),.int .i64 (m:Int),.int .i64 (b:Int),.func (.func F) #[] #[.pointer (some ⟨p1,0,none⟩),.pointer (some ⟨p2,0,none⟩)]] w fun en w'=>en= .returned (.tuple #[])/\∃ys,SoP w' g N cap ys/\Sw a b xs ys/\SR κ ys a b/\Z01 (fun k=>k=g) w w':=by
 induction K with
 |zero=>intro w a m b xs _ _ _ _ _ _ h1 h2 _ h3;omega
 |succ K ih=>
 intro w a m b xs hG h hD hL hM hX ham hmb hbN hK
 by_cases h1:m=a+1
 ·exact Zmg w g N cap a m b F p1 p2 G C κ D xs hC hG h hD hL hM hX ham hmb hbN h9 h1
 by_cases h2:b=m+1
 ·exact Zmh w g N cap a m b F p1 p2 G C κ D xs hC hG h hD hL hM hX ham hmb hbN h9 h1 h2
 have H:=hi8 h hC hG hD hL hM hX ih
 have ent:=hC.ent
 have w1:IntKind.i64.wrap ((m:Int)-(a:Int))=(((m-a:Nat):Int)):=by rw[show((m:Int)-(a:Int))=(((m-a:Nat):Int)) by omega];exact I6n _ (by omega)
 have w2:IntKind.i64.wrap ((b:Int)-(m:Int))=(((b-m:Nat):Int)):=by rw[show((b:Int)-(m:Int))=(((b-m:Nat):Int)) by omega];exact I6n _ (by omega)
 have n1:¬((m-a:Nat):Int)=1:=by omega
 have n2:¬((b-m:Nat):Int)=1:=by omega
 obtain⟨d,hd⟩:∃d,(a+b)/2=d:=⟨_,rfl⟩
 have hdd:((a:Int)+(b:Int))/2=(d:Int):=by omega
 obtain⟨n,hn⟩:∃n,d+m=n:=⟨_,rfl⟩
 have wn:IntKind.i64.wrap ((d:Int)+(m:Int))=(n:Int):=by rw[show(d:Int)+(m:Int)=(n:Int) by omega];exact I6n _ (by omega)
 have hd1:2*d<=a+b:=by omega
 have hd2:a+b<=2*d+1:=by omega
 obtain⟨s0,hs0⟩:∃s0,s0=if d<m then n-b else a:=⟨_,rfl⟩
 obtain⟨r0,hr0⟩:∃r0,r0=if d<m then d else m:=⟨_,rfl⟩
 have q1:a<=s0:=by split at hs0<;>omega
 have q2:s0<=r0:=by split at hs0<;>split at hr0<;>omega
 have q3:r0<=m:=by split at hr0<;>omega
 have q4:r0<=d:=by split at hr0<;>omega
 have q5:n<=s0+b:=by split at hs0<;>omega
 have HQ:=hi4 hd hn hs0 hr0
 obtain⟨p,hp⟩:∃p,n-1=p:=⟨_,rfl⟩
 have hp1:p+1<=n:=by omega
 have hp2:n<=p+1:=by omega
 have wp:IntKind.i64.wrap ((n:Int)-1)=(p:Int):=by rw[show(n:Int)-1=(p:Int) by omega];exact I6n _ (by omega)
 have hdn:n<=d+m:=by omega
 have hdn2:d+m<=n:=by omega
 have b1:(((m-a:Nat):Int) == 1)=false:=by simp[n1]
 have b2:(((b-m:Nat):Int) == 1)=false:=by simp[n2]
 clear h hC hG hD hL hM hX h1 h2 hd hn hp ih
 go_enter Tryz.func155,Tryz.ntmps155
 go_upto_if 140 with fail
 go_cut [20,21]from 138 to 146 (fun a20 a21 wx=>a20= .int .i64 s0/\a21= .int .i64 r0/\w=wx)
 case first=>
  by_cases hdm:d<m
  ·have hdm':(d:Int)<(m:Int):=by omega
   have e0:s0=n-b:=by rw[HQ.out.2.2.1,if_pos hdm]
   have e1:r0=d:=by rw[HQ.out.2.2.2,if_pos hdm]
   have ws:IntKind.i64.wrap ((n:Int)-(b:Int))=(s0:Int):=by rw[show(n:Int)-(b:Int)=(s0:Int) by omega];exact I6n _ (by omega)
   have e0:=Hd e0
   go_wp2_with fail
   go_meet
   have e0:=e0.out
   exact⟨by congr 1;omega,by rw[e1],rfl⟩
  ·have hdm':¬(d:Int)<(m:Int):=by omega
   have e0:s0=a:=by rw[HQ.out.2.2.1,if_neg hdm]
   have e1:r0=m:=by rw[HQ.out.2.2.2,if_neg hdm]
   go_wp2_with fail
   go_meet
   exact⟨by rw[e0],by rw[e1],rfl⟩
 case rest=>
  obtain⟨rfl,rfl,rfl⟩:=hcut
  go_wp2_with fail
  go_loopw [20,21] (fun k1 k2 wr=>∃(i j:Nat),s0<=i/\i<=j/\j<=r0/\k1= .int .i64 i/\k2= .int .i64 j/\SoP wr g N cap xs/\(i=s0\/κ (at0 xs (i-1))<=κ (at0 xs (p-(i-1))))/\(j=r0\/κ (at0 xs (p-j))<κ (at0 xs j))/\Z01 (fun k=>k=g) w wr) (fun k1 k2 _=>(intOf k2).toNat-(intOf k1).toNat)
  case atStart=>exact⟨s0,r0,Nat.le_refl _,q2,Nat.le_refl _,rfl,rfl,H.out.1,.inl rfl,.inl rfl,Z01.refl _ _⟩
  case round=>
   obtain⟨i,j,hi,hij,hj,rfl,rfl,hS,hl,hr,hKr⟩:=hrel
   by_cases hlt:i<j
   ·have hlt':(i:Int)<(j:Int):=by omega
    obtain⟨zs,hzs⟩:∃zs,xs=zs:=⟨_,rfl⟩
    have hDz:=H.out.2.2.2.1
    rw[hzs]at hS hl hr hDz
    obtain⟨q,hq⟩:∃q,(i+j)/2=q:=⟨_,rfl⟩
    have hq1:i<=q:=by omega
    have hq2:q<j:=by omega
    have hqq:((i:Int)+(j:Int))/2=(q:Int):=by omega
    obtain⟨t,ht⟩:∃t,p-q=t:=⟨_,rfl⟩
    have wt:IntKind.i64.wrap ((p:Int)-(q:Int))=(t:Int):=by rw[show(p:Int)-(q:Int)=(t:Int) by omega];exact I6n _ (by omega)
    have wq:IntKind.i64.wrap ((q:Int)+1)=(((q+1:Nat):Int)):=by rw[show((q:Int)+1)=(((q+1:Nat):Int)) by omega];exact I6n _ (by omega)
    have htN:t<N:=by omega
    have HL:=hi4 hl hr hzs ht
    clear hq ht hl hr hzs
    have dx:=hS.Ds hDz (j:=t) (by omega)
    have dy:=hS.Ds hDz (j:=q) (by omega)
    have ci:=H.out.2.1.iff _ _ dx dy
    have cx:=hS.at_ (j:=t) (by omega)
    have cy:=hS.at_ (j:=q) (by omega)
    have zg:=hS.lt
    have zx:((t:Nat):Int)<(N:Int):=by omega
    have zy:((q:Nat):Int)<(N:Int):=by omega
    have zx0:(0:Int)<=((t:Nat):Int):=by omega
    have zy0:(0:Int)<=((q:Nat):Int):=by omega
    obtain⟨x,hx⟩:∃x,at0 zs t=x:=⟨_,rfl⟩
    obtain⟨y,hy⟩:∃y,at0 zs q=y:=⟨_,rfl⟩
    rw[hx]at cx dx ci
    rw[hy]at cy dy ci
    have cA:∀u,Below wr.heap.size wr u->Calls Tryz.prog F #[.int .i64 x,.int .i64 y,.pointer (some ⟨p1,0,none⟩),.pointer (some ⟨p2,0,none⟩)] u fun e u'=>e= .returned (.int .i64 (C x y))/\Below wr.heap.size wr u':=fun u hu=>(H.out.2.1.call u x y (H.out.2.1.keep _ _ H.out.2.2.1 (hKr.trans (Z0b hu))) dx dy).mono fun e u' ⟨h1,h2⟩=>⟨h1,hu.trans (h2.mono hu.size)⟩
    have cA:=Hd cA
    have x0:=Bel.cell zg cx
    have x1:=Bel.cell zg cy
    obtain⟨c,hc⟩:∃c,C x y=c:=⟨_,rfl⟩
    rw[hc]at cA ci
    have HI:=hi5 hS hKr ci hx hy
    clear hS hKr ci hx hy hc hDz cx cy
    go_wp2_with fail
    refine Z0p (by kernel_rfl) (by kernel_rfl) wr (Brf _ _).drew ?_
    repeat (go_big_quiet_step ((with_reducible refine(cA.out _ (Bel.h _)).mono ?_;rintro e w9 ⟨rfl,hb⟩;exact⟨rfl,⟨w9,hb⟩,rfl⟩)))
    refine wpQuiet_nil ?_
    rintro _ ⟨⟨u,hu⟩,rfl⟩
    have HU:=Hd hu
    clear hu x0 x1 cA
    by_cases hc0:c<0
    ·have hd:(!decide (c<0))=false:=by rw[decide_eq_true hc0];rfl
     go_wp2
     all_goals first
      |(exfalso;rename_i hh;rw[hd]at hh;cases hh;done)
      |skip
     go_roundw
     case rel=>
      obtain⟨hS,hKr,ci,hx,hy⟩:=HI.out
      obtain⟨hl,hr,rfl,ht⟩:=HL.out
      exact⟨i,q,by omega,by omega,by omega,rfl,by go_num,hS.below HU.out,hl,.inr (by rw[ht,hx,hy];exact ci.1 hc0),hKr.trans (Z0b HU.out)⟩
     case measure=>simp[intOf];omega
    ·have hd:(!decide (c<0))=true:=by rw[decide_eq_false hc0];rfl
     go_wp2
     all_goals first
      |(exfalso;rename_i hh;rw[hd]at hh;cases hh;done)
      |skip
     go_roundw
     case rel=>
      obtain⟨hS,hKr,ci,hx,hy⟩:=HI.out
      obtain⟨hl,hr,rfl,ht⟩:=HL.out
      exact⟨q+1,j,by omega,by omega,hj,by go_num,rfl,hS.below HU.out,.inr (by rw[Nat.add_sub_cancel,ht,hx,hy];exact Int.not_lt.1 (fun h=>hc0 (ci.2 h))),hr,hKr.trans (Z0b HU.out)⟩
     case measure=>simp[intOf];omega
   ·have e:i=j:=by omega
    subst e
    have hlt':¬(i:Int)<(i:Int):=by omega
    have hcut:=Zov (s0:=s0) (r0:=r0) (s:=i) ham hmb H.out.2.2.2.2.1 H.out.2.2.2.2.2.1 H.out.2.2.2.2.2.2.1 (by rw[HQ.out.1,HQ.out.2.1];exact HQ.out.2.2.1) (by rw[HQ.out.1];exact HQ.out.2.2.2) hi hj (hl.imp id (fun h=>by rw[HQ.out.1,show d+m-1=p by omega];exact Int.not_lt.2 h)) (hr.imp id (fun h=>by rw[HQ.out.1,show d+m-1=p by omega];exact h))
    obtain⟨e,he⟩:∃e,n-i=e:=⟨_,rfl⟩
    have we:IntKind.i64.wrap ((n:Int)-(i:Int))=(e:Int):=by rw[show(n:Int)-(i:Int)=(e:Int) by omega];exact I6n _ (by omega)
    have z1:=hcut.l1
    have z2:=hcut.l2
    have z3:=hcut.l3
    have z4:=hcut.l4
    rw[HQ.out.1,HQ.out.2.1,he]at z3 z4
    have HC:=hi4 hcut hS hKr he
    have hei:e<=n-i:=by omega
    have hei2:n-i<=e:=by omega
    clear hcut hS hKr hl hr he
    go_upto_region 39 with fail
    go_cut [185]from 178 to 185 (fun c wx=>c= .bool (decide (i<m/\m<e))/\wr=wx)
    case first=>
     by_cases g1:i<m
     ·have g1':(i:Int)<(m:Int):=by omega
      by_cases g2:m<e
      ·have g2':(m:Int)<(e:Int):=by omega
       go_wp2_with fail
       go_meet
       exact⟨by simp[g1,g2],rfl⟩
      ·have g2':¬(m:Int)<(e:Int):=by omega
       go_wp2_with fail
       go_meet
       exact⟨by simp[g1,g2],rfl⟩
     ·have g1':¬(i:Int)<(m:Int):=by omega
      go_wp2_with fail
      go_meet
      exact⟨by simp[g1],rfl⟩
    case rest=>
     obtain⟨rfl,rfl⟩:=hcut
     go_upto_if 185 with fail
     go_cut [185]from 186 to 191 (fun c wx=>(∃v,c=v)/\∃ys,SoP wx g N cap ys/\Sw i e xs ys/\Rot i m e xs ys/\Z01 (fun k=>k=g) wr wx)
     case first=>
      by_cases g1:i<m/\m<e
      ·have cR:=Zme wr g N cap i m e (.func (.func F) #[] #[.pointer (some ⟨p1,0,none⟩),.pointer (some ⟨p2,0,none⟩)]) xs HC.out.2.1 g1.1 g1.2 (by omega) h9
       go_wp2_with fail
       refine cR.mono ?_
       rintro en w3 ⟨rfl,ys,h3,r3,r4,k3⟩
       have H3:=hi4 h3 r3 r4 k3
       clear h3 r3 r4 k3
       go_wp2_with fail
       go_meet
       exact⟨⟨_,rfl⟩,ys,H3.out⟩
      ·go_wp2_with fail
       go_meet
       refine⟨⟨_,rfl⟩,xs,HC.out.2.1,Sw.refl _ _ _,fun k k1 k2=>?_,Z01.refl _ _⟩
       split
       ·rw[show m-i=0 by omega];rfl
       ·rw[show e-m=0 by omega];rfl
     case rest=>
      obtain⟨-,ys,h3,r3,r4,k3⟩:=hcut
      have HY:=HC.out.1.halves H.out.2.2.2.2.1 H.out.2.2.2.2.2.1 H.out.2.2.2.2.2.2.1 (by rw[HQ.out.1,HQ.out.2.1,HC.out.2.2.2];exact r3) (by rw[HQ.out.1,HQ.out.2.1,HC.out.2.2.2];exact r4)
      rw[HQ.out.1,HQ.out.2.1,HC.out.2.2.2]at HY
      obtain⟨w4,hw4⟩:∃w4,wc=w4:=⟨_,rfl⟩
      rw[hw4]at h3 k3
      subst hw4
      have H3:=hi4 h3 r3 (HC.out.2.2.1.trans k3) HY
      clear h3 r3 r4 k3 HY
      go_upto_region 41 with fail
      go_cut [199]from 192 to 199 (fun c wx=>c= .bool (decide (a<i/\i<d))/\wc=wx)
      case first=>
       by_cases g1:a<i
       ·have g1':(a:Int)<(i:Int):=by omega
        by_cases g2:i<d
        ·have g2':(i:Int)<(d:Int):=by omega
         go_wp2_with fail
         go_meet
         exact⟨by simp[g1,g2],rfl⟩
        ·have g2':¬(i:Int)<(d:Int):=by omega
         go_wp2_with fail
         go_meet
         exact⟨by simp[g1,g2],rfl⟩
       ·have g1':¬(a:Int)<(i:Int):=by omega
        go_wp2_with fail
        go_meet
        exact⟨by simp[g1],rfl⟩
      case rest=>
       obtain⟨rfl,rfl⟩:=hcut
       go_upto_if 199 with fail
       go_cut [199]from 200 to 205 (fun c wx=>(∃v,c=v)/\∃zs,SoP wx g N cap zs/\Sw a d ys zs/\SR κ zs a d/\Z01 (fun k=>k=g) w wx)
       case first=>
        by_cases g1:a<i/\i<d
        ·have cR:=H.out.2.2.2.2.2.2.2 _ a i d ys (H.out.2.1.keep _ _ H.out.2.2.1 H3.out.2.2.1) H3.out.1 (H3.out.2.1.Ds H.out.2.2.2.1) H3.out.2.2.2.1 H3.out.2.2.2.2.1 H3.out.2.2.2.2.2.1 g1.1 g1.2 (by omega) (by omega)
         go_wp2_with fail
         refine cR.mono ?_
         rintro en w3 ⟨rfl,zs,h3,r3,r4,k3⟩
         have H4:=hi4 h3 r3 r4 (H3.out.2.2.1.trans k3)
         clear h3 r3 r4 k3
         go_wp2_with fail
         go_meet
         exact⟨⟨_,rfl⟩,zs,H4.out⟩
        ·go_wp2_with fail
         go_meet
         refine⟨⟨_,rfl⟩,ys,H3.out.1,Sw.refl _ _ _,?_,H3.out.2.2.1⟩
         by_cases g2:a=i
         ·rw[g2];exact H3.out.2.2.2.2.1
         ·rw[show d=i by omega];exact H3.out.2.2.2.1
       case rest=>
        obtain⟨-,zs,h3,r3,r4,k3⟩:=hcut
        have H4:=hi4 h3 r3 r4 k3
        clear h3 r3 r4 k3
        go_upto_region 43 with fail
        go_cut [213]from 206 to 213 (fun c wx=>c= .bool (decide (d<e/\e<b))/\wc=wx)
        case first=>
         by_cases g1:d<e
         ·have g1':(d:Int)<(e:Int):=by omega
          by_cases g2:e<b
          ·have g2':(e:Int)<(b:Int):=by omega
           go_wp2_with fail
           go_meet
           exact⟨by simp[g1,g2],rfl⟩
          ·have g2':¬(e:Int)<(b:Int):=by omega
           go_wp2_with fail
           go_meet
           exact⟨by simp[g1,g2],rfl⟩
         ·have g1':¬(d:Int)<(e:Int):=by omega
          go_wp2_with fail
          go_meet
          exact⟨by simp[g1],rfl⟩
        case rest=>
         obtain⟨rfl,rfl⟩:=hcut
         by_cases g1:d<e/\e<b
         ·have cR:=H.out.2.2.2.2.2.2.2 _ d e b zs (H.out.2.1.keep _ _ H.out.2.2.1 H4.out.2.2.2) H4.out.1 (H4.out.2.1.Ds (H3.out.2.1.Ds H.out.2.2.2.1)) (H3.out.2.2.2.2.2.2.1.out H4.out.2.1 (.inr (Nat.le_refl _))) (H3.out.2.2.2.2.2.2.2.1.out H4.out.2.1 (.inr (by omega))) (H3.out.2.2.2.2.2.2.2.2.1.sw H4.out.2.1 (.inr (.inr (.inr (Nat.le_refl _))))) g1.1 g1.2 hbN (by omega)
          go_wp2_with fail
          refine cR.mono ?_
          rintro en w3 ⟨rfl,ts,h3,r3,r4,k3⟩
          have H5:=hi4 h3 r3 r4 k3
          clear h3 r3 r4 k3
          go_wp2
          go_end0
          exact⟨rfl,ts,H5.out.1,((H3.out.2.1.mono (by omega) (by omega)).trans (H4.out.2.1.mono (Nat.le_refl _) (by omega))).trans (H5.out.2.1.mono (by omega) (Nat.le_refl _)),Z6f H4.out.2.1 H5.out.2.1 H4.out.2.2.1 H5.out.2.2.1 H3.out.2.2.2.2.2.2.2.2.2,H4.out.2.2.2.trans H5.out.2.2.2⟩
         ·go_wp2
          go_end0
          refine⟨rfl,zs,H4.out.1,(H3.out.2.1.mono (by omega) (by omega)).trans (H4.out.2.1.mono (Nat.le_refl _) (by omega)),Z6f H4.out.2.1 (Sw.refl d b zs) H4.out.2.2.1 ?_ H3.out.2.2.2.2.2.2.2.2.2,H4.out.2.2.2⟩
          by_cases g2:d=e
          ·rw[g2];exact H3.out.2.2.2.2.2.2.2.1.out H4.out.2.1 (.inr (by omega))
          ·have:=H3.out.2.2.2.2.2.2.1.out H4.out.2.1 (.inr (Nat.le_refl _))
           rw[show b=e by omega];exact this
end
section
theorem Z2y {B u v:Nat} (h1:B ∣ u) (h2:B ∣ v) (h:u<v):u+B<=v:=by
 have h3:B ∣ v-u:=Nat.dvd_sub h2 h1
 have:=Nat.le_of_dvd (by omega) h3
 omega
theorem Z8d {B u:Nat} (h:2*B ∣ u):B ∣ u:=Nat.dvd_trans (Nat.dvd_mul_left B 2) h
theorem Z4r {B u:Nat} (h:B ∣ u):B ∣ u+B:=(Nat.dvd_add_right h).2 (Nat.dvd_refl B)
def BkI (B n:Nat) (xs zs:List Int):Prop:=∀u,B ∣ u->∀i,u<=i->i<u+B->i<n->∃j,u<=j/\j<u+B/\j<n/\at0 zs i=at0 xs j
def BkS (κ:Int->Int) (B n:Nat) (zs:List Int):Prop:=∀u,B ∣ u->∀i j,u<=i->i<j->j<u+B->j<n->Rk κ (at0 zs i) (at0 zs j)
theorem BkI.double {B n:Nat} {xs zs:List Int} (h:BkI B n xs zs):BkI (2*B) n xs zs:=fun u hu i h1 h2 h3=>by
 by_cases hi:i<u+B
 ·obtain⟨j,j1,j2,j3,e⟩:=h u (Z8d hu) i h1 hi h3
  exact⟨j,j1,by omega,j3,e⟩
 ·obtain⟨j,j1,j2,j3,e⟩:=h (u+B) (Z4r (Z8d hu)) i (by omega) (by omega) h3
  exact⟨j,by omega,by omega,j3,e⟩
theorem BkI.sw {B n a b:Nat} {xs zs ys:List Int} (h:BkI B n xs zs) (ha:B ∣ a) (hb:b<=a+B) (hbn:b<=n) (hs:Sw a b zs ys):BkI B n xs ys:=fun u hu i h1 h2 h3=>by
 by_cases hi:a<=i/\i<b
 ·obtain⟨j,j1,j2,e⟩:=hs.inn i hi.1 hi.2
  have hua:u=a:=by
   rcases Nat.lt_trichotomy u a with h4|h4|h4
   ·have:=Z2y hu ha h4;omega
   ·exact h4
   ·have:=Z2y ha hu h4;omega
  subst hua
  obtain⟨k,k1,k2,k3,e2⟩:=h u hu j j1 (by omega) (by omega)
  exact⟨k,k1,k2,k3,e.trans e2⟩
 ·rw[hs.out i (by omega)]
  exact h u hu i h1 h2 h3
structure Ph1 (κ:Int->Int) (n a:Nat) (xs zs:List Int):Prop where
 dv:20 ∣ a
 le:a<=n
 sw:Sw 0 a xs zs
 bi:BkI 20 n xs zs
 bs:∀u,20 ∣ u->u+20<=a->SR κ zs u (u+20)
theorem Ph1.start (κ:Int->Int) (n:Nat) (xs:List Int):Ph1 κ n 0 xs xs:=⟨Nat.dvd_zero _,Nat.zero_le _,Sw.refl _ _ _,fun u _ i h1 h2 h3=>⟨i,h1,h2,h3,rfl⟩,fun u _ h=>by omega⟩
section
variable {κ:Int->Int} {n a:Nat}
theorem Ph1.inc {xs zs:List Int} (h:Ph1 κ n a xs zs) (hinc:∀i j,i<j->j<n->at0 xs i<at0 xs j) {b:Nat} (hb:b<=n):∀i j,a<=i->i<j->j<b->at0 zs i<at0 zs j:=fun i j h1 h2 h3=>by
 rw[h.sw.out i (.inr h1),h.sw.out j (.inr (by omega))]
 exact hinc i j h2 (by omega)
theorem Ph1.step {xs zs ys:List Int} (h:Ph1 κ n a xs zs) (hb:a+20<=n) (hs:Sw a (a+20) zs ys) (hr:SR κ ys a (a+20)):Ph1 κ n (a+20) xs ys:=
 ⟨Z4r h.dv,hb,(h.sw.mono (Nat.le_refl _) (by omega)).trans (hs.mono (by omega) (Nat.le_refl _)),h.bi.sw h.dv (Nat.le_refl _) hb hs,fun u hu h1=>by
   by_cases e:u+20<=a
   ·exact(h.bs u hu e).out hs (.inl (by omega))
   ·have hua:u=a:=by
     rcases Nat.lt_trichotomy u a with h4|h4|h4
     ·have:=Z2y hu h.dv h4;omega
     ·exact h4
     ·omega
    subst hua;exact hr⟩
theorem Ph1.done {xs zs ys:List Int} (h:Ph1 κ n a xs zs) (hb:n<a+20) (hs:Sw a n zs ys) (hr:SR κ ys a n):ys.Perm xs/\BkI 20 n xs ys/\BkS κ 20 n ys:=
 ⟨hs.pm.trans h.sw.pm,h.bi.sw h.dv (by omega) (Nat.le_refl _) hs,fun u hu i j h1 h2 h3 h4=>by
   rcases Nat.lt_trichotomy u a with e|e|e
   ·have:=Z2y hu h.dv e
    exact((h.bs u hu this).out hs (.inl this)) i j h1 h2 h3
   ·subst e;exact hr i j h1 h2 h4
   ·have:=Z2y h.dv hu e;omega⟩
end
structure Ph2 (κ:Int->Int) (n B a:Nat) (xs zs0 zs:List Int):Prop where
 dv:2*B ∣ a
 le:a<=n
 sw:Sw 0 a zs0 zs
 bi:BkI (2*B) n xs zs
 bs:∀u,2*B ∣ u->u+2*B<=a->SR κ zs u (u+2*B)
theorem Ph2.start {κ:Int->Int} {n B:Nat} {xs zs:List Int} (h:BkI B n xs zs) (hB:0<B):Ph2 κ n B 0 xs zs zs:=⟨Nat.dvd_zero _,Nat.zero_le _,Sw.refl _ _ _,h.double,fun u _ h=>by omega⟩
theorem Ph2.pre {κ:Int->Int} {n B a:Nat} {xs zs0 zs:List Int} (h:Ph2 κ n B a xs zs0 zs) (h1:BkI B n xs zs0) (h2:BkS κ B n zs0) (hinc:∀i j,i<j->j<n->at0 xs i<at0 xs j) {e:Nat} (he:e<=n) (he2:e<=a+2*B):
 (∀m,m<=a+B->m<=n->SR κ zs a m)/\SR κ zs (a+B) e/\Cr zs a (a+B) e:=by
 have hd:=Z8d h.dv
 have hv:∀i,a<=i->at0 zs i=at0 zs0 i:=fun i hi=>h.sw.out i (.inr hi)
 refine⟨fun m m1 m2 i j i1 ij j1=>?_,fun i j i1 ij j1=>?_,fun i j i1 i2 j1 j2=>?_⟩
 ·rw[hv i i1,hv j (by omega)]
  exact h2 a hd i j i1 ij (by omega) (by omega)
 ·rw[hv i (by omega),hv j (by omega)]
  exact h2 (a+B) (Z4r hd) i j i1 ij (by omega) (by omega)
 ·rw[hv i i1,hv j (by omega)]
  obtain⟨p,p1,p2,p3,e1⟩:=h1 a hd i i1 i2 (by omega)
  obtain⟨q,q1,q2,q3,e2⟩:=h1 (a+B) (Z4r hd) j j1 (by omega) (by omega)
  rw[e1,e2]
  exact hinc p q (by omega) q3
section
variable {κ:Int->Int} {n B a:Nat} {xs zs0 zs ys:List Int}
theorem Ph2.step (h:Ph2 κ n B a xs zs0 zs) (hB:0<B) (hb:a+2*B<=n) (hs:Sw a (a+2*B) zs ys) (hr:SR κ ys a (a+2*B)):Ph2 κ n B (a+2*B) xs zs0 ys:=
 ⟨Z4r h.dv,hb,(h.sw.mono (Nat.le_refl _) (by omega)).trans (hs.mono (by omega) (Nat.le_refl _)),h.bi.sw h.dv (Nat.le_refl _) hb hs,fun u hu h1=>by
   by_cases e:u+2*B<=a
   ·exact(h.bs u hu e).out hs (.inl (by omega))
   ·have hua:u=a:=by
     rcases Nat.lt_trichotomy u a with h4|h4|h4
     ·have:=Z2y hu h.dv h4;omega
     ·exact h4
     ·omega
    subst hua;exact hr⟩
theorem Ph2.done (h:Ph2 κ n B a xs zs0 zs) (hb:n<a+2*B) (hs:Sw a n zs ys) (hr:SR κ ys a n):ys.Perm zs0/\BkI (2*B) n xs ys/\BkS κ (2*B) n ys:=
 ⟨hs.pm.trans h.sw.pm,h.bi.sw h.dv (by omega) (Nat.le_refl _) hs,fun u hu i j h1 h2 h3 h4=>by
   rcases Nat.lt_trichotomy u a with e|e|e
   ·have:=Z2y hu h.dv e
    exact((h.bs u hu this).out hs (.inl this)) i j h1 h2 h3
   ·subst e;exact hr i j h1 h2 h4
   ·have:=Z2y h.dv hu e;omega⟩
end
theorem BkS.all {κ:Int->Int} {B n:Nat} {zs:List Int} (h:BkS κ B n zs) (hn:n<=B):SR κ zs 0 n:=fun i j _ ij jn=>h 0 (Nat.dvd_zero _) i j (Nat.zero_le _) ij (by omega) jn
end
section
open Go.RowKit Go.ChangeShapes Go.WideShapes Go.ChangeAt Go.Deep
theorem Zfq (g N cap F p1 p2:Nat) (G:World->Prop) (C:Int->Int->Int) (κ:Int->Int) (D:Int->Prop) (hC:Z8c F p1 p2 g G C κ D) (h9:N<=1000000) (w:World) (a b:Nat) (xs:List Int) (hG:G w) (h:SoP w g N cap xs) (hD:∀x ∈ xs,D x) (hinc:∀i j,a<=i->i<j->j<b->at0 xs i<at0 xs j) (hbN:b<=N) (haN:a<=N):
 Calls Tryz.prog 154 #[.slice (some ⟨g,0,none⟩) N cap,.int .i64 (a:Int),.int .i64 (b:Int),.func (.func F) #[] #[.pointer (some ⟨p1,0,none⟩),.pointer (some ⟨p2,0,none⟩)]] w fun en w'=>en= .returned (.tuple #[])/\∃ys,SoP w' g N cap ys/\Sw a b xs ys/\SR κ ys a b/\Z01 (fun k=>k=g) w w':=Zmf w g N cap a b F p1 p2 G C κ D xs hC hG h hD hinc hbN haN h9
section
variable (w:World) (g N cap F p1 p2:Nat) (G:World->Prop) (C:Int->Int->Int) (κ:Int->Int) (D:Int->Prop) (xs:List Int)
theorem Zdg (hC:Z8c F p1 p2 g G C κ D) (hG:G w) (h:SoP w g N cap xs) (hD:∀x ∈ xs,D x) (hinc:∀i j,i<j->j<N->at0 xs i<at0 xs j) (h9:N<=1000000):
 Calls Tryz.prog 150 #[.slice (some ⟨g,0,none⟩) N cap,.int .i64 (N:Int),.func (.func F) #[] #[.pointer (some ⟨p1,0,none⟩),.pointer (some ⟨p2,0,none⟩)]] w fun en w'=>en= .returned (.tuple #[])/\∃ys,SoP w' g N cap ys/\ys.Perm xs/\SR κ ys 0 N/\Z01 (fun k=>k=g) w w':=by
 have H:=hi5 h hC hG hD hinc
 clear h hC hG hD hinc
 go_enter Tryz.func150,Tryz.ntmps150
 go_wp2_with fail
 go_loopw [7,8] (fun k7 k8 wr=>∃(a b:Nat) (zs:List Int),b=a+20/\k7= .int .i64 a/\k8= .int .i64 b/\SoP wr g N cap zs/\Ph1 κ N a xs zs/\Z01 (fun k=>k=g) w wr) (fun k7 _ _=>N-(intOf k7).toNat)
 case atStart=>exact⟨0,20,xs,rfl,rfl,rfl,H.out.1,Ph1.start _ _ _,Z01.refl _ _⟩
 case round=>
  obtain⟨a,b,zs,hb,rfl,rfl,hS,hP,hK⟩:=hrel
  have haN:=hP.le
  have HR:=hi4 hS hP hK hb
  by_cases hlt:b<=N
  ·have hlt':(b:Int)<=(N:Int):=by omega
   have wb:IntKind.i64.wrap ((b:Int)+20)=((b+20:Nat):Int):=by rw[show(b:Int)+20=((b+20:Nat):Int) by omega];exact I6n _ (by omega)
   have cI:=Zfq g N cap F p1 p2 G C κ D H.out.2.1 h9 wr a b zs (H.out.2.1.keep _ _ H.out.2.2.1 hK) hS (hP.sw.Ds H.out.2.2.2.1) (hP.inc H.out.2.2.2.2 hlt) hlt haN
   clear hS hP hK hb
   go_wp2_with fail
   refine cI.mono ?_
   rintro en w3 ⟨rfl,ys,h3,r3,r4,k3⟩
   have H3:=hi4 h3 r3 r4 k3
   clear h3 r3 r4 k3 cI
   go_wp2
   go_roundw
   case rel=>
    have hb:=HR.out.2.2.2
    exact⟨b,b+20,ys,rfl,rfl,by go_num,H3.out.1,by subst hb;exact HR.out.2.1.step hlt H3.out.2.1 H3.out.2.2.1,HR.out.2.2.1.trans H3.out.2.2.2⟩
   case measure=>
    have hb:=HR.out.2.2.2
    simp[intOf];omega
  ·have hlt':¬(b:Int)<=(N:Int):=by omega
   have cI:=Zfq g N cap F p1 p2 G C κ D H.out.2.1 h9 wr a N zs (H.out.2.1.keep _ _ H.out.2.2.1 hK) hS (hP.sw.Ds H.out.2.2.2.1) (hP.inc H.out.2.2.2.2 (Nat.le_refl _)) (Nat.le_refl _) haN
   clear hS hP hK hb
   go_wp2_with fail
   refine cI.mono ?_
   rintro en w3 ⟨rfl,ys,h3,r3,r4,k3⟩
   obtain⟨m1,m2,m3⟩:=HR.out.2.1.done (by have:=HR.out.2.2.2;omega) r3 r4
   have H3:=hi5 h3 m1 m2 m3 (HR.out.2.2.1.trans k3)
   clear h3 r3 r4 k3 cI m1 m2 m3
   go_wp2_with fail
   go_loopw [6,7,8,9] (fun k6 _ _ _ wr=>∃(B:Nat) (zs:List Int),20<=B/\B<=2000000/\k6= .int .i64 B/\SoP wr g N cap zs/\zs.Perm xs/\BkI B N xs zs/\BkS κ B N zs/\Z01 (fun k=>k=g) w wr) (fun k6 _ _ _ _=>N-(intOf k6).toNat)
   case atStart=>exact⟨20,ys,Nat.le_refl _,by omega,rfl,H3.out⟩
   case round=>
    obtain⟨B,zs,hB,hB2,rfl,hS,hp,hI,hbs,hK⟩:=hrel
    have HB:=hi5 hS hp hI hbs hK
    clear hS hp hI hbs hK
    by_cases hlt:B<N
    ·have hlt':(B:Int)<(N:Int):=by omega
     obtain⟨B2,hB2e⟩:∃B2,2*B=B2:=⟨_,rfl⟩
     have w2:IntKind.i64.wrap (2*(B:Int))=(B2:Int):=by rw[show 2*(B:Int)=(B2:Int) by omega];exact I6n _ (by omega)
     have w2b:IntKind.i64.wrap ((B:Int)*2)=(B2:Int):=by rw[show(B:Int)*2=(B2:Int) by omega];exact I6n _ (by omega)
     have hB2e:=Hd hB2e
     go_wp2_with fail
     go_loopw [7,8] (fun k7 k8 wr=>∃(a b:Nat) (ts:List Int),b=a+B2/\k7= .int .i64 a/\k8= .int .i64 b/\SoP wr g N cap ts/\Ph2 κ N B a xs zs ts/\Z01 (fun k=>k=g) w wr) (fun k7 _ _=>N-(intOf k7).toNat)
     case atStart=>exact⟨0,B2,zs,by omega,rfl,rfl,HB.out.1,Ph2.start HB.out.2.2.1 (by omega),HB.out.2.2.2.2⟩
     case round=>
      obtain⟨a,b,ts,hb,rfl,rfl,hS,hP,hK⟩:=hrel
      have haN:=hP.le
      have HR2:=hi4 hS hP hK hb
      obtain⟨m,hm⟩:∃m,a+B=m:=⟨_,rfl⟩
      have hB2n:=hB2e.out
      have wm:IntKind.i64.wrap ((a:Int)+(B:Int))=(m:Int):=by rw[show(a:Int)+(B:Int)=(m:Int) by omega];exact I6n _ (by omega)
      by_cases hle:b<=N
      ·have hle':(b:Int)<=(N:Int):=by omega
       obtain⟨c1,c2,c3⟩:=hP.pre HB.out.2.2.1 HB.out.2.2.2.1 H.out.2.2.2.2 hle (by omega)
       rw[hm]at c1 c2 c3
       have cI:=Zfp g N cap F p1 p2 G C κ D H.out.2.1 h9 _ wr a m b ts (H.out.2.1.keep _ _ H.out.2.2.1 hK) hS (fun x hx=>H.out.2.2.2.1 x (HB.out.2.1.subset (hP.sw.pm.subset hx))) (c1 m (by omega) (by omega)) c2 c3 (by omega) (by omega) hle (Nat.le_refl _)
       obtain⟨b2,hb2⟩:∃b2,b+B2=b2:=⟨_,rfl⟩
       have wb:IntKind.i64.wrap ((b:Int)+(B2:Int))=(b2:Int):=by rw[show(b:Int)+(B2:Int)=(b2:Int) by omega];exact I6n _ (by omega)
       have hm:=Hd hm
       have hb2:=Hd hb2
       clear hS hP hK hb c1 c2 c3 hB2n
       go_wp2_with fail
       refine cI.mono ?_
       rintro en w3 ⟨rfl,ys,h3,r3,r4,k3⟩
       have H4:=hi4 h3 r3 r4 k3
       clear h3 r3 r4 k3 cI
       go_wp2
       go_roundw
       case rel=>
        obtain⟨hS,hP,hK,hb⟩:=HR2.out
        have e2:=hB2e.out
        have e3:=hb2.out
        refine⟨b,b2,ys,by omega,rfl,by go_num,H4.out.1,?_,hK.trans H4.out.2.2.2⟩
        rw[hb,<-e2]
        rw[hb,<-e2]at hle
        exact hP.step (by omega) hle (by rw[e2,<-hb];exact H4.out.2.1) (by rw[e2,<-hb];exact H4.out.2.2.1)
       case measure=>
        have hb:=HR2.out.2.2.2
        have e2:=hB2e.out
        simp[intOf];omega
      ·have hle':¬(b:Int)<=(N:Int):=by omega
       by_cases hmn:m<N
       ·have hmn':(m:Int)<(N:Int):=by omega
        obtain⟨c1,c2,c3⟩:=hP.pre HB.out.2.2.1 HB.out.2.2.2.1 H.out.2.2.2.2 (Nat.le_refl N) (by omega)
        rw[hm]at c1 c2 c3
        have cI:=Zfp g N cap F p1 p2 G C κ D H.out.2.1 h9 _ wr a m N ts (H.out.2.1.keep _ _ H.out.2.2.1 hK) hS (fun x hx=>H.out.2.2.2.1 x (HB.out.2.1.subset (hP.sw.pm.subset hx))) (c1 m (by omega) (by omega)) c2 c3 (by omega) hmn (Nat.le_refl _) (Nat.le_refl _)
        have hm:=Hd hm
        clear hS hP hK hb c1 c2 c3 hB2n
        go_wp2_with fail
        refine cI.mono ?_
        rintro en w3 ⟨rfl,ys,h3,r3,r4,k3⟩
        have H4:=hi4 h3 r3 r4 k3
        clear h3 r3 r4 k3 cI
        go_wp2
        go_roundw
        case rel=>
         obtain⟨hS,hP,hK,hb⟩:=HR2.out
         have e2:=hB2e.out
         obtain⟨d1,d2,d3⟩:=hP.done (by omega) H4.out.2.1 H4.out.2.2.1
         rw[e2]at d2 d3
         exact⟨B2,ys,by omega,by omega,by go_num,H4.out.1,d1.trans HB.out.2.1,d2,d3,hK.trans H4.out.2.2.2⟩
        case measure=>
         have e2:=hB2e.out
         simp[intOf];omega
       ·have hmn':¬(m:Int)<(N:Int):=by omega
        obtain⟨c1,c2,c3⟩:=hP.pre HB.out.2.2.1 HB.out.2.2.2.1 H.out.2.2.2.2 (Nat.le_refl N) (by omega)
        have HC:=Hd (c1 N (by omega) (Nat.le_refl _))
        have hm:=Hd hm
        clear hS hP hK hb c1 c2 c3 hB2n
        go_wp2
        go_roundw
        case rel=>
         obtain⟨hS,hP,hK,hb⟩:=HR2.out
         have e2:=hB2e.out
         obtain⟨d1,d2,d3⟩:=hP.done (by omega) (Sw.refl _ _ _) HC.out
         rw[e2]at d2 d3
         exact⟨B2,ts,by omega,by omega,by go_num,hS,d1.trans HB.out.2.1,d2,d3,hK⟩
        case measure=>
         have e2:=hB2e.out
         simp[intOf];omega
    ·have hlt':¬(B:Int)<(N:Int):=by omega
     go_wp2
     go_end0
     exact⟨rfl,zs,HB.out.1,HB.out.2.1,HB.out.2.2.2.1.all (by omega),HB.out.2.2.2.2⟩
theorem Zcb (hC:Z8c F p1 p2 g G C κ D) (hG:G w) (h:SoP w g N cap xs) (hD:∀x ∈ xs,D x) (hinc:∀i j,i<j->j<N->at0 xs i<at0 xs j) (h9:N<=1000000):
 Calls Tryz.prog 130 #[.slice (some ⟨g,0,none⟩) N cap,.func (.func F) #[] #[.pointer (some ⟨p1,0,none⟩),.pointer (some ⟨p2,0,none⟩)]] w fun en w'=>en= .returned (.tuple #[])/\∃ys,SoP w' g N cap ys/\ys.Perm xs/\ys.Pairwise (Rk κ)/\Z01 (fun k=>k=g) w w':=by
 have H:=Hd (Zdg w g N cap F p1 p2 G C κ D xs hC hG h hD hinc h9)
 clear h hC hG hD hinc
 go_enter Tryz.func130,Tryz.ntmps130
 go_wp2_with fail
 refine H.out.mono ?_
 rintro en w3 ⟨rfl,ys,h3,r3,r4,k3⟩
 have H3:=hi4 h3 r3 r4 k3
 clear h3 r3 r4 k3
 go_wp2
 go_end0
 exact⟨rfl,ys,H3.out.1,H3.out.2.1,SR.pairwise (by rw[H3.out.1.len];exact H3.out.2.2.1),H3.out.2.2.2⟩
end
end
end Go.Proofs.YtihljjgmkaeohaaGreat
