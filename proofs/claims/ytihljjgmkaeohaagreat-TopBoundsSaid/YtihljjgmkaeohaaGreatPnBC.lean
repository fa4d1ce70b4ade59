/- part 29 -/
import Derived.Test.YtihljjgmkaeohaaGreatPnBA
import Derived.Test.YtihljjgmkaeohaaGreatPnBB
set_option linter.all false
set_option maxHeartbeats 16000000
set_option maxRecDepth 100000
namespace Go.Proofs.YtihljjgmkaeohaaGreat
section
open Go.RowKit Go.ChangeShapes Go.WideShapes Go.ChangeAt Go.Deep
structure Ent where
 k:Int
 t:Int
 ok:Int
 ov:Int
 bits:Int
def thr (S:WM) (k:Int):Option TS:=if 0<=k then S.T[k.toNat]? else none
def Zap (S:WM) (e:Ent):WM:=match thr S e.t with
 |some ⟨t,n,F⟩=>if t.i1=0 then Z7e S e.t.toNat (Zct t e.ok e.ov) n F e.ok e.ov true else S
 |none=>S
def Zaq (c:Cfg) (S:WM) (e:Ent) (S':WM):Prop:=match thr S e.t with
 |some ⟨t,n,F⟩=>if t.i1=0 then S'={S with n:=S.n+1}else ∃S1,Z93 c S e.t.toNat t n F S1/\S'={S1 with n:=S1.n+1}
 |none=>S'={S with n:=S.n+1}
def Ze5 (c:Cfg) (S:WM) (e:Ent) (S':WM):Prop:=if e.k=1 then S'=Zap S e else if e.k=2 then Zaq c S e S' else S'=S
structure Znl (c:Cfg) (S:WM) (i:Nat):Prop where
 val:∀(k n:Nat) (t:Th) (F:Nat->Int),S.T[k]?=some ⟨t,n,F⟩->(t.i1=0\/Z52 t=true\/Z28 t=true\/Z2q t=true)/\(-9223372036854775808<=t.i2/\t.i2<=9223372036854775807)/\(-9223372036854775808<=t.i6/\t.i6<=9223372036854775807)/\(0<=t.i0/\t.i0<c.th)/\n<=i
 ev:S.ev.length<=i
 n:S.n<=i
 lg:S.lg.length<=i*i
 i32:Z2l S.its
structure Z2h (e:Ent):Prop where
 k:0<=e.k/\e.k<=255
 ok:0<=e.ok/\e.ok<=255
 ov: -2147483648<=e.ov/\e.ov<=2147483647
 bits:0<=e.bits/\e.bits<=255
theorem Z64 {S:WM} {k:Int} {x:TS} (h:thr S k=some x):∃j:Nat,k=(j:Int)/\k.toNat=j/\S.T[j]?=some x:=by
 unfold thr at h
 split at h
 ·exact⟨k.toNat,by omega,rfl,h⟩
 ·cases h
theorem Zcv {S:WM} {k:Int} (h:thr S k=none):k<0\/(S.T.length:Int)<=k:=by
 unfold thr at h
 split at h
 ·have:=List.getElem?_eq_none_iff.1 h;right;omega
 ·left;omega
section
variable {W0 w:World} {p:Nat} {c:Cfg} {S:WM} {a:WA}
theorem Znm (h:WP W0 w p c S a) (e:Ent) (i:Nat) (hG:Znl c S i) (hi:i<=20000) (hE:Z2h e):
 Calls Tryz.prog 33 #[.pointer (some ⟨p,0,none⟩),.int .i64 e.t,.agg #[.int .u8 e.ok,.int .i32 e.ov]] w fun en w'=>(∃b,en= .returned (.bool b))/\∃a',WP W0 w' p c (Zap S e) a'/\a'.st=a.st:=by
 cases hth:thr S e.t with
 |none=>
  refine(Zhj h e.t e.ok e.ov (Zcv hth)).mono ?_
  rintro en w' ⟨rfl,hb⟩
  exact⟨⟨_,rfl⟩,a,by unfold Zap;rw[hth];exact h.below hb,rfl⟩
 |some x=>
  obtain⟨t,n,F⟩:=x
  obtain⟨j,hj,hjn,hT⟩:=Z64 hth
  have hv:=hG.val j n t F hT
  have hev:=hG.ev
  by_cases h0:t.i1=0
  ·have:=Zcu h j n t (Zct t e.ok e.ov) F hT e.ok e.ov true (by omega) (fun u bt hI=>Ze3 u t e.ok e.ov bt n F hI (by have:=hv.2.2.2.2;omega) hE.ok.1 hE.ok.2 hE.ov.1 hE.ov.2 h0)
   rw[hj]
   refine this.mono ?_
   rintro en w' ⟨rfl,a',hP,hs⟩
   exact⟨⟨_,rfl⟩,a',by unfold Zap;rw[hth];dsimp only;rw[if_pos h0,hjn];exact hP,hs⟩
  ·have:=Zcu h j n t t F hT e.ok e.ov false (by omega) (fun u bt hI=>Zhi u t e.ok e.ov bt n F hI (by have:=hv.2.2.2.2;omega) hE.ok.1 hE.ok.2 hE.ov.1 hE.ov.2 h0)
   rw[hj]
   refine this.mono ?_
   rintro en w' ⟨rfl,a',hP,hs⟩
   refine⟨⟨_,rfl⟩,a',?_,hs⟩
   unfold Zap
   rw[hth]
   dsimp only
   rw[if_neg h0]
   unfold Z7e at hP
   rw[if_neg (by decide)]at hP
   exact hP
theorem Znn (h:WP W0 w p c S a) (e:Ent) (i:Nat) (hG:Znl c S i) (hi:i<=20000) (s1:a.st<900000) (hcap:c.cap<=1000) (hth1:1<=c.th):
 Calls Tryz.prog 34 #[.pointer (some ⟨p,0,none⟩),.int .i64 e.t] w fun en w'=>(∃b,en= .returned (.bool b))/\∃S' a',Zaq c S e S'/\WP W0 w' p c S' a'/\a'.st<=a.st+1:=by
 have hn:=hG.n
 cases hth:thr S e.t with
 |none=>
  refine(Zhp h e.t (Zcv hth) (by omega)).mono ?_
  rintro en w' ⟨rfl,a',hP,hs⟩
  exact⟨⟨_,rfl⟩,_,a',by unfold Zaq;rw[hth],hP,by omega⟩
 |some x=>
  obtain⟨t,n,F⟩:=x
  obtain⟨j,hj,hjn,hT⟩:=Z64 hth
  have hv:=hG.val j n t F hT
  have hev:=hG.ev
  have hlg:=hG.lg
  by_cases h0:t.i1=0
  ·rw[hj]
   refine(Ze4 h j n t F hT h0 (by omega)).mono ?_
   rintro en w' ⟨rfl,a',hP,hs⟩
   exact⟨⟨_,rfl⟩,_,a',by unfold Zaq;rw[hth];dsimp only;rw[if_pos h0],hP,by omega⟩
  ·rw[hj]
   have hii:i*i<=20000*20000:=Nat.mul_le_mul hi hi
   refine(Zkh h j n t F hT (hv.1.resolve_left h0) hv.2.1 hv.2.2.1 hv.2.2.2.1 (by have:=hv.2.2.2.2;omega) s1 (by omega) hcap hG.i32 (by have:=hv.2.2.2.2;omega) hth1 (by omega)).mono ?_
   rintro en w' ⟨rfl,S',a',hS,hP,hs⟩
   exact⟨⟨_,rfl⟩,_,a',by unfold Zaq;rw[hth];dsimp only;rw[if_neg h0,hjn];exact⟨S',hS,rfl⟩,hP,hs⟩
end
theorem WP.fed {W0 w w':World} {p:Nat} {c:Cfg} {S:WM} {a:WA} (h:WP W0 w p c S a) {cv':Value} {bs':List Bool} (hO:Z4j w' a.o c.ob c.cap c.pl S.its a.cc cv' bs' a.bd a.G) (hG:∀k,ObF a.o a.cc cv' a.G k->ObF a.o a.cc a.cv a.G k\/w.heap.size<=k) (hk:Z01 (ObF a.o a.cc a.cv a.G) w w'):∃a',WP W0 w' p c S a'/\a'.st=a.st:=by
 have hF:∀k,ObF a.o a.cc a.cv a.G k->¬Z18 a.b a.g k:=fun k e=>Z18.tag h (h.tob k e) (by decide)
 obtain⟨tag',P,-,-⟩:=h.step (h.mem.kept hk (h.mem.B.trans (hk.below h.base (fun k hk2 e=>by have:=(h.ge k (by rw[h.tob k e];decide)).1;omega))) (fun e=>hF _ e (.inl rfl)) (fun k e e2=>hF k e2 (.inr e.symm))) h.st0 hO (hk.mono (fun _ _ e=>.inr e)) (.inl rfl) hG (fun k e e2=>by
  have h1:=h.tm k (.inr e.symm)
  rcases hG k e2 with h2|h2
  ·rw[h.tob k h2]at h1;omega
  ·have:=(h.ge k (by rw[h1];decide)).2;omega)
 exact⟨_,P,rfl⟩
theorem Zql {W0 w:World} {p:Nat} {c:Cfg} {S:WM} {a:WA} (h:WP W0 w p c S a) (e:Ent) (i:Nat) (hG:Znl c S i) (hi:i<=20000) (hE:Z2h e) (s1:a.st<900000) (hcap:c.cap<=1000) (hth1:1<=c.th):
 Calls Tryz.prog 18 #[.pointer (some ⟨p,0,none⟩),.agg #[.int .u8 e.k,.int .i64 e.t,.int .u8 e.ok,.int .i32 e.ov,.int .u8 e.bits]] w fun en w'=>(∃b,en= .returned (.bool b))/\∃S' a',Ze5 c S e S'/\WP W0 w' p c S' a'/\a'.st<=a.st+1:=by
 have cC:=fun u (hu:Below w.heap.size w u)=>Znm (h.below hu) e i hG hi hE
 have cP:=fun u (hu:Below w.heap.size w u)=>Znn (h.below hu) e i hG hi s1 hcap hth1
 have CC:=hi2 cC cP
 obtain⟨⟨c0,c1,c2,c3,c4,c5,c6,c7,c8,c9,c10,c11,c12,c13⟩,cf,cz⟩:=h.open
 have hbits:=hE.bits
 have H:=Hd h
 clear cC cP h hG hE s1 hcap hth1
 obtain⟨ek,et,eok,eov,eb⟩:=e
 dsimp only at hbits
 by_cases h1:ek=1
 ·subst h1
  clear c0 c1 c2 c3 c4 c5 c6 c7 c8 c9 c10 c11 c12 c13 cf
  go_enter Tryz.func18,Tryz.ntmps18
  go_wp2_with fail
  refine(CC.out.1 _ (by go_grown)).mono ?_
  rintro en w' ⟨⟨b,rfl⟩,a',hP,hs⟩
  have H5:=hi2 hP hs
  clear hP hs
  go_wp2
  go_ret
  first|exact⟨⟨_,rfl⟩,_,a',by unfold Ze5;rw[if_pos rfl],H5.out.1,by rw[H5.out.2];omega⟩|exact⟨_,a',by unfold Ze5;rw[if_pos rfl],H5.out.1,by rw[H5.out.2];omega⟩
 by_cases h2:ek=2
 ·subst h2
  clear c0 c1 c2 c3 c4 c5 c6 c7 c8 c9 c10 c11 c12 c13 cf
  go_enter Tryz.func18,Tryz.ntmps18
  go_wp2_with fail
  refine(CC.out.2 _ (by go_grown)).mono ?_
  rintro en w' ⟨⟨b,rfl⟩,S',a',hE,hP,hs⟩
  have H5:=hi3 hE hP hs
  clear hE hP hs
  go_wp2
  go_ret
  first|exact⟨⟨_,rfl⟩,S',a',by unfold Ze5;rw[if_neg (by show ¬(2:Int)=1;omega),if_pos rfl];exact H5.out.1,H5.out.2.1,H5.out.2.2⟩|exact⟨S',a',by unfold Ze5;rw[if_neg (by show ¬(2:Int)=1;omega),if_pos rfl];exact H5.out.1,H5.out.2.1,H5.out.2.2⟩
 have b1:(ek == 1)=false:=beq_eq_false_iff_ne.2 h1
 have b2:(ek == 2)=false:=beq_eq_false_iff_ne.2 h2
 have HE:=hi2 h1 h2
 by_cases h3:ek=3
 ·subst h3
  clear c0 c1 c2 c3 c4 c5 c6 c8 c9 c10 c11 c12 c13 cf h1 h2 CC
  go_enter Tryz.func18,Tryz.ntmps18
  go_wp2_with fail
  generalize hB:w.heap.size=B
  generalize hW1:World.alloc _ _=W1
  have B1:Below w.heap.size w W1:=by rw[<-hW1];go_grown
  have hE1:W1.heap[B]?=some (.cells #[.int .u8 3,.int .i64 et,.int .u8 eok,.int .i32 eov,.int .u8 eb] 60 (0,0)):=by rw[<-hW1,<-hB];exact Han _ _
  have e4:W1.cell? ⟨B,4,none⟩=some (.int .u8 eb):=by simp[World.cell?,hE1]
  have ez:B<W1.heap.size:=(Gl hE1)
  have d7:=(B1.cell (p:=⟨p,7,none⟩) cz).trans c7
  have dz:=Nlt cz B1.size
  have hNB:¬ObF a.o a.cc a.cv a.G B:=fun e=>by have:=(H.out.ge B (by rw[H.out.tob B e];decide)).2;omega
  have hNp:¬ObF a.o a.cc a.cv a.G p:=fun e=>by have h1:=H.out.tob p e;have h2:=H.out.tp;omega
  have RS:=Hd (fun(u:World) (hu:Below W1.heap.size W1 u)=>And.intro ((hu.cell (p:=⟨p,7,none⟩) dz).trans d7) ((hu.cell (p:=⟨B,4,none⟩) ez).trans e4))
  have OB:=Hd (fun(u:World) (hu:Below W1.heap.size W1 u)=>(H.out.below B1).obj.below hu)
  have hcf:¬CoF a.cc a.cv W1.heap.size:=fun e=>by have h1:=(H.out.ge W1.heap.size (by rw[H.out.tob _ (.inr (.inl e))];decide)).2;have:=B1.size;omega
  have HB:=hi3 B1 hNB hNp
  clear hB hW1 B1 hE1 e4 d7 c7 hNB hNp
  go_region_held3 (fun wz=>wz.cell? ⟨p,7,none⟩=some (.pointer (some ⟨a.o,0,none⟩))/\wz.cell? ⟨B,4,none⟩=some (.int .u8 eb))
   (first|(exact HX)|(exact RS.out _ (by go_grown)))
   (first|(go_at_call 35;refine Go.Calls.mono (Zjy _ a.o c.ob c.cap c.pl S.its a.cc a.cv a.bs a.bd a.G (OB.out _ (by go_grown)) W1.heap.size 0 1 eb (by go_simp) hbits.1 hbits.2 hcf) ?_;rintro en w6 ⟨rfl,cv6,bs6,o6,g6,k6⟩;have K6:Z01 (ObF a.o a.cc a.cv a.G) W1 w6:=Z01.trans (Z0b (by go_grown)) k6;have HX:=And.intro ((K6.cell (p:=⟨p,7,none⟩) dz HB.out.2.2).trans (RS.out _ (Brf _ _)).1) ((K6.cell (p:=⟨B,4,none⟩) ez HB.out.2.1).trans (RS.out _ (Brf _ _)).2);have G6:∀k,ObF a.o a.cc cv6 a.G k->ObF a.o a.cc a.cv a.G k\/W1.heap.size<=k:=(fun k e=>(g6 k e).imp id (fun h=>(by first|omega|(simp at h;omega))));have H6:=hi3 o6 G6 K6;clear o6 g6 k6 K6 G6))
  all_goals
   go_wp2
   go_ret
   obtain⟨a',P',hs⟩:=(H.out.below HB.out.1).fed H6.out.1 H6.out.2.1 H6.out.2.2
   first|exact⟨⟨_,rfl⟩,S,a',by unfold Ze5;rw[if_neg HE.out.1,if_neg HE.out.2],P',by omega⟩|exact⟨S,a',by unfold Ze5;rw[if_neg HE.out.1,if_neg HE.out.2],P',by omega⟩
 ·have b3:(ek == 3)=false:=beq_eq_false_iff_ne.2 h3
  clear c0 c1 c2 c3 c4 c5 c6 c7 c8 c9 c10 c11 c12 c13 cf h1 h2 h3 CC
  go_enter Tryz.func18,Tryz.ntmps18
  go_wp2
  go_ret
  first|exact⟨⟨_,rfl⟩,S,a,by unfold Ze5;rw[if_neg HE.out.1,if_neg HE.out.2],H.out.below (by go_grown),by omega⟩|exact⟨S,a,by unfold Ze5;rw[if_neg HE.out.1,if_neg HE.out.2],H.out.below (by go_grown),by omega⟩
theorem Zno (w:World) (ob most:Int) (pl:Bool) (h1:1<=ob) (h2:ob<=3) (h3:1<=most) (h4:most<=1000):Calls Tryz.prog 32 #[.int .u8 ob,.int .i64 most,.bool pl] w (Zqf w ob most pl):=by
 obtain⟨n,rfl⟩:∃n:Nat,most=(n:Int):=⟨most.toNat,by omega⟩
 by_cases e1:ob=1
 ·rw[e1];exact Zn6 w n pl (by omega) (by omega)
 by_cases e2:ob=2
 ·rw[e2];exact Zn7 w n pl (by omega) (by omega)
 have e3:ob=3:=by omega
 rw[e3];exact Zn8 w n pl (by omega) (by omega)
theorem Z2r {c:Cfg} (h:Z0e c=true):(1<=c.ob/\c.ob<=3)/\(1<=c.th/\c.th<=64)/\(1<=c.cap/\c.cap<=1000)/\(1<=c.age/\c.age<=1000)/\1<=c.ps/\c.ps<=1000:=by
 simp only[Z0e,inB,Bool.and_eq_true,decide_eq_true_eq]at h;omega
theorem Tryz.infoTh:(Tryz.prog.info? 86).map (fun i=>(i.zero,i.size,i.bytes))=some (some (.agg #[.int .i64 0,.int .i64 0,.int .i64 0,.int .i64 0,.int .i64 0,.int .i64 0,.int .i64 0,.int .i64 0,.int .i64 0,.int .i64 0,.int .i64 0,.int .i64 0,.slice none 0 0]),13,120):=by kernel_rfl
theorem Zpn {w:World} {g:Nat} {t:Th} {v:Value} (h:w.heap[g]?=some (.cells #[.int .i64 t.i0,.int .i64 t.i1,.int .i64 t.i2,.int .i64 t.i3,.int .i64 t.i4,.int .i64 t.i5,.int .i64 t.i6,.int .i64 t.i7,.int .i64 t.i8,.int .i64 t.i9,.int .i64 t.i10,.int .i64 t.i11,v] 86 (0,0))):w.ownsRow 0 86 13 (.slice (some ⟨g,0,none⟩) 1 1) 1 (thF (t,v)):=
 ⟨rfl,.inr ⟨g,1,_,rfl,Nat.zero_le _,h,Nat.le_refl _,by unfold maxLen;omega,rfl,rfl⟩⟩
theorem Zpo (t:Th):∀u ∈ thF (t,.slice none 0 0),u.oneCell'=true:=by
 intro u hu
 simp only[thF,List.mem_cons,List.not_mem_nil,or_false]at hu
 rcases hu with rfl|rfl|rfl|rfl|rfl|rfl|rfl|rfl|rfl|rfl|rfl|rfl|rfl<;>rfl
def th0 (k:Nat):Th:=⟨(k:Int),0,0,0,0,0,0,0,0,0,0,0⟩
def tv0 (n:Nat):List (Th×Value):=(List.range n).map fun k=>(th0 k,.slice none 0 0)
theorem Zki (n:Nat):tv0 (n+1)=tv0 n++ [(th0 n,.slice none 0 0)]:=by simp[tv0,List.range_succ]
def wm0 (c:Cfg):WM:=⟨[0,0,0],(List.range c.th.toNat).map (fun k=>⟨th0 k,0,fun _=>0⟩),[],[],[],0⟩
theorem Zpp {w wc wr:World} {c:Cfg} {p b o mo cc n:Nat} {g:Option Nat} {bd:Value} {G:Nat->Prop} {tv:Value} (hn:c.th=(n:Int)) (hmo:wc.heap[mo]?=some (.map #[] 0)) (M:MS w wc b g (3+5*c.th) [0,0,0] 1) (O:Z4j wc o c.ob c.cap c.pl [] cc (.slice none 0 0) [] bd G) (q1:w.heap.size<=p) (q2:w.heap.size<=mo)
 (q3:∀k,ObF o cc (.slice none 0 0) G k->w.heap.size<=k/\k≠p/\k≠mo/\¬Z18 b g k) (q4:∀k,Z18 b g k->k≠p/\k≠mo) (q5:p≠mo) (hpc:p<wc.heap.size)
 (hb:wr.heap[p]?=some (.cells #[.int .u8 c.ob,.int .i64 c.th,.int .i64 c.cap,.int .i64 c.age,.int .i64 c.ps,.bool c.pl,.pointer (some ⟨b,0,none⟩),.pointer (some ⟨o,0,none⟩),tv,.map (some mo),.slice none 0 0,.slice none 0 0,.slice none 0 0,.int .i64 0] 83 (0,0))) (hT:Z1q thF 13 wr 86 tv (tv0 n)) (hK:Z01 (fun k=>k=p) wc wr) (hv:∀j,tv.ownBlock=some j->wc.heap.size<=j):
 ∃a,WP w wr p c (wm0 c) a/\a.st=1:=by
 classical
 have z:=hK.size
 have hmz:=(Gl hmo)
 have hF:∀k,Z18 b g k->w.heap.size<=k/\k<wc.heap.size:=fun k e=>by
  rcases e with e|e
  ·rw[e];exact⟨M.2.1,M.mem.lt⟩
  ·have h:=M;rw[<-e]at h;exact⟨h.2.2.1 k rfl,h.mem.row_lt⟩
 have hO:=fun k e=>O.lt k e
 let tag:Nat->Nat:=fun k=>if k=p then 1 else if Z18 b g k then 2 else if ObF o cc (.slice none 0 0) G k then 3 else if tv.ownBlock=some k then 4 else if k=mo then 5 else 0
 have hl:(tv0 n).length=n:=by simp[tv0]
 have hcn:c.th.toNat=n:=by omega
 refine⟨⟨b,o,g,tv0 n,tv,.slice none 0 0,.slice none 0 0,.slice none 0 0,mo,[],[],0,1,cc,.slice none 0 0,[],bd,G,tag⟩,?_,rfl⟩
 exact {
  blk:=hb
  mem:=M.kept hK (M.B.trans (hK.below M.B.size (fun k hk e=>by omega))) (fun e=>(q4 _ (.inl rfl)).1 e) (fun k e e2=>(q4 k (.inr e.symm)).1 e2)
  obj:=O.kept hK (fun k e=>(q3 k e).2.1)
  thr:=hT
  len:=by simp[tv0,wm0,hcn]
  thn:=by simp[wm0,hcn,hn]
  bat:=fun k hk=>by
   have hk2:k<n:=by simpa [wm0,hcn]using hk
   exact⟨.slice none 0 0,by simp[tv0,wm0,hcn,hk2],by simp[wm0];exact IRw.nil _ _⟩
  own:=⟨#[],0,(hK.block mo hmz (fun e=>q5 e.symm)).trans hmo,fun e he=>by simp at he⟩
  evr:=Z1q.nil _ _ _ _
  lgr:=Z1q.nil _ _ _ _
  lgm:=rfl
  pkr:=Z1j.nil _
  pkn:=rfl
  st0:=by show(0:Int)<=1;omega
  tp:=if_pos rfl
  tm:=fun k e=>by show(if _ then _ else _)=_;rw[if_neg (q4 k e).1,if_pos e]
  tob:=fun k e=>by show(if _ then _ else _)=_;rw[if_neg (q3 k e).2.1,if_neg (q3 k e).2.2.2,if_pos e]
  tt:=fun k e=>by
   have:=hv k e
   show(if _ then _ else _)=_
   rw[if_neg (by omega),if_neg (fun f=>by have:=hF k f;omega),if_neg (fun f=>by have:=hO k f;omega),if_pos e]
  tow:=by
   show(if _ then _ else _)=_
   rw[if_neg (fun e=>q5 e.symm),if_neg (fun f=>(q4 _ f).2 rfl),if_neg (fun f=>(q3 _ f).2.2.1 rfl),if_neg (fun e=>by have:=hv mo e;omega),if_pos rfl]
  te:=fun k e=>by cases e
  tl:=fun k e=>by cases e
  tpk:=fun k e=>by cases e
  tb:=fun k t v e j e2=>by
   have:v= .slice none 0 0:=by
    simp only[tv0,List.getElem?_map,Option.map_eq_some_iff]at e
    obtain⟨x,-,hx⟩:=e
    exact(Prod.mk.inj hx).2.symm
   rw[this]at e2;cases e2
  ge:=fun k e=>by
   by_cases e1:k=p
   ·omega
   by_cases e2:Z18 b g k
   ·have:=hF k e2;omega
   by_cases e3:ObF o cc (.slice none 0 0) G k
   ·have h1:=(q3 k e3).1;have h2:=hO k e3;omega
   by_cases e4:tv.ownBlock=some k
   ·have h1:=hv k e4;have h2:=hT.lt e4;have h3:=M.B.size;omega
   by_cases e5:k=mo
   ·omega
   exact absurd (show tag k=0 from by show(if _ then _ else _)=_;rw[if_neg e1,if_neg e2,if_neg e3,if_neg e4,if_neg e5]) e}
def Zl4 (w w2:World) (c:Cfg) (a3:Value) (wx:World):Prop:=
 ∃(p b o mo cc:Nat) (g:Option Nat) (bd:Value) (G:Nat->Prop),a3= .pointer (some ⟨p,0,none⟩)/\
  wx.heap[p]?=some (.cells #[.int .u8 c.ob,.int .i64 c.th,.int .i64 c.cap,.int .i64 c.age,.int .i64 c.ps,.bool c.pl,.pointer (some ⟨b,0,none⟩),.pointer (some ⟨o,0,none⟩),.slice none 0 0,.map (some mo),.slice none 0 0,.slice none 0 0,.slice none 0 0,.int .i64 0] 83 (0,0))/\wx.heap[mo]?=some (.map #[] 0)/\
  MS w wx b g (3+5*c.th) [0,0,0] 1/\Z4j wx o c.ob c.cap c.pl [] cc (.slice none 0 0) [] bd G/\w.heap.size<=p/\w.heap.size<=mo/\(∀k,ObF o cc (.slice none 0 0) G k->w.heap.size<=k/\k≠p/\k≠mo/\¬Z18 b g k)/\(∀k,Z18 b g k->k≠p/\k≠mo)/\p≠mo/\Below w2.heap.size w2 wx
theorem Z6w {w w2 u w5 u' w6 wx:World} {c:Cfg} {p mo o cc b:Nat} {g:Option Nat} {bd:Value} {G:Nat->Prop} (hb:b=u.heap.size) (hB:Below w.heap.size w w2) (hu:Below w2.heap.size w2 u) (M5:MS u w5 u.heap.size g (3+5*c.th) [0,0,0] 1) (b5:Below u.heap.size u w5) (hu':Below w5.heap.size w5 u')
 (O6:Z4j w6 o c.ob c.cap c.pl [] cc (.slice none 0 0) [] bd G) (F6:∀k,ObF o cc (.slice none 0 0) G k->u'.heap.size<=k) (b6:Below u'.heap.size u' w6) (Bx:Below w6.heap.size w6 wx)
 (hp:wx.heap[p]?=some (.cells #[.int .u8 c.ob,.int .i64 c.th,.int .i64 c.cap,.int .i64 c.age,.int .i64 c.ps,.bool c.pl,.pointer (some ⟨b,0,none⟩),.pointer (some ⟨o,0,none⟩),.slice none 0 0,.map (some mo),.slice none 0 0,.slice none 0 0,.slice none 0 0,.int .i64 0] 83 (0,0)))
 (hm:wx.heap[mo]?=some (.map #[] 0)) (h1:w2.heap.size<=mo) (h2:mo<u.heap.size\/(w5.heap.size<=mo/\mo<u'.heap.size)\/w6.heap.size<=mo) (h3:w6.heap.size<=p) (h4:p≠mo):Zl4 w w2 c (.pointer (some ⟨p,0,none⟩)) wx:=by
 subst hb
 have z0:=hB.size
 have z1:=hu.size
 have z2:=b5.size
 have z3:=hu'.size
 have z4:=b6.size
 have m5:=M5.mem.lt
 have hF:∀k,Z18 u.heap.size g k->u.heap.size<=k/\k<w5.heap.size:=fun k e=>by
  rcases e with e|e
  ·omega
  ·have h:=M5;rw[<-e]at h;exact⟨h.2.2.1 k rfl,h.mem.row_lt⟩
 have hO:∀k,ObF o cc (.slice none 0 0) G k->u'.heap.size<=k/\k<w6.heap.size:=fun k e=>⟨F6 k e,O6.lt k e⟩
 refine⟨p,u.heap.size,o,mo,cc,g,bd,G,rfl,hp,hm,?_,O6.below Bx,by omega,by omega,fun k e=>⟨by have:=hO k e;omega,by have:=hO k e;omega,by have:=hO k e;omega,fun f=>by have:=hO k e;have:=hF k f;omega⟩,fun k e=>by have:=hF k e;omega,h4,(((hu.trans (b5.mono z1)).trans (hu'.mono (by omega))).trans (b6.mono (by omega))).trans (Bx.mono (by omega))⟩
 have h5x:=(M5.below hu').below (b6.mono (Nat.le_refl _))
 have h6x:=h5x.below Bx
 obtain⟨x1,x2,x3,x4,x5⟩:=h6x
 have hwu:=hB.trans (hu.mono z0)
 exact⟨x1,by omega,fun k e=>by have:=x3 k e;omega,hwu.trans (x4.mono (by have:=hwu.size;omega)),x5⟩
theorem Zpq (w:World) (c:Cfg) (hc:Z0e c=true):Calls Tryz.prog 17 #[.agg #[.int .u8 c.ob,.int .i64 c.th,.int .i64 c.cap,.int .i64 c.age,.int .i64 c.ps,.bool c.pl]] w fun e w'=>∃p a,e= .returned (.pointer (some ⟨p,0,none⟩))/\WP w w' p c (wm0 c) a/\a.st=1:=by
 have hR:=Z2r hc
 have HR:=Hd hR
 have HC:=Hd hc
 clear hc hR
 go_enter Tryz.func17,Tryz.ntmps17
 go_wp2_with fail
 generalize hcb:w.heap.size=cb
 generalize hW1:World.alloc _ _=w1
 have hb1:w1.heap[cb]?=some (.cells #[.int .u8 c.ob,.int .i64 c.th,.int .i64 c.cap,.int .i64 c.age,.int .i64 c.ps,.bool c.pl] 25 (0,0)):=by rw[<-hW1,<-hcb];exact Han _ _
 have B1:Below w.heap.size w w1:=by rw[<-hW1];go_grown
 have HB1:=hi2 B1 hb1
 clear hcb hW1 B1 hb1
 refine(Z94 w1 c).mono ?_
 rintro e w2 ⟨rfl,hb2⟩
 rw[if_pos HC.out]
 have c2:=(hb2.block cb (Gl HB1.out.2)).trans HB1.out.2
 have cz:cb<w2.heap.size:=(Gl c2)
 have k0:w2.cell? ⟨cb,0,none⟩=some (.int .u8 c.ob):=by simp[World.cell?,c2]
 have k1:w2.cell? ⟨cb,1,none⟩=some (.int .i64 c.th):=by simp[World.cell?,c2]
 have k2:w2.cell? ⟨cb,2,none⟩=some (.int .i64 c.cap):=by simp[World.cell?,c2]
 have k3:w2.cell? ⟨cb,3,none⟩=some (.int .i64 c.age):=by simp[World.cell?,c2]
 have k4:w2.cell? ⟨cb,4,none⟩=some (.int .i64 c.ps):=by simp[World.cell?,c2]
 have k5:w2.cell? ⟨cb,5,none⟩=some (.bool c.pl):=by simp[World.cell?,c2]
 have B2:=HB1.out.1.trans (hb2.mono HB1.out.1.size)
 have AS:=Hd (fun(wz:World) (hu:Below w2.heap.size w2 wz)=>(show wz.cell? ⟨cb,0,none⟩=some (.int .u8 c.ob)/\wz.cell? ⟨cb,1,none⟩=some (.int .i64 c.th)/\wz.cell? ⟨cb,2,none⟩=some (.int .i64 c.cap)/\wz.cell? ⟨cb,3,none⟩=some (.int .i64 c.age)/\wz.cell? ⟨cb,4,none⟩=some (.int .i64 c.ps)/\wz.cell? ⟨cb,5,none⟩=some (.bool c.pl)from⟨(hu.cell (p:=⟨cb,0,none⟩) cz).trans k0,(hu.cell (p:=⟨cb,1,none⟩) cz).trans k1,(hu.cell (p:=⟨cb,2,none⟩) cz).trans k2,(hu.cell (p:=⟨cb,3,none⟩) cz).trans k3,(hu.cell (p:=⟨cb,4,none⟩) cz).trans k4,(hu.cell (p:=⟨cb,5,none⟩) cz).trans k5⟩))
 have H2:=Hd B2
 have qm:∀u:World,(Instr.makeMap 80 none).run Tryz.prog u= .ok (.map (some u.heap.size)) (u.alloc (.map #[] 0)):=fun u=>rfl
 clear hb2 c2 B2
 go_wp2_with fail
 go_cut [3]from 8 to 21 (fun a3 wx=>Zl4 w w2 c a3 wx)
 case first=>
  go_region_held3 (fun wz=>wz.cell? ⟨cb,0,none⟩=some (.int .u8 c.ob)/\wz.cell? ⟨cb,1,none⟩=some (.int .i64 c.th)/\wz.cell? ⟨cb,2,none⟩=some (.int .i64 c.cap)/\wz.cell? ⟨cb,3,none⟩=some (.int .i64 c.age)/\wz.cell? ⟨cb,4,none⟩=some (.int .i64 c.ps)/\wz.cell? ⟨cb,5,none⟩=some (.bool c.pl))
   (first|(exact AS.out _ (BN.out.trans (by go_grown)))|(exact AS.out _ (BO.out.trans (by go_grown)))|(exact AS.out _ (by go_grown)))
   (first
     |(go_at_call 31;refine Go.Calls.mono (Zll c.th _ _ (Brf _ _) HR.out.2.1.1 HR.out.2.1.2) ?_;rintro e w5 ⟨g5,rfl,m5,b5⟩;have BO:=Hd (show Below w2.heap.size w2 w5 from Below.trans (by go_grown) (b5.mono (by first|exact Nat.le_refl _|omega|(simp;done)|(simp;omega))));have zO:w2.heap.size<=w5.heap.size:=BO.out.size;have M5:=hi2 m5 b5;clear m5 b5)
     |(go_at_call 32;refine Go.Calls.mono (Zno _ c.ob c.cap c.pl HR.out.1.1 HR.out.1.2 HR.out.2.2.1.1 HR.out.2.2.1.2) ?_;rintro e w6 ⟨o6,cc6,bd6,G6,rfl,O6,F6,b6⟩;have BN:=Hd (show Below w2.heap.size w2 w6 from BO.out.trans (Below.trans (by go_grown) (b6.mono (by first|exact Nat.le_refl _|omega|(simp;done)|(simp;omega)))));have zN:w2.heap.size<=w6.heap.size:=BN.out.size;have M6:=hi3 O6 F6 b6;clear O6 F6 b6))
  all_goals
   go_wp2_with fail
   go_meet
   case rel=>
    obtain⟨m5,b5⟩:=M5.out
    obtain⟨O6,F6,b6⟩:=M6.out
    first
     |exact Z6w rfl H2.out (Brf _ _).drew m5 b5 (Brf _ _) O6 F6 b6 (by go_grown) (Z05 _ _ _).2 (Z05 _ _ _).1 (by omega) (.inr (.inr (Nat.le_refl _))) (by omega) (by omega)
     |exact Z6w rfl H2.out (Brf _ _).drew m5 b5 (by go_grown) O6 F6 b6 (by go_grown) (Han _ _) ((Below.heap_alloc _ _ _ (by have:=b6.size;simp at this;omega)).trans ((b6.block w5.heap.size (by simp)).trans (Han _ _))) (by omega) (.inr (.inl ⟨Nat.le_refl _,by simp⟩)) (by omega) (by have:=b6.size;simp at this;omega)
     |exact Z6w (by simp) H2.out (by go_grown) m5 b5 (Brf _ _) O6 F6 b6 (by go_grown) (Han _ _) ((Below.heap_alloc _ _ _ (by have:=b5.size;have:=b6.size;simp at *;omega)).trans ((b6.block w2.heap.size (by have:=b5.size;simp at *;omega)).trans ((b5.block w2.heap.size (by simp)).trans (Han _ _)))) (by omega) (.inl (by simp)) (by omega) (by have:=b5.size;have:=b6.size;simp at *;omega)
 case rest=>
  obtain⟨p,b,o,mo,cc,g,bd,G,rfl,hb,hmo,M,O,q1,q2,q3,q4,q5,q6⟩:=hcut
  obtain⟨n,hn⟩:∃n:Nat,c.th=(n:Int):=⟨c.th.toNat,by have:=HR.out.2.1;omega⟩
  have hn9:n<=64:=by have:=HR.out.2.1;omega
  have hpz:=(Gl hb)
  have kcb:wc.cell? ⟨cb,1,none⟩=some (.int .i64 c.th):=(q6.cell (p:=⟨cb,1,none⟩) cz).trans k1
  have hcp:cb<wc.heap.size:=Nlt cz q6.size
  have HM:=hi10 hb hmo M O q1 q2 q3 q4 q5 hn
  rw[hn]at kcb
  have H0:=hi2 hb hpz
  clear hb hmo M O q1 q2 q3 q4 q5 q6 hn AS k0 k1 k2 k3 k4 k5 hpz
  obtain⟨i0',hi,hz0,hz1,hz2⟩:=info_parts Tryz.infoTh
  go_wp2_with fail
  clear kcb
  go_loopw [24] (fun x wr=>∃(i:Nat) (tv:Value),i<=n/\x= .int .i64 i/\wr.heap[p]?=some (.cells #[.int .u8 c.ob,.int .i64 c.th,.int .i64 c.cap,.int .i64 c.age,.int .i64 c.ps,.bool c.pl,.pointer (some ⟨b,0,none⟩),.pointer (some ⟨o,0,none⟩),tv,.map (some mo),.slice none 0 0,.slice none 0 0,.slice none 0 0,.int .i64 0] 83 (0,0))/\Z1q thF 13 wr 86 tv (tv0 i)/\Z01 (fun k=>k=p) wc wr/\(∀j,tv.ownBlock=some j->wc.heap.size<=j)) (fun x _=>n-(intOf x).toNat)
  case atStart=>exact⟨0,.slice none 0 0,Nat.zero_le _,rfl,H0.out.1,Z1q.nil _ _ _ _,Z01.refl _ _,fun j e=>by cases e⟩
  case round=>
   obtain⟨i,tv,hin,rfl,hb,hT,hK,hv⟩:=hrel
   have yi:(0:Int)<=(i:Int):=by omega
   by_cases hlt:i<n
   ·have hlt':(i:Int)<(n:Int):=by omega
    obtain⟨ao,cap,rfl⟩:=hT.shape
    have hti:(tv0 i).length=i:=by simp[tv0]
    rw[hti]at hT hb hv
    have d8:wr.cell? ⟨p,8,none⟩=some (.slice ao i cap):=by simp[World.cell?,hb]
    have f8:=Z06 hb 8
    have dz:=(Gl hb)
    have RU:=Hd (fun(u:World) (hu:Below wr.heap.size wr u)=>hT.below hu)
    have hvp:¬(Value.slice ao i cap).ownBlock=some p:=fun e=>by have:=hv p e;have:=H0.out.2;omega
    have HR:=hi5 hb hT hK hv hti
    clear hb hT hK hv hti
    go_wp2_with (at_builtin;refine Z0c _ rfl _ _ 81 rfl 0 0 86 i0' (.agg #[.int .i64 0,.int .i64 0,.int .i64 0,.int .i64 0,.int .i64 0,.int .i64 0,.int .i64 0,.int .i64 0,.int .i64 0,.int .i64 0,.int .i64 0,.int .i64 0,.slice none 0 0]) 13 120 Tryz.underlying81 hi hz0 hz1 hz2 rfl (by decide) _ _ _ rfl (RU.out _ (by go_grown)) _ 1 (thF (th0 i,.slice none 0 0)) rfl (Zpn (Han _ _)) (Zpo _) ?c3 ?c4 ?c5 ?_)
    case c3=>rw[HR.out.2.2.2.2];unfold maxLen;omega
    case c4=>rw[HR.out.2.2.2.2];omega
    case c5=>exact Nat.zero_le _
    intro v5 w5 own5 gr5 _ loc5
    obtain⟨ao5,cap5,rfl⟩:=Z03 own5
    have K5:Z01 (fun j=>(Value.slice ao i cap).ownBlock=some j) wr w5:=((Z01.refl _ wr).alloc _).grown gr5 (fun k e _=>e)
    have e8:=(K5.cell (p:=⟨p,8,none⟩) dz hvp).trans d8
    have ef:=(K5.frozen (p:=⟨p,8,none⟩) dz hvp).trans f8
    have H5:=hi3 own5 K5 loc5
    clear own5 gr5 loc5 K5 d8 f8 RU
    go_wp2
    go_roundw
    case rel=>
     obtain⟨own5,K5,loc5⟩:=H5.out
     obtain⟨hb,hT,hK,hv,hti⟩:=HR.out
     have hzw:=hK.size
     have hb5:=(K5.block p dz hvp).trans hb
     have kS:=Z02 w5 ⟨p,8,none⟩ (.slice ao5 ((tv0 i).length+1) cap5)
     have hv5:∀j,(Value.slice ao5 ((tv0 i).length+1) cap5).ownBlock=some j->wc.heap.size<=j:=fun j e=>by
      rcases loc5 with h|h
      ·exact hv j (h ▸ e)
      ·rw[e]at h;simp at h;omega
     refine⟨i+1,_,by omega,by go_num,by rw[Z44 hb5];rfl,?_,(hK.step K5 (fun j hj e=>absurd (hv j e) (by omega))).trans kS,hv5⟩
     rw[Zki]
     exact(Z1q.snoc own5).kept kS (fun j e e2=>by have:=hv5 j e;have:=H0.out.2;have e3:j=p:=e2;omega)
    case measure=>simp[intOf];omega
   ·obtain rfl:i=n:=by omega
    have HR:=hi4 hb hT hK hv
    clear hb hT hK hv
    go_wp2
    go_ret
    obtain⟨hb,hmo,M,O,q1,q2,q3,q4,q5,hn⟩:=HM.out
    obtain⟨a,hP,hs⟩:=Zpp hn hmo M O q1 q2 q3 q4 q5 H0.out.2 HR.out.1 HR.out.2.1 HR.out.2.2.1 HR.out.2.2.2
    first|exact⟨p,a,rfl,hP,hs⟩|exact⟨_,_,rfl,hP,hs⟩|exact⟨a,hP,hs⟩
def Z7v (e:Ent):List Value:= [.int .u8 e.k,.int .i64 e.t,.int .u8 e.ok,.int .i32 e.ov,.int .u8 e.bits]
theorem Z65 (e:Ent):(Z7v e).length=5:=rfl
def Z7f (c:Cfg) (L:List Ent):Nat->WM->Prop
 |0,S=>S=wm0 c
 |i+1,S=>∃S0 e,Z7f c L i S0/\L[i]?=some e/\Ze5 c S0 e S
theorem Zl6 {w:World} {ao:Option Addr} {cap:Nat} {L:List Ent} (h:Z1q Z7v 5 w 60 (.slice ao L.length cap) L) (i:Nat) (e:Ent) (he:L[i]?=some e):∃g,ao=some ⟨g,0,none⟩/\g<w.heap.size/\w.cell? ⟨g,i*5,none⟩=some (.int .u8 e.k)/\w.cell? ⟨g,i*5+1,none⟩=some (.int .i64 e.t)/\w.cell? ⟨g,i*5+2,none⟩=some (.int .u8 e.ok)/\w.cell? ⟨g,i*5+3,none⟩=some (.int .i32 e.ov)/\w.cell? ⟨g,i*5+4,none⟩=some (.int .u8 e.bits):=by
 have hp:=(List.getElem?_eq_some_iff.1 he).1
 obtain⟨g,cap',e1,-,hl,h1,-⟩:=h.pos Z65 (by omega)
 refine⟨g,(Value.slice.inj e1).1,hl,h1 i 0 e _ he (by omega) rfl,h1 i 1 e _ he (by omega) rfl,h1 i 2 e _ he (by omega) rfl,h1 i 3 e _ he (by omega) rfl,h1 i 4 e _ he (by omega) rfl⟩
def Z5k (w:World) (v:Value) (L:List Ent):Prop:=∃ao cap,v= .slice ao L.length cap/\(ao=none->cap=0)/\∀i e,L[i]?=some e->∃g off,ao=some ⟨g,off,none⟩/\g<w.heap.size/\w.cell? ⟨g,off+i*5,none⟩=some (.int .u8 e.k)/\w.cell? ⟨g,off+i*5+1,none⟩=some (.int .i64 e.t)/\w.cell? ⟨g,off+i*5+2,none⟩=some (.int .u8 e.ok)/\w.cell? ⟨g,off+i*5+3,none⟩=some (.int .i32 e.ov)/\w.cell? ⟨g,off+i*5+4,none⟩=some (.int .u8 e.bits)
theorem Z1q.entIn {w:World} {v:Value} {L:List Ent} (h:Z1q Z7v 5 w 60 v L):Z5k w v L:=by
 obtain⟨ao,cap,rfl⟩:=h.shape
 refine⟨ao,cap,rfl,fun e=>?_,fun i e he=>?_⟩
 ·subst e
  rcases h.2 with⟨e2,h0⟩|⟨g,cap',cur,e2,_⟩
  ·injection e2
  ·cases e2
 ·obtain⟨g,e1,e2,y0,y1,y2,y3,y4⟩:=Zl6 h i e he
  exact⟨g,0,e1,e2,by simpa using y0,by simpa using y1,by simpa using y2,by simpa using y3,by simpa using y4⟩
theorem Z5k.below {w w':World} {v:Value} {L:List Ent} (h:Z5k w v L) (hb:Below w.heap.size w w'):Z5k w' v L:=by
 obtain⟨ao,cap,h1,h2,h3⟩:=h
 refine⟨ao,cap,h1,h2,fun i e he=>?_⟩
 obtain⟨g,off,e1,e2,y0,y1,y2,y3,y4⟩:=h3 i e he
 exact⟨g,off,e1,Nlt e2 hb.size,(hb.cell (p:=⟨g,off+i*5,none⟩) e2).trans y0,(hb.cell (p:=⟨g,off+i*5+1,none⟩) e2).trans y1,(hb.cell (p:=⟨g,off+i*5+2,none⟩) e2).trans y2,(hb.cell (p:=⟨g,off+i*5+3,none⟩) e2).trans y3,(hb.cell (p:=⟨g,off+i*5+4,none⟩) e2).trans y4⟩
section
variable {w:World} {b:Nat} {T:TypeId} {x0 x1 x2 x3 x4 x5:Value}
theorem Zbz (h:w.heap[b]?=some (.cells #[x0,x1,x2,x3,x4,x5] T (0,0))) (v0 v1 v2 v3 v4 v5:Value):
 ((((((w.setCell ⟨b,0,none⟩ v0).setCell ⟨b,1,none⟩ v1).setCell ⟨b,2,none⟩ v2).setCell ⟨b,3,none⟩ v3).setCell ⟨b,4,none⟩ v4).setCell ⟨b,5,none⟩ v5).heap[b]?=some (.cells #[v0,v1,v2,v3,v4,v5] T (0,0)):=
 Z00 (Z00 (Z00 (Z00 (Z00 (Z00 h _ _) _ _) _ _) _ _) _ _) _ _
theorem Z1g (h:w.heap[b]?=some (.cells #[x0,x1,x2,x3,x4,x5] T (0,0))):w.cell? ⟨b,0,none⟩=some x0/\w.cell? ⟨b,1,none⟩=some x1/\w.cell? ⟨b,2,none⟩=some x2/\w.cell? ⟨b,3,none⟩=some x3/\w.cell? ⟨b,4,none⟩=some x4/\w.cell? ⟨b,5,none⟩=some x5:=by
 simp[World.cell?,h]
end
theorem Zhx (w:World) (c:Cfg) (v:Value) (hc:¬Z0e c=true):Calls Tryz.prog 7 #[.agg #[.int .u8 c.ob,.int .i64 c.th,.int .i64 c.cap,.int .i64 c.age,.int .i64 c.ps,.bool c.pl],v] w fun e w'=>e= .returned (.tuple #[.agg #[.slice none 0 0,.slice none 0 0,.slice none 0 0,.slice none 0 0,.slice none 0 0,.slice none 0 0],.int .u16 1])/\Below w.heap.size w w':=by
 have HC:=Hd hc
 clear hc
 go_enter Tryz.func7,Tryz.ntmps7
 go_wp2_with fail
 generalize hW:World.alloc (World.alloc _ _) _=w1
 have q1:w1.heap[w.heap.size+1]?=some (.cells #[.slice none 0 0,.slice none 0 0,.slice none 0 0,.slice none 0 0,.slice none 0 0,.slice none 0 0] 36 (0,0)):=by rw[<-hW];exact(Z05 _ _ _).2
 have B1:Below w.heap.size w w1:=by rw[<-hW];go_grown
 have H1:=hi2 q1 B1
 clear hW q1 B1
 refine(Z94 w1 c).mono ?_
 rintro e w2 ⟨rfl,hb2⟩
 rw[if_neg HC.out]
 have q2:=(hb2.block (w.heap.size+1) (Gl H1.out.1)).trans H1.out.1
 have f0:=Z06 q2 0
 have f1:=Z06 q2 1
 have f2:=Z06 q2 2
 have f3:=Z06 q2 3
 have f4:=Z06 q2 4
 have f5:=Z06 q2 5
 have d0:w2.cell? ⟨w.heap.size+1,0,none⟩=some (.slice none 0 0):=by simp[World.cell?,q2]
 have d1:w2.cell? ⟨w.heap.size+1,1,none⟩=some (.slice none 0 0):=by simp[World.cell?,q2]
 have d2:w2.cell? ⟨w.heap.size+1,2,none⟩=some (.slice none 0 0):=by simp[World.cell?,q2]
 have d3:w2.cell? ⟨w.heap.size+1,3,none⟩=some (.slice none 0 0):=by simp[World.cell?,q2]
 have d4:w2.cell? ⟨w.heap.size+1,4,none⟩=some (.slice none 0 0):=by simp[World.cell?,q2]
 have d5:w2.cell? ⟨w.heap.size+1,5,none⟩=some (.slice none 0 0):=by simp[World.cell?,q2]
 have B2:=H1.out.2.trans (hb2.mono H1.out.2.size)
 have Q2:=Hd q2
 clear q2 hb2
 go_wp2
 have q3:=Zbz Q2.out (.slice none 0 0) (.slice none 0 0) (.slice none 0 0) (.slice none 0 0) (.slice none 0 0) (.slice none 0 0)
 generalize hF:World.setCell _ _ _=wf
 rw[hF]at q3
 obtain⟨r0,r1,r2,r3,r4,r5⟩:=Z1g q3
 refine bodyPost_ret (v:=.tuple #[.agg #[.slice none 0 0,.slice none 0 0,.slice none 0 0,.slice none 0 0,.slice none 0 0,.slice none 0 0],.int .u16 1]) (by simp[results,Tryz.results7,go_sem,r0,r1,r2,r3,r4,r5]) rfl ⟨rfl,by rw[<-hF];go_grown⟩
theorem Z37 {a b c:World} (h:Below a.heap.size a b) (k:Below b.heap.size b c):Below a.heap.size a c:=h.trans (k.mono h.size)
theorem Z6z {a b wf:World} {base m n r z:Nat} {T:TypeId} {v:Value} {ys:List Value} (h:a.ownsRow base T m v n ys) (hab:Below a.heap.size a b) (hk:Z01 (fun k=>k=r) b wf) (hf:∀k,v.ownBlock=some k->z<=k) (hr:r<z):wf.ownsRow base T m v n ys:=
 Z04 (Z04 h (Z01.of_below (S:=fun _=>False) hab (fun k h1 h2=>by omega)) (fun _ _ h=>h)) hk (fun g e e2=>by have:=hf g e;have:g=r:=e2;omega)
theorem Zcw (w:World) (b:Nat) (v0 v1 v2 v3 v4 v5:Value):Z01 (fun k=>k=b) w ((((((w.setCell ⟨b,0,none⟩ v0).setCell ⟨b,1,none⟩ v1).setCell ⟨b,2,none⟩ v2).setCell ⟨b,3,none⟩ v3).setCell ⟨b,4,none⟩ v4).setCell ⟨b,5,none⟩ v5):=by
 have q:∀(u:World) (j:Nat) (v:Value),Z01 (fun k=>k=b) u (u.setCell ⟨b,j,none⟩ v):=fun u j v=>(Z01.refl (fun k=>k=b) u).setCell (p:=⟨b,j,none⟩) (fun _=>rfl) v
 exact(((((q _ 0 v0).trans (q _ 1 v1)).trans (q _ 2 v2)).trans (q _ 3 v3)).trans (q _ 4 v4)).trans (q _ 5 v5)
def Zpu (c:Cfg) (L:List Ent) (w w':World) (e:Ending):Prop:=
 ∃(S:WM) (lg:List Lg) (ev lv it cs pk sp:Value),e= .returned (.tuple #[.agg #[ev,lv,it,cs,pk,sp],.int .u16 0])/\Z7f c L L.length S/\Z1q evV 8 w' 92 ev S.ev/\Z1q lgV 7 w' 49 lv lg/\lg.map (fun e=>((e.ok,e.ov),(e.rc,e.rv)))=S.lg/\R32 w' it S.its/\Row w' cs S.xs/\Z1q spV 8 w' 56 sp (Z6x S.ev)/\(∃ao n k,pk= .slice ao n k)/\Below w.heap.size w w'
section
variable (w:World) (c:Cfg) (v:Value) (L:List Ent)
theorem Zns (hR:Z5k w v L) (hc:Z0e c=true) (hn:L.length<=20000) (hE:∀e ∈ L,Z2h e) (hG:∀i S,i<=L.length->Z7f c L i S->Znl c S i):
 Calls Tryz.prog 7 #[.agg #[.int .u8 c.ob,.int .i64 c.th,.int .i64 c.cap,.int .i64 c.age,.int .i64 c.ps,.bool c.pl],v] w fun e w'=>Zpu c L w w' e:=by
 obtain⟨ao,cap,rfl,-,hR⟩:=hR
 have HC:=hi3 hc hE hG
 have HR:=Hd (fun i e he=>hR i e he)
 have hn':(L.length:Int)<=20000:=by omega
 have hrg:=Hd (Z2r hc)
 clear hc hE hG hR
 go_enter Tryz.func7,Tryz.ntmps7
 go_wp2_with fail
 generalize hW:World.alloc (World.alloc _ _) _=w1
 have q0:w1.heap[w.heap.size]?=some (.cells #[.int .u8 c.ob,.int .i64 c.th,.int .i64 c.cap,.int .i64 c.age,.int .i64 c.ps,.bool c.pl] 25 (0,0)):=by rw[<-hW];exact(Z05 _ _ _).1
 have q1:w1.heap[w.heap.size+1]?=some (.cells #[.slice none 0 0,.slice none 0 0,.slice none 0 0,.slice none 0 0,.slice none 0 0,.slice none 0 0] 36 (0,0)):=by rw[<-hW];exact(Z05 _ _ _).2
 have B1:Below w.heap.size w w1:=by rw[<-hW];go_grown
 have H1:=hi3 q0 q1 B1
 clear hW q0 q1 B1
 refine(Z94 w1 c).mono ?_
 rintro e w2 ⟨rfl,hb2⟩
 rw[if_pos HC.out.1]
 have q0:=(hb2.block _ (Gl H1.out.1)).trans H1.out.1
 have q1:=(hb2.block _ (Gl H1.out.2.1)).trans H1.out.2.1
 have B2:=H1.out.2.2.trans (hb2.mono H1.out.2.2.size)
 have k0:w2.cell? ⟨w.heap.size,0,none⟩=some (.int .u8 c.ob):=by simp[World.cell?,q0]
 have k1:w2.cell? ⟨w.heap.size,1,none⟩=some (.int .i64 c.th):=by simp[World.cell?,q0]
 have k2:w2.cell? ⟨w.heap.size,2,none⟩=some (.int .i64 c.cap):=by simp[World.cell?,q0]
 have k3:w2.cell? ⟨w.heap.size,3,none⟩=some (.int .i64 c.age):=by simp[World.cell?,q0]
 have k4:w2.cell? ⟨w.heap.size,4,none⟩=some (.int .i64 c.ps):=by simp[World.cell?,q0]
 have k5:w2.cell? ⟨w.heap.size,5,none⟩=some (.bool c.pl):=by simp[World.cell?,q0]
 have H2:=hi3 q1 B2 hb2
 clear q0 q1 B2 hb2 H1
 go_wp2_with fail
 refine(Zpq w2 c HC.out.1).mono ?_
 rintro e w3 ⟨p,a3,rfl,hP,hs3⟩
 have H3:=hi2 hP hs3
 clear hP hs3 k0 k1 k2 k3 k4 k5
 go_wp2_with fail
 go_loopw [25] (fun x wr=>∃(i:Nat) (S:WM) (a:WA),i<=L.length/\x= .int .i64 i/\Z7f c L i S/\WP w2 wr p c S a/\a.st<=1+i) (fun x _=>L.length-(intOf x).toNat)
 case atStart=>exact⟨0,wm0 c,a3,Nat.zero_le _,rfl,rfl,H3.out.1,by rw[H3.out.2];omega⟩
 case round=>
  obtain⟨i,S,a,hi,rfl,hC,hP,hs⟩:=hrel
  have zi:(0:Int)<=(i:Int):=by omega
  by_cases hlt:i<L.length
  ·have hlt':(i:Int)<(L.length:Int):=by omega
   obtain⟨e,he⟩:∃e,L[i]?=some e:=⟨_,Lge hlt⟩
   obtain⟨g,off,hao,hg,y0,y1,y2,y3,y4⟩:=HR.out i e he
   subst hao
   have hB:=H2.out.2.1.trans (hP.mem.B.mono H2.out.2.1.size)
   have x0:=(hB.cell (p:=⟨g,off+i*5,none⟩) hg).trans y0
   have x1:=(hB.cell (p:=⟨g,off+i*5+1,none⟩) hg).trans y1
   have x2:=(hB.cell (p:=⟨g,off+i*5+2,none⟩) hg).trans y2
   have x3:=(hB.cell (p:=⟨g,off+i*5+3,none⟩) hg).trans y3
   have x4:=(hB.cell (p:=⟨g,off+i*5+4,none⟩) hg).trans y4
   have HX:=hi4 he hC hP hs
   clear y0 y1 y2 y3 y4 hB he hC hP hs
   go_wp2_with fail
   refine(Zql (HX.out.2.2.1.below (by go_grown)) e i (HC.out.2.2 i S (by omega) HX.out.2.1) (by omega) (HC.out.2.1 e (List.mem_of_getElem? HX.out.1)) (by have:=HX.out.2.2.2;omega) hrg.out.2.2.1.2 hrg.out.2.1.1).mono ?_
   rintro en w5 ⟨⟨b,rfl⟩,S',a',hE',hP',hs'⟩
   have H5:=hi3 hE' hP' hs'
   clear hE' hP' hs' x0 x1 x2 x3 x4
   go_wp2_with fail
   go_roundw
   case rel=>exact⟨i+1,S',a',by omega,by go_num,⟨S,e,HX.out.2.1,HX.out.1,H5.out.1⟩,H5.out.2.1,by have:=H5.out.2.2;have:=HX.out.2.2.2;omega⟩
   case measure=>simp[intOf];omega
  ·obtain rfl:i=L.length:=by omega
   have hgd:=HC.out.2.2 _ S (Nat.le_refl _) hC
   have hev:=hgd.ev
   have hpn:=hgd.n
   have hlg:a.lg.length<=1000000000:=by
    have h1:=hgd.lg
    have h2:=congrArg List.length hP.lgm
    rw[Llm]at h2
    have h3:=Nat.mul_le_mul hn hn
    omega
   have HX:=hi3 hC hP hs
   clear hC hP hs hgd
   go_wp2_with fail
   refine(Zhs HX.out.2.1 (by omega)).mono ?_
   rintro e u1 ⟨vE,rfl,g1,g2,g3⟩
   obtain⟨aoE,cpE,rfl⟩:=Z03 g1
   have P1:=HX.out.2.1.below g2
   have T1:=g2
   have HA:=hi3 (And.intro g1 (And.intro g2 g3)) P1 T1
   clear g1 g2 g3 P1 T1
   go_wp2_with fail
   refine(Zpr HA.out.2.1 (by omega)).mono ?_
   rintro e u2 ⟨vL,rfl,g1,g2,g3⟩
   obtain⟨aoL,cpL,rfl⟩:=Z03 g1
   have P1:=HA.out.2.1.below g2
   have T1:=g2
   have HB:=hi3 (And.intro g1 (And.intro g2 g3)) P1 T1
   clear g1 g2 g3 P1 T1
   go_wp2_with fail
   refine(Zkk HB.out.2.1 hrg.out.2.2.1.2).mono ?_
   rintro e u3 ⟨vI,rfl,g1,g2,g3⟩
   obtain⟨aoI,cpI,rfl⟩:=Z03 g1
   have P1:=HB.out.2.1.below g2
   have T1:=Z37 HB.out.2.2 g2
   have HI:=hi3 (And.intro g1 (And.intro g2 g3)) P1 T1
   clear g1 g2 g3 P1 T1
   go_wp2_with fail
   refine(Zhu HI.out.2.1).mono ?_
   rintro e u4 ⟨mb,mq,rfl,g1,g2⟩
   have P1:=HI.out.2.1.below g2
   have T1:=Z37 HI.out.2.2 g2
   have HM:=hi3 g1 P1 T1
   have HM4:=Hd g2
   clear g1 g2 P1 T1
   go_wp2_with fail
   refine(Zit HM.out.1).mono ?_
   rintro e u5 ⟨aoC,cpC,rfl,g0,g1,g2,g3⟩
   have P1:=HM.out.2.1.below g2
   have T1:=Z37 HM.out.2.2 g2
   have HS:=hi3 (And.intro g1 (And.intro g2 g3)) P1 T1
   clear g0 g1 g2 g3 P1 T1
   go_wp2_with fail
   refine(Zkj HS.out.2.1 (by have:=HX.out.2.1.pkn;omega)).mono ?_
   rintro e u6 ⟨vP,rfl,g1,g2,g3⟩
   obtain⟨aoP,cpP,rfl⟩:=Z03 g1
   have P1:=HS.out.2.1.below g2
   have T1:=Z37 HS.out.2.2 g2
   have HP:=hi3 (And.intro g1 (And.intro g2 g3)) P1 T1
   clear g1 g2 g3 P1 T1
   go_wp2_with fail
   refine(Znr _ _ S.ev (HA.out.1.1.below HP.out.2.2) (by omega)).mono ?_
   rintro e u7 ⟨vS,rfl,g1,g2,g3⟩
   obtain⟨aoS,cpS,rfl⟩:=Z03 g1
   have HZ:=hi3 g1 g2 g3
   clear g1 g2 g3
   have q1:=H2.out.1
   have hrb:=(Gl q1)
   have B7:=Z37 HP.out.2.2 HZ.out.2.1
   have z1:=H2.out.2.1.size
   have z2:=HX.out.2.1.mem.B.size
   have z3:=HA.out.2.2.size
   have z4:=HB.out.2.2.size
   have z5:=HI.out.2.2.size
   have z6:=HM.out.2.2.size
   have z7:=HS.out.2.2.size
   have z8:=HP.out.2.2.size
   have z9:=HZ.out.2.1.size
   have q7:=(((HX.out.2.1.mem.B.trans ((Z37 HA.out.2.2 B7).mono z2)).block _ hrb).trans q1)
   have f0:=Z06 q7 0
   have f1:=Z06 q7 1
   have f2:=Z06 q7 2
   have f3:=Z06 q7 3
   have f4:=Z06 q7 4
   have f5:=Z06 q7 5
   obtain⟨d0,d1,d2,d3,d4,d5⟩:=Z1g q7
   have hBw:=(H2.out.2.1.trans (HX.out.2.1.mem.B.mono z1)).trans ((Z37 HA.out.2.2 B7).mono (Nat.le_trans z1 z2))
   have Q7:=hi3 q7 B7 hBw
   clear q1 q7 B7 hBw
   go_wp2
   have q3:=Zbz Q7.out.1 (.slice aoE S.ev.length cpE) (.slice aoL a.lg.length cpL) (.slice aoI S.its.length cpI) (.slice aoC S.xs.length cpC) (.slice aoP a.pk.length cpP) (.slice aoS (Z6x S.ev).length cpS)
   generalize hF:World.setCell _ _ _=wf
   rw[hF]at q3
   have hK:Z01 (fun k=>k=w.heap.size+1) u7 wf:=by
    rw[<-hF]
    exact Zcw _ _ _ _ _ _ _ _
   obtain⟨r0,r1,r2,r3,r4,r5⟩:=Z1g q3
   have D1:=Q7.out.2.1
   have T56:=HP.out.1.2.1
   have T36:=Z37 (Z37 HM4.out HS.out.1.2.1) T56
   have T23:=HI.out.1.2.1
   refine bodyPost_ret (v:=.tuple #[.agg #[.slice aoE S.ev.length cpE,.slice aoL a.lg.length cpL,.slice aoI S.its.length cpI,.slice aoC S.xs.length cpC,.slice aoP a.pk.length cpP,.slice aoS (Z6x S.ev).length cpS],.int .u16 0]) (by simp[results,Tryz.results7,go_sem,r0,r1,r2,r3,r4,r5]) rfl ?_
   exact⟨S,a.lg,_,_,_,_,_,_,rfl,HX.out.1,Z6z HA.out.1.1 D1 hK HA.out.1.2.2 (by omega),Z6z HB.out.1.1 (Z37 T23 (Z37 T36 HZ.out.2.1)) hK HB.out.1.2.2 (by omega),HX.out.2.1.lgm,Z6z HI.out.1.1 (Z37 T36 HZ.out.2.1) hK HI.out.1.2.2 (by omega),Z6z HS.out.1.1 (Z37 T56 HZ.out.2.1) hK HS.out.1.2.2 (by omega),Z6z HZ.out.1 (Brf _ _) hK HZ.out.2.2 (by omega),⟨_,_,_,rfl⟩,Q7.out.2.2.trans (hK.below (by omega) (fun k h1 h2=>by have h3:k=w.heap.size+1:=h2;omega))⟩
theorem Znt (hR:Z5k w v L) (hn:L.length<=20000) (hE:∀e ∈ L,Z2h e) (hG:Z0e c=true->∀i S,i<=L.length->Z7f c L i S->Znl c S i):
 Calls Tryz.prog 7 #[.agg #[.int .u8 c.ob,.int .i64 c.th,.int .i64 c.cap,.int .i64 c.age,.int .i64 c.ps,.bool c.pl],v] w fun e w'=>∃a0 n0 c0 a1 n1 c1 a2 n2 c2 a3 n3 c3 a4 n4 c4 a5 n5 c5,e= .returned (.tuple #[.agg #[.slice a0 n0 c0,.slice a1 n1 c1,.slice a2 n2 c2,.slice a3 n3 c3,.slice a4 n4 c4,.slice a5 n5 c5],.int .u16 (if Z0e c=true then 0 else 1)])/\Below w.heap.size w w':=by
 by_cases h:Z0e c=true
 ·rw[if_pos h]
  refine(Zns w c v L hR h hn hE (hG h)).mono ?_
  rintro e w' ⟨S,lg,ev,lv,it,cs,pk,sp,rfl,-,h1,h2,-,h3,h4,h5,⟨ka,kn,kc,rfl⟩,hb⟩
  obtain⟨ea,ec,rfl⟩:=h1.shape
  obtain⟨la,lc,rfl⟩:=h2.shape
  obtain⟨ia,ic,rfl⟩:=h3.shape
  obtain⟨ca,cc,rfl⟩:=h4.shape
  obtain⟨sa,sc,rfl⟩:=h5.shape
  exact⟨_,_,_,_,_,_,_,_,_,_,_,_,_,_,_,_,_,_,rfl,hb⟩
 ·rw[if_neg h]
  refine(Zhx w c v h).mono ?_
  rintro e w' ⟨rfl,hb⟩
  exact⟨_,_,_,_,_,_,_,_,_,_,_,_,_,_,_,_,_,_,rfl,hb⟩
end
end
end Go.Proofs.YtihljjgmkaeohaaGreat
