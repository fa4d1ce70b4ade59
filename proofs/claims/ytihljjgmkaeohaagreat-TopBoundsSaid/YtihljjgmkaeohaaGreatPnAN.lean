/- part 14 -/
import Derived.Test.YtihljjgmkaeohaaGreatPnAI
import Derived.Test.YtihljjgmkaeohaaGreatPnAK
set_option linter.all false
set_option maxHeartbeats 16000000
set_option maxRecDepth 100000
namespace Go.Proofs.YtihljjgmkaeohaaGreat
section
open Go.RowKit Go.ChangeShapes Go.WideShapes Go.ChangeAt Go.Deep
theorem Z5c {a n:Nat} (h:a<2*n):a%n=if a<n then a else a-n:=by
 split
 ·exact Nat.mod_eq_of_lt (by assumption)
 ·rw[Nat.mod_eq_sub_mod (by omega),Nat.mod_eq_of_lt (by omega)]
theorem Zdi {cs xs:List Int} {f:Nat} (hf:f<cs.length) (hm:xs.length<cs.length) (hc:∀i,i<xs.length->cs.getD ((f+i)%cs.length) 0=xs.getD i 0) (y:Int):
 ∀i,i<(y::xs).length->(cs.set ((f+(cs.length-1))%cs.length) y).getD (((f+(cs.length-1))%cs.length+i)%cs.length) 0=(y::xs).getD i 0:=by
 intro i hi
 have h1:(f+(cs.length-1))%cs.length=if f=0 then cs.length-1 else f-1:=by rw[Z5c (by omega)];split<;>split<;>omega
 rw[h1]
 rw[Llc]at hi
 rw[Z0i _ _ _ _ _ (by split<;>omega)]
 cases i with
 |zero=>
  rw[Nat.add_zero,Nat.mod_eq_of_lt (by split<;>omega),if_pos rfl];rfl
 |succ j=>
  have h2:((if f=0 then cs.length-1 else f-1)+(j+1))%cs.length=(f+j)%cs.length:=by
   split
   ·rw[Z5c (by omega),Z5c (by omega)];split<;>split<;>omega
   ·rw[show f-1+(j+1)=f+j by omega]
  rw[h2,if_neg (by rw[Z5c (by omega)];split<;>split<;>omega),hc j (by omega)];rfl
theorem Zdj {cs xs:List Int} {f:Nat} (hf:f<cs.length) (hm:xs.length<cs.length) (hc:∀i,i<xs.length->cs.getD ((f+i)%cs.length) 0=xs.getD i 0) (y:Int):
 ∀i,i<(xs++ [y]).length->(cs.set ((f+xs.length)%cs.length) y).getD ((f+i)%cs.length) 0=(xs++ [y]).getD i 0:=by
 intro i hi
 rw[Lla,List.length_singleton]at hi
 rw[Z0i _ _ _ _ _ (Nat.mod_lt _ (by omega))]
 by_cases e:i=xs.length
 ·subst e
  rw[if_pos rfl];simp
 ·rw[if_neg (by rw[Z5c (by omega),Z5c (by omega)];split<;>split<;>omega),hc i (by omega)]
  rw[Lgd,Lgd,Lel (by omega)]
section
variable {cs xs:List Int} {y:Int} {f:Nat}
theorem Zg6 (hf:f<cs.length) (hm:(y::xs).length<=cs.length) (hc:∀i,i<(y::xs).length->cs.getD ((f+i)%cs.length) 0=(y::xs).getD i 0):
 ∀i,i<xs.length->cs.getD (((f+1)%cs.length+i)%cs.length) 0=xs.getD i 0:=by
 intro i hi
 rw[Llc]at hm
 have h:=hc (i+1) (by rw[Llc];omega)
 rw[show f+(i+1)=(f+1)+i by omega,<-Nat.mod_add_mod]at h
 rw[h];rfl
theorem Zg7 (hc:∀i,i<(xs++ [y]).length->cs.getD ((f+i)%cs.length) 0=(xs++ [y]).getD i 0):
 (∀i,i<xs.length->cs.getD ((f+i)%cs.length) 0=xs.getD i 0)/\cs.getD ((f+xs.length)%cs.length) 0=y:=by
 refine⟨fun i hi=>?_,?_⟩
 ·rw[hc i (by simp;omega),Lgd,Lgd,Lel hi]
 ·rw[hc xs.length (by simp)];simp
end
abbrev RgF (r:Nat) (v:Value):Nat->Prop:=fun k=>k=r\/v.ownBlock=some k
section
variable (w:World) (r:Nat) (v:Value) (cs:List Int) (f:Nat) (xs:List Int) (y:Int)
theorem Zbl (h:RgP w r v cs f xs) (hm:xs.length=cs.length):
 Calls Tryz.prog 210 #[.pointer (some ⟨r,0,none⟩),.int .i32 y] w fun e w'=>e= .returned (.bool false)/\Below w.heap.size w w':=by
 have H:=Hd h
 have hd:decide ((cs.length:Int)<=(xs.length:Int))=true:=decide_eq_true (by omega)
 clear h
 go_enter Tryz.func210,Tryz.ntmps210
 go_wp2_with (first|(go_at_call 198;refine Go.Calls.mono (Z2j _ r v cs f xs (H.out.below (by go_grown))) ?_;rintro e w' ⟨rfl,rfl⟩)|(go_at_call 207;refine Go.Calls.mono (Z3t _ r v cs f xs (H.out.below (by go_grown))) ?_;rintro e w' ⟨rfl,rfl⟩))
 go_ret
 exact⟨rfl,by go_grown⟩
theorem Zbm (h:RgP w r v cs f xs) (hm:xs.length=cs.length):
 Calls Tryz.prog 211 #[.pointer (some ⟨r,0,none⟩),.int .i32 y] w fun e w'=>e= .returned (.bool false)/\Below w.heap.size w w':=by
 have H:=Hd h
 have hd:decide ((cs.length:Int)<=(xs.length:Int))=true:=decide_eq_true (by omega)
 clear h
 go_enter Tryz.func211,Tryz.ntmps211
 go_wp2_with (first|(go_at_call 198;refine Go.Calls.mono (Z2j _ r v cs f xs (H.out.below (by go_grown))) ?_;rintro e w' ⟨rfl,rfl⟩)|(go_at_call 207;refine Go.Calls.mono (Z3t _ r v cs f xs (H.out.below (by go_grown))) ?_;rintro e w' ⟨rfl,rfl⟩))
 go_ret
 exact⟨rfl,by go_grown⟩
end
theorem RgP.pos {w:World} {r:Nat} {v:Value} {cs:List Int} {f:Nat} {xs:List Int} (h:RgP w r v cs f xs):∃g cap,v= .slice (some ⟨g,0,none⟩) cs.length cap/\g≠r/\g<w.heap.size/\(∀j,j<cs.length->w.cell? ⟨g,j,none⟩=some (.int .i32 (cs.getD j 0)))/\(∀j,w.frozen? ⟨g,j,none⟩=false):=by
 obtain⟨g,cap,cur,rfl,hg,-,-,hx,hfz⟩:=h.row.pos (by have:=h.hf;omega)
 exact⟨g,cap,rfl,h.ne g rfl,(Gl hg),hx,hfz⟩
section
variable (w:World) (r:Nat) (v:Value) (cs:List Int) (f:Nat)
theorem Z6j (xs:List Int) (y:Int) (h:RgP w r v cs f xs) (hm:xs.length<cs.length):
 Calls Tryz.prog 210 #[.pointer (some ⟨r,0,none⟩),.int .i32 y] w fun e w'=>e= .returned (.bool true)/\(∃cs' f',RgP w' r v cs' f' (y::xs)/\cs'.length=cs.length)/\Z01 (RgF r v) w w':=by
 obtain⟨g,cap,rfl,hgr,hgl,hx,hfz⟩:=h.pos
 have h9:=h.h9
 have hf:=h.hf
 have hblk:=h.blk
 have hs:=h.lt
 have hc:=Zdi hf hm h.hc y
 obtain⟨n,hn⟩:∃n,cs.length=n:=⟨_,rfl⟩
 obtain⟨m,hxm⟩:∃m,xs.length=m:=⟨_,rfl⟩
 rw[hn]at hc
 obtain⟨q,hq⟩:∃q,(f+(n-1))%n=q:=⟨_,rfl⟩
 have hqn:q<n:=by rw[<-hq];exact Nat.mod_lt _ (by omega)
 have hd:¬n<=m:=by omega
 have mw:IntKind.i64.wrap ((m:Int)+1)=(m:Int)+1:=I6n _ (by omega)
 have cL:=Z2j w r _ cs f xs h
 have cM:=Z3t w r _ cs f xs h
 rw[hxm]at cL
 rw[hn]at cM
 have HC:=hi2 cL cM
 clear cL cM
 rw[hq]at hc
 have H:=hi6 h hn hxm hq hc hm
 rw[hn]at hx h9 hf hblk |-
 rw[hxm]at hblk
 have hgr2:¬r=g:=fun e=>hgr e.symm
 clear h hn hxm hq hc hx hfz
 go_enter Tryz.func210,Tryz.ntmps210
 go_wp2_with (first|(go_at_call 198;refine Go.Calls.mono (HC.out.1) ?_;rintro e w' ⟨rfl,rfl⟩)|(go_at_call 207;refine Go.Calls.mono (HC.out.2) ?_;rintro e w' ⟨rfl,rfl⟩))
 refine(Zdh w r g n cap f _ hblk hf h9).mono ?_
 rintro e w2 ⟨rfl,b2,k2⟩
 rw[H.out.2.2.2.1]at b2
 have row2:=H.out.1.row.kept k2 (fun t e=>H.out.1.ne t e)
 have A2:Calls Tryz.prog 201 #[.pointer (some ⟨r,0,none⟩),.int .i64 0] w2 fun e w'=>e= .returned (.pointer (some ⟨g,q,none⟩))/\Below w2.heap.size w2 w':=by
  have:=Zg5 w2 r g n cap q 0 _ b2 hqn h9 (by omega)
  rwa [Nat.add_zero,Nat.mod_eq_of_lt hqn]at this
 have HH:=hi3 b2 k2 row2
 clear b2 k2 row2 hblk
 go_wp2_with fail
 refine A2.mono ?_
 rintro e w3 ⟨rfl,B3⟩
 have b3:=(B3.block r (Gl HH.out.1)).trans HH.out.1
 have row3:=HH.out.2.2.below B3
 obtain⟨g',cap',cur',e',hg3,-,-,hx3,hfz3⟩:=row3.pos (by have:=H.out.2.1;omega)
 rw[H.out.2.1]at e'
 cases e'
 have hgl3:g<w3.heap.size:=(Gl hg3)
 have hrl3:r<w3.heap.size:=(Gl b3)
 have cq:=hx3 q (by rw[H.out.2.1];exact hqn)
 have fq:=hfz3 q
 have cm:w3.cell? ⟨r,2,none⟩=some (.int .i64 (m:Int)):=(by simp[World.cell?,b3])
 have fm:w3.frozen? ⟨r,2,none⟩=false:=(by simp[World.frozen?,b3])
 have H3:=hi3 B3 b3 row3
 clear B3 b3 row3 hx3 hfz3 hg3
 go_wp2_with fail
 go_ret
 have s1:=Z02 w3 ⟨g,q,none⟩ (.int .i32 y)
 have b4:=(s1.block r hrl3 hgr2).trans H3.out.2.1
 have row4:=H3.out.2.2.set rfl q (by rw[H.out.2.1];exact hqn) y
 have hlen:((y::xs).length:Int)=(m:Int)+1:=by have:=H.out.2.2.1;simp;omega
 have hn:=H.out.2.1
 have hm:=H.out.2.2.2.2.2
 subst hn
 refine⟨rfl,⟨cs.set q y,q,⟨?_,row4.kept (Z02 _ ⟨r,2,none⟩ _) (fun t e=>H.out.1.ne t e),H.out.1.ne,by rw[Lls];assumption,by rw[Lls];omega,by rw[Lls];exact h9,?_⟩,Lls⟩,?_⟩
 ·rw[Z00 b4,hlen]
  rfl
 ·rw[Lls];exact H.out.2.2.2.2.1
 ·exact(((HH.out.2.1.mono (fun _ _ e=>.inl e)).trans (Z0b (F:=RgF r _) H3.out.1)).setCell (p:=⟨g,q,none⟩) (fun _=>.inr rfl) _).setCell (p:=⟨r,2,none⟩) (fun _=>.inl rfl) _
theorem Z6k (xs:List Int) (y:Int) (h:RgP w r v cs f xs) (hm:xs.length<cs.length):
 Calls Tryz.prog 211 #[.pointer (some ⟨r,0,none⟩),.int .i32 y] w fun e w'=>e= .returned (.bool true)/\(∃cs' f',RgP w' r v cs' f' (xs++ [y])/\cs'.length=cs.length)/\Z01 (RgF r v) w w':=by
 obtain⟨g,cap,rfl,hgr,hgl,hx,hfz⟩:=h.pos
 have h9:=h.h9
 have hf:=h.hf
 have hblk:=h.blk
 have hs:=h.lt
 have hc:=Zdj hf hm h.hc y
 obtain⟨n,hn⟩:∃n,cs.length=n:=⟨_,rfl⟩
 obtain⟨m,hxm⟩:∃m,xs.length=m:=⟨_,rfl⟩
 rw[hn,hxm]at hc
 obtain⟨q,hq⟩:∃q,(f+m)%n=q:=⟨_,rfl⟩
 have hqn:q<n:=by rw[<-hq];exact Nat.mod_lt _ (by omega)
 have hd:¬n<=m:=by omega
 have mw:IntKind.i64.wrap ((m:Int)+1)=(m:Int)+1:=I6n _ (by omega)
 have cL:=Z2j w r _ cs f xs h
 have cM:=Z3t w r _ cs f xs h
 rw[hxm]at cL
 rw[hn]at cM
 have HC:=hi2 cL cM
 clear cL cM
 rw[hq]at hc
 have H:=hi6 h hn hxm hq hc hm
 rw[hn]at hx h9 hf hblk |-
 rw[hxm]at hblk
 have hgr2:¬r=g:=fun e=>hgr e.symm
 clear h hn hxm hq hc hx hfz
 go_enter Tryz.func211,Tryz.ntmps211
 go_wp2_with (first|(go_at_call 198;refine Go.Calls.mono (HC.out.1) ?_;rintro e w' ⟨rfl,rfl⟩)|(go_at_call 207;refine Go.Calls.mono (HC.out.2) ?_;rintro e w' ⟨rfl,rfl⟩))
 have b2:=hblk
 have k2:Z01 (fun k=>k=r) w w:=Z01.refl _ _
 have row2:=H.out.1.row
 have A2:∀u,Below w.heap.size w u->Calls Tryz.prog 201 #[.pointer (some ⟨r,0,none⟩),.int .i64 (m:Int)] u fun e w'=>e= .returned (.pointer (some ⟨g,q,none⟩))/\Below w.heap.size w w':=fun u hu=>by
  have:=Zg5 u r g n cap f m _ ((hu.block r (Gl hblk)).trans hblk) hf h9 (by omega)
  rw[H.out.2.2.2.1]at this
  exact this.mono (fun e w' h=>⟨h.1,hu.trans (h.2.mono hu.size)⟩)
 have cm0:w.cell? ⟨r,2,none⟩=some (.int .i64 (m:Int)):=by simp[World.cell?,hblk]
 have HH:=hi3 b2 k2 row2
 clear b2 k2 row2 hblk
 have AR:=Hd A2
 clear A2
 go_wp2_with fail
 go_region_held3 (fun wz=>wz.cell? ⟨r,2,none⟩=some (.int .i64 (m:Int)))
  (first|(exact cm0)|(exact cm)|go_keep)
  (first|(go_at_call 201;refine(AR.out _ (by go_grown)).mono ?_;rintro e w3 ⟨rfl,B3⟩;have b3:=(B3.block r (Gl HH.out.1)).trans HH.out.1;have row3:=HH.out.2.2.below B3;obtain⟨g',cap',cur',e',hg3,-,-,hx3,hfz3⟩:=row3.pos (by have:=H.out.2.1;omega);rw[H.out.2.1]at e';cases e';have hgl3:g<w3.heap.size:=(Gl hg3);have hrl3:r<w3.heap.size:=(Gl b3);have cq:=hx3 q (by rw[H.out.2.1];exact hqn);have fq:=hfz3 q;have cm:w3.cell? ⟨r,2,none⟩=some (.int .i64 (m:Int)):=(by simp[World.cell?,b3]);have fm:w3.frozen? ⟨r,2,none⟩=false:=(by simp[World.frozen?,b3]);have H3:=hi3 B3 b3 row3;clear B3 b3 row3 hx3 hfz3 hg3))
 all_goals
  go_wp2_with fail
  go_ret
  have s1:=Z02 w3 ⟨g,q,none⟩ (.int .i32 y)
  have b4:=(s1.block r hrl3 hgr2).trans H3.out.2.1
  have row4:=H3.out.2.2.set rfl q (by rw[H.out.2.1];exact hqn) y
  have hlen:((xs++ [y]).length:Int)=(m:Int)+1:=by have:=H.out.2.2.1;simp;omega
  have hn:=H.out.2.1
  have hm:=H.out.2.2.2.2.2
  subst hn
  refine⟨rfl,⟨cs.set q y,f,⟨?_,row4.kept (Z02 _ ⟨r,2,none⟩ _) (fun t e=>H.out.1.ne t e),H.out.1.ne,by rw[Lls];assumption,by rw[Lls];omega,by rw[Lls];exact h9,?_⟩,Lls⟩,?_⟩
  ·rw[Z00 b4,hlen]
   rfl
  ·rw[Lls];exact H.out.2.2.2.2.1
  ·exact(((HH.out.2.1.mono (fun _ _ e=>.inl e)).trans (Z0b (F:=RgF r _) H3.out.1)).setCell (p:=⟨g,q,none⟩) (fun _=>.inr rfl) _).setCell (p:=⟨r,2,none⟩) (fun _=>.inl rfl) _
theorem Zdk (h:RgP w r v cs f []):
 Calls Tryz.prog 208 #[.pointer (some ⟨r,0,none⟩)] w fun e w'=>e= .returned (.tuple #[.int .i32 0,.bool false])/\w=w':=by
 have H:=Hd (Z2j w r v cs f [] h)
 clear h
 go_enter Tryz.func208,Tryz.ntmps208
 go_wp2_with (first|(go_at_call 198;refine Go.Calls.mono H.out ?_;rintro e w' ⟨rfl,rfl⟩))
 refine bodyPost_ret (v:=.tuple #[.int .i32 0,.bool false]) (by simp[results,Tryz.results208,go_sem]) rfl ⟨rfl,rfl⟩
theorem Zdl (h:RgP w r v cs f []):
 Calls Tryz.prog 209 #[.pointer (some ⟨r,0,none⟩)] w fun e w'=>e= .returned (.tuple #[.int .i32 0,.bool false])/\w=w':=by
 have H:=Hd (Z2j w r v cs f [] h)
 clear h
 go_enter Tryz.func209,Tryz.ntmps209
 go_wp2_with (first|(go_at_call 198;refine Go.Calls.mono H.out ?_;rintro e w' ⟨rfl,rfl⟩))
 refine bodyPost_ret (v:=.tuple #[.int .i32 0,.bool false]) (by simp[results,Tryz.results209,go_sem]) rfl ⟨rfl,rfl⟩
end
section
variable (w:World) (r:Nat) (v:Value) (cs:List Int) (f:Nat) (y:Int) (xs:List Int)
theorem Z7r (h:RgP w r v cs f (y::xs)):
 Calls Tryz.prog 208 #[.pointer (some ⟨r,0,none⟩)] w fun e w'=>e= .returned (.tuple #[.int .i32 y,.bool true])/\(∃cs' f',RgP w' r v cs' f' xs/\cs'.length=cs.length)/\Z01 (RgF r v) w w':=by
 obtain⟨g,cap,rfl,hgr,hgl,hx,hfz⟩:=h.pos
 have h9:=h.h9
 have hf:=h.hf
 have hblk:=h.blk
 have hs:=h.lt
 have hm:=h.hm
 have hc:=Zg6 hf hm h.hc
 have hc0:=h.hc 0 (by rw[Llc];omega)
 rw[Nat.add_zero,Nat.mod_eq_of_lt hf,List.getD_cons_zero]at hc0
 obtain⟨n,hn⟩:∃n,cs.length=n:=⟨_,rfl⟩
 obtain⟨m,hxm⟩:∃m,xs.length=m:=⟨_,rfl⟩
 rw[Llc,hxm,hn]at hm
 rw[hn]at hc
 have mw:IntKind.i64.wrap ((m:Int)+1-1)=(m:Int):=by rw[show(m:Int)+1-1=(m:Int) by omega];exact I6n _ (by omega)
 have hnz:¬((m:Int)+1=0):=by omega
 have cL:=Z2j w r _ cs f _ h
 rw[Llc,hxm,show((m+1:Nat):Int)=(m:Int)+1 by omega]at cL
 have HC:=Hd cL
 have H:=hi4 h hn hxm hc
 have cq:=hx f hf
 rw[hc0]at cq
 rw[hn]at hx h9 hf hblk |-
 rw[Llc,hxm,show((m+1:Nat):Int)=(m:Int)+1 by omega]at hblk
 have hgr2:¬r=g:=fun e=>hgr e.symm
 have A2:Calls Tryz.prog 201 #[.pointer (some ⟨r,0,none⟩),.int .i64 0] w fun e w'=>e= .returned (.pointer (some ⟨g,f,none⟩))/\Below w.heap.size w w':=by
  have:=Zg5 w r g n cap f 0 _ hblk hf h9 (by omega)
  rwa [Nat.add_zero,Nat.mod_eq_of_lt hf]at this
 have HB:=Hd hblk
 have HA:=Hd A2
 clear h hn hxm hc hx hfz cL hc0 hblk A2
 go_enter Tryz.func208,Tryz.ntmps208
 go_wp2_with (first|(go_at_call 198;refine Go.Calls.mono HC.out ?_;rintro e w' ⟨rfl,rfl⟩))
 refine HA.out.mono ?_
 rintro e w3 ⟨rfl,B3⟩
 have cq3:=(B3.cell (p:=⟨g,f,none⟩) hgl).trans cq
 have b3:=(B3.block r hs).trans HB.out
 have H3:=hi2 B3 b3
 clear B3 b3
 go_wp2_with fail
 refine(Zjf w3 r g n cap f _ H3.out.2 hf h9).mono ?_
 rintro e w4 ⟨rfl,b4,k4⟩
 have cm:w4.cell? ⟨r,2,none⟩=some (.int .i64 ((m:Int)+1)):=by simp[World.cell?,b4]
 have fm:w4.frozen? ⟨r,2,none⟩=false:=by simp[World.frozen?,b4]
 have hrl4:r<w4.heap.size:=(Gl b4)
 have H4:=hi2 b4 k4
 clear b4 k4
 go_wp2_with fail
 have hn:=H.out.2.1
 subst hn
 refine bodyPost_ret (v:=.tuple #[.int .i32 y,.bool true]) (by simp[results,Tryz.results208,go_sem]) rfl ⟨rfl,⟨cs,_,⟨?_,(H.out.1.row.kept ((Z0b (F:=fun k=>k=r) H3.out.1).trans H4.out.2) (fun t e=>H.out.1.ne t e)).kept (Z02 _ ⟨r,2,none⟩ _) (fun t e=>H.out.1.ne t e),H.out.1.ne,?_,?_,h9,H.out.2.2.2⟩,rfl⟩,?_⟩
 ·rw[Z00 H4.out.1,H.out.2.2.1]
  rfl
 ·exact Nat.mod_lt _ (by omega)
 ·have:=H.out.2.2.1;omega
 ·exact((Z0b (F:=RgF r _) H3.out.1).trans (H4.out.2.mono (fun _ _ e=>.inl e))).setCell (p:=⟨r,2,none⟩) (fun _=>.inl rfl) _
theorem Z7s (h:RgP w r v cs f (xs++ [y])):
 Calls Tryz.prog 209 #[.pointer (some ⟨r,0,none⟩)] w fun e w'=>e= .returned (.tuple #[.int .i32 y,.bool true])/\(∃cs' f',RgP w' r v cs' f' xs/\cs'.length=cs.length)/\Z01 (RgF r v) w w':=by
 obtain⟨g,cap,rfl,hgr,hgl,hx,hfz⟩:=h.pos
 have h9:=h.h9
 have hf:=h.hf
 have hblk:=h.blk
 have hs:=h.lt
 have hm:=h.hm
 obtain⟨hc,hc0⟩:=Zg7 h.hc
 obtain⟨n,hn⟩:∃n,cs.length=n:=⟨_,rfl⟩
 obtain⟨m,hxm⟩:∃m,xs.length=m:=⟨_,rfl⟩
 have hlen:((xs++ [y]).length:Int)=(m:Int)+1:=by simp;omega
 rw[Lla,List.length_singleton,hxm,hn]at hm
 rw[hn,hxm]at hc0
 have mw:IntKind.i64.wrap ((m:Int)+1-1)=(m:Int):=by rw[show(m:Int)+1-1=(m:Int) by omega];exact I6n _ (by omega)
 have hnz:¬((m:Int)+1=0):=by omega
 have cL:=Z2j w r _ cs f _ h
 rw[hlen]at cL
 have HC:=Hd cL
 have H:=hi4 h hn hxm hc
 obtain⟨q,hq⟩:∃q,(f+m)%n=q:=⟨_,rfl⟩
 have hqn:q<n:=by rw[<-hq];exact Nat.mod_lt _ (by omega)
 rw[hq]at hc0
 have cq:=hx q (by omega)
 rw[hc0]at cq
 rw[hn]at hx h9 hf hblk |-
 rw[hlen]at hblk
 have hgr2:¬r=g:=fun e=>hgr e.symm
 have cm:w.cell? ⟨r,2,none⟩=some (.int .i64 ((m:Int)+1)):=by simp[World.cell?,hblk]
 have fm:w.frozen? ⟨r,2,none⟩=false:=by simp[World.frozen?,hblk]
 have HB:=Hd hblk
 have HQ:=Hd hq
 clear h hn hxm hc hx hfz cL hc0 hblk hlen hq
 go_enter Tryz.func209,Tryz.ntmps209
 go_wp2_with (first|(go_at_call 198;refine Go.Calls.mono HC.out ?_;rintro e w' ⟨rfl,rfl⟩))
 generalize hW1:World.setCell _ _ _=w1
 have K1:Z01 (fun k=>k=r) w w1:=by rw[<-hW1];exact Z02 w ⟨r,2,none⟩ _
 have b1:w1.heap[r]?=some (.cells #[.slice (some ⟨g,0,none⟩) n cap,.int .i64 (f:Int),.int .i64 (m:Int)] 148 (0,0)):=by rw[<-hW1,Z00 HB.out];rfl
 have cq1:=(K1.cell (p:=⟨g,q,none⟩) hgl hgr).trans cq
 have cm1:w1.cell? ⟨r,2,none⟩=some (.int .i64 (m:Int)):=by simp[World.cell?,b1]
 have hgl1:g<w1.heap.size:=Nlt hgl K1.size
 have hrl1:r<w1.heap.size:=Nlt hs K1.size
 have AR:∀u,Below w1.heap.size w1 u->Calls Tryz.prog 201 #[.pointer (some ⟨r,0,none⟩),.int .i64 (m:Int)] u fun e w'=>e= .returned (.pointer (some ⟨g,q,none⟩))/\Below w1.heap.size w1 w':=fun u hu=>by
  have:=Zg5 u r g n cap f m _ ((hu.block r hrl1).trans b1) hf h9 (by omega)
  rw[HQ.out]at this
  exact this.mono (fun e w' h=>⟨h.1,hu.trans (h.2.mono hu.size)⟩)
 have HA:=Hd AR
 have H1:=hi2 K1 b1
 clear hW1 K1 b1 AR cq cm fm
 go_region_held3 (fun wz=>wz.cell? ⟨r,2,none⟩=some (.int .i64 (m:Int))/\wz.cell? ⟨g,q,none⟩=some (.int .i32 y))
  (first|(exact⟨cm1,cq1⟩)|(exact⟨cm3,cq3⟩))
  (first|(go_at_call 201;refine(HA.out _ (by go_grown)).mono ?_;rintro e w3 ⟨rfl,B3⟩;have cm3:=(B3.cell (p:=⟨r,2,none⟩) hrl1).trans cm1;have cq3:=(B3.cell (p:=⟨g,q,none⟩) hgl1).trans cq1;have H3:=Hd B3;clear B3))
 all_goals
  go_wp2_with fail
  have hn:=H.out.2.1
  subst hn
  refine bodyPost_ret (v:=.tuple #[.int .i32 y,.bool true]) (by simp[results,Tryz.results209,go_sem]) rfl ⟨rfl,⟨cs,f,⟨?_,(H.out.1.row.kept (H1.out.1.trans (Z0b (F:=fun k=>k=r) H3.out)) (fun t e=>H.out.1.ne t e)),H.out.1.ne,hf,?_,h9,H.out.2.2.2⟩,rfl⟩,?_⟩
  ·rw[H3.out.block r hrl1,H1.out.2,H.out.2.2.1]
  ·have:=H.out.2.2.1;omega
  ·exact((H1.out.1.mono (fun _ _ e=>.inl e)).trans (Z0b (F:=RgF r _) H3.out))
end
theorem Z6l {P:Program} (w:World) (t ty e:TypeId) (i:TypeInfo) (z:Value) (bytes:Nat) (h1:P.underlying t=some (.slice e)) (h2:P.info? e=some i) (h3:i.zero=some z) (h4:i.size=1) (h5:i.bytes=bytes) (h6:z.cells.size=1)
 (v:Value) (ys:List Value) (hr:Z2b w e v ys) (ab:Nat) (c:Nat) (u:Value) (hc:w.cell? ⟨ab,0,none⟩=some u) (h1c:u.oneCell'=true) (hn:ys.length<=1000000) (hby:bytes<=8):
 ∃v' w',(Builtin.append_ #[t,t] ty #[v,.slice (some ⟨ab,0,none⟩) 1 c]).run P w= .ok v' w'/\Z2b w' e v' (ys++ [u])/\Z39 w v v'/\Z01 (fun k=>v.ownBlock=some k) w w':=by
 have hl1:([u]:List Value).length=1*1:=rfl
 have ho1:∀x ∈ [u],x.oneCell'=true:=fun x hx=>by rw[List.mem_singleton.1 hx];exact h1c
 have hn1:∀j x,[u][j]?=some x->w.cell? ((⟨ab,0,none⟩:Addr).add j)=some x:=fun j x hj=>by
  cases j with
  |zero=>rw[show((⟨ab,0,none⟩:Addr).add 0)=⟨ab,0,none⟩from rfl,hc];simpa using hj
  |succ j=>simp at hj
 have hb:(ys.length+1)*bytes<=140737488355328:=by
  have:(ys.length+1)*bytes<=(ys.length+1)*8:=Nat.mul_le_mul_left _ hby
  omega
 have hmx:ys.length+1<=maxLen:=by unfold maxLen;omega
 rcases hr with⟨rfl,rfl⟩|⟨g,off,cap,cur,rfl,hgh,hle,hcm,hcs,hv⟩
 ·obtain⟨v',w',hrun,hown,hgr,_⟩:=run_append_own (P:=P) w w.heap.size t ty e i z 1 bytes h1 h2 h3 h4 h5 h6 (by decide) (.slice none 0 0) 0 [] (World.ownsRow_nil w _ e 1) ⟨ab,0,none⟩ 1 c [u] hl1 hn1 ho1 hmx hb (Nat.le_refl _)
  exact⟨v',w',hrun,Z2b.of hown,.inr (fun k hk=>(World.ownsRow.lt hown k hk).1),(Z01.refl _ w).grown hgr (fun k e _=>by cases e)⟩
 ·have hrw:Z2b w e (.slice (some ⟨g,off,none⟩) ys.length cap) ys:=.inr ⟨g,off,cap,cur,rfl,hgh,hle,hcm,hcs,hv⟩
  obtain⟨hrm,hfz,-,-,hgl,-,hcl⟩:=hrw.room
  by_cases hf:ys.length+1<=cap
  ·have hrun:=run_append_room_cells (P:=P) w t ty e i h1 h2 g off ys.length cap ⟨ab,0,none⟩ 1 c [u] (by rw[h4];rfl) hn1 ho1 hf (fun j hj=>by
    have hj0:j=0:=by simpa using hj
    subst hj0
    rw[h4,Nat.mul_one,Nat.add_zero];exact hrm _ (by omega)) (fun j hj=>hfz _)
   rw[h4,Nat.mul_one]at hrun
   exact⟨_,_,hrun,hrw.snoc (by omega) u,.inl rfl,(Z02 w ⟨g,off+ys.length,none⟩ u).mono (fun _ _ e=>by rw[e];rfl)⟩
  ·obtain⟨v',w',hrun,hown,hgr⟩:=run_append_arg_grows (P:=P) w t ty e i z 1 bytes h1 h2 h3 h4 h5 h6 (by decide) ⟨g,off,none⟩ ys.length cap ys (by simp) (fun j u hj=>by rw[Addr.add_lit];exact hcl j u hj) ⟨ab,0,none⟩ 1 c [u] hl1 hn1 (by omega) hmx hb
   exact⟨v',w',hrun,Z2b.of hown,.inr (fun k hk=>(World.ownsRow.lt hown k hk).1),(Z01.refl _ w).grown hgr (fun k e _=>by cases e)⟩
theorem Z2g {P:Program} {ops:Array Oper} {o:Oper} {a:Act} {w:World} {K:Act->World->Prop} {Q:Exit->Act->World->Prop} {E:Prop} (hgd:o.guard=none) (s x:Operand) (t:TypeId)
 (ho:o.op= .call {callee:=.builtin .append,args:= #[s,x],argTypes:= #[t,t]})
 (e:TypeId) (i:TypeInfo) (z:Value) (bytes:Nat) (h1:P.underlying t=some (.slice e)) (h2:P.info? e=some i) (h3:i.zero=some z) (h4:i.size=1) (h5:i.bytes=bytes) (h6:z.cells.size=1)
 (v:Value) (ys:List Value) (hs:a.eval s=v) (hr:Z2b w e v ys) (ab:Nat) (c:Nat) (u:Value) (hx:a.eval x= .slice (some ⟨ab,0,none⟩) 1 c) (hc:w.cell? ⟨ab,0,none⟩=some u) (h1c:u.oneCell'=true) (hn:ys.length<=1000000) (hby:bytes<=8)
 (hK:∀v' w',Z2b w' e v' (ys++ [u])->Z39 w v v'->Z01 (fun k=>v.ownBlock=some k) w w'->K (a.put o.dst v') w'):
 if Region.wanted o (yielded ops a.tmps)=true then Oper.wp P o a w K Q else E:=by
 have hw:Region.wanted o (yielded ops a.tmps)=true:=by simp[Region.wanted,hgd]
 rw[if_pos hw]
 obtain⟨v',w',hrun,r1,r2,r3⟩:=Z6l (P:=P) w t o.type e i z bytes h1 h2 h3 h4 h5 h6 v ys hr ab c u hc h1c hn hby
 unfold Oper.wp execOp
 simp only[ho,resolve,invoke,builtin,Sem.run_bind,Sem.run_pure,Result.andThen_ok,List.map_toArray,List.map_cons,List.map_nil,hs,hx,hrun]
 exact hK v' w' r1 r2 r3
section
variable (w:World) (m:Nat) (v0 v1:Value) (W0 W1:List Int) (be most k:Int)
theorem Zbn (h:EnP w m v0 v1 W0 W1 be most) (h0:0<=be) (h9:be<=1000000) (hn0:W0.length<=1000000) (hn1:W1.length<=1000000) (hm:most<=be+(W0.length:Int)+(W1.length:Int)):
 Calls Tryz.prog 218 #[.pointer (some ⟨m,0,none⟩),.int .i64 0,.int .i64 k] w fun e w'=>e= .returned (.bool false)/\Below w.heap.size w w':=by
 obtain⟨c0,c1,c2,c3,hf,hs⟩:=h.cells
 obtain⟨a0,p0,e0⟩:=h.row0.shape
 obtain⟨a1,p1,e1⟩:=h.row1.shape
 have l0:(Z0w W0).length=W0.length:=by simp
 have l1:(Z0w W1).length=W1.length:=by simp
 rw[l0]at e0
 rw[l1]at e1
 subst e0 e1
 have hw1:IntKind.i64.wrap (be+(W0.length:Int))=be+(W0.length:Int):=I6n _ (by omega)
 have hw2:IntKind.i64.wrap (be+(W0.length:Int)+(W1.length:Int))=be+(W0.length:Int)+(W1.length:Int):=I6n _ (by omega)
 have hd:decide (most<=be+(W0.length:Int)+(W1.length:Int))=true:=decide_eq_true (by omega)
 clear h
 go_enter Tryz.func218,Tryz.ntmps218
 go_wp2_with fail
 go_quiet (fail)
 go_wp2
 go_ret
 exact⟨rfl,by first|exact below_drewN (Brf _ _) _|exact(Brf _ _).drew⟩
theorem Zbo (h:EnP w m v0 v1 W0 W1 be most) (h0:0<=be) (h9:be<=1000000) (hn0:W0.length<=1000000) (hn1:W1.length<=1000000) (hm:be+(W0.length:Int)+(W1.length:Int)<most):
 Calls Tryz.prog 218 #[.pointer (some ⟨m,0,none⟩),.int .i64 0,.int .i64 k] w fun e w'=>e= .returned (.bool true)/\∃v',EnP w' m v' v1 (W0++ [k]) W1 be most/\Z39 w v0 v'/\Z01 (fun t=>t=m\/v0.ownBlock=some t) w w':=by
 obtain⟨i0,hi,hz0,hz1,hz2⟩:=info_parts Tryz.infoIntM
 obtain⟨c0,c1,c2,c3,hf,hs⟩:=h.cells
 obtain⟨a0,p0,e0⟩:=h.row0.shape
 obtain⟨a1,p1,e1⟩:=h.row1.shape
 have l0:(Z0w W0).length=W0.length:=by simp
 have l1:(Z0w W1).length=W1.length:=by simp
 rw[l0]at e0
 rw[l1]at e1
 subst e0 e1
 have hw1:IntKind.i64.wrap (be+(W0.length:Int))=be+(W0.length:Int):=I6n _ (by omega)
 have hw2:IntKind.i64.wrap (be+(W0.length:Int)+(W1.length:Int))=be+(W0.length:Int)+(W1.length:Int):=I6n _ (by omega)
 have hd:decide (most<=be+(W0.length:Int)+(W1.length:Int))=false:=decide_eq_false (by omega)
 have f0:=hf 0
 have H:=Hd h
 clear h hf
 go_enter Tryz.func218,Tryz.ntmps218
 go_wp2_with fail
 go_quiet (fail)
 have h1:=H.out.below (below_drewN (Brf _ _) nq)
 have hB:=below_drewN (Brf w.heap.size w) nq
 go_wp2_with fail
 generalize w.drewN nq=w2 at h1 hB |-
 obtain⟨c0,c1,c2,c3,hf,hs⟩:=h1.cells
 have f0:=hf 0
 have HU:=Hd (fun(u:World) (hu:Below w2.heap.size w2 u)=>h1.row0.below hu)
 have H1:=hi2 h1 hB
 clear h1 hB hf
 go_region_law (refine Z2g rfl _ _ 33 rfl 3 i0 (.int .i64 0) 8 Tryz.underlying33 hi hz0 hz1 hz2 rfl _ (Z0w W0) rfl (HU.out _ (by go_grown)) _ _ (.int .i64 k) rfl (by go_simp) rfl (by simp;omega) (by decide) ?_;intro v5 w5 own5 ob5 k5;obtain⟨ao5,cap5,rfl⟩:=own5.shape;rw[show(Z0w W0++ [Value.int .i64 k]).length=W0.length+1 from(by simp)]at own5 ob5 |-;have K5:Z01 (fun t=>(Value.slice a0 W0.length p0).ownBlock=some t) w2 w5:=(by first|exact((Z01.refl _ w2).alloc _).drew.trans k5|exact((Z01.refl _ w2).drew.alloc _).trans k5);have B5:=(K5.block m H1.out.1.lt (fun e=>H1.out.1.ne0 _ e rfl)).trans H1.out.1.blk;have f05:w5.frozen? ⟨m,0,none⟩=false:=(by simp[World.frozen?,B5]);have c05:w5.cell? ⟨m,0,none⟩=some (.slice a0 W0.length p0):=(by simp[World.cell?,B5]);have z5:m<w5.heap.size:=(Gl B5);have L5:Z39 w2 (Value.slice a0 W0.length p0) (.slice ao5 (W0.length+1) cap5):=(by rcases ob5 with h|h;exact .inl h;(refine .inr (fun t e=>?_);have:=h t e;simp at this;omega));have H5:=hi3 own5 K5 L5;clear own5 ob5 k5 K5 B5 L5)
 all_goals
  go_wp2
  go_ret
  have hb:=H1.out.2
  have E5:EnP w5 m (.slice a0 W0.length p0) (.slice a1 W1.length p1) W0 W1 be most->True:=fun _=>trivial
  have hm5:∀t,(Value.slice ao5 (W0.length+1) cap5).ownBlock=some t->t≠m:=fun t e=>by
   rcases H5.out.2.2 with h|h
   ·exact H1.out.1.ne0 t (h ▸ e)
   ·have:=h t e;have:=H1.out.1.lt;omega
  have ho5:∀t,(Value.slice ao5 (W0.length+1) cap5).ownBlock=some t->(Value.slice a1 W1.length p1).ownBlock≠some t:=fun t e f=>by
   rcases H5.out.2.2 with h|h
   ·exact H1.out.1.ne t (h ▸ e) f
   ·have:=h t e;have:=H1.out.1.row1.lt f;omega
  have X5:=((H1.out.1.row1.kept H5.out.2.1 (fun t e f=>H1.out.1.ne t f e)))
  have b5:=(H5.out.2.1.block m H1.out.1.lt (fun e=>H1.out.1.ne0 _ e rfl)).trans H1.out.1.blk
  refine⟨rfl,_,⟨by rw[Z00 b5];rfl,?_,?_,fun t e=>hm5 t e,H1.out.1.ne1,ho5⟩,?_,?_⟩
  ·exact(show Z2b w5 3 _ (Z0w (W0++ [k]))from by simpa using H5.out.1).kept (Z02 w5 ⟨m,0,none⟩ _) (fun t e f=>hm5 t e f)
  ·exact X5.kept (Z02 w5 ⟨m,0,none⟩ _) (fun t e f=>H1.out.1.ne1 t e f)
  ·rcases H5.out.2.2 with h|h
   ·exact .inl h
   ·exact .inr (fun t e=>by have:=h t e;have:=hb.size;omega)
  ·exact((Z0b (F:=fun t=>t=m\/(Value.slice a0 W0.length p0).ownBlock=some t) hb).trans (H5.out.2.1.mono (fun _ _ e=>.inr e))).setCell (p:=⟨m,0,none⟩) (fun _=>.inl rfl) _
theorem Zbp (h:EnP w m v0 v1 W0 W1 be most) (h0:0<=be) (h9:be<=1000000) (hn0:W0.length<=1000000) (hn1:W1.length<=1000000) (hm:most<=be+(W0.length:Int)+(W1.length:Int)):
 Calls Tryz.prog 218 #[.pointer (some ⟨m,0,none⟩),.int .i64 1,.int .i64 k] w fun e w'=>e= .returned (.bool false)/\Below w.heap.size w w':=by
 obtain⟨c0,c1,c2,c3,hf,hs⟩:=h.cells
 obtain⟨a0,p0,e0⟩:=h.row0.shape
 obtain⟨a1,p1,e1⟩:=h.row1.shape
 have l0:(Z0w W0).length=W0.length:=by simp
 have l1:(Z0w W1).length=W1.length:=by simp
 rw[l0]at e0
 rw[l1]at e1
 subst e0 e1
 have hw1:IntKind.i64.wrap (be+(W0.length:Int))=be+(W0.length:Int):=I6n _ (by omega)
 have hw2:IntKind.i64.wrap (be+(W0.length:Int)+(W1.length:Int))=be+(W0.length:Int)+(W1.length:Int):=I6n _ (by omega)
 have hd:decide (most<=be+(W0.length:Int)+(W1.length:Int))=true:=decide_eq_true (by omega)
 clear h
 go_enter Tryz.func218,Tryz.ntmps218
 go_wp2_with fail
 go_quiet (fail)
 go_wp2
 go_ret
 exact⟨rfl,by first|exact below_drewN (Brf _ _) _|exact(Brf _ _).drew⟩
theorem Zbq (h:EnP w m v0 v1 W0 W1 be most) (h0:0<=be) (h9:be<=1000000) (hn0:W0.length<=1000000) (hn1:W1.length<=1000000) (hm:be+(W0.length:Int)+(W1.length:Int)<most):
 Calls Tryz.prog 218 #[.pointer (some ⟨m,0,none⟩),.int .i64 1,.int .i64 k] w fun e w'=>e= .returned (.bool true)/\∃v',EnP w' m v0 v' W0 (W1++ [k]) be most/\Z39 w v1 v'/\Z01 (fun t=>t=m\/v1.ownBlock=some t) w w':=by
 obtain⟨i0,hi,hz0,hz1,hz2⟩:=info_parts Tryz.infoIntM
 obtain⟨c0,c1,c2,c3,hf,hs⟩:=h.cells
 obtain⟨a0,p0,e0⟩:=h.row0.shape
 obtain⟨a1,p1,e1⟩:=h.row1.shape
 have l0:(Z0w W0).length=W0.length:=by simp
 have l1:(Z0w W1).length=W1.length:=by simp
 rw[l0]at e0
 rw[l1]at e1
 subst e0 e1
 have hw1:IntKind.i64.wrap (be+(W0.length:Int))=be+(W0.length:Int):=I6n _ (by omega)
 have hw2:IntKind.i64.wrap (be+(W0.length:Int)+(W1.length:Int))=be+(W0.length:Int)+(W1.length:Int):=I6n _ (by omega)
 have hd:decide (most<=be+(W0.length:Int)+(W1.length:Int))=false:=decide_eq_false (by omega)
 have f0:=hf 1
 have H:=Hd h
 clear h hf
 go_enter Tryz.func218,Tryz.ntmps218
 go_wp2_with fail
 go_quiet (fail)
 have h1:=H.out.below (below_drewN (Brf _ _) nq)
 have hB:=below_drewN (Brf w.heap.size w) nq
 go_wp2_with fail
 generalize w.drewN nq=w2 at h1 hB |-
 obtain⟨c0,c1,c2,c3,hf,hs⟩:=h1.cells
 have f0:=hf 1
 have HU:=Hd (fun(u:World) (hu:Below w2.heap.size w2 u)=>h1.row1.below hu)
 have H1:=hi2 h1 hB
 clear h1 hB hf
 go_region_law (refine Z2g rfl _ _ 33 rfl 3 i0 (.int .i64 0) 8 Tryz.underlying33 hi hz0 hz1 hz2 rfl _ (Z0w W1) rfl (HU.out _ (by go_grown)) _ _ (.int .i64 k) rfl (by go_simp) rfl (by simp;omega) (by decide) ?_;intro v5 w5 own5 ob5 k5;obtain⟨ao5,cap5,rfl⟩:=own5.shape;rw[show(Z0w W1++ [Value.int .i64 k]).length=W1.length+1 from(by simp)]at own5 ob5 |-;have K5:Z01 (fun t=>(Value.slice a1 W1.length p1).ownBlock=some t) w2 w5:=(by first|exact((Z01.refl _ w2).alloc _).drew.trans k5|exact((Z01.refl _ w2).drew.alloc _).trans k5);have B5:=(K5.block m H1.out.1.lt (fun e=>H1.out.1.ne1 _ e rfl)).trans H1.out.1.blk;have f05:w5.frozen? ⟨m,1,none⟩=false:=(by simp[World.frozen?,B5]);have c05:w5.cell? ⟨m,1,none⟩=some (.slice a1 W1.length p1):=(by simp[World.cell?,B5]);have z5:m<w5.heap.size:=(Gl B5);have L5:Z39 w2 (Value.slice a1 W1.length p1) (.slice ao5 (W1.length+1) cap5):=(by rcases ob5 with h|h;exact .inl h;(refine .inr (fun t e=>?_);have:=h t e;simp at this;omega));have H5:=hi3 own5 K5 L5;clear own5 ob5 k5 K5 B5 L5)
 all_goals
  go_wp2
  go_ret
  have hb:=H1.out.2
  have E5:EnP w5 m (.slice a0 W0.length p0) (.slice a1 W1.length p1) W0 W1 be most->True:=fun _=>trivial
  have hm5:∀t,(Value.slice ao5 (W1.length+1) cap5).ownBlock=some t->t≠m:=fun t e=>by
   rcases H5.out.2.2 with h|h
   ·exact H1.out.1.ne1 t (h ▸ e)
   ·have:=h t e;have:=H1.out.1.lt;omega
  have ho5:∀t,(Value.slice ao5 (W1.length+1) cap5).ownBlock=some t->(Value.slice a0 W0.length p0).ownBlock≠some t:=fun t e f=>by
   rcases H5.out.2.2 with h|h
   ·exact H1.out.1.ne t f (h ▸ e)
   ·have:=h t e;have:=H1.out.1.row0.lt f;omega
  have X5:=((H1.out.1.row0.kept H5.out.2.1 (fun t e f=>H1.out.1.ne t e f)))
  have b5:=(H5.out.2.1.block m H1.out.1.lt (fun e=>H1.out.1.ne1 _ e rfl)).trans H1.out.1.blk
  refine⟨rfl,_,⟨by rw[Z00 b5];rfl,?_,?_,H1.out.1.ne0,fun t e=>hm5 t e,fun t e f=>ho5 t f e⟩,?_,?_⟩
  ·exact X5.kept (Z02 w5 ⟨m,1,none⟩ _) (fun t e f=>H1.out.1.ne0 t e f)
  ·exact(show Z2b w5 3 _ (Z0w (W1++ [k]))from by simpa using H5.out.1).kept (Z02 w5 ⟨m,1,none⟩ _) (fun t e f=>hm5 t e f)
  ·rcases H5.out.2.2 with h|h
   ·exact .inl h
   ·exact .inr (fun t e=>by have:=h t e;have:=hb.size;omega)
  ·exact((Z0b (F:=fun t=>t=m\/(Value.slice a1 W1.length p1).ownBlock=some t) hb).trans (H5.out.2.1.mono (fun _ _ e=>.inr e))).setCell (p:=⟨m,1,none⟩) (fun _=>.inl rfl) _
end
section
open Go.MapKept
variable {kd:IntKind} {P:Program} {mt kt et:TypeId} (hm:P.underlying mt=some (.map kt et)) (hk:P.underlying kt=some (.int kd))
include hm hk
theorem Z1p {z:Value} (he:∀w:World,(zeroValue et).run P w= .ok z w) (M:Nat) (w:World) (l:List (Int×Value)) (nx:Nat) (k:Int) (hM:w.heap[M]?=some (.map (Z85 kd l) nx)):
 (Instr.lookup mt (.map (some M)) (.int kd k) true).run P w= .ok (.tuple #[(Z3i l k).getD z,.bool (Z3i l k).isSome]) w:=by
 obtain⟨j,hj⟩:=Z2v (kd:=kd) k l
 have hf:=run_findKey (P:=P) (w:=w) hk hj
 have hc:(Instr.checkKey (Z85 kd l).isEmpty 10000 kt (.int kd k)).run P w= .ok () w:=run_checkKey hk (k:=.int kd k) rfl (Z85 kd l).isEmpty 9999
 unfold Instr.lookup
 simp only[Sem.run_bind,run_underlying hm,Result.andThen_ok,Go.MapKept.run_getObj_map hM,Sem.run_pure,hc,hf,he]
 cases Z3i l k with
 |some v=>rfl
 |none=>
  simp only[Option.map_none,Sem.run_bind,he,Result.andThen_ok,Sem.run_pure,if_true]
  rfl
end
def Z9a (b:Bool) (e:Int):Value:=.agg #[.bool b,.int .i64 e]
def Z77:List (Int×Value):= [(4,Z9a false 1),(3,Z9a false 0),(2,Z9a true 1),(1,Z9a true 0)]
theorem Zgc (w:World):Calls Tryz.prog 217 #[] w fun e w'=>e= .returned (.map (some w.heap.size))/\w'=Z0z .u8 w Z77:=by
 have q0:(Instr.makeMap 276 none).run Tryz.prog w= .ok (.map (some w.heap.size)) (Z0z .u8 w []):=rfl
 have q1:(Instr.mapUpdate 276 (.map (some w.heap.size)) (.int .u8 1) (.agg #[.bool true,.int .i64 0])).run Tryz.prog (Z0z .u8 w [])= .ok () (Z0z .u8 w [(1,Z9a true 0)]):=Z0a Tryz.underlying276 Tryz.underlying5 w _ _ _ rfl
 have q2:(Instr.mapUpdate 276 (.map (some w.heap.size)) (.int .u8 2) (.agg #[.bool true,.int .i64 1])).run Tryz.prog (Z0z .u8 w [(1,Z9a true 0)])= .ok () (Z0z .u8 w [(2,Z9a true 1),(1,Z9a true 0)]):=Z0a Tryz.underlying276 Tryz.underlying5 w _ _ _ rfl
 have q3:(Instr.mapUpdate 276 (.map (some w.heap.size)) (.int .u8 3) (.agg #[.bool false,.int .i64 0])).run Tryz.prog (Z0z .u8 w [(2,Z9a true 1),(1,Z9a true 0)])= .ok () (Z0z .u8 w [(3,Z9a false 0),(2,Z9a true 1),(1,Z9a true 0)]):=Z0a Tryz.underlying276 Tryz.underlying5 w _ _ _ rfl
 have q4:(Instr.mapUpdate 276 (.map (some w.heap.size)) (.int .u8 4) (.agg #[.bool false,.int .i64 1])).run Tryz.prog (Z0z .u8 w [(3,Z9a false 0),(2,Z9a true 1),(1,Z9a true 0)])= .ok () (Z0z .u8 w Z77):=Z0a Tryz.underlying276 Tryz.underlying5 w _ _ _ rfl
 go_enter Tryz.func217,Tryz.ntmps217
 go_wp2
 go_ret
 exact⟨rfl,rfl⟩
theorem Z8o (w:World) (tb ob vb:Nat) (ov vv:Value) (L:List (Int×Int)) (Vs:List Int) (k p:Nat) (en:Int) (hob:w.cell? ⟨ob,0,none⟩=some ov) (hvb:w.cell? ⟨vb,0,none⟩=some vv) (hO:P2 w 47 ov L) (hV:R32 w vv Vs) (hk:k<Vs.length) (hp:p<L.length)
 (hne:∀t,vv.ownBlock=some t->t≠ob/\t≠vb/\ov.ownBlock≠some t) (h9:Vs.length<=1000000) (h8:L.length<=1000000):
 Calls Tryz.prog 213 #[.int .i64 (k:Int),.int .i64 en,.int .i64 (p:Int),.pointer (some ⟨tb,0,none⟩),.pointer (some ⟨vb,0,none⟩),.pointer (some ⟨ob,0,none⟩)] w fun e w'=>e= .returned (.tuple #[])/\R32 w' vv (Vs.set k (L.getD p (0,0)).2)/\Z01 (fun t=>vv.ownBlock=some t) w w':=by
 obtain⟨og,oc,rfl,hoc,hogl,hc,-⟩:=hO.pos (by omega)
 obtain⟨vg,vc,cur,rfl,hvg,-,hvc,hvx,hvf⟩:=hV.pos (by omega)
 obtain⟨-,c2⟩:=hc p hp
 rw[show 2*p+1=p*2+1 by omega]at c2
 have cv:=hvx k hk
 have fv:=hvf k
 obtain⟨x,hx⟩:∃x,(L.getD p (0,0)).2=x:=⟨_,rfl⟩
 rw[hx]at c2
 obtain⟨n1,n2,n3⟩:=hne vg rfl
 have n3':¬og=vg:=fun e=>n3 (by rw[e];rfl)
 have n3b:¬vg=og:=fun e=>n3' e.symm
 have n1b:¬ob=vg:=fun e=>n1 e.symm
 have n2b:¬vb=vg:=fun e=>n2 e.symm
 have hkl:(k:Int)<(Vs.length:Int):=by omega
 have hk0:(0:Int)<=(k:Int):=by omega
 have hpl:(p:Int)<(L.length:Int):=by omega
 have hp0:(0:Int)<=(p:Int):=by omega
 have hpn:¬(p:Int)<0:=by omega
 have H:=hi2 hV hx
 clear hc hvx hvf hV hne n3 hvg hx hO
 go_enter Tryz.func213,Tryz.ntmps213
 go_wp2_with fail
 go_region_held3 (fun wz=>wz.cell? ⟨ob,0,none⟩=some (.slice (some ⟨og,0,none⟩) L.length oc)/\wz.cell? ⟨vb,0,none⟩=some (.slice (some ⟨vg,0,none⟩) Vs.length vc)/\wz.cell? ⟨og,p*2+1,none⟩=some (.int .i32 x))
  (first|(exact⟨hob,hvb,c2⟩)|go_keep)
  (fail)
 all_goals
  go_wp2
  go_end0
  exact⟨rfl,by rw[H.out.2];exact(H.out.1.below (Brf _ _).drew).set rfl k (by omega) x,((Z01.refl (fun t=>(Value.slice (some ⟨vg,0,none⟩) Vs.length vc).ownBlock=some t) w).drew).setCell (p:=⟨vg,k,none⟩) (fun _=>rfl) _⟩
abbrev Zci (r:Nat):Value:=.func (.func 208) #[.pointer (some ⟨r,0,none⟩)] #[]
abbrev Zcj (r:Nat):Value:=.func (.func 209) #[.pointer (some ⟨r,0,none⟩)] #[]
section
variable (w:World) (tb ob vb r:Nat) (rv vv:Value) (cs:List Int) (f:Nat) (xs:List Int) (z:Int) (Vs:List Int) (k:Nat)
theorem Zmu (htb:w.cell? ⟨tb,0,none⟩=some (Zci r)) (hvb:w.cell? ⟨vb,0,none⟩=some vv) (hS:RgP w r rv cs f (z::xs)) (hV:R32 w vv Vs) (hk:k<Vs.length)
 (hne:∀t,vv.ownBlock=some t->t≠tb/\t≠vb/\¬RgF r rv t) (hs1:¬RgF r rv tb) (hs2:¬RgF r rv vb) (h9:Vs.length<=1000000):
 Calls Tryz.prog 213 #[.int .i64 (k:Int),.int .i64 0,.int .i64 (-1),.pointer (some ⟨tb,0,none⟩),.pointer (some ⟨vb,0,none⟩),.pointer (some ⟨ob,0,none⟩)] w fun e w'=>e= .returned (.tuple #[])/\R32 w' vv (Vs.set k z)/\(∃cs' f',RgP w' r rv cs' f' xs/\cs'.length=cs.length)/\Z01 (fun t=>RgF r rv t\/vv.ownBlock=some t) w w':=by
 obtain⟨vg,vc,cur,rfl,hvg,-,hvc,hvx,hvf⟩:=hV.pos (by omega)
 obtain⟨n1,n2,n3⟩:=hne vg rfl
 have hkl:(k:Int)<(Vs.length:Int):=by omega
 have hk0:(0:Int)<=(k:Int):=by omega
 have n1b:¬tb=vg:=fun e=>n1 e.symm
 have n2b:¬vb=vg:=fun e=>n2 e.symm
 have H:=hi5 hV hS n3 hs1 hs2
 have z1:=Blt w _ htb
 have z2:=Blt w _ hvb
 have dtb:=((Brf w.heap.size w).drew.cell (p:=⟨tb,0,none⟩) z1).trans htb
 have dvb:=((Brf w.heap.size w).drew.cell (p:=⟨vb,0,none⟩) z2).trans hvb
 have HD:=hi2 dtb dvb
 have hvo:∀t,(Value.slice (some ⟨vg,0,none⟩) Vs.length vc).ownBlock=some t->¬RgF r rv t:=fun t e=>(hne t e).2.2
 have HVO:=Hd hvo
 clear hvo
 have y1:tb<w.drew.heap.size:=z1
 have y2:vb<w.drew.heap.size:=z2
 clear hvx hvf hV hne hvg hS n3 hs1 hs2 dtb dvb
 go_enter Tryz.func213,Tryz.ntmps213
 go_wp2_with fail
 go_region_held3 (fun wz=>wz.cell? ⟨tb,0,none⟩=some (Zci r)/\wz.cell? ⟨vb,0,none⟩=some (.slice (some ⟨vg,0,none⟩) Vs.length vc))
  (first|(exact⟨htb,hvb⟩)|(exact⟨g1,g2⟩)|go_keep)
  (first|(go_at_call 208;go_split_ands;with_reducible refine(Z7r _ r rv cs f z xs (H.out.2.1.below (Brf _ _).drew)).mono ?_;rintro e w3 ⟨rfl,h3,hk3⟩;have g1:=(hk3.cell (p:=⟨tb,0,none⟩) y1 H.out.2.2.2.1).trans HD.out.1;have g2:=(hk3.cell (p:=⟨vb,0,none⟩) y2 H.out.2.2.2.2).trans HD.out.2;have V3:=(H.out.1.below (Brf _ _).drew).kept hk3 HVO.out;obtain⟨vg',vc',cur',e3,hg3,-,-,hx3,hf3⟩:=V3.pos (by omega);cases e3;have cv:=hx3 k hk;have fv:=hf3 k;have H3:=hi3 h3 hk3 V3;clear h3 hk3 V3 hx3 hf3 hg3))
 all_goals
  go_wp2
  go_end0
  have KT:Z01 (fun t=>t=vg) w3 (w3.setCell ⟨vg,k,none⟩ (.int .i32 z)):=(Z01.refl (fun t=>t=vg) w3).setCell (p:=⟨vg,k,none⟩) (fun _=>rfl) _
  obtain⟨⟨cs',f',h4,l4⟩,hk3,V3⟩:=H3.out
  exact⟨rfl,V3.set rfl k (by omega) z,⟨cs',f',h4.kept KT (fun e=>HVO.out vg rfl (.inl e.symm)) (fun t e hh=>HVO.out vg rfl (.inr (hh ▸ e))),l4⟩,((Z01.refl (fun t=>RgF r rv t\/(Value.slice (some ⟨vg,0,none⟩) Vs.length vc).ownBlock=some t) w).drew.trans (hk3.mono (fun _ _ e=>.inl e))).trans (KT.mono (fun _ _ e=>.inr (by rw[e];rfl)))⟩
theorem Zmv (htb:w.cell? ⟨tb,1,none⟩=some (Zcj r)) (hvb:w.cell? ⟨vb,0,none⟩=some vv) (hS:RgP w r rv cs f (xs++ [z])) (hV:R32 w vv Vs) (hk:k<Vs.length)
 (hne:∀t,vv.ownBlock=some t->t≠tb/\t≠vb/\¬RgF r rv t) (hs1:¬RgF r rv tb) (hs2:¬RgF r rv vb) (h9:Vs.length<=1000000):
 Calls Tryz.prog 213 #[.int .i64 (k:Int),.int .i64 1,.int .i64 (-1),.pointer (some ⟨tb,0,none⟩),.pointer (some ⟨vb,0,none⟩),.pointer (some ⟨ob,0,none⟩)] w fun e w'=>e= .returned (.tuple #[])/\R32 w' vv (Vs.set k z)/\(∃cs' f',RgP w' r rv cs' f' xs/\cs'.length=cs.length)/\Z01 (fun t=>RgF r rv t\/vv.ownBlock=some t) w w':=by
 obtain⟨vg,vc,cur,rfl,hvg,-,hvc,hvx,hvf⟩:=hV.pos (by omega)
 obtain⟨n1,n2,n3⟩:=hne vg rfl
 have hkl:(k:Int)<(Vs.length:Int):=by omega
 have hk0:(0:Int)<=(k:Int):=by omega
 have n1b:¬tb=vg:=fun e=>n1 e.symm
 have n2b:¬vb=vg:=fun e=>n2 e.symm
 have H:=hi5 hV hS n3 hs1 hs2
 have z1:=Blt w _ htb
 have z2:=Blt w _ hvb
 have dtb:=((Brf w.heap.size w).drew.cell (p:=⟨tb,1,none⟩) z1).trans htb
 have dvb:=((Brf w.heap.size w).drew.cell (p:=⟨vb,0,none⟩) z2).trans hvb
 have HD:=hi2 dtb dvb
 have hvo:∀t,(Value.slice (some ⟨vg,0,none⟩) Vs.length vc).ownBlock=some t->¬RgF r rv t:=fun t e=>(hne t e).2.2
 have HVO:=Hd hvo
 clear hvo
 have y1:tb<w.drew.heap.size:=z1
 have y2:vb<w.drew.heap.size:=z2
 clear hvx hvf hV hne hvg hS n3 hs1 hs2 dtb dvb
 go_enter Tryz.func213,Tryz.ntmps213
 go_wp2_with fail
 go_region_held3 (fun wz=>wz.cell? ⟨tb,1,none⟩=some (Zcj r)/\wz.cell? ⟨vb,0,none⟩=some (.slice (some ⟨vg,0,none⟩) Vs.length vc))
  (first|(exact⟨htb,hvb⟩)|(exact⟨g1,g2⟩)|go_keep)
  (first|(go_at_call 209;go_split_ands;with_reducible refine(Z7s _ r rv cs f z xs (H.out.2.1.below (Brf _ _).drew)).mono ?_;rintro e w3 ⟨rfl,h3,hk3⟩;have g1:=(hk3.cell (p:=⟨tb,1,none⟩) y1 H.out.2.2.2.1).trans HD.out.1;have g2:=(hk3.cell (p:=⟨vb,0,none⟩) y2 H.out.2.2.2.2).trans HD.out.2;have V3:=(H.out.1.below (Brf _ _).drew).kept hk3 HVO.out;obtain⟨vg',vc',cur',e3,hg3,-,-,hx3,hf3⟩:=V3.pos (by omega);cases e3;have cv:=hx3 k hk;have fv:=hf3 k;have H3:=hi3 h3 hk3 V3;clear h3 hk3 V3 hx3 hf3 hg3))
 all_goals
  go_wp2
  go_end0
  have KT:Z01 (fun t=>t=vg) w3 (w3.setCell ⟨vg,k,none⟩ (.int .i32 z)):=(Z01.refl (fun t=>t=vg) w3).setCell (p:=⟨vg,k,none⟩) (fun _=>rfl) _
  obtain⟨⟨cs',f',h4,l4⟩,hk3,V3⟩:=H3.out
  exact⟨rfl,V3.set rfl k (by omega) z,⟨cs',f',h4.kept KT (fun e=>HVO.out vg rfl (.inl e.symm)) (fun t e hh=>HVO.out vg rfl (.inr (hh ▸ e))),l4⟩,((Z01.refl (fun t=>RgF r rv t\/(Value.slice (some ⟨vg,0,none⟩) Vs.length vc).ownBlock=some t) w).drew.trans (hk3.mono (fun _ _ e=>.inl e))).trans (KT.mono (fun _ _ e=>.inr (by rw[e];rfl)))⟩
end
end
end Go.Proofs.YtihljjgmkaeohaaGreat
