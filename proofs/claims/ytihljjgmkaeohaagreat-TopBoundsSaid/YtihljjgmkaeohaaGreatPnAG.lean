/- part 7 -/
import Derived.Deep.CutBlock
import Derived.Deep.DeepCutAuto
import Derived.Laws.MakeOwn
import Derived.Test.YtihljjgmkaeohaaGreatPnAD
set_option linter.all false
set_option maxHeartbeats 16000000
set_option maxRecDepth 100000
namespace Go.Proofs.YtihljjgmkaeohaaGreat
section
open Go.RowKit Go.ChangeShapes Go.WideShapes Go.ChangeAt Go.Deep
def Z1j (w:World) (v:Value) (xs:List Int):Prop:=w.ownsRow 0 3 1 v xs.length (xs.map (Value.int .i64))
theorem Z1j.kept {S:Nat->Prop} {w w':World} {v:Value} {xs:List Int} (h:Z1j w v xs) (hk:Z01 S w w') (hs:∀g,v.ownBlock=some g->¬S g):Z1j w' v xs:=Z04 h hk hs
section
variable {w:World} {v:Value} {xs:List Int}
theorem Z1j.lt (h:Z1j w v xs) {g:Nat} (hg:v.ownBlock=some g):g<w.heap.size:=(World.ownsRow.lt h g hg).2
theorem Z1j.alloc (h:Z1j w v xs) (o:Obj):Z1j (w.alloc o) v xs:=World.ownsRow.alloc h o
end
theorem Z1j.nil (w:World):Z1j w (.slice none 0 0) []:=World.ownsRow_nil w 0 3 1
theorem Z1j.below {w w':World} {v:Value} {xs:List Int} (h:Z1j w v xs) (hb:Below w.heap.size w w'):Z1j w' v xs:=
 h.kept (Z01.of_below (S:=fun _=>False) hb (fun k h1 h2=>by omega)) (fun _ _ h=>h)
theorem Z1j.of {w:World} {base:Nat} {v:Value} {n:Nat} {ys:List Value} {xs:List Int} (h:w.ownsRow base 3 1 v n ys) (hn:n=xs.length) (hy:ys=xs.map (Value.int .i64)):Z1j w v xs:=by
 subst hn;subst hy
 refine⟨h.1,?_⟩
 rcases h.2 with h2|⟨g,cap,cur,h2,_,r⟩
 ·exact .inl h2
 ·exact .inr ⟨g,cap,cur,h2,Nat.zero_le _,r⟩
section
variable {w:World} {v:Value} {xs:List Int}
theorem Z1j.shape (h:Z1j w v xs):∃ao cap,v= .slice ao xs.length cap:=by
 rcases h.2 with⟨rfl,h0⟩|⟨g,cap,cur,rfl,_⟩
 ·exact⟨none,0,by rw[h0]⟩
 ·exact⟨_,cap,rfl⟩
theorem Z1j.pos (h:Z1j w v xs) (hp:0<xs.length):∃g cap cur,v= .slice (some ⟨g,0,none⟩) xs.length cap/\w.heap[g]?=some (.cells cur 3 (0,0))/\cur.size=cap/\xs.length<=cap/\
 (∀j,j<xs.length->w.cell? ⟨g,j,none⟩=some (.int .i64 (xs.getD j 0)))/\(∀j,w.frozen? ⟨g,j,none⟩=false):=by
 rcases h.2 with⟨rfl,h0⟩|⟨g,cap,cur,rfl,_,hg,hn,_,hc,ht⟩
 ·omega
 ·refine⟨g,cap,cur,rfl,hg,by simpa using hc,hn,fun j hj=>?_,fun j=>by simp[World.frozen?,hg]⟩
  have h1:(xs.map (Value.int .i64))[j]?=some (.int .i64 (xs.getD j 0)):=by
   simp[List.getElem?_map,Lge hj]
  have h2:=World.ownsRow.cells h (g:=g) rfl j _ h1
  have ha:(⟨g,0,none⟩:Addr).add j=⟨g,j,none⟩:=by unfold Addr.add;split<;>simp_all
  rw[ha]at h2
  exact h2
end
theorem Z3e {w:World} {g:Nat} {vs:List Int} {n:Nat} (h:w.heap[g]?=some (.cells (vs.map (Value.int .i64)).toArray 3 (0,0))) (hl:vs.length=n) (hn:n<=100):Z1j w (.slice (some ⟨g,0,none⟩) n n) vs:=by
 subst hl
 refine⟨by simp,.inr ⟨g,vs.length,_,rfl,Nat.zero_le _,h,Nat.le_refl _,by unfold maxLen;omega,by simp,List.take_of_length_le (by simp)⟩⟩
theorem Z1j.take {w:World} {g:Nat} {cap n A:Nat} {xs:List Int} (h:Z1j w (.slice (some ⟨g,0,none⟩) n cap) xs) (hA:A<=xs.length):Z1j w (.slice (some ⟨g,0,none⟩) A cap) (xs.take A):=by
 have hl:(xs.take A).length=A:=by rw[List.length_take];omega
 rcases h.2 with⟨e,_⟩|⟨g',cap',cur,e,hb,hg,hn,hm,hc,ht⟩
 ·cases e
 ·cases e
  refine⟨by simp,.inr ⟨g,cap,cur,by rw[hl],hb,hg,by omega,hm,hc,?_⟩⟩
  rw[hl,Nat.mul_one,List.map_take,<-ht,Nat.mul_one,List.take_take,Nat.min_eq_left hA]
theorem Z1j.cellsFrom {w:World} {g cap n:Nat} {xs:List Int} (h:Z1j w (.slice (some ⟨g,0,none⟩) n cap) xs) (A j:Nat) (u:Value) (hj:((xs.drop A).map (Value.int .i64))[j]?=some u):w.cell? ((⟨g,A,none⟩:Addr).add j)=some u:=by
 have ha:(⟨g,A,none⟩:Addr).add j=⟨g,A+j,none⟩:=by unfold Addr.add;split<;>simp_all
 have hb:(⟨g,0,none⟩:Addr).add (A+j)=⟨g,A+j,none⟩:=by unfold Addr.add;split<;>simp_all
 rw[ha,<-hb]
 refine World.ownsRow.cells h (g:=g) rfl (A+j) u ?_
 rw[List.map_drop,List.getElem?_drop]at hj
 exact hj
theorem Tryz.infoIntM:(Tryz.prog.info? 3).map (fun i=>(i.zero,i.size,i.bytes))=some (some (.int .i64 0),1,8):=by kernel_rfl
structure MtP (w:World) (m:Nat) (v:Value) (W:List Int) (bl most:Int):Prop where
 blk:w.heap[m]?=some (.cells #[v,.int .i64 bl,.int .i64 most] 246 (0,0))
 row:Z1j w v W
 ne:∀t,v.ownBlock=some t->t≠m
section
variable {w w':World} {m:Nat} {v:Value} {W:List Int} {bl most:Int}
theorem MtP.lt (h:MtP w m v W bl most):m<w.heap.size:=(Gl h.blk)
theorem MtP.kept {S:Nat->Prop} (h:MtP w m v W bl most) (hk:Z01 S w w') (h1:¬S m) (h2:∀t,v.ownBlock=some t->¬S t):MtP w' m v W bl most:=⟨(hk.block m h.lt h1).trans h.blk,h.row.kept hk h2,h.ne⟩
theorem MtP.below (h:MtP w m v W bl most) (hb:Below w.heap.size w w'):MtP w' m v W bl most:=⟨(hb.block m h.lt).trans h.blk,h.row.below hb,h.ne⟩
theorem MtP.cells (h:MtP w m v W bl most):w.cell? ⟨m,0,none⟩=some v/\w.cell? ⟨m,1,none⟩=some (.int .i64 bl)/\w.cell? ⟨m,2,none⟩=some (.int .i64 most)/\(∀j,w.frozen? ⟨m,j,none⟩=false)/\m<w.heap.size:=by
 have hb:=h.blk
 refine⟨by simp[World.cell?,hb],by simp[World.cell?,hb],by simp[World.cell?,hb],fun j=>by simp[World.frozen?,hb],h.lt⟩
end
section
variable (w:World) (m:Nat) (v:Value)
theorem Zbf (W:List Int) (most:Int) (h:MtP w m v W 0 most):
 Calls Tryz.prog 194 #[.pointer (some ⟨m,0,none⟩)] w fun e w'=>e= .returned (.bool false)/\w=w':=by
 obtain⟨c0,c1,c2,-,hm⟩:=h.cells
 clear h
 go_enter Tryz.func194,Tryz.ntmps194
 go_wp2
 go_ret
 exact⟨rfl,rfl⟩
theorem Zbg (W:List Int) (below most:Int) (h:MtP w m v W (below+1) most) (h0:0<=below) (h9:below<=1000000):
 Calls Tryz.prog 194 #[.pointer (some ⟨m,0,none⟩)] w fun e w'=>e= .returned (.bool true)/\MtP w' m v W below most/\Z01 (fun k=>k=m) w w':=by
 obtain⟨c0,c1,c2,hf,hm⟩:=h.cells
 have f1:=hf 1
 have H:=Hd h
 have hne:¬(below+1=0):=by omega
 have hw:IntKind.i64.wrap below=below:=I6n _ (by omega)
 clear h hf
 go_enter Tryz.func194,Tryz.ntmps194
 go_wp2
 go_ret
 refine⟨rfl,⟨?_,?_,H.out.ne⟩,(Z01.refl (fun k=>k=m) w).setCell (p:=⟨m,1,none⟩) (fun _=>rfl) _⟩
 ·rw[Z00 H.out.blk];rfl
 ·exact H.out.row.kept (Z02 w ⟨m,1,none⟩ _) (fun t e=>by have:=H.out.ne t e;simpa using this)
theorem Zfm (below most:Int) (h:MtP w m v [] below most):
 Calls Tryz.prog 193 #[.pointer (some ⟨m,0,none⟩)] w fun e w'=>e= .returned (.tuple #[.int .i64 (-1),.bool false])/\w=w':=by
 obtain⟨c0,c1,c2,-,hm⟩:=h.cells
 obtain⟨ao,cap,rfl⟩:=h.row.shape
 clear h
 go_enter Tryz.func193,Tryz.ntmps193
 go_wp2
 refine bodyPost_ret (v:=.tuple #[.int .i64 (-1),.bool false]) (by simp[results,Tryz.results193,go_sem]) rfl ⟨rfl,rfl⟩
theorem Zfn (W:List Int) (y below most:Int) (h:MtP w m v (W++ [y]) below most) (hn:W.length<=1000000):
 Calls Tryz.prog 193 #[.pointer (some ⟨m,0,none⟩)] w fun e w'=>e= .returned (.tuple #[.int .i64 y,.bool true])/\∃v',MtP w' m v' W below most/\v'.ownBlock=v.ownBlock/\Z01 (fun k=>k=m) w w':=by
 obtain⟨c0,c1,c2,hf,hm⟩:=h.cells
 obtain⟨g,cap,cur,rfl,hg,hcs,hle,hc,-⟩:=h.row.pos (by simp)
 have hlen:(W++ [y]).length=W.length+1:=by simp
 have cy:=hc W.length (by simp)
 have hgd:(W++ [y]).getD W.length 0=y:=by simp
 rw[hgd]at cy
 have f0:=hf 0
 obtain⟨n,hn'⟩:∃n,W.length=n:=⟨_,rfl⟩
 rw[hlen,hn']at c0 hle
 rw[hn']at cy
 have H:=hi2 h hn'
 have zc:(n:Int)<=(cap:Int):=by omega
 have z0:(0:Int)<=(n:Int):=by omega
 have zn:¬(n:Int)<0:=by omega
 have zw:IntKind.i64.wrap (n:Int)=(n:Int):=I6n _ (by omega)
 have zcn:n<=cap:=by omega
 clear h hc hg hf hgd hlen hn'
 go_enter Tryz.func193,Tryz.ntmps193
 go_wp2
 refine bodyPost_ret (v:=.tuple #[.int .i64 y,.bool true]) (by simp[results,Tryz.results193,go_sem]) rfl ?_
 refine⟨rfl,.slice (some ⟨g,0,none⟩) n cap,⟨?_,?_,?_⟩,rfl,?_⟩
 ·rw[Z00 H.out.1.blk];rfl
 ·have h1:=H.out.1.row.take (A:=n) (by rw[Lla,H.out.2];omega)
  rw[List.take_append_of_le_length (by rw[H.out.2];exact Nat.le_refl _),show W.take n=W from by rw[<-H.out.2,List.take_length]]at h1
  exact h1.kept (Z02 w ⟨m,0,none⟩ _) (fun t e=>by have:=H.out.1.ne t e;simpa using this)
 ·exact H.out.1.ne
 ·exact(Z01.refl (fun k=>k=m) w).setCell (p:=⟨m,0,none⟩) (fun _=>rfl) _
theorem Zdd (W:List Int) (below most k:Int) (h:MtP w m v W below most) (hm:most<=below+(W.length:Int)) (h0:0<=below) (h9:below<=1000000) (hn:W.length<=1000000):
 Calls Tryz.prog 192 #[.pointer (some ⟨m,0,none⟩),.int .i64 k] w fun e w'=>e= .returned (.bool false)/\Below w.heap.size w w':=by
 obtain⟨c0,c1,c2,-,hs⟩:=h.cells
 obtain⟨ao,cap,rfl⟩:=h.row.shape
 have hw:IntKind.i64.wrap (below+(W.length:Int))=below+(W.length:Int):=I6n _ (by omega)
 have hd:decide (most<=below+(W.length:Int))=true:=decide_eq_true hm
 clear h
 go_enter Tryz.func192,Tryz.ntmps192
 go_wp2_with fail
 go_quiet (fail)
 go_wp2
 go_ret
 exact⟨rfl,by first|exact below_drewN (Brf _ _) _|exact(Brf _ _).drew⟩
theorem Zde (W:List Int) (below most k:Int) (h:MtP w m v W below most) (hm:below+(W.length:Int)<most) (h0:0<=below) (h9:below<=1000000) (hn:W.length<=1000000):
 Calls Tryz.prog 192 #[.pointer (some ⟨m,0,none⟩),.int .i64 k] w fun e w'=>e= .returned (.bool true)/\∃v',MtP w' m v' (W++ [k]) below most/\(v'.ownBlock=v.ownBlock\/∀t,v'.ownBlock=some t->w.heap.size<=t)/\Z01 (Z0r m v) w w':=by
 obtain⟨i0,hi,hz0,hz1,hz2⟩:=info_parts Tryz.infoIntM
 obtain⟨c0,c1,c2,hf,hs⟩:=h.cells
 obtain⟨ao,cap,rfl⟩:=h.row.shape
 have hw:IntKind.i64.wrap (below+(W.length:Int))=below+(W.length:Int):=I6n _ (by omega)
 have hd:decide (most<=below+(W.length:Int))=false:=decide_eq_false (by omega)
 have f0:=hf 0
 have H:=Hd h
 clear h hf
 go_enter Tryz.func192,Tryz.ntmps192
 go_wp2_with fail
 go_quiet (fail)
 have h1:=H.out.below (below_drewN (Brf _ _) nq)
 have HU:=Hd (fun(u:World) (hu:Below (w.drewN nq).heap.size (w.drewN nq) u)=>h1.row.below hu)
 have H1:=Hd h1
 clear h1
 go_wp2_with (at_builtin;refine Z0c _ rfl _ _ 33 rfl 0 0 3 i0 (.int .i64 0) 1 8 Tryz.underlying33 hi hz0 hz1 hz2 rfl (by decide) _ _ _ rfl (HU.out _ (by go_grown)) _ 1 _ rfl (Z3e (vs:= [k]) (Han _ _) rfl (by omega)) (fun v hv=>(by obtain⟨q,_,rfl⟩:=List.mem_map.1 hv;rfl)) ?c3 ?c4 ?c5 ?_)
 try case c3=>unfold maxLen;omega
 try case c4=>omega
 try case c5=>exact Nat.zero_le _
 intro v5 w5 own5 gr5 _ loc5
 have R5:Z1j w5 v5 (W++ [k]):=Z1j.of own5 (by simp) (by simp)
 obtain⟨ao5,cap5,rfl⟩:=R5.shape
 have hl5:(W++ [k]).length=W.length+1:=by simp
 rw[hl5]at R5
 try rw[hl5]at loc5
 try rw[hl5]
 have K5:Z01 (fun k=>(Value.slice ao W.length cap).ownBlock=some k) (w.drewN nq) w5:=(((Z01.refl _ (w.drewN nq)).alloc _)).grown gr5 (fun k e _=>e)
 have B5:=(K5.block m H1.out.lt (fun e=>H1.out.ne _ e rfl)).trans H1.out.blk
 have c05:w5.cell? ⟨m,0,none⟩=some (.slice ao W.length cap):=by simp[World.cell?,B5]
 have f05:w5.frozen? ⟨m,0,none⟩=false:=by simp[World.frozen?,B5]
 have L5:(Value.slice ao5 (W.length+1) cap5).ownBlock=(Value.slice ao W.length cap).ownBlock\/∀t,(Value.slice ao5 (W.length+1) cap5).ownBlock=some t->w.heap.size<=t:=by
  rcases loc5 with h|h
  ·exact .inl h
  ·exact .inr (fun t e=>by rw[e]at h;simp at h;omega)
 have zs:m<w.heap.size:=hs
 have H5:=hi4 R5 K5 B5 L5
 clear own5 gr5 loc5 R5 K5 B5 L5 hl5
 go_wp2
 go_ret
 refine⟨rfl,_,⟨?_,?_,?_⟩,H5.out.2.2.2,?_⟩
 ·rw[Z00 H5.out.2.2.1];rfl
 ·refine H5.out.1.kept (Z02 w5 ⟨m,0,none⟩ _) (fun t e=>?_)
  have h3:t≠m:=by
   rcases H5.out.2.2.2 with h|h
   ·exact H.out.ne t (h ▸ e)
   ·have:=h t e;omega
  simpa using h3
 ·exact fun t e=>by
   rcases H5.out.2.2.2 with h|h
   ·exact H.out.ne t (h ▸ e)
   ·have:=h t e;omega
 ·exact((Z0b (F:=Z0r m (.slice ao W.length cap)) (below_drewN (Brf _ _) nq)).trans (H5.out.2.1.mono (fun _ _ e=>.inr e))).setCell (p:=⟨m,0,none⟩) (fun _=>.inl rfl) _
end
end
section
def Rk (κ:Int->Int) (x y:Int):Prop:=κ x<κ y\/(κ x=κ y/\x<y)
theorem Rk.trans {κ:Int->Int} {x y z:Int} (h1:Rk κ x y) (h2:Rk κ y z):Rk κ x z:=by unfold Rk at *;omega
section
variable {κ:Int->Int} {x y:Int}
theorem Rk.asymm (h1:Rk κ x y):¬Rk κ y x:=by unfold Rk at *;omega
theorem Rk.right (h:x<y):κ y<κ x↔Rk κ y x:=by unfold Rk;omega
theorem Rk.left (h:x<y):¬κ y<κ x↔Rk κ x y:=by unfold Rk;omega
end
abbrev at0 (xs:List Int) (i:Nat):Int:=xs.getD i 0
structure Sw (a b:Nat) (xs ys:List Int):Prop where
 pm:ys.Perm xs
 out:∀i,i<a\/b<=i->at0 ys i=at0 xs i
 inn:∀i,a<=i->i<b->∃j,a<=j/\j<b/\at0 ys i=at0 xs j
theorem Sw.len {a b:Nat} {xs ys:List Int} (h:Sw a b xs ys):ys.length=xs.length:=h.pm.length_eq
theorem Sw.refl (a b:Nat) (xs:List Int):Sw a b xs xs:=⟨List.Perm.refl _,fun _ _=>rfl,fun i h1 h2=>⟨i,h1,h2,rfl⟩⟩
theorem Sw.trans {a b:Nat} {xs ys zs:List Int} (h1:Sw a b xs ys) (h2:Sw a b ys zs):Sw a b xs zs:=
 ⟨h2.pm.trans h1.pm,fun i h=>(h2.out i h).trans (h1.out i h),fun i ha hb=>by
   obtain⟨j,j1,j2,e⟩:=h2.inn i ha hb
   obtain⟨k,k1,k2,e2⟩:=h1.inn j j1 j2
   exact⟨k,k1,k2,e.trans e2⟩⟩
theorem Sw.mono {a b a' b':Nat} {xs ys:List Int} (h:Sw a b xs ys) (h1:a'<=a) (h2:b<=b'):Sw a' b' xs ys:=
 ⟨h.pm,fun i hi=>h.out i (by omega),fun i ha hb=>by
   by_cases hi:a<=i/\i<b
   ·obtain⟨j,j1,j2,e⟩:=h.inn i hi.1 hi.2
    exact⟨j,by omega,by omega,e⟩
   ·exact⟨i,ha,hb,h.out i (by omega)⟩⟩
theorem Zbh (xs:List Int) (i j:Nat) (x:Int) (h:i<xs.length):at0 (xs.set i x) j=if j=i then x else at0 xs j:=by
 unfold at0
 rw[Lgd,Lgd,List.getElem?_set]
 by_cases e:i=j
 ·subst e;rw[if_pos rfl,if_pos h,if_pos rfl];rfl
 ·rw[if_neg e,if_neg (fun h=>e h.symm)]
def swp (xs:List Int) (i j:Nat):List Int:=(xs.set i (at0 xs j)).set j (at0 xs i)
theorem Z59 (xs:List Int) (i j k:Nat) (hi:i<xs.length) (hj:j<xs.length):at0 (swp xs i j) k=if k=j then at0 xs i else if k=i then at0 xs j else at0 xs k:=by
 unfold swp
 rw[Zbh _ _ _ _ (by simpa using hj),Zbh _ _ _ _ hi]
theorem Zj2 (xs:List Int) (i j:Nat) (hi:i<xs.length) (hj:j<xs.length):(swp xs i j).Perm xs:=by
 have e1:at0 xs j=xs[j]:=by unfold at0;rw[Lgd,Lge hj];rfl
 have e2:at0 xs i=xs[i]:=by unfold at0;rw[Lgd,Lge hi];rfl
 unfold swp
 rw[e1,e2]
 exact List.set_set_perm hi hj
theorem Sw.swp {a b:Nat} (xs:List Int) (i j:Nat) (ha:a<=i) (hi:i<b) (ha':a<=j) (hj:j<b) (hb:b<=xs.length):Sw a b xs (swp xs i j):=
 ⟨Zj2 xs i j (by omega) (by omega),fun k hk=>by rw[Z59 _ _ _ _ (by omega) (by omega),if_neg (by omega),if_neg (by omega)],fun k h1 h2=>by
   rw[Z59 _ _ _ _ (by omega) (by omega)]
   split
   ·exact⟨i,ha,hi,rfl⟩
   ·split
    ·exact⟨j,ha',hj,rfl⟩
    ·exact⟨k,h1,h2,rfl⟩⟩
def SR (κ:Int->Int) (xs:List Int) (a b:Nat):Prop:=∀i j,a<=i->i<j->j<b->Rk κ (at0 xs i) (at0 xs j)
def Cr (xs:List Int) (a m b:Nat):Prop:=∀i j,a<=i->i<m->m<=j->j<b->at0 xs i<at0 xs j
theorem SR.out {κ:Int->Int} {xs ys:List Int} {a b c d:Nat} (h:SR κ xs a b) (hs:Sw c d xs ys) (hd:b<=c\/d<=a):SR κ ys a b:=fun i j hi hij hj=>by
 rw[hs.out i (by omega),hs.out j (by omega)]
 exact h i j hi hij hj
section
variable {κ:Int->Int} {xs:List Int}
theorem SR.one {a b:Nat} (h:b<=a+1):SR κ xs a b:=fun i j _ _ _=>by omega
theorem SR.join {a m b:Nat} (h1:SR κ xs a m) (h2:SR κ xs m b) (hx:∀i j,a<=i->i<m->m<=j->j<b->Rk κ (at0 xs i) (at0 xs j)):SR κ xs a b:=fun i j hi hij hj=>by
 by_cases e1:j<m
 ·exact h1 i j hi hij e1
 ·by_cases e2:m<=i
  ·exact h2 i j e2 hij hj
  ·exact hx i j hi (by omega) (by omega) hj
end
theorem Cr.sw {xs ys:List Int} {a m b:Nat} (h:Cr xs a m b) {c d:Nat} (hs:Sw c d xs ys) (hcd:(a<=c/\d<=m)\/(m<=c/\d<=b)\/b<=c\/d<=a):Cr ys a m b:=fun i j h1 h2 h3 h4=>by
 have e1:∃i',a<=i'/\i'<m/\at0 ys i=at0 xs i':=by
  by_cases hi:c<=i/\i<d
  ·obtain⟨k,k1,k2,e⟩:=hs.inn i hi.1 hi.2
   exact⟨k,by omega,by omega,e⟩
  ·exact⟨i,h1,h2,hs.out i (by omega)⟩
 have e2:∃j',m<=j'/\j'<b/\at0 ys j=at0 xs j':=by
  by_cases hi:c<=j/\j<d
  ·obtain⟨k,k1,k2,e⟩:=hs.inn j hi.1 hi.2
   exact⟨k,by omega,by omega,e⟩
  ·exact⟨j,h3,h4,hs.out j (by omega)⟩
 obtain⟨i',i1,i2,ei⟩:=e1
 obtain⟨j',j1,j2,ej⟩:=e2
 rw[ei,ej]
 exact h i' j' i1 i2 j1 j2
structure Ins (κ:Int->Int) (a i j:Nat) (xs zs:List Int):Prop where
 sw:Sw a (i+1) xs zs
 at_:at0 zs j=at0 xs i
 up:∀q,j<q->q<=i->Rk κ (at0 xs i) (at0 zs q)
 srt:∀p q,a<=p->p<q->q<=i->p≠j->q≠j->Rk κ (at0 zs p) (at0 zs q)
 lo:∀p,a<=p->p<=i->p≠j->at0 zs p<at0 xs i
theorem Ins.start {κ:Int->Int} {a i:Nat} {xs:List Int} (h:SR κ xs a i) (hl:∀p,a<=p->p<i->at0 xs p<at0 xs i):Ins κ a i i xs xs:=
 ⟨Sw.refl _ _ _,rfl,fun q _ _=>by omega,fun p q h1 h2 h3 _ h5=>h p q h1 h2 (by omega),fun p h1 h2 h3=>hl p h1 (by omega)⟩
section
variable {κ:Int->Int} {a i j:Nat} {xs zs:List Int}
theorem Ins.step (h:Ins κ a i (j+1) xs zs) (ha:a<=j) (hj:j+1<=i) (hi:i<xs.length) (hc:κ (at0 zs (j+1))<κ (at0 zs j)):Ins κ a i j xs (swp zs (j+1) j):=by
 have hl:=h.sw.len
 have hS:∀k,at0 (swp zs (j+1) j) k=if k=j then at0 zs (j+1)else if k=j+1 then at0 zs j else at0 zs k:=fun k=>Z59 _ _ _ _ (by omega) (by omega)
 have hlo:=h.lo j ha (by omega) (by omega)
 have hr:Rk κ (at0 xs i) (at0 zs j):=(Rk.right hlo).1 (by rw[<-h.at_];exact hc)
 refine⟨h.sw.trans (Sw.swp zs (j+1) j (by omega) (by omega) ha (by omega) (by omega)),by rw[hS,if_pos rfl];exact h.at_,fun q h1 h2=>?_,fun p q h1 h2 h3 h4 h5=>?_,fun p h1 h2 h3=>?_⟩
 ·rw[hS,if_neg (by omega)]
  split
  ·exact hr
  ·exact h.up q (by omega) h2
 ·rw[hS p,hS q,if_neg h4,if_neg h5]
  by_cases e1:p=j+1
  ·rw[if_pos e1,if_neg (by omega)]
   exact h.srt j q ha (by omega) h3 (by omega) (by omega)
  ·rw[if_neg e1]
   by_cases e2:q=j+1
   ·rw[if_pos e2]
    exact h.srt p j h1 (by omega) (by omega) (by omega) (by omega)
   ·rw[if_neg e2]
    exact h.srt p q h1 h2 h3 (by omega) (by omega)
 ·rw[hS,if_neg h3]
  split
  ·exact hlo
  ·exact h.lo p h1 h2 (by omega)
theorem Ins.stop (h:Ins κ a i j xs zs) (ha:a<=j) (hj:j<=i) (hc:a<j->¬κ (at0 zs j)<κ (at0 zs (j-1))):SR κ zs a (i+1):=fun p q h1 h2 h3=>by
 by_cases e1:p=j
 ·subst e1
  rw[h.at_]
  exact h.up q h2 (by omega)
 ·by_cases e2:q=j
  ·subst e2
   have hlo:=h.lo (q-1) (by omega) (by omega) (by omega)
   have hr:Rk κ (at0 zs (q-1)) (at0 xs i):=(Rk.left hlo).1 (by rw[<-h.at_];exact hc (by omega))
   rw[h.at_]
   by_cases e3:p=q-1
   ·rw[e3];exact hr
   ·exact(h.srt p (q-1) h1 (by omega) (by omega) (by omega) (by omega)).trans hr
  ·exact h.srt p q h1 h2 (by omega) e1 e2
end
theorem Zfo {κ:Int->Int} {xs:List Int} {a b i:Nat} (hs:SR κ xs (a+1) b) (hc:Cr xs a (a+1) b) (h1:a+1<=i) (h2:i<=b)
 (hl:i=a+1\/κ (at0 xs (i-1))<κ (at0 xs a)) (hr:i=b\/¬κ (at0 xs i)<κ (at0 xs a)):
 (∀k,a+1<=k->k<i->Rk κ (at0 xs k) (at0 xs a))/\(∀k,i<=k->k<b->Rk κ (at0 xs a) (at0 xs k)):=by
 refine⟨fun k k1 k2=>?_,fun k k1 k2=>?_⟩
 ·have h3:=(Rk.right (κ:=κ) (hc a (i-1) (by omega) (by omega) (by omega) (by omega))).1 (by rcases hl with h|h;omega;exact h)
  by_cases e:k=i-1
  ·rw[e];exact h3
  ·exact(hs k (i-1) k1 (by omega) (by omega)).trans h3
 ·have h3:=(Rk.left (κ:=κ) (hc a i (by omega) (by omega) (by omega) (by omega))).1 (by rcases hr with h|h;omega;exact h)
  by_cases e:k=i
  ·rw[e];exact h3
  ·exact h3.trans (hs i k (by omega) (by omega) k2)
structure Up (a k:Nat) (b:Nat) (xs zs:List Int):Prop where
 sw:Sw a b xs zs
 low:∀p,a<=p->p<k->at0 zs p=at0 xs (p+1)
 at_:at0 zs k=at0 xs a
 hi:∀p,k<p->at0 zs p=at0 xs p
theorem Up.start (a b:Nat) (xs:List Int):Up a a b xs xs:=⟨Sw.refl _ _ _,fun p _ _=>by omega,rfl,fun _ _=>rfl⟩
theorem Up.step {a k b:Nat} {xs zs:List Int} (h:Up a k b xs zs) (ha:a<=k) (hk:k+1<b) (hb:b<=xs.length):Up a (k+1) b xs (swp zs k (k+1)):=by
 have hl:=h.sw.len
 have hS:∀q,at0 (swp zs k (k+1)) q=if q=k+1 then at0 zs k else if q=k then at0 zs (k+1)else at0 zs q:=fun q=>Z59 _ _ _ _ (by omega) (by omega)
 refine⟨h.sw.trans (Sw.swp zs k (k+1) ha (by omega) (by omega) (by omega) (by omega)),fun p p1 p2=>?_,by rw[hS,if_pos rfl];exact h.at_,fun p hp=>?_⟩
 ·rw[hS,if_neg (by omega)]
  split
  ·subst_vars;exact h.hi _ (by omega)
  ·exact h.low p p1 (by omega)
 ·rw[hS,if_neg (by omega),if_neg (by omega)]
  exact h.hi p (by omega)
theorem Up.done {κ:Int->Int} {a b i:Nat} {xs zs:List Int} (h:Up a (i-1) b xs zs) (hs:SR κ xs (a+1) b) (h1:a+1<=i) (h2:i<=b) (hl:∀k,a+1<=k->k<i->Rk κ (at0 xs k) (at0 xs a)) (hr:∀k,i<=k->k<b->Rk κ (at0 xs a) (at0 xs k)):SR κ zs a b:=fun p q p1 pq q1=>by
 have hv:∀p,a<=p->at0 zs p=if p<i-1 then at0 xs (p+1)else if p=i-1 then at0 xs a else at0 xs p:=fun p hp=>by
  split
  ·exact h.low p hp (by assumption)
  ·split
   ·subst_vars;exact h.at_
   ·exact h.hi p (by omega)
 rw[hv p p1,hv q (by omega)]
 by_cases e1:p<i-1
 ·rw[if_pos e1]
  by_cases e2:q<i-1
  ·rw[if_pos e2];exact hs _ _ (by omega) (by omega) (by omega)
  ·rw[if_neg e2]
   by_cases e3:q=i-1
   ·rw[if_pos e3];exact hl _ (by omega) (by omega)
   ·rw[if_neg e3];exact(hl _ (by omega) (by omega)).trans (hr q (by omega) q1)
 ·rw[if_neg e1,if_neg (show ¬q<i-1 by omega),if_neg (show ¬q=i-1 by omega)]
  by_cases e3:p=i-1
  ·rw[if_pos e3];exact hr q (by omega) q1
  ·rw[if_neg e3];exact hs p q (by omega) pq q1
theorem Zdf {κ:Int->Int} {xs:List Int} {a m i:Nat} (hs:SR κ xs a m) (hc:Cr xs a m (m+1)) (h1:a<=i) (h2:i<=m)
 (hl:i=a\/¬κ (at0 xs m)<κ (at0 xs (i-1))) (hr:i=m\/κ (at0 xs m)<κ (at0 xs i)):
 (∀k,a<=k->k<i->Rk κ (at0 xs k) (at0 xs m))/\(∀k,i<=k->k<m->Rk κ (at0 xs m) (at0 xs k)):=by
 refine⟨fun k k1 k2=>?_,fun k k1 k2=>?_⟩
 ·have h3:=(Rk.left (κ:=κ) (hc (i-1) m (by omega) (by omega) (by omega) (by omega))).1 (by rcases hl with h|h;omega;exact h)
  by_cases e:k=i-1
  ·rw[e];exact h3
  ·exact(hs k (i-1) k1 (by omega) (by omega)).trans h3
 ·have h3:=(Rk.right (κ:=κ) (hc i m (by omega) (by omega) (by omega) (by omega))).1 (by rcases hr with h|h;omega;exact h)
  by_cases e:k=i
  ·rw[e];exact h3
  ·exact h3.trans (hs i k (by omega) (by omega) k2)
structure Dn (a k m:Nat) (xs zs:List Int):Prop where
 sw:Sw a (m+1) xs zs
 hi:∀p,k<p->p<=m->at0 zs p=at0 xs (p-1)
 at_:at0 zs k=at0 xs m
 low:∀p,p<k->at0 zs p=at0 xs p
theorem Dn.start (a m:Nat) (xs:List Int):Dn a m m xs xs:=⟨Sw.refl _ _ _,fun p _ _=>by omega,rfl,fun _ _=>rfl⟩
theorem Dn.step {a k m:Nat} {xs zs:List Int} (h:Dn a (k+1) m xs zs) (ha:a<=k) (hk:k+1<=m) (hb:m<xs.length):Dn a k m xs (swp zs (k+1) k):=by
 have hl:=h.sw.len
 have hS:∀q,at0 (swp zs (k+1) k) q=if q=k then at0 zs (k+1)else if q=k+1 then at0 zs k else at0 zs q:=fun q=>Z59 _ _ _ _ (by omega) (by omega)
 refine⟨h.sw.trans (Sw.swp zs (k+1) k (by omega) (by omega) ha (by omega) (by omega)),fun p p1 p2=>?_,by rw[hS,if_pos rfl];exact h.at_,fun p hp=>?_⟩
 ·rw[hS,if_neg (by omega)]
  split
  ·subst_vars;exact h.low _ (by omega)
  ·exact h.hi p (by omega) p2
 ·rw[hS,if_neg (by omega),if_neg (by omega)]
  exact h.low p (by omega)
theorem Dn.done {κ:Int->Int} {a m i:Nat} {xs zs:List Int} (h:Dn a i m xs zs) (hs:SR κ xs a m) (h1:a<=i) (h2:i<=m) (hl:∀k,a<=k->k<i->Rk κ (at0 xs k) (at0 xs m)) (hr:∀k,i<=k->k<m->Rk κ (at0 xs m) (at0 xs k)):SR κ zs a (m+1):=fun p q p1 pq q1=>by
 have hv:∀p,a<=p->p<=m->at0 zs p=if p<i then at0 xs p else if p=i then at0 xs m else at0 xs (p-1):=fun p hp hm=>by
  split
  ·exact h.low p (by assumption)
  ·split
   ·subst_vars;exact h.at_
   ·exact h.hi p (by omega) hm
 rw[hv p p1 (by omega),hv q (by omega) (by omega)]
 by_cases e1:p<i
 ·rw[if_pos e1]
  by_cases e2:q<i
  ·rw[if_pos e2];exact hs _ _ (by omega) (by omega) (by omega)
  ·rw[if_neg e2]
   by_cases e3:q=i
   ·rw[if_pos e3];exact hl _ (by omega) (by omega)
   ·rw[if_neg e3]
    by_cases e4:q-1=p
    ·exact absurd e4 (by omega)
    ·exact hs _ _ (by omega) (by omega) (by omega)
 ·rw[if_neg e1,if_neg (show ¬q<i by omega),if_neg (show ¬q=i by omega)]
  by_cases e3:p=i
  ·rw[if_pos e3];exact hr _ (by omega) (by omega)
  ·rw[if_neg e3];exact hs _ _ (by omega) (by omega) (by omega)
structure Rng (a b n i:Nat) (xs zs:List Int):Prop where
 sw:Sw a (b+n) xs zs
 at_:∀k,at0 zs k=if a<=k/\k<a+i then at0 xs (k-a+b)else if b<=k/\k<b+i then at0 xs (k-b+a)else at0 xs k
theorem Rng.start (a b n:Nat) (xs:List Int):Rng a b n 0 xs xs:=⟨Sw.refl _ _ _,fun k=>by rw[if_neg (by omega),if_neg (by omega)]⟩
theorem Rng.step {a b n i:Nat} {xs zs:List Int} (h:Rng a b n i xs zs) (hi:i<n) (hab:a+n<=b) (hb:b+n<=xs.length):Rng a b n (i+1) xs (swp zs (a+i) (b+i)):=by
 have hl:=h.sw.len
 have hS:∀q,at0 (swp zs (a+i) (b+i)) q=if q=b+i then at0 zs (a+i)else if q=a+i then at0 zs (b+i)else at0 zs q:=fun q=>Z59 _ _ _ _ (by omega) (by omega)
 have ea:at0 zs (a+i)=at0 xs (a+i):=by rw[h.at_,if_neg (by omega),if_neg (by omega)]
 have eb:at0 zs (b+i)=at0 xs (b+i):=by rw[h.at_,if_neg (by omega),if_neg (by omega)]
 refine⟨h.sw.trans (Sw.swp zs _ _ (by omega) (by omega) (by omega) (by omega) (by omega)),fun k=>?_⟩
 rw[hS,ea,eb,h.at_ k]
 by_cases e1:k=b+i
 ·subst e1
  rw[if_pos rfl,if_neg (by omega),if_pos (by omega),show b+i-b+a=a+i by omega]
 ·rw[if_neg e1]
  by_cases e2:k=a+i
  ·subst e2
   rw[if_pos rfl,if_pos (by omega),show a+i-a+b=b+i by omega]
  ·rw[if_neg e2]
   by_cases e3:a<=k/\k<a+i
   ·rw[if_pos e3,if_pos (show a<=k/\k<a+(i+1) by omega)]
   ·rw[if_neg e3,if_neg (show ¬(a<=k/\k<a+(i+1)) by omega)]
    by_cases e4:b<=k/\k<b+i
    ·rw[if_pos e4,if_pos (show b<=k/\k<b+(i+1) by omega)]
    ·rw[if_neg e4,if_neg (show ¬(b<=k/\k<b+(i+1)) by omega)]
def Rot (s m e:Nat) (xs ys:List Int):Prop:=∀k,s<=k->k<e->at0 ys k=if k<s+(e-m)then at0 xs (k+(m-s))else at0 xs (k-(e-m))
structure Tn (s m e i j:Nat) (xs zs:List Int):Prop where
 sw:Sw s e xs zs
 lo:∀k,s<=k->k<m-i->at0 zs k=if k<s+(e-m)then at0 xs (k+(m-s))else at0 xs (k-(e-m))
 hi:∀k,m+j<=k->k<e->at0 zs k=if k<s+(e-m)then at0 xs (k+(m-s))else at0 xs (k-(e-m))
 mid:∀k,m-i<=k->k<m+j->(if k<m-i+j then at0 zs (k+i)else at0 zs (k-j))=if k<s+(e-m)then at0 xs (k+(m-s))else at0 xs (k-(e-m))
theorem Tn.start (s m e:Nat) (xs:List Int) (h1:s<=m) (h2:m<=e):Tn s m e (m-s) (e-m) xs xs:=
 ⟨Sw.refl _ _ _,fun k _ _=>by omega,fun k _ _=>by omega,fun k k1 k2=>by rw[show m-(m-s)=s by omega]⟩
section
variable {s m e i j:Nat} {xs zs ys:List Int}
theorem Tn.left (h:Tn s m e i j xs zs) (hij:j<i) (hj:0<j) (hi:i<=m-s) (hje:j<=e-m) (hsm:s<=m) (hme:m<=e) (hr:Rng (m-i) m j j zs ys):Tn s m e (i-j) j xs ys:=by
 refine⟨h.sw.trans (hr.sw.mono (by omega) (by omega)),fun k k1 k2=>?_,fun k k1 k2=>?_,fun k k1 k2=>?_⟩
 ·by_cases e:k<m-i
  ·rw[hr.at_,if_neg (by omega),if_neg (by omega)];exact h.lo k k1 e
  ·have:=h.mid k (by omega) (by omega)
   rw[if_pos (by omega)]at this
   rw[hr.at_,if_pos (by omega),show k-(m-i)+m=k+i by omega];exact this
 ·rw[hr.at_,if_neg (by omega),if_neg (by omega)];exact h.hi k k1 k2
 ·have:=h.mid k (by omega) k2
  rw[if_neg (by omega)]at this
  rw[<-this]
  by_cases e:k<m-(i-j)+j
  ·rw[if_pos e,hr.at_,if_neg (by omega),if_pos (by omega),show k+(i-j)-m+(m-i)=k-j by omega]
  ·rw[if_neg e,hr.at_,if_neg (by omega),if_neg (by omega)]
theorem Tn.right (h:Tn s m e i j xs zs) (hij:i<j) (hi0:0<i) (hi:i<=m-s) (hje:j<=e-m) (hsm:s<=m) (hme:m<=e) (hr:Rng (m-i) (m+j-i) i i zs ys):Tn s m e i (j-i) xs ys:=by
 refine⟨h.sw.trans (hr.sw.mono (by omega) (by omega)),fun k k1 k2=>?_,fun k k1 k2=>?_,fun k k1 k2=>?_⟩
 ·rw[hr.at_,if_neg (by omega),if_neg (by omega)];exact h.lo k k1 k2
 ·by_cases e:m+j<=k
  ·rw[hr.at_,if_neg (by omega),if_neg (by omega)];exact h.hi k e k2
  ·have:=h.mid k (by omega) (by omega)
   rw[if_neg (by omega)]at this
   rw[hr.at_,if_neg (by omega),if_pos (by omega),show k-(m+j-i)+(m-i)=k-j by omega];exact this
 ·have:=h.mid k k1 (by omega)
  rw[if_pos (by omega)]at this
  rw[<-this]
  by_cases e:k<m-i+(j-i)
  ·rw[if_pos e,hr.at_,if_neg (by omega),if_neg (by omega)]
  ·rw[if_neg e,hr.at_,if_pos (by omega),show k-(j-i)-(m-i)+(m+j-i)=k+i by omega]
end
theorem Tn.done {s m e i:Nat} {xs zs ys:List Int} (h:Tn s m e i i xs zs) (hi:i<=m-s) (hje:i<=e-m) (hsm:s<=m) (hme:m<=e) (hr:Rng (m-i) m i i zs ys):Sw s e xs ys/\Rot s m e xs ys:=by
 refine⟨h.sw.trans (hr.sw.mono (by omega) (by omega)),fun k k1 k2=>?_⟩
 rw[hr.at_]
 by_cases e1:k<m-i
 ·rw[if_neg (by omega),if_neg (by omega)];exact h.lo k k1 e1
 ·by_cases e2:m+i<=k
  ·rw[if_neg (by omega),if_neg (by omega)];exact h.hi k e2 k2
  ·have:=h.mid k (by omega) (by omega)
   rw[<-this]
   by_cases e3:k<m
   ·rw[if_pos (by omega),if_pos (by omega),show k-(m-i)+m=k+i by omega]
   ·rw[if_neg (by omega),if_pos (by omega),if_neg (by omega),show k-m+(m-i)=k-i by omega]
structure Cut (κ:Int->Int) (xs:List Int) (a m b s:Nat):Prop where
 l1:a<=s
 l2:s<=m
 l3:m<=(a+b)/2+m-s
 l4:(a+b)/2+m-s<=b
 c1:∀i j,a<=i->i<s->(a+b)/2+m-s<=j->j<b->Rk κ (at0 xs i) (at0 xs j)
 c2:∀i j,m<=i->i<(a+b)/2+m-s->s<=j->j<m->Rk κ (at0 xs i) (at0 xs j)
theorem Zov {κ:Int->Int} {xs:List Int} {a m b s s0 r0:Nat} (ham:a<m) (hmb:m<b) (hL:SR κ xs a m) (hM:SR κ xs m b) (hC:Cr xs a m b)
 (h0:s0=if (a+b)/2<m then(a+b)/2+m-b else a) (hr0:r0=if (a+b)/2<m then(a+b)/2 else m) (hs:s0<=s) (hr:s<=r0)
 (hlo:s=s0\/¬κ (at0 xs ((a+b)/2+m-1-(s-1)))<κ (at0 xs (s-1))) (hhi:s=r0\/κ (at0 xs ((a+b)/2+m-1-s))<κ (at0 xs s)):Cut κ xs a m b s:=by
 obtain⟨d,hd⟩:∃d,(a+b)/2=d:=⟨_,rfl⟩
 have hd1:2*d<=a+b:=by omega
 have hd2:a+b<=2*d+1:=by omega
 rw[hd]at h0 hr0 hlo hhi
 have g1:a<=s:=by split at h0<;>omega
 have g2:s<=m:=by split at hr0<;>omega
 have g3:m<=d+m-s:=by split at hr0<;>omega
 have g4:d+m-s<=b:=by split at h0<;>omega
 refine⟨g1,g2,by rw[hd];exact g3,by rw[hd];exact g4,fun i j i1 i2 j1 j2=>?_,fun i j i1 i2 j1 j2=>?_⟩
 ·rw[hd]at j1
  have hne:¬s=s0:=by split at h0<;>omega
  have h3:=hlo.resolve_left hne
  have hle:d+m-1-(s-1)=d+m-s:=by omega
  rw[hle]at h3
  have h4:=(Rk.left (κ:=κ) (hC (s-1) (d+m-s) (by split at h0<;>omega) (by omega) g3 (by omega))).1 h3
  have h5:Rk κ (at0 xs i) (at0 xs (d+m-s)):=by
   by_cases e:i=s-1
   ·rw[e];exact h4
   ·exact(hL i (s-1) i1 (by omega) (by omega)).trans h4
  by_cases e:j=d+m-s
  ·rw[e];exact h5
  ·exact h5.trans (hM _ j (by omega) (by omega) j2)
 ·rw[hd]at i2
  have hne:¬s=r0:=by split at hr0<;>omega
  have h3:=hhi.resolve_left hne
  have h4:=(Rk.right (κ:=κ) (hC s (d+m-1-s) (by omega) (by omega) (by omega) (by omega))).1 h3
  have h5:Rk κ (at0 xs i) (at0 xs s):=by
   by_cases e:i=d+m-1-s
   ·rw[e];exact h4
   ·exact(hM i _ i1 (by omega) (by omega)).trans h4
  by_cases e:j=s
  ·rw[e];exact h5
  ·exact h5.trans (hL _ j (by omega) (by omega) j2)
theorem Cut.halves {κ:Int->Int} {xs ys:List Int} {a m b s:Nat} (h:Cut κ xs a m b s) (hL:SR κ xs a m) (hM:SR κ xs m b) (hC:Cr xs a m b) (hsw:Sw s ((a+b)/2+m-s) xs ys) (hrt:Rot s m ((a+b)/2+m-s) xs ys):
 SR κ ys a s/\SR κ ys s ((a+b)/2)/\Cr ys a s ((a+b)/2)/\SR κ ys ((a+b)/2) ((a+b)/2+m-s)/\SR κ ys ((a+b)/2+m-s) b/\Cr ys ((a+b)/2) ((a+b)/2+m-s) b/\
 ∀i j,a<=i->i<(a+b)/2->(a+b)/2<=j->j<b->Rk κ (at0 ys i) (at0 ys j):=by
 have g1:=h.l1
 have g2:=h.l2
 have g3:=h.l3
 have g4:=h.l4
 have c1:=h.c1
 have c2:=h.c2
 obtain⟨d,hd⟩:∃d,(a+b)/2=d:=⟨_,rfl⟩
 rw[hd]at g3 g4 c1 c2 hsw hrt |-
 have v1:∀k,k<s->at0 ys k=at0 xs k:=fun k hk=>hsw.out k (.inl hk)
 have v2:∀k,s<=k->k<d->at0 ys k=at0 xs (k+(m-s)):=fun k k1 k2=>by rw[hrt k k1 (by omega),if_pos (by omega)]
 have v3:∀k,d<=k->k<d+m-s->at0 ys k=at0 xs (k-(d-s)):=fun k k1 k2=>by rw[hrt k (by omega) k2,if_neg (by omega),show d+m-s-m=d-s by omega]
 have v4:∀k,d+m-s<=k->at0 ys k=at0 xs k:=fun k hk=>hsw.out k (.inr hk)
 have hb:s<=d:=by omega
 refine⟨fun i j i1 ij j1=>?_,fun i j i1 ij j1=>?_,fun i j i1 i2 j1 j2=>?_,fun i j i1 ij j1=>?_,fun i j i1 ij j1=>?_,fun i j i1 i2 j1 j2=>?_,fun i j i1 i2 j1 j2=>?_⟩
 ·rw[v1 i (by omega),v1 j j1];exact hL i j i1 ij (by omega)
 ·rw[v2 i i1 (by omega),v2 j (by omega) j1];exact hM _ _ (by omega) (by omega) (by omega)
 ·rw[v1 i i2,v2 j j1 j2];exact hC _ _ i1 (by omega) (by omega) (by omega)
 ·rw[v3 i i1 (by omega),v3 j (by omega) j1];exact hL _ _ (by omega) (by omega) (by omega)
 ·rw[v4 i i1,v4 j (by omega)];exact hM _ _ (by omega) ij j1
 ·rw[v3 i i1 i2,v4 j j1];exact hC _ _ (by omega) (by omega) (by omega) j2
 ·by_cases e1:i<s
  ·rw[v1 i e1]
   by_cases e2:j<d+m-s
   ·rw[v3 j j1 e2];exact hL _ _ i1 (by omega) (by omega)
   ·rw[v4 j (by omega)];exact c1 i j i1 e1 (by omega) j2
  ·rw[v2 i (by omega) i2]
   by_cases e2:j<d+m-s
   ·rw[v3 j j1 e2];exact c2 _ _ (by omega) (by omega) (by omega) (by omega)
   ·rw[v4 j (by omega)];exact hM _ _ (by omega) (by omega) j2
theorem Z6f {κ:Int->Int} {ys zs ws:List Int} {a d b:Nat} (h1:Sw a d ys zs) (h2:Sw d b zs ws) (hs1:SR κ zs a d) (hs2:SR κ ws d b)
 (hx:∀i j,a<=i->i<d->d<=j->j<b->Rk κ (at0 ys i) (at0 ys j)):SR κ ws a b:=by
 refine SR.join (hs1.out h2 (.inl (Nat.le_refl _))) hs2 (fun i j i1 i2 j1 j2=>?_)
 rw[h2.out i (.inl i2)]
 obtain⟨i',p1,p2,e1⟩:=h1.inn i i1 i2
 obtain⟨j',q1,q2,e2⟩:=h2.inn j j1 j2
 rw[e1,e2,h1.out j' (.inr q1)]
 exact hx i' j' p1 p2 q1 q2
theorem Z7n {κ:Int->Int}:∀{xs ys:List Int},xs.Pairwise (Rk κ)->ys.Pairwise (Rk κ)->xs.Perm ys->xs=ys
 | [],ys,_,_,hp=>(List.Perm.nil_eq hp)
 |x::xs,[],_,_,hp=>by have:=hp.length_eq;simp at this
 |x::xs,y::ys,hx,hy,hp=>by
  have hxy:x=y:=by
   have h1:x ∈ y::ys:=hp.subset (List.mem_cons_self ..)
   have h2:y ∈ x::xs:=hp.symm.subset (List.mem_cons_self ..)
   rcases List.mem_cons.1 h1 with e|h1
   ·exact e
   ·rcases List.mem_cons.1 h2 with e|h2
    ·exact e.symm
    ·exact absurd ((List.pairwise_cons.1 hx).1 y h2) ((List.pairwise_cons.1 hy).1 x h1).asymm
  subst hxy
  rw[Z7n (List.pairwise_cons.1 hx).2 (List.pairwise_cons.1 hy).2 ((List.perm_cons x).1 hp)]
theorem SR.pairwise {κ:Int->Int} {xs:List Int} (h:SR κ xs 0 xs.length):xs.Pairwise (Rk κ):=by
 refine List.pairwise_iff_getElem.2 (fun i j hi hj hij=>?_)
 have:=h i j (Nat.zero_le _) hij hj
 unfold at0 at this
 rw[Lgd,Lgd,Lge hi,Lge hj]at this
 exact this
end
section
open Go.RowKit Go.ChangeShapes Go.WideShapes Go.ChangeAt Go.Deep
theorem Z1j.set_ {w:World} {v:Value} {xs:List Int} {k:Nat} (h:Z1j w v xs) (hk:v.ownBlock=some k) (j:Nat) (hj:j<xs.length) (x:Int):Z1j (w.setCell ⟨k,j,none⟩ (.int .i64 x)) v (xs.set j x):=by
 rcases h.2 with⟨rfl,_⟩|⟨g,cap,cur,rfl,hb,hg,hn,hm,hc,ht⟩
 ·cases hk
 ·simp only[Value.ownBlock,Option.some.injEq]at hk
  subst hk
  refine⟨by simp,.inr ⟨g,cap,_,by simp,hb,Z00 hg j _,by simpa using hn,hm,by simpa using hc,?_⟩⟩
  have hs:j<cur.size:=by omega
  simp only[Lls,Nat.mul_one,Array.toList_setIfInBounds,List.map_set]at ht |-
  rw[List.take_set,ht]
structure SoP (w:World) (g N cap:Nat) (xs:List Int):Prop where
 row:Z1j w (.slice (some ⟨g,0,none⟩) N cap) xs
 len:xs.length=N
section
variable {w w':World} {g N cap:Nat} {xs:List Int}
theorem SoP.at_ (h:SoP w g N cap xs) {j:Nat} (hj:j<N):w.cell? ⟨g,j,none⟩=some (.int .i64 (at0 xs j)):=by
 obtain⟨g',cap',cur,e,hg,-,-,hc,-⟩:=h.row.pos (by have:=h.len;omega)
 cases e
 exact hc j (by have:=h.len;omega)
theorem SoP.fz (h:SoP w g N cap xs) (hN:0<N):∀j,w.frozen? ⟨g,j,none⟩=false:=by
 obtain⟨g',cap',cur,e,hg,-,-,hc,hf⟩:=h.row.pos (by have:=h.len;omega)
 cases e
 exact hf
theorem SoP.lt (h:SoP w g N cap xs):g<w.heap.size:=h.row.lt rfl
theorem SoP.below (h:SoP w g N cap xs) (hb:Below w.heap.size w w'):SoP w' g N cap xs:=⟨h.row.below hb,h.len⟩
theorem SoP.drew (h:SoP w g N cap xs):SoP w.drew g N cap xs:=h.below (Brf _ _).drew
theorem SoP.set (h:SoP w g N cap xs) {j:Nat} (hj:j<N) (x:Int):SoP (w.setCell ⟨g,j,none⟩ (.int .i64 x)) g N cap (xs.set j x):=⟨h.row.set_ rfl j (by have:=h.len;omega) x,by rw[Lls];exact h.len⟩
theorem SoP.swp (h:SoP w g N cap xs) {i j:Nat} (hi:i<N) (hj:j<N):SoP ((w.setCell ⟨g,i,none⟩ (.int .i64 (at0 xs j))).setCell ⟨g,j,none⟩ (.int .i64 (at0 xs i))) g N cap (swp xs i j):=(h.set hi _).set hj _
theorem Z5x (w:World) (g i j:Nat) (x y:Value):Z01 (fun k=>k=g) w ((w.setCell ⟨g,i,none⟩ x).setCell ⟨g,j,none⟩ y):=((Z01.refl (fun k=>k=g) w).setCell (p:=⟨g,i,none⟩) (fun _=>rfl) _).setCell (p:=⟨g,j,none⟩) (fun _=>rfl) _
end
theorem Z8b (w:World) (g N cap a b n:Nat) (cm:Value) (xs:List Int) (h:SoP w g N cap xs) (hab:a+n<=b) (hb:b+n<=N) (h9:N<=1000000):
 Calls Tryz.prog 157 #[.slice (some ⟨g,0,none⟩) N cap,.int .i64 (a:Int),.int .i64 (b:Int),.int .i64 (n:Int),cm] w fun e w'=>e= .returned (.tuple #[])/\∃ys,SoP w' g N cap ys/\Rng a b n n xs ys/\Z01 (fun k=>k=g) w w':=by
 have H:=Hd h
 clear h
 go_enter Tryz.func157,Tryz.ntmps157
 go_wp2_with fail
 go_loopw [10] (fun k wr=>∃(i:Nat) (zs:List Int),i<=n/\k= .int .i64 i/\SoP wr g N cap zs/\Rng a b n i xs zs/\Z01 (fun k=>k=g) w wr) (fun k _=>n-(intOf k).toNat)
 case atStart=>exact⟨0,xs,Nat.zero_le _,rfl,H.out,Rng.start _ _ _ _,Z01.refl _ _⟩
 case round=>
  obtain⟨i,zs,hin,rfl,hS,hR,hK⟩:=hrel
  have yi:(0:Int)<=(i:Int):=by omega
  by_cases hlt:i<n
  ·have hlt':(i:Int)<(n:Int):=by omega
   have ca:=hS.at_ (j:=a+i) (by omega)
   have cb:=hS.at_ (j:=b+i) (by omega)
   have fz:=hS.fz (by omega)
   have fa:=fz (a+i)
   have fb:=fz (b+i)
   have wa:IntKind.i64.wrap ((a:Int)+(i:Int))=((a+i:Nat):Int):=by rw[show(a:Int)+(i:Int)=((a+i:Nat):Int) by omega];exact I6n _ (by omega)
   have wb:IntKind.i64.wrap ((b:Int)+(i:Int))=((b+i:Nat):Int):=by rw[show(b:Int)+(i:Int)=((b+i:Nat):Int) by omega];exact I6n _ (by omega)
   have za:((a+i:Nat):Int)<(N:Int):=by omega
   have zb:((b+i:Nat):Int)<(N:Int):=by omega
   have za0:(0:Int)<=((a+i:Nat):Int):=by omega
   have zb0:(0:Int)<=((b+i:Nat):Int):=by omega
   obtain⟨p,hp⟩:∃p,a+i=p:=⟨_,rfl⟩
   obtain⟨q,hq⟩:∃q,b+i=q:=⟨_,rfl⟩
   rw[hp]at ca fa wa za za0
   rw[hq]at cb fb wb zb zb0
   have hpq:¬p=q:=by omega
   have hqp:¬q=p:=by omega
   have zg:=hS.lt
   obtain⟨x,hx⟩:∃x,at0 zs p=x:=⟨_,rfl⟩
   obtain⟨y,hy⟩:∃y,at0 zs q=y:=⟨_,rfl⟩
   rw[hx]at ca
   rw[hy]at cb
   have HR:=hi7 hS hR hK hp hq hx hy
   clear hS hR hK fz hp hq hx hy
   go_wp2_with fail
   go_region
   all_goals
    go_wp2
    go_roundw
    case rel=>
     obtain⟨hS,hR,hK,hp,hq,hx,hy⟩:=HR.out
     have h5:=hS.drew.swp (i:=p) (j:=q) (by omega) (by omega)
     rw[hx,hy]at h5
     have h6:=hR.step hlt hab (by have:=H.out.len;omega)
     rw[hp,hq]at h6
     exact⟨i+1,swp zs p q,by omega,by go_num,h5,h6,hK.drew.trans (Z5x _ _ _ _ _ _)⟩
    case measure=>simp[intOf];omega
  ·obtain rfl:i=n:=by omega
   go_wp2
   go_end0
   exact⟨rfl,zs,hS,hR,hK⟩
end
section
open Go.RowKit
structure Bel (W:World) where
 u:World
 h:Below W.heap.size W u
instance (W:World):Nonempty (Bel W):=⟨⟨W,Brf _ _⟩⟩
theorem Bel.cell {W:World} {b j:Nat} {v:Value} (hb:b<W.heap.size) (h:W.cell? ⟨b,j,none⟩=some v):∀x:Bel W,x.u.cell? ⟨b,j,none⟩=some v:=fun x=>(x.h.cell (p:=⟨b,j,none⟩) hb).trans h
theorem Z0p {P:Program} {id:Nat} {Q:Exit->Act->World->Prop} {a:Act} {w:World} {l:List Oper} (hm:P.follows .mixedOrders=true) (hB:Region.lexB .any l.toArray=true)
 (W:World) (hW:Below W.heap.size W w.drew) (h:wpQuiet P l.toArray (fun u=>∃x:Bel W,u=x.u) (fun a'=>∀u,(∃x:Bel W,u=x.u)->Q .normal a' u) l a):
 (Code.region id l.toArray true).wp P Q a w:=
 wp_region_quiet (C:=fun u=>∃x:Bel W,u=x.u) hm hB ⟨⟨_,hW⟩,rfl⟩ (by simpa using h)
end
section
open Go.RowKit Go.ChangeShapes Go.WideShapes Go.ChangeAt Go.Deep
structure Z8c (F p1 p2 g:Nat) (G:World->Prop) (C:Int->Int->Int) (κ:Int->Int) (D:Int->Prop):Prop where
 call:∀(u:World) (x y:Int),G u->D x->D y->Calls Tryz.prog F #[.int .i64 x,.int .i64 y,.pointer (some ⟨p1,0,none⟩),.pointer (some ⟨p2,0,none⟩)] u fun e w'=>e= .returned (.int .i64 (C x y))/\Below u.heap.size u w'
 iff:∀x y,D x->D y->(C x y<0↔κ x<κ y)
 ent:∀(args:Array Value) (u:World),Sem.run Tryz.prog (callFunc F args) u= .ok (.enter F args) u
 keep:∀u u',G u->Z01 (fun k=>k=g) u u'->G u'
theorem SoP.Ds {w:World} {g N cap:Nat} {xs:List Int} {D:Int->Prop} (h:SoP w g N cap xs) (hD:∀x ∈ xs,D x) {j:Nat} (hj:j<N):D (at0 xs j):=by
 have hl:=h.len
 have e:at0 xs j=xs[j]:=by unfold at0;rw[Lgd,Lge (by omega)];rfl
 rw[e];exact hD _ (List.getElem_mem _)
theorem Zow {a:Nat} {xs ys:List Int} (h:Sw a (a+1) xs ys):ys=xs:=by
 refine List.ext_getElem h.len (fun i h1 h2=>?_)
 have e:at0 ys i=at0 xs i:=by
  by_cases hi:a<=i/\i<a+1
  ·obtain⟨j,j1,j2,e⟩:=h.inn i hi.1 hi.2
   rwa [show j=i by omega]at e
  ·exact h.out i (by omega)
 unfold at0 at e
 rwa [Lgd,Lgd,Lge h1,Lge h2]at e
theorem Sw.Ds {a b:Nat} {xs ys:List Int} {D:Int->Prop} (h:Sw a b xs ys) (hD:∀x ∈ xs,D x):∀x ∈ ys,D x:=fun x hx=>hD x (h.pm.subset hx)
theorem Zme (w:World) (g N cap s m e:Nat) (cm:Value) (xs:List Int) (h:SoP w g N cap xs) (hsm:s<m) (hme:m<e) (heN:e<=N) (h9:N<=1000000):
 Calls Tryz.prog 156 #[.slice (some ⟨g,0,none⟩) N cap,.int .i64 (s:Int),.int .i64 (m:Int),.int .i64 (e:Int),cm] w fun en w'=>en= .returned (.tuple #[])/\∃ys,SoP w' g N cap ys/\Sw s e xs ys/\Rot s m e xs ys/\Z01 (fun k=>k=g) w w':=by
 have H:=Hd h
 have w1:IntKind.i64.wrap ((m:Int)-(s:Int))=((m-s:Nat):Int):=by rw[show(m:Int)-(s:Int)=((m-s:Nat):Int) by omega];exact I6n _ (by omega)
 have w2:IntKind.i64.wrap ((e:Int)-(m:Int))=((e-m:Nat):Int):=by rw[show(e:Int)-(m:Int)=((e-m:Nat):Int) by omega];exact I6n _ (by omega)
 clear h
 go_enter Tryz.func156,Tryz.ntmps156
 go_wp2_with fail
 go_loopw [10,11] (fun k1 k2 wr=>∃(i j:Nat) (zs:List Int),0<i/\i<=m-s/\0<j/\j<=e-m/\k1= .int .i64 i/\k2= .int .i64 j/\SoP wr g N cap zs/\Tn s m e i j xs zs/\Z01 (fun k=>k=g) w wr) (fun k1 k2 _=>(intOf k1).toNat+(intOf k2).toNat)
 case atStart=>exact⟨m-s,e-m,xs,by omega,Nat.le_refl _,by omega,Nat.le_refl _,rfl,rfl,H.out,Tn.start s m e xs (by omega) (by omega),Z01.refl _ _⟩
 case round=>
  obtain⟨i,j,zs,hi0,hi,hj0,hj,rfl,rfl,hS,hT,hK⟩:=hrel
  have v1:IntKind.i64.wrap ((m:Int)-(i:Int))=((m-i:Nat):Int):=by rw[show(m:Int)-(i:Int)=((m-i:Nat):Int) by omega];exact I6n _ (by omega)
  have HR:=hi3 hS hT hK
  clear hS hT hK
  by_cases heq:i=j
  ·subst heq
   have cS:=Z8b wr g N cap (m-i) m i cm zs HR.out.1 (by omega) (by omega) h9
   go_wp2_with fail
   refine cS.mono ?_
   rintro en w3 ⟨rfl,ys,h3,r3,k3⟩
   have H3:=hi3 h3 r3 k3
   clear h3 r3 k3
   go_wp2
   go_end0
   obtain⟨q1,q2⟩:=HR.out.2.1.done hi hj (by omega) (by omega) H3.out.2.1
   exact⟨rfl,ys,H3.out.1,q1,q2,HR.out.2.2.trans H3.out.2.2⟩
  ·have hne:¬(i:Int)=(j:Int):=by omega
   by_cases hlt:j<i
   ·have hlt':(j:Int)<(i:Int):=by omega
    have v2:IntKind.i64.wrap ((i:Int)-(j:Int))=((i-j:Nat):Int):=by rw[show(i:Int)-(j:Int)=((i-j:Nat):Int) by omega];exact I6n _ (by omega)
    have cS:=Z8b wr g N cap (m-i) m j cm zs HR.out.1 (by omega) (by omega) h9
    go_wp2_with fail
    refine cS.mono ?_
    rintro en w3 ⟨rfl,ys,h3,r3,k3⟩
    have H3:=hi3 h3 r3 k3
    clear h3 r3 k3
    go_wp2
    go_roundw
    case rel=>exact⟨i-j,j,ys,by omega,by omega,hj0,hj,by go_num,rfl,H3.out.1,HR.out.2.1.left hlt hj0 hi hj (by omega) (by omega) H3.out.2.1,HR.out.2.2.trans H3.out.2.2⟩
    case measure=>simp[intOf];omega
   ·have hlt':¬(j:Int)<(i:Int):=by omega
    have v2:IntKind.i64.wrap ((j:Int)-(i:Int))=((j-i:Nat):Int):=by rw[show(j:Int)-(i:Int)=((j-i:Nat):Int) by omega];exact I6n _ (by omega)
    obtain⟨p,hp⟩:∃p,p=m+j:=⟨_,rfl⟩
    obtain⟨q,hq⟩:∃q,q=m+j-i:=⟨_,rfl⟩
    have v3:IntKind.i64.wrap ((m:Int)+(j:Int))=(p:Int):=by rw[show(m:Int)+(j:Int)=(p:Int) by omega];exact I6n _ (by omega)
    have v4:IntKind.i64.wrap ((p:Int)-(i:Int))=(q:Int):=by rw[show(p:Int)-(i:Int)=(q:Int) by omega];exact I6n _ (by omega)
    have cS:=Z8b wr g N cap (m-i) q i cm zs HR.out.1 (by omega) (by omega) h9
    have HQ:=Hd hq
    clear hp hq
    go_wp2_with fail
    refine cS.mono ?_
    rintro en w3 ⟨rfl,ys,h3,r3,k3⟩
    have H3:=hi3 h3 r3 k3
    clear h3 r3 k3
    go_wp2
    go_roundw
    case rel=>exact⟨i,j-i,ys,hi0,hi,by omega,by omega,rfl,by go_num,H3.out.1,HR.out.2.1.right (by omega) hi0 hi hj (by omega) (by omega) (HQ.out ▸ H3.out.2.1),HR.out.2.2.trans H3.out.2.2⟩
    case measure=>simp[intOf];omega
theorem Zmf (w:World) (g N cap a b F p1 p2:Nat) (G:World->Prop) (C:Int->Int->Int) (κ:Int->Int) (D:Int->Prop) (xs:List Int) (hC:Z8c F p1 p2 g G C κ D) (hG:G w) (h:SoP w g N cap xs) (hD:∀x ∈ xs,D x) (hinc:∀i j,a<=i->i<j->j<b->at0 xs i<at0 xs j) (hbN:b<=N) (haN:a<=N) (h9:N<=1000000):
 Calls Tryz.prog 154 #[.slice (some ⟨g,0,none⟩) N cap,.int .i64 (a:Int),.int .i64 (b:Int),.func (.func F) #[] #[.pointer (some ⟨p1,0,none⟩),.pointer (some ⟨p2,0,none⟩)]] w fun en w'=>en= .returned (.tuple #[])/\∃ys,SoP w' g N cap ys/\Sw a b xs ys/\SR κ ys a b/\Z01 (fun k=>k=g) w w':=by
 have H:=hi5 h hC hG hD hinc
 have w1:IntKind.i64.wrap ((a:Int)+1)=((a+1:Nat):Int):=by rw[show(a:Int)+1=((a+1:Nat):Int) by omega];exact I6n _ (by omega)
 have ent:=hC.ent
 clear h hC hG hD hinc
 go_enter Tryz.func154,Tryz.ntmps154
 go_wp2_with fail
 go_loopw [8] (fun k wr=>∃(i:Nat) (zs:List Int),a+1<=i/\(i<=b\/i=a+1)/\k= .int .i64 i/\SoP wr g N cap zs/\Sw a i xs zs/\SR κ zs a i/\Z01 (fun k=>k=g) w wr) (fun k _=>b-(intOf k).toNat)
 case atStart=>exact⟨a+1,xs,Nat.le_refl _,.inr rfl,rfl,H.out.1,Sw.refl _ _ _,SR.one (Nat.le_refl _),Z01.refl _ _⟩
 case round=>
  obtain⟨i,zs,hi,hib,rfl,hS,hW,hR,hK⟩:=hrel
  have HR:=hi4 hS hW hR hK
  clear hS hW hR hK
  by_cases hlt:i<b
  ·have hlt':(i:Int)<(b:Int):=by omega
   go_wp2_with fail
   go_loopw [9] (fun k wq=>∃(j:Nat) (ys:List Int),a<=j/\j<=i/\k= .int .i64 j/\SoP wq g N cap ys/\Ins κ a i j zs ys/\Z01 (fun k=>k=g) w wq) (fun k _=>(intOf k).toNat)
   case atStart=>exact⟨i,zs,by omega,Nat.le_refl _,rfl,HR.out.1,Ins.start HR.out.2.2.1 (fun p q1 q2=>by
    obtain⟨p',r1,r2,e⟩:=HR.out.2.1.inn p q1 q2
    rw[e,HR.out.2.1.out i (.inr (Nat.le_refl _))]
    exact H.out.2.2.2.2 p' i r1 r2 hlt),HR.out.2.2.2⟩
   case round=>
    obtain⟨j,ys,hj1,hj2,rfl,hS,hI,hK⟩:=hrel
    by_cases hja:a<j
    ·have hja':(a:Int)<(j:Int):=by omega
     obtain⟨p,hp⟩:∃p,p+1=j:=⟨j-1,by omega⟩
     have hGq:=H.out.2.2.1
     have dx:=hS.Ds (hI.sw.Ds (HR.out.2.1.Ds H.out.2.2.2.1)) (j:=j) (by omega)
     have dy:=hS.Ds (hI.sw.Ds (HR.out.2.1.Ds H.out.2.2.2.1)) (j:=p) (by omega)
     have ci:=H.out.2.1.iff _ _ dx dy
     have cx:=hS.at_ (j:=j) (by omega)
     have cy:=hS.at_ (j:=p) (by omega)
     have fz:=hS.fz (by omega)
     have fx:=fz j
     have fy:=fz p
     have zg:=hS.lt
     have hjp:¬j=p:=by omega
     have hpj:¬p=j:=by omega
     have zj:(j:Int)<(N:Int):=by omega
     have zp:(p:Int)<(N:Int):=by omega
     have zj0:(0:Int)<=(j:Int):=by omega
     have zp0:(0:Int)<=(p:Int):=by omega
     obtain⟨x,hx⟩:∃x,at0 ys j=x:=⟨_,rfl⟩
     obtain⟨y,hy⟩:∃y,at0 ys p=y:=⟨_,rfl⟩
     rw[hx]at cx dx ci
     rw[hy]at cy dy ci
     have v1:IntKind.i64.wrap ((j:Int)-1)=(p:Int):=by rw[show(j:Int)-1=(p:Int) by omega];exact I6n _ (by omega)
     have cA:∀u,Below wr.heap.size wr u->Calls Tryz.prog F #[.int .i64 x,.int .i64 y,.pointer (some ⟨p1,0,none⟩),.pointer (some ⟨p2,0,none⟩)] u fun e u'=>e= .returned (.int .i64 (C x y))/\Below wr.heap.size wr u':=fun u hu=>(H.out.2.1.call u x y (H.out.2.1.keep _ _ hGq (hK.trans (Z0b hu))) dx dy).mono fun e u' ⟨h1,h2⟩=>⟨h1,hu.trans (h2.mono hu.size)⟩
     have cA:=Hd cA
     have x0:=Bel.cell zg cx
     have x1:=Bel.cell zg cy
     obtain⟨c,hc⟩:∃c,C x y=c:=⟨_,rfl⟩
     rw[hc]at cA ci
     have HI:=hi7 hS hI hK ci hx hy hp
     clear hS hI hK ci hx hy hp hc
     go_wp2_with fail
     refine Z0p (by kernel_rfl) (by kernel_rfl) wr (Brf _ _).drew ?_
     repeat (go_big_quiet_step ((with_reducible refine(cA.out _ (Bel.h _)).mono ?_;rintro e w9 ⟨rfl,hb⟩;exact⟨rfl,⟨w9,hb⟩,rfl⟩)))
     refine wpQuiet_nil ?_
     rintro _ ⟨⟨u,hu⟩,rfl⟩
     have cx2:=(hu.cell (p:=⟨g,j,none⟩) zg).trans cx
     have cy2:=(hu.cell (p:=⟨g,p,none⟩) zg).trans cy
     have fx2:=(hu.frozen (p:=⟨g,j,none⟩) zg).trans fx
     have fy2:=(hu.frozen (p:=⟨g,p,none⟩) zg).trans fy
     have zg2:=Nlt zg hu.size
     have HU:=Hd hu
     clear hu x0 x1 cA cx cy fx fy ent
     by_cases hc0:c<0
     ·have hd:decide (c<0)=true:=decide_eq_true hc0
      go_wp2_with fail
      go_region
      all_goals
       go_wp2
       go_roundw
       case rel=>
        obtain⟨hS,hI,hK,ci,hx,hy,hp⟩:=HI.out
        have h5:=(hS.below HU.out).drew.swp (i:=j) (j:=p) (by omega) (by omega)
        rw[hx,hy]at h5
        subst hp
        have h6:=hI.step (by omega) hj2 (by have:=H.out.1.len;have:=HR.out.2.1.len;omega) (by rw[hx,hy];exact ci.1 hc0)
        exact⟨p,swp ys (p+1) p,by omega,by omega,by go_num,h5,h6,((hK.trans (Z0b HU.out)).drew).trans (Z5x _ _ _ _ _ _)⟩
       case measure=>
        have hp:=HI.out.2.2.2.2.2.2
        simp[intOf];omega
     ·have hd:decide (c<0)=false:=decide_eq_false hc0
      go_wp2
      go_roundw
      case rel=>
       obtain⟨hS,hI,hK,ci,hx,hy,hp⟩:=HI.out
       exact⟨i+1,ys,by omega,by omega,by go_num,hS.below HU.out,(HR.out.2.1.mono (Nat.le_refl _) (by omega)).trans hI.sw,hI.stop hj1 hj2 (fun _ hh=>hc0 (ci.2 (by rw[show j-1=p by omega,hx,hy]at hh;exact hh))),hK.trans (Z0b HU.out)⟩
      case measure=>simp[intOf];omega
    ·have e:a=j:=by omega
     subst e
     have hd:decide ((a:Int)<(a:Int))=false:=by simp
     have HI:=hi3 hS hI hK
     clear hS hI hK
     go_wp2_with fail
     go_quiet (fail)
     go_wp2
     go_roundw
     case rel=>exact⟨i+1,ys,by omega,by omega,by go_num,HI.out.1.below (below_drewN (Brf _ _) nq),(HR.out.2.1.mono (Nat.le_refl _) (by omega)).trans HI.out.2.1.sw,HI.out.2.1.stop (Nat.le_refl _) hj2 (fun h=>by omega),HI.out.2.2.trans (Z0b (below_drewN (Brf _ _) nq))⟩
     case measure=>simp[intOf];omega
  ·have hlt':¬(i:Int)<(b:Int):=by omega
   go_wp2
   go_end0
   obtain⟨hS,hW,hR,hK⟩:=HR.out
   by_cases e:i=b
   ·subst e;exact⟨rfl,zs,hS,hW,hR,hK⟩
   ·have e2:i=a+1:=by omega
    subst e2
    have e3:zs=xs:=Zow hW
    rw[e3]at hS
    exact⟨rfl,xs,hS,Sw.refl _ _ _,SR.one (by omega),hK⟩
end
end Go.Proofs.YtihljjgmkaeohaaGreat
