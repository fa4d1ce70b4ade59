/- part 20 -/
import Derived.Test.YtihljjgmkaeohaaGreatPnAE
import Derived.Test.YtihljjgmkaeohaaGreatPnAG
set_option linter.all false
set_option maxHeartbeats 16000000
set_option maxRecDepth 100000
namespace Go.Proofs.YtihljjgmkaeohaaGreat
section
open Go.RowKit Go.ChangeShapes Go.WideShapes Go.ChangeAt
section
variable (W0 w:World) (x:Nat) (g:Option Nat) (N st:Int) (xs:List Int) (i0 i1 i2 i3 i4 i5 i6 i7 i8 i9 i10 i11:Int) (bt:Value) (b:Nat) (ov:Value) (ps:Int) (dn:Value)
theorem Zgw (v:Int) (h:CT W0 w x g N st xs i0 i1 i2 i3 i4 i5 i6 i7 i8 i9 i10 i11 bt b ov ps dn) (hv:cellAt xs 2=v) (s1:st<1000000):
 Calls Tryz.prog 107 #[.pointer (some ⟨x,0,none⟩)] w fun e w'=>e= .returned (.tuple #[])/\CT W0 w' x g N (st+Z0h xs 2) xs i0 21 i2 i3 i4 v i6 i7 i8 i9 i10 i11 bt b ov ps dn/\Z01 (FX b g x) w w':=by
 obtain⟨⟨c0,c1,c2,c3,c4,c5,c6,c7,c8,c9,c10,c11,c12,c13,c14,c15,c16⟩,-,cx⟩:=h.open
 have H:=Hd h
 have HV:=Hd hv
 clear hv
 clear h
 go_enter Tryz.func107,Tryz.ntmps107
 clear c0 c1 c2 c3 c4 c5 c6 c7 c8 c9 c10 c11 c12 c13 c14 c15 c16
 go_wp2_with fail
 refine(Z1y W0 _ x g N st xs i0 i1 i2 i3 i4 i5 i6 i7 i8 i9 i10 i11 bt b ov ps dn 2 v 21 H.out HV.out s1).mono ?_
 rintro e w1 ⟨rfl,h1,k1⟩
 obtain⟨⟨d0,d1,d2,d3,d4,d5,d6,d7,d8,d9,d10,d11,d12,d13,d14,d15,d16⟩,-,dx⟩:=h1.open
 have H1:=hi2 h1 k1
 clear h1 k1
 go_wp2
 go_end0
 exact⟨rfl,H1.out.1,H1.out.2⟩
theorem Zgx (h:CT W0 w x g N st xs i0 i1 i2 i3 i4 i5 i6 i7 i8 i9 i10 i11 bt b ov ps dn) (s1:st<1000000):
 Calls Tryz.prog 114 #[.pointer (some ⟨x,0,none⟩)] w fun e w'=>e= .returned (.tuple #[])/\CT W0 w' x g N (st+Z0h xs (wrap64 (i6+3))) (Z0j xs (wrap64 (i6+3)) 0) i0 28 i2 i3 i4 i5 i6 i7 i8 i9 i10 i11 bt b ov ps dn/\Z01 (FX b g x) w w':=by
 obtain⟨⟨c0,c1,c2,c3,c4,c5,c6,c7,c8,c9,c10,c11,c12,c13,c14,c15,c16⟩,-,cx⟩:=h.open
 have H:=Hd h
 have hw:IntKind.i64.wrap (i6+3)=wrap64 (i6+3):=by rw[IntKind.wrap_i64];unfold wrap64;omega
 clear h
 go_enter Tryz.func114,Tryz.ntmps114
 go_wp2_with fail
 refine(Z33 W0 _ x g N st xs i0 i1 i2 i3 i4 i5 i6 i7 i8 i9 i10 i11 bt b ov ps dn (wrap64 (i6+3)) 0 28 H.out s1).mono ?_
 rintro e w1 ⟨rfl,h1,k1⟩
 clear c0 c1 c2 c3 c4 c5 c6 c7 c8 c9 c10 c11 c12 c13 c14 c15 c16
 obtain⟨⟨d0,d1,d2,d3,d4,d5,d6,d7,d8,d9,d10,d11,d12,d13,d14,d15,d16⟩,-,dx⟩:=h1.open
 have H1:=hi2 h1 k1
 clear h1 k1
 go_wp2
 go_end0
 exact⟨rfl,H1.out.1,H1.out.2⟩
theorem Zk8 (h:CT W0 w x g N st xs i0 i1 i2 i3 i4 i5 i6 i7 i8 i9 i10 i11 bt b ov ps dn) (s1:st<1000000):
 Calls Tryz.prog 118 #[.pointer (some ⟨x,0,none⟩)] w fun e w'=>e= .returned (.tuple #[])/\CT W0 w' x g N (st+Z0h xs (wrap64 (i7+3))) (Z0j xs (wrap64 (i7+3)) i6) i0 32 i2 i3 i4 i5 i6 i7 i8 i9 i10 i11 bt b ov ps dn/\Z01 (FX b g x) w w':=by
 obtain⟨⟨c0,c1,c2,c3,c4,c5,c6,c7,c8,c9,c10,c11,c12,c13,c14,c15,c16⟩,-,cx⟩:=h.open
 have H:=Hd h
 have hw:IntKind.i64.wrap (i7+3)=wrap64 (i7+3):=by rw[IntKind.wrap_i64];unfold wrap64;omega
 clear h
 go_enter Tryz.func118,Tryz.ntmps118
 go_wp2_with fail
 have HD:=hi2 H.out.drew (show Z01 (FX b g x) w w.drew from Z0b (Brf _ _).drew)
 go_region_held3 (fun wz=>wz.cell? ⟨x,7,none⟩=some (.int .i64 i7)/\wz.cell? ⟨x,6,none⟩=some (.int .i64 i6))
  (first|(exact⟨c7,c6⟩)|(exact⟨d7,d6⟩))
  (first|(go_at_call 141;go_split_ands;with_reducible refine(Z33 W0 _ x g N st xs i0 i1 i2 i3 i4 i5 i6 i7 i8 i9 i10 i11 bt b ov ps dn (wrap64 (i7+3)) i6 32 HD.out.1 s1).mono ?_;rintro e w3 ⟨rfl,h3,k3⟩;obtain⟨⟨d0,d1,d2,d3,d4,d5,d6,d7,d8,d9,d10,d11,d12,d13,d14,d15,d16⟩,-,dx⟩:=h3.open;have H3:=hi2 h3 k3;clear h3 k3))
 all_goals
  go_wp2_with fail
  go_end0
  exact⟨rfl,H3.out.1,HD.out.2.trans H3.out.2⟩
theorem Zdz (n10 n11:Int) (h:CT W0 w x g N st xs i0 i1 i2 i3 i4 i5 i6 i7 i8 i9 i10 i11 bt b ov ps dn) (h10:wrap64 (i5+1)=n10) (h11:wrap64 (i11+1)=n11) (s1:st<1000000):
 Calls Tryz.prog 108 #[.pointer (some ⟨x,0,none⟩)] w fun e w'=>e= .returned (.tuple #[])/\CT W0 w' x g N (st+Z0h xs 2) (Z0j xs 2 n10) i0 22 i2 i3 i4 i5 i6 i7 i8 i9 n10 n11 bt b ov ps dn/\Z01 (FX b g x) w w':=by
 obtain⟨⟨c0,c1,c2,c3,c4,c5,c6,c7,c8,c9,c10,c11,c12,c13,c14,c15,c16⟩,-,cx⟩:=h.open
 have H:=Hd h
 have hw:IntKind.i64.wrap (i5+1)=n10:=by rw[<-h10,IntKind.wrap_i64];unfold wrap64;omega
 have hw2:IntKind.i64.wrap (i11+1)=n11:=by rw[<-h11,IntKind.wrap_i64];unfold wrap64;omega
 have f10:=Z06 h.blk 10
 have f11:=Z06 (h.set10 n10).blk 11
 clear h10 h11
 clear h
 go_enter Tryz.func108,Tryz.ntmps108
 go_wp2_with fail
 refine(Z33 W0 _ x g N st xs i0 i1 i2 i3 i4 i5 i6 i7 i8 i9 n10 n11 bt b ov ps dn 2 n10 22 ((H.out.set10 n10).set11 n11) s1).mono ?_
 rintro e w1 ⟨rfl,h1,k1⟩
 clear c0 c1 c2 c3 c4 c5 c6 c7 c8 c9 c10 c11 c12 c13 c14 c15 c16 f10 f11
 have H1:=hi2 h1 (((kx w b g x 10 (.int .i64 n10)).trans (kx _ b g x 11 (.int .i64 n11))).trans k1)
 clear h1 k1
 go_wp2
 go_end0
 exact⟨rfl,H1.out.1,H1.out.2⟩
theorem Zgy (b6 v n8 p:Int) (h:CT W0 w x g N st xs i0 i1 i2 i3 i4 i5 i6 i7 i8 i9 i10 i11 bt b ov ps dn) (hb6:(if i8<0\/1000<i8 then 0 else 3+5*i8)=b6) (hv:cellAt xs (wrap64 (b6+1))=v) (h8:(if v=0 then i8 else wrap64 (i8+1))=n8) (hp:(if v=0 then 24 else if n8<i9 then 23 else 33)=p) (s1:st<1000000):
 Calls Tryz.prog 110 #[.pointer (some ⟨x,0,none⟩)] w fun e w'=>e= .returned (.tuple #[])/\CT W0 w' x g N (st+Z0h xs (wrap64 (b6+1))) xs i0 p i2 i3 i4 v b6 i7 n8 i9 i10 i11 bt b ov ps dn/\Z01 (FX b g x) w w':=by
 obtain⟨⟨c0,c1,c2,c3,c4,c5,c6,c7,c8,c9,c10,c11,c12,c13,c14,c15,c16⟩,-,cx⟩:=h.open
 have H:=Hd h
 have HB:=Hd hb6
 have HV:=Hd hv
 have HP:=hi2 h8 hp
 have f6:=Z06 h.blk 6
 clear hb6 hv hp h8
 have hw:IntKind.i64.wrap (b6+1)=wrap64 (b6+1):=by rw[IntKind.wrap_i64];unfold wrap64;omega
 clear h
 go_enter Tryz.func110,Tryz.ntmps110
 go_wp2_with fail
 refine(Zoj i8 w).mono ?_
 rintro e w' ⟨rfl,rfl⟩
 rw[HB.out]
 go_wp2_with fail
 refine(Z1y W0 _ x g N st xs i0 i1 i2 i3 i4 i5 b6 i7 i8 i9 i10 i11 bt b ov ps dn (wrap64 (b6+1)) v 24 (H.out.set6 b6) HV.out s1).mono ?_
 rintro e w2 ⟨rfl,h2,k2⟩
 clear c0 c1 c2 c3 c4 c5 c6 c7 c8 c9 c10 c11 c12 c13 c14 c15 c16 f6
 obtain⟨⟨d0,d1,d2,d3,d4,d5,d6,d7,d8,d9,d10,d11,d12,d13,d14,d15,d16⟩,-,dx⟩:=h2.open
 have H2:=hi2 h2 ((kx w b g x 6 (.int .i64 b6)).trans k2)
 clear h2 k2
 obtain⟨is,his⟩:∃is,(v == 0)=is:=⟨_,rfl⟩
 have hE:(if is=true then i8 else wrap64 (i8+1))=n8/\(if is=true then 24 else if n8<i9 then 23 else 33)=p:=by
  have e1:=HP.out
  by_cases h0:v=0
  ·have:is=true:=by rw[<-his];simp[h0]
   rw[this,if_pos rfl,if_pos rfl];rw[if_pos h0,if_pos h0]at e1;exact e1
  ·have:is=false:=by rw[<-his];simp[h0]
   rw[this,if_neg (by decide),if_neg (by decide)];rw[if_neg h0,if_neg h0]at e1;exact e1
 have HE:=Hd hE
 clear hE
 go_wp2_with fail
 refine(Z4d W0 _ x g N (st+Z0h xs (wrap64 (b6+1))) xs i0 24 i2 i3 i4 v b6 i7 i8 i9 i10 i11 bt b ov ps dn is n8 p H2.out.1 HE.out.1 HE.out.2).mono ?_
 rintro e w3 ⟨rfl,h3,k3⟩
 clear d0 d1 d2 d3 d4 d5 d6 d7 d8 d9 d10 d11 d12 d13 d14 d15 d16
 have H3:=hi2 h3 (H2.out.2.trans k3)
 clear h3 k3
 go_wp2
 go_end0
 exact⟨rfl,H3.out.1,H3.out.2⟩
theorem Zgz (n8 p:Int) (h:CT W0 w x g N st xs i0 i1 i2 i3 i4 i5 i6 i7 i8 i9 i10 i11 bt b ov ps dn) (h8:(if Z11 xs (wrap64 (i6+1)) 0=true then i8 else wrap64 (i8+1))=n8) (hp:(if Z11 xs (wrap64 (i6+1)) 0=true then 26 else if n8<i9 then 23 else 33)=p) (s1:st<1000000):
 Calls Tryz.prog 112 #[.pointer (some ⟨x,0,none⟩)] w fun e w'=>e= .returned (.tuple #[])/\CT W0 w' x g N (st+Z0h xs (wrap64 (i6+1))) (Z0s xs (wrap64 (i6+1)) 0 2) i0 p i2 i3 i4 i5 i6 i7 n8 i9 i10 i11 bt b ov ps dn/\Z01 (FX b g x) w w':=by
 obtain⟨⟨c0,c1,c2,c3,c4,c5,c6,c7,c8,c9,c10,c11,c12,c13,c14,c15,c16⟩,-,cx⟩:=h.open
 have H:=Hd h
 have HP:=hi2 h8 hp
 clear hp h8
 have hw:IntKind.i64.wrap (i6+1)=wrap64 (i6+1):=by rw[IntKind.wrap_i64];unfold wrap64;omega
 clear h
 go_enter Tryz.func112,Tryz.ntmps112
 obtain⟨is,his⟩:∃is,Z11 xs (wrap64 (i6+1)) 0=is:=⟨_,rfl⟩
 obtain⟨q,hq⟩:∃q:Int,(if is=true then 26 else 23)=q:=⟨_,rfl⟩
 have hE:=HP.out
 rw[his]at hE
 have hqi:(q == 26)=is:=by cases is<;>subst hq<;>rfl
 have hE2:(if is=true then q else if n8<i9 then 23 else 33)=p:=by
  rw[<-hE.2];cases is
  ·rfl
  ·rw[<-hq];rfl
 have HE:=hi3 hE.1 hE2 (show(if Z11 xs (wrap64 (i6+1)) 0=true then 26 else 23)=q from by rw[his];exact hq)
 clear hE hE2 hq his
 go_wp2_with fail
 refine(Z9i W0 _ x g N st xs i0 i1 i2 i3 i4 i5 i6 i7 i8 i9 i10 i11 bt b ov ps dn (wrap64 (i6+1)) 0 2 26 23 H.out q HE.out.2.2 s1).mono ?_
 rintro e w2 ⟨rfl,h2,k2⟩
 clear c0 c1 c2 c3 c4 c5 c6 c7 c8 c9 c10 c11 c12 c13 c14 c15 c16
 obtain⟨⟨d0,d1,d2,d3,d4,d5,d6,d7,d8,d9,d10,d11,d12,d13,d14,d15,d16⟩,-,dx⟩:=h2.open
 have H2:=hi2 h2 k2
 clear h2 k2
 go_wp2_with fail
 refine(Z4d W0 _ x g N (st+Z0h xs (wrap64 (i6+1))) (Z0s xs (wrap64 (i6+1)) 0 2) i0 q i2 i3 i4 i5 i6 i7 i8 i9 i10 i11 bt b ov ps dn is n8 p H2.out.1 HE.out.1 HE.out.2.1).mono ?_
 rintro e w3 ⟨rfl,h3,k3⟩
 clear d0 d1 d2 d3 d4 d5 d6 d7 d8 d9 d10 d11 d12 d13 d14 d15 d16
 have H3:=hi2 h3 (H2.out.2.trans k3)
 clear h3 k3
 go_wp2
 go_end0
 exact⟨rfl,H3.out.1,H3.out.2⟩
theorem Zh0 (v r p:Int) (h:CT W0 w x g N st xs i0 i1 i2 i3 i4 i5 i6 i7 i8 i9 i10 i11 bt b ov ps dn) (hv:cellAt xs 1=v) (hr:(if v=0 then i6 else v)=r) (hp:(if v=0 then 40 else 34)=p) (s1:st<1000000):
 Calls Tryz.prog 120 #[.pointer (some ⟨x,0,none⟩)] w fun e w'=>e= .returned (.tuple #[])/\CT W0 w' x g N (st+Z0h xs 1) xs i0 p i2 i3 i4 v r i7 i8 i9 i10 i11 bt b ov ps dn/\Z01 (FX b g x) w w':=by
 obtain⟨⟨c0,c1,c2,c3,c4,c5,c6,c7,c8,c9,c10,c11,c12,c13,c14,c15,c16⟩,-,cx⟩:=h.open
 have H:=Hd h
 have HV:=Hd hv
 have HP:=hi2 hr hp
 clear hv hr hp
 clear h
 go_enter Tryz.func120,Tryz.ntmps120
 clear c0 c1 c2 c3 c4 c5 c6 c7 c8 c9 c10 c11 c12 c13 c14 c15 c16
 go_wp2_with fail
 refine(Z1y W0 _ x g N st xs i0 i1 i2 i3 i4 i5 i6 i7 i8 i9 i10 i11 bt b ov ps dn 1 v 40 H.out HV.out s1).mono ?_
 rintro e w2 ⟨rfl,h2,k2⟩
 have fr:=Z06 h2.blk 6
 have f1:=Z06 (h2.set6 v).blk 1
 obtain⟨⟨d0,d1,d2,d3,d4,d5,d6,d7,d8,d9,d10,d11,d12,d13,d14,d15,d16⟩,-,dx⟩:=h2.open
 have H2:=hi2 h2 k2
 clear h2 k2
 by_cases h0:v=0
 ·have e1:=HP.out
  rw[if_pos h0,if_pos h0]at e1
  have E1:=Hd e1
  have hb:(v != 0)=false:=by simp[h0]
  clear e1 h0 fr f1
  go_wp2
  go_end0
  exact⟨rfl,by rw[<-E1.out.1,<-E1.out.2];exact H2.out.1,H2.out.2⟩
 ·have e1:=HP.out
  rw[if_neg h0,if_neg h0]at e1
  have E1:=Hd e1
  have hb:(v != 0)=true:=by simp[h0]
  clear e1
  go_wp2
  go_end0
  exact⟨rfl,by rw[<-E1.out.1,<-E1.out.2];exact(H2.out.1.set6 v).set1 34,(H2.out.2.trans (kx _ _ _ _ _ _)).trans (kx _ _ _ _ _ _)⟩
end
section
variable (W0 w:World) (x:Nat) (g:Option Nat) (N st:Int) (xs:List Int) (i0 i1 i2 i3 i4 i5 i6 i7 i8 i9 i10 i11:Int) (bt:Value) (b:Nat) (ov:Value) (ps:Int) (dn:Value)
theorem Ze0 (v:Int) (h:CT W0 w x g N st xs i0 i1 i2 i3 i4 i5 i6 i7 i8 i9 i10 i11 bt b ov ps dn) (hv:cellAt xs (wrap64 (i7+3))=v) (s1:st<1000000):
 Calls Tryz.prog 116 #[.pointer (some ⟨x,0,none⟩)] w fun e w'=>e= .returned (.tuple #[])/\CT W0 w' x g N (st+Z0h xs (wrap64 (i7+3))) xs i0 30 i2 i3 i4 v i6 i7 i8 i9 i10 i11 bt b ov ps dn/\Z01 (FX b g x) w w':=by
 obtain⟨⟨c0,c1,c2,c3,c4,c5,c6,c7,c8,c9,c10,c11,c12,c13,c14,c15,c16⟩,-,cx⟩:=h.open
 have H:=Hd h
 have HV:=Hd hv
 clear hv
 have hw:IntKind.i64.wrap (i7+3)=wrap64 (i7+3):=by rw[IntKind.wrap_i64];unfold wrap64;omega
 clear h
 go_enter Tryz.func116,Tryz.ntmps116
 go_wp2_with fail
 refine(Z1y W0 _ x g N st xs i0 i1 i2 i3 i4 i5 i6 i7 i8 i9 i10 i11 bt b ov ps dn (wrap64 (i7+3)) v 30 H.out HV.out s1).mono ?_
 rintro e w1 ⟨rfl,h1,k1⟩
 clear c0 c1 c2 c3 c4 c5 c6 c7 c8 c9 c10 c11 c12 c13 c14 c15 c16
 obtain⟨⟨d0,d1,d2,d3,d4,d5,d6,d7,d8,d9,d10,d11,d12,d13,d14,d15,d16⟩,-,dx⟩:=h1.open
 have H1:=hi2 h1 k1
 clear h1 k1
 go_wp2
 go_end0
 exact⟨rfl,H1.out.1,H1.out.2⟩
theorem Zk9 (h:CT W0 w x g N st xs i0 i1 i2 i3 i4 i5 i6 i7 i8 i9 i10 i11 bt b ov ps dn) (s1:st<1000000):
 Calls Tryz.prog 117 #[.pointer (some ⟨x,0,none⟩)] w fun e w'=>e= .returned (.tuple #[])/\CT W0 w' x g N (st+Z0h xs (wrap64 (i6+3))) (Z0j xs (wrap64 (i6+3)) i5) i0 31 i2 i3 i4 i5 i6 i7 i8 i9 i10 i11 bt b ov ps dn/\Z01 (FX b g x) w w':=by
 obtain⟨⟨c0,c1,c2,c3,c4,c5,c6,c7,c8,c9,c10,c11,c12,c13,c14,c15,c16⟩,-,cx⟩:=h.open
 have H:=Hd h
 have hw:IntKind.i64.wrap (i6+3)=wrap64 (i6+3):=by rw[IntKind.wrap_i64];unfold wrap64;omega
 clear h
 go_enter Tryz.func117,Tryz.ntmps117
 go_wp2_with fail
 have HD:=hi2 H.out.drew (show Z01 (FX b g x) w w.drew from Z0b (Brf _ _).drew)
 go_region_held3 (fun wz=>wz.cell? ⟨x,6,none⟩=some (.int .i64 i6)/\wz.cell? ⟨x,5,none⟩=some (.int .i64 i5))
  (first|(exact⟨c6,c5⟩)|(exact⟨d6,d5⟩))
  (first|(go_at_call 141;go_split_ands;with_reducible refine(Z33 W0 _ x g N st xs i0 i1 i2 i3 i4 i5 i6 i7 i8 i9 i10 i11 bt b ov ps dn (wrap64 (i6+3)) i5 31 HD.out.1 s1).mono ?_;rintro e w3 ⟨rfl,h3,k3⟩;obtain⟨⟨d0,d1,d2,d3,d4,d5,d6,d7,d8,d9,d10,d11,d12,d13,d14,d15,d16⟩,-,dx⟩:=h3.open;have H3:=hi2 h3 k3;clear h3 k3))
 all_goals
  go_wp2_with fail
  go_end0
  exact⟨rfl,H3.out.1,HD.out.2.trans H3.out.2⟩
theorem Zh1 (q:Int) (h:CT W0 w x g N st xs i0 i1 i2 i3 i4 i5 i6 i7 i8 i9 i10 i11 bt b ov ps dn) (hq:(if Z11 xs 1 0=true then 32 else 26)=q) (s1:st<1000000):
 Calls Tryz.prog 115 #[.pointer (some ⟨x,0,none⟩)] w fun e w'=>e= .returned (.tuple #[])/\CT W0 w' x g N (st+Z0h xs 1) (Z0s xs 1 0 i6) i0 q i2 i3 i4 i5 i6 i7 i8 i9 i10 i11 bt b ov ps dn/\Z01 (FX b g x) w w':=by
 obtain⟨⟨c0,c1,c2,c3,c4,c5,c6,c7,c8,c9,c10,c11,c12,c13,c14,c15,c16⟩,-,cx⟩:=h.open
 have H:=Hd h
 have HQ:=Hd hq
 clear hq
 clear h
 go_enter Tryz.func115,Tryz.ntmps115
 go_wp2_with fail
 refine(Z9i W0 _ x g N st xs i0 i1 i2 i3 i4 i5 i6 i7 i8 i9 i10 i11 bt b ov ps dn 1 0 i6 32 26 H.out q HQ.out s1).mono ?_
 rintro e w1 ⟨rfl,h1,k1⟩
 clear c0 c1 c2 c3 c4 c5 c6 c7 c8 c9 c10 c11 c12 c13 c14 c15 c16
 obtain⟨⟨d0,d1,d2,d3,d4,d5,d6,d7,d8,d9,d10,d11,d12,d13,d14,d15,d16⟩,-,dx⟩:=h1.open
 have H1:=hi2 h1 k1
 clear h1 k1
 go_wp2
 go_end0
 exact⟨rfl,H1.out.1,H1.out.2⟩
theorem Zh2 (n8 p:Int) (h:CT W0 w x g N st xs i0 i1 i2 i3 i4 i5 i6 i7 i8 i9 i10 i11 bt b ov ps dn) (h8:(0:Int)=n8) (hp:(if n8<Z32 xs.length then 23 else 33)=p):
 Calls Tryz.prog 109 #[.pointer (some ⟨x,0,none⟩)] w fun e w'=>e= .returned (.tuple #[])/\CT W0 w' x g N st xs i0 p i2 i3 i4 i5 i6 i7 n8 (Z32 xs.length) i10 i11 (.slice none 0 0) b ov ps dn/\Z01 (FX b g x) w w':=by
 obtain⟨⟨c0,c1,c2,c3,c4,c5,c6,c7,c8,c9,c10,c11,c12,c13,c14,c15,c16⟩,-,cx⟩:=h.open
 have H:=Hd h
 have HP:=hi2 (show wrap64 (-1+1)=n8 from(show wrap64 (-1+1)=0 from by unfold wrap64;omega).trans h8) hp
 clear hp h8
 clear h
 go_enter Tryz.func109,Tryz.ntmps109
 go_wp2_with fail
 refine(Zlm H.out.ms).mono ?_
 rintro e w1 ⟨rfl,m1,hb⟩
 have h1:=H.out.below hb
 have f9:=Z06 h1.blk 9
 have f8:=Z06 (h1.set9 (Z32 xs.length)).blk 8
 have f12:=Z06 ((h1.set9 (Z32 xs.length)).set8 (-1)).blk 12
 clear c0 c1 c2 c3 c4 c5 c6 c7 c8 c9 c10 c11 c12 c13 c14 c15 c16
 obtain⟨⟨d0,d1,d2,d3,d4,d5,d6,d7,d8,d9,d10,d11,d12,d13,d14,d15,d16⟩,-,dx⟩:=h1.open
 have H1:=hi2 h1 (Z0b (F:=FX b g x) hb)
 clear h1 m1 hb
 go_wp2_with fail
 refine(Zb4 W0 _ x g N st xs i0 i1 i2 i3 i4 i5 i6 i7 (-1) (Z32 xs.length) i10 i11 (.slice none 0 0) b ov ps dn n8 p (((H1.out.1.set9 (Z32 xs.length)).set8 (-1)).set12 (.slice none 0 0)) HP.out.1 HP.out.2).mono ?_
 rintro e w2 ⟨rfl,h2,k2⟩
 clear d0 d1 d2 d3 d4 d5 d6 d7 d8 d9 d10 d11 d12 d13 d14 d15 d16 f9 f8 f12
 have H2:=hi2 h2 ((((H1.out.2.trans (kx _ _ _ _ _ _)).trans (kx _ _ _ _ _ _)).trans (kx _ _ _ _ _ _)).trans k2)
 clear h2 k2
 go_wp2
 go_end0
 exact⟨rfl,H2.out.1,H2.out.2⟩
theorem Zh3 (v n8 p:Int) (h:CT W0 w x g N st xs i0 i1 i2 i3 i4 i5 i6 i7 i8 i9 i10 i11 bt b ov ps dn) (hv:cellAt xs (wrap64 i6)=v) (h8:(if 0<v then i8 else wrap64 (i8+1))=n8) (hp:(if 0<v then 25 else if n8<i9 then 23 else 33)=p) (s1:st<1000000):
 Calls Tryz.prog 111 #[.pointer (some ⟨x,0,none⟩)] w fun e w'=>e= .returned (.tuple #[])/\CT W0 w' x g N (st+Z0h xs (wrap64 i6)) xs i0 p i2 i3 i4 v i6 i7 n8 i9 i10 i11 bt b ov ps dn/\Z01 (FX b g x) w w':=by
 obtain⟨⟨c0,c1,c2,c3,c4,c5,c6,c7,c8,c9,c10,c11,c12,c13,c14,c15,c16⟩,-,cx⟩:=h.open
 have H:=Hd h
 have HV:=Hd hv
 have HP:=hi2 h8 hp
 clear hv hp h8
 have hw:IntKind.i64.wrap i6=wrap64 i6:=by rw[IntKind.wrap_i64];unfold wrap64;omega
 clear h
 go_enter Tryz.func111,Tryz.ntmps111
 go_wp2_with fail
 refine(Z1y W0 _ x g N st xs i0 i1 i2 i3 i4 i5 i6 i7 i8 i9 i10 i11 bt b ov ps dn (wrap64 i6) v 25 H.out HV.out s1).mono ?_
 rintro e w2 ⟨rfl,h2,k2⟩
 clear c0 c1 c2 c3 c4 c5 c6 c7 c8 c9 c10 c11 c12 c13 c14 c15 c16
 obtain⟨⟨d0,d1,d2,d3,d4,d5,d6,d7,d8,d9,d10,d11,d12,d13,d14,d15,d16⟩,-,dx⟩:=h2.open
 have H2:=hi2 h2 k2
 clear h2 k2
 go_wp2_with fail
 refine(Z6b v _).mono ?_
 rintro e w' ⟨rfl,rfl⟩
 obtain⟨is,his⟩:∃is,decide (0<v)=is:=⟨_,rfl⟩
 rw[his]
 have hE:(if is=true then i8 else wrap64 (i8+1))=n8/\(if is=true then 25 else if n8<i9 then 23 else 33)=p:=by
  have e1:=HP.out
  by_cases h0:0<v
  ·have:is=true:=by rw[<-his];simp[h0]
   rw[this,if_pos rfl,if_pos rfl];rw[if_pos h0,if_pos h0]at e1;exact e1
  ·have:is=false:=by rw[<-his];exact decide_eq_false h0
   rw[this,if_neg (by decide),if_neg (by decide)];rw[if_neg h0,if_neg h0]at e1;exact e1
 have HE:=Hd hE
 clear hE his
 go_wp2_with fail
 refine(Z4d W0 _ x g N (st+Z0h xs (wrap64 i6)) xs i0 25 i2 i3 i4 v i6 i7 i8 i9 i10 i11 bt b ov ps dn is n8 p H2.out.1 HE.out.1 HE.out.2).mono ?_
 rintro e w3 ⟨rfl,h3,k3⟩
 clear d0 d1 d2 d3 d4 d5 d6 d7 d8 d9 d10 d11 d12 d13 d14 d15 d16
 have H3:=hi2 h3 (H2.out.2.trans k3)
 clear h3 k3
 go_wp2
 go_end0
 exact⟨rfl,H3.out.1,H3.out.2⟩
theorem Ze1 (v r p:Int) (h:CT W0 w x g N st xs i0 i1 i2 i3 i4 i5 i6 i7 i8 i9 i10 i11 bt b ov ps dn) (hv:cellAt xs 1=v) (hr:(if v=0 then i7 else v)=r) (hp:(if v=0 then 27 else 29)=p) (s1:st<1000000):
 Calls Tryz.prog 113 #[.pointer (some ⟨x,0,none⟩)] w fun e w'=>e= .returned (.tuple #[])/\CT W0 w' x g N (st+Z0h xs 1) xs i0 p i2 i3 i4 v i6 r i8 i9 i10 i11 bt b ov ps dn/\Z01 (FX b g x) w w':=by
 obtain⟨⟨c0,c1,c2,c3,c4,c5,c6,c7,c8,c9,c10,c11,c12,c13,c14,c15,c16⟩,-,cx⟩:=h.open
 have H:=Hd h
 have HV:=Hd hv
 have HP:=hi2 hr hp
 clear hv hr hp
 clear h
 go_enter Tryz.func113,Tryz.ntmps113
 clear c0 c1 c2 c3 c4 c5 c6 c7 c8 c9 c10 c11 c12 c13 c14 c15 c16
 go_wp2_with fail
 refine(Z1y W0 _ x g N st xs i0 i1 i2 i3 i4 i5 i6 i7 i8 i9 i10 i11 bt b ov ps dn 1 v 27 H.out HV.out s1).mono ?_
 rintro e w2 ⟨rfl,h2,k2⟩
 have fr:=Z06 h2.blk 7
 have f1:=Z06 (h2.set7 v).blk 1
 obtain⟨⟨d0,d1,d2,d3,d4,d5,d6,d7,d8,d9,d10,d11,d12,d13,d14,d15,d16⟩,-,dx⟩:=h2.open
 have H2:=hi2 h2 k2
 clear h2 k2
 by_cases h0:v=0
 ·have e1:=HP.out
  rw[if_pos h0,if_pos h0]at e1
  have E1:=Hd e1
  have hb:(v != 0)=false:=by simp[h0]
  clear e1 h0 fr f1
  go_wp2
  go_end0
  exact⟨rfl,by rw[<-E1.out.1,<-E1.out.2];exact H2.out.1,H2.out.2⟩
 ·have e1:=HP.out
  rw[if_neg h0,if_neg h0]at e1
  have E1:=Hd e1
  have hb:(v != 0)=true:=by simp[h0]
  clear e1
  go_wp2
  go_end0
  exact⟨rfl,by rw[<-E1.out.1,<-E1.out.2];exact(H2.out.1.set7 v).set1 29,(H2.out.2.trans (kx _ _ _ _ _ _)).trans (kx _ _ _ _ _ _)⟩
theorem Zh4 (n8 p:Int) (h:CT W0 w x g N st xs i0 i1 i2 i3 i4 i5 i6 i7 i8 i9 i10 i11 bt b ov ps dn) (h8:wrap64 (i8+1)=n8) (hp:(if n8<i9 then 23 else 33)=p) (s1:st<1000000):
 Calls Tryz.prog 119 #[.pointer (some ⟨x,0,none⟩)] w fun e w'=>e= .returned (.tuple #[])/\CT W0 w' x g N (st+Z0h xs (wrap64 (i6+1))) (Z0j xs (wrap64 (i6+1)) 1) i0 p i2 i3 i4 i5 i6 i7 n8 i9 i10 i11 bt b ov ps dn/\Z01 (FX b g x) w w':=by
 obtain⟨⟨c0,c1,c2,c3,c4,c5,c6,c7,c8,c9,c10,c11,c12,c13,c14,c15,c16⟩,-,cx⟩:=h.open
 have H:=Hd h
 have HP:=hi2 h8 hp
 clear hp h8
 have hw:IntKind.i64.wrap (i6+1)=wrap64 (i6+1):=by rw[IntKind.wrap_i64];unfold wrap64;omega
 clear h
 go_enter Tryz.func119,Tryz.ntmps119
 go_wp2_with fail
 refine(Z33 W0 _ x g N st xs i0 i1 i2 i3 i4 i5 i6 i7 i8 i9 i10 i11 bt b ov ps dn (wrap64 (i6+1)) 1 23 H.out s1).mono ?_
 rintro e w2 ⟨rfl,h2,k2⟩
 clear c0 c1 c2 c3 c4 c5 c6 c7 c8 c9 c10 c11 c12 c13 c14 c15 c16
 obtain⟨⟨d0,d1,d2,d3,d4,d5,d6,d7,d8,d9,d10,d11,d12,d13,d14,d15,d16⟩,-,dx⟩:=h2.open
 have H2:=hi2 h2 k2
 clear h2 k2
 go_wp2_with fail
 refine(Zb4 W0 _ x g N (st+Z0h xs (wrap64 (i6+1))) (Z0j xs (wrap64 (i6+1)) 1) i0 23 i2 i3 i4 i5 i6 i7 i8 i9 i10 i11 bt b ov ps dn n8 p H2.out.1 HP.out.1 HP.out.2).mono ?_
 rintro e w3 ⟨rfl,h3,k3⟩
 clear d0 d1 d2 d3 d4 d5 d6 d7 d8 d9 d10 d11 d12 d13 d14 d15 d16
 have H3:=hi2 h3 (H2.out.2.trans k3)
 clear h3 k3
 go_wp2
 go_end0
 exact⟨rfl,H3.out.1,H3.out.2⟩
end
section
variable (W0 w:World) (x:Nat) (g:Option Nat) (N st:Int) (xs:List Int) (i0 i1 i2 i3 i4 i5 i6 i7 i8 i9 i10 i11:Int) (bo:Option Addr) (bn bc:Nat) (b:Nat) (ov:Value) (ps:Int) (dn:Value)
theorem Zai (h:CT W0 w x g N st xs i0 i1 i2 i3 i4 i5 i6 i7 i8 i9 i10 i11 (.slice bo bn bc) b ov ps dn) (h0:i8<0) (n8 p:Int) (h8:wrap64 (i8+1)=n8) (hp:(if i11<ps then 20 else 40)=p):
 Calls Tryz.prog 126 #[.pointer (some ⟨x,0,none⟩)] w fun e w'=>e= .returned (.tuple #[])/\CT W0 w' x g N st xs i0 p i2 i3 i4 i5 i6 i7 n8 i9 i10 i11 (.slice bo bn bc) b ov ps dn/\Z01 (FX b g x) w w':=by
 obtain⟨⟨c0,c1,c2,c3,c4,c5,c6,c7,c8,c9,c10,c11,c12,c13,c14,c15,c16⟩,-,cx⟩:=h.open
 have H:=Hd h
 have HI:=Hd h0
 clear h0
 have hw:IntKind.i64.wrap (i8+1)=n8:=by rw[<-h8,IntKind.wrap_i64];unfold wrap64;omega
 have HP:=Hd hp
 clear h8 hp
 clear h
 go_enter Tryz.func126,Tryz.ntmps126
 go_wp2_with fail
 refine(Z3l W0 w x g N st xs i0 i1 i2 i3 i4 i5 i6 i7 i8 i9 i10 i11 bo bn bc b ov ps dn H.out HI.out).mono ?_
 rintro e w1 ⟨rfl,hb1⟩
 have h1:=(H.out.below hb1)
 have f8:=Z06 h1.blk 8
 obtain⟨⟨e0,e1,e2,e3,e4,e5,e6,e7,e8,e9,e10,e11,e12,e13,e14,e15,e16⟩,-,ex⟩:=h1.open
 clear c0 c1 c2 c3 c4 c5 c6 c7 c8 c9 c10 c11 c12 c13 c14 c15 c16
 have H1:=hi2 h1 (Z0b (F:=FX b g x) hb1)
 clear h1 hb1
 obtain⟨W5,hW5⟩:∃W5,w1.setCell ⟨x,8,none⟩ (.int .i64 n8)=W5:=⟨_,rfl⟩
 have h5:=H1.out.1.set8 n8
 rw[hW5]at h5
 have k5:Z01 (FX b g x) w W5:=by rw[<-hW5];exact H1.out.2.trans (kx _ _ _ _ _ _)
 obtain⟨⟨d0,d1,d2,d3,d4,d5,d6,d7,d8,d9,d10,d11,d12,d13,d14,d15,d16⟩,-,dx⟩:=h5.open
 have H5:=hi2 h5 k5
 clear h5 k5
 by_cases h11:i11<ps
 ·have hd:decide (i11<ps)=true:=decide_eq_true h11
  have e1:=HP.out
  rw[if_pos h11]at e1
  have E1:=Hd e1
  clear e1
  go_wp2_with fail
  go_quiet (fail)
  have h6:=H5.out.1.below (below_drewN (Brf _ _) nq)
  have g1:=Z06 h6.blk 1
  have k6:=H5.out.2.trans (Z0b (F:=FX b g x) (below_drewN (Brf _ _) nq))
  clear d0 d1 d2 d3 d4 d5 d6 d7 d8 d9 d10 d11 d12 d13 d14 d15 d16
  obtain⟨⟨q0,q1,q2,q3,q4,q5,q6,q7,q8,q9,q10,q11,q12,q13,q14,q15,q16⟩,-,qx⟩:=h6.open
  have H6:=hi2 h6 k6
  clear h6 k6
  go_wp2
  go_end0
  exact⟨rfl,by rw[<-E1.out];exact H6.out.1.set1 20,H6.out.2.trans (kx _ _ _ _ _ _)⟩
 ·have hd:decide (i11<ps)=false:=decide_eq_false h11
  have e1:=HP.out
  rw[if_neg h11]at e1
  have E1:=Hd e1
  clear e1
  go_wp2_with fail
  go_quiet (fail)
  have h6:=H5.out.1.below (below_drewN (Brf _ _) nq)
  have g1:=Z06 h6.blk 1
  have k6:=H5.out.2.trans (Z0b (F:=FX b g x) (below_drewN (Brf _ _) nq))
  clear d0 d1 d2 d3 d4 d5 d6 d7 d8 d9 d10 d11 d12 d13 d14 d15 d16
  obtain⟨⟨q0,q1,q2,q3,q4,q5,q6,q7,q8,q9,q10,q11,q12,q13,q14,q15,q16⟩,-,qx⟩:=h6.open
  have H6:=hi2 h6 k6
  clear h6 k6
  go_wp2
  go_end0
  exact⟨rfl,by rw[<-E1.out];exact H6.out.1.set1 40,H6.out.2.trans (kx _ _ _ _ _ _)⟩
theorem Zaj (h:CT W0 w x g N st xs i0 i1 i2 i3 i4 i5 i6 i7 i8 i9 i10 i11 (.slice bo bn bc) b ov ps dn) (h0:0<=i8) (h1:(bn:Int)<=i8) (n8 p:Int) (h8:wrap64 (i8+1)=n8) (hp:(if i11<ps then 20 else 40)=p):
 Calls Tryz.prog 126 #[.pointer (some ⟨x,0,none⟩)] w fun e w'=>e= .returned (.tuple #[])/\CT W0 w' x g N st xs i0 p i2 i3 i4 i5 i6 i7 n8 i9 i10 i11 (.slice bo bn bc) b ov ps dn/\Z01 (FX b g x) w w':=by
 obtain⟨⟨c0,c1,c2,c3,c4,c5,c6,c7,c8,c9,c10,c11,c12,c13,c14,c15,c16⟩,-,cx⟩:=h.open
 have H:=Hd h
 have HI:=hi2 h0 h1
 clear h0 h1
 have hw:IntKind.i64.wrap (i8+1)=n8:=by rw[<-h8,IntKind.wrap_i64];unfold wrap64;omega
 have HP:=Hd hp
 clear h8 hp
 clear h
 go_enter Tryz.func126,Tryz.ntmps126
 go_wp2_with fail
 refine(Z2u W0 w x g N st xs i0 i1 i2 i3 i4 i5 i6 i7 i8 i9 i10 i11 bo bn bc b ov ps dn H.out HI.out.1 HI.out.2).mono ?_
 rintro e w1 ⟨rfl,hb1⟩
 have h1:=(H.out.below hb1)
 have f8:=Z06 h1.blk 8
 obtain⟨⟨e0,e1,e2,e3,e4,e5,e6,e7,e8,e9,e10,e11,e12,e13,e14,e15,e16⟩,-,ex⟩:=h1.open
 clear c0 c1 c2 c3 c4 c5 c6 c7 c8 c9 c10 c11 c12 c13 c14 c15 c16
 have H1:=hi2 h1 (Z0b (F:=FX b g x) hb1)
 clear h1 hb1
 obtain⟨W5,hW5⟩:∃W5,w1.setCell ⟨x,8,none⟩ (.int .i64 n8)=W5:=⟨_,rfl⟩
 have h5:=H1.out.1.set8 n8
 rw[hW5]at h5
 have k5:Z01 (FX b g x) w W5:=by rw[<-hW5];exact H1.out.2.trans (kx _ _ _ _ _ _)
 obtain⟨⟨d0,d1,d2,d3,d4,d5,d6,d7,d8,d9,d10,d11,d12,d13,d14,d15,d16⟩,-,dx⟩:=h5.open
 have H5:=hi2 h5 k5
 clear h5 k5
 by_cases h11:i11<ps
 ·have hd:decide (i11<ps)=true:=decide_eq_true h11
  have e1:=HP.out
  rw[if_pos h11]at e1
  have E1:=Hd e1
  clear e1
  go_wp2_with fail
  go_quiet (fail)
  have h6:=H5.out.1.below (below_drewN (Brf _ _) nq)
  have g1:=Z06 h6.blk 1
  have k6:=H5.out.2.trans (Z0b (F:=FX b g x) (below_drewN (Brf _ _) nq))
  clear d0 d1 d2 d3 d4 d5 d6 d7 d8 d9 d10 d11 d12 d13 d14 d15 d16
  obtain⟨⟨q0,q1,q2,q3,q4,q5,q6,q7,q8,q9,q10,q11,q12,q13,q14,q15,q16⟩,-,qx⟩:=h6.open
  have H6:=hi2 h6 k6
  clear h6 k6
  go_wp2
  go_end0
  exact⟨rfl,by rw[<-E1.out];exact H6.out.1.set1 20,H6.out.2.trans (kx _ _ _ _ _ _)⟩
 ·have hd:decide (i11<ps)=false:=decide_eq_false h11
  have e1:=HP.out
  rw[if_neg h11]at e1
  have E1:=Hd e1
  clear e1
  go_wp2_with fail
  go_quiet (fail)
  have h6:=H5.out.1.below (below_drewN (Brf _ _) nq)
  have g1:=Z06 h6.blk 1
  have k6:=H5.out.2.trans (Z0b (F:=FX b g x) (below_drewN (Brf _ _) nq))
  clear d0 d1 d2 d3 d4 d5 d6 d7 d8 d9 d10 d11 d12 d13 d14 d15 d16
  obtain⟨⟨q0,q1,q2,q3,q4,q5,q6,q7,q8,q9,q10,q11,q12,q13,q14,q15,q16⟩,-,qx⟩:=h6.open
  have H6:=hi2 h6 k6
  clear h6 k6
  go_wp2
  go_end0
  exact⟨rfl,by rw[<-E1.out];exact H6.out.1.set1 40,H6.out.2.trans (kx _ _ _ _ _ _)⟩
theorem Ze2 (h:CT W0 w x g N st xs i0 i1 i2 i3 i4 i5 i6 i7 i8 i9 i10 i11 (.slice bo bn bc) b ov ps dn) (bb off k o3:Nat) (hb:bo=some ⟨bb,off,none⟩) (hk:i8=(k:Int)) (h1:k<bn) (ho:off+k*3=o3) (hF:¬Z18 b g bb) (r:Int) (hr:w.cell? ⟨bb,o3,none⟩=some (.int .i64 r)) (p:Int) (hbn:bn<=1000000) (hp:(if k+1<bn then 37 else if i11<ps then 20 else 40)=p) (s1:st<1000000):
 Calls Tryz.prog 126 #[.pointer (some ⟨x,0,none⟩)] w fun e w'=>e= .returned (.tuple #[])/\CT W0 w' x g N (st+Z0h xs (wrap64 r)) (Z0j xs (wrap64 r) 0) i0 p i2 i3 i4 i5 i6 i7 ((k:Int)+1) i9 i10 i11 (.slice bo bn bc) b ov ps dn/\Z01 (FX b g x) w w':=by
 obtain⟨⟨c0,c1,c2,c3,c4,c5,c6,c7,c8,c9,c10,c11,c12,c13,c14,c15,c16⟩,-,cx⟩:=h.open
 have H:=Hd h
 have HI:=hi5 hb hk h1 ho hF
 clear hb hk h1 ho hF
 have HP:=hi2 hbn hp
 clear hbn hp
 clear h
 go_enter Tryz.func126,Tryz.ntmps126
 go_wp2_with fail
 refine(Z40 W0 w x g N st xs i0 i1 i2 i3 i4 i5 i6 i7 i8 i9 i10 i11 bo bn bc b ov ps dn H.out bb off k HI.out.1 HI.out.2.1 HI.out.2.2.1).mono ?_
 rintro e w1 ⟨rfl,hb1⟩
 rw[HI.out.2.2.2.1]
 have h1:=H.out.below hb1
 have hbb:=Blt w _ hr
 have r1:=(hb1.cell (p:=⟨bb,o3,none⟩) hbb).trans hr
 obtain⟨⟨d0,d1,d2,d3,d4,d5,d6,d7,d8,d9,d10,d11,d12,d13,d14,d15,d16⟩,-,dx⟩:=h1.open
 clear c0 c1 c2 c3 c4 c5 c6 c7 c8 c9 c10 c11 c12 c13 c14 c15 c16 hr
 have hw:IntKind.i64.wrap r=wrap64 r:=by rw[IntKind.wrap_i64];unfold wrap64;omega
 have hw1:IntKind.i64.wrap ((k:Int)+1)=(k:Int)+1:=I6n _ (by have:=HI.out.2.2.1;have:=HP.out.1;omega)
 have HD:=hi2 h1.drew (show Z01 (FX b g x) w w1.drew from Z0b hb1.drew)
 have hbw:bb<w1.drew.heap.size:=Nlt hbb hb1.size
 have hbv:bb<w1.heap.size:=Nlt hbb hb1.size
 have s1':=((Brf w1.heap.size w1).drew.cell (p:=⟨bb,o3,none⟩) hbv).trans r1
 clear h1 hb1
 have hik:=HI.out.2.1
 subst hik
 go_wp2_with fail
 go_region_held3 (fun wz=>wz.cell? ⟨x,13,none⟩=some (.pointer (some ⟨b,0,none⟩))/\wz.cell? ⟨bb,o3,none⟩=some (.int .i64 r))
  (first|(exact⟨d13,r1⟩)|(exact⟨e13,q1⟩))
  (first|(go_at_call 90;go_split_ands;with_reducible refine Go.Calls.mono (Z2n HD.out.1.ms (wrap64 r) 0 s1) ?_;rintro e w3 ⟨rfl,m3,k3⟩;have h3:=HD.out.1.mem m3 k3 (by have:=HD.out.1.st0;have:=Z0f xs (wrap64 r);omega);obtain⟨⟨e0,e1,e2,e3,e4,e5,e6,e7,e8,e9,e10,e11,e12,e13,e14,e15,e16⟩,-,ex⟩:=h3.open;have q1:=(k3.cell (p:=⟨bb,o3,none⟩) hbw HI.out.2.2.2.2).trans s1';have H3:=hi2 h3 k3;clear h3 k3 m3))
 all_goals
  by_cases hlt:k+1<bn
  ·have e1':=HP.out.2
   rw[if_pos hlt]at e1'
   have E1:=Hd e1'
   clear e1'
   have f8:=Z06 H3.out.1.blk 8
   have hA:=H3.out.1.set8 ((k:Int)+1)
   go_wp2_with fail
   refine(Z40 W0 _ x g N (st+Z0h xs (wrap64 r)) (Z0j xs (wrap64 r) 0) i0 i1 i2 i3 i4 i5 i6 i7 ((k:Int)+1) i9 i10 i11 bo bn bc b ov ps dn hA bb off (k+1) HI.out.1 (by omega) hlt).mono ?_
   rintro e w4 ⟨rfl,hb4⟩
   have h4:=hA.below hb4
   have k4:Z01 (FX b g x) w w4:=((HD.out.2.trans (kxF H3.out.2)).trans (kx _ _ _ _ _ _)).trans (Z0b hb4)
   clear e0 e1 e2 e3 e4 e5 e6 e7 e8 e9 e10 e11 e12 e13 e14 e15 e16 d0 d1 d2 d3 d4 d5 d6 d7 d8 d9 d10 d11 d12 d13 d14 d15 d16 f8 hA hb4
   have g1:=Z06 h4.blk 1
   obtain⟨⟨q0,q1,q2,q3,q4,q5,q6,q7,q8,q9,q10,q11,q12,q13,q14,q15,q16⟩,-,qx⟩:=h4.open
   have H4:=hi2 h4 k4
   clear h4 k4
   go_wp2_with fail
   go_end0
   exact⟨rfl,by rw[<-E1.out];exact H4.out.1.set1 37,H4.out.2.trans (kx _ _ _ _ _ _)⟩
  ·have e1':=HP.out.2
   rw[if_neg hlt]at e1'
   replace HP:=Hd e1'
   clear e1'
   have f8:=Z06 H3.out.1.blk 8
   have hA:=H3.out.1.set8 ((k:Int)+1)
   go_wp2_with fail
   refine(Z2u W0 _ x g N (st+Z0h xs (wrap64 r)) (Z0j xs (wrap64 r) 0) i0 i1 i2 i3 i4 i5 i6 i7 ((k:Int)+1) i9 i10 i11 bo bn bc b ov ps dn hA (by omega) (by omega)).mono ?_
   rintro e w4 ⟨rfl,hb4⟩
   have h4:=hA.below hb4
   have k4:Z01 (FX b g x) w w4:=((HD.out.2.trans (kxF H3.out.2)).trans (kx _ _ _ _ _ _)).trans (Z0b hb4)
   clear e0 e1 e2 e3 e4 e5 e6 e7 e8 e9 e10 e11 e12 e13 e14 e15 e16 d0 d1 d2 d3 d4 d5 d6 d7 d8 d9 d10 d11 d12 d13 d14 d15 d16 f8 hA hb4
   obtain⟨⟨d0,d1,d2,d3,d4,d5,d6,d7,d8,d9,d10,d11,d12,d13,d14,d15,d16⟩,-,dx⟩:=h4.open
   have H5:=hi2 h4 k4
   clear h4 k4
   by_cases h11:i11<ps
   ·have hd:decide (i11<ps)=true:=decide_eq_true h11
    have e1:=HP.out
    rw[if_pos h11]at e1
    have E1:=Hd e1
    clear e1
    go_wp2_with fail
    go_quiet (fail)
    have h6:=H5.out.1.below (below_drewN (Brf _ _) nq)
    have g1:=Z06 h6.blk 1
    have k6:=H5.out.2.trans (Z0b (F:=FX b g x) (below_drewN (Brf _ _) nq))
    clear d0 d1 d2 d3 d4 d5 d6 d7 d8 d9 d10 d11 d12 d13 d14 d15 d16
    obtain⟨⟨q0,q1,q2,q3,q4,q5,q6,q7,q8,q9,q10,q11,q12,q13,q14,q15,q16⟩,-,qx⟩:=h6.open
    have H6:=hi2 h6 k6
    clear h6 k6
    go_wp2
    go_end0
    exact⟨rfl,by rw[<-E1.out];exact H6.out.1.set1 20,H6.out.2.trans (kx _ _ _ _ _ _)⟩
   ·have hd:decide (i11<ps)=false:=decide_eq_false h11
    have e1:=HP.out
    rw[if_neg h11]at e1
    have E1:=Hd e1
    clear e1
    go_wp2_with fail
    go_quiet (fail)
    have h6:=H5.out.1.below (below_drewN (Brf _ _) nq)
    have g1:=Z06 h6.blk 1
    have k6:=H5.out.2.trans (Z0b (F:=FX b g x) (below_drewN (Brf _ _) nq))
    clear d0 d1 d2 d3 d4 d5 d6 d7 d8 d9 d10 d11 d12 d13 d14 d15 d16
    obtain⟨⟨q0,q1,q2,q3,q4,q5,q6,q7,q8,q9,q10,q11,q12,q13,q14,q15,q16⟩,-,qx⟩:=h6.open
    have H6:=hi2 h6 k6
    clear h6 k6
    go_wp2
    go_end0
    exact⟨rfl,by rw[<-E1.out];exact H6.out.1.set1 40,H6.out.2.trans (kx _ _ _ _ _ _)⟩
end
section
variable (w:World) (i0 i1 i2 i3 i4 i5 i6 i7 i8 i9 i10 i11 k v:Int) (bt:Value) (n:Nat) (F:Nat->Int)
theorem Zke (hI:Its w bt n F) (hn:n<=1000000) (k1:0<=k) (k2:k<=255) (v1: -2147483648<=v) (v2:v<=2147483647) (h1:(i1 != 0)=true):
 Calls Tryz.prog 61 #[.agg #[.int .i64 i0,.int .i64 i1,.int .i64 i2,.int .i64 i3,.int .i64 i4,.int .i64 i5,.int .i64 i6,.int .i64 i7,.int .i64 i8,.int .i64 i9,.int .i64 i10,.int .i64 i11,bt],.agg #[.int .u8 k,.int .i32 v]] w fun e w'=>∃bt',e= .returned (.tuple #[.agg #[.int .i64 i0,.int .i64 i1,.int .i64 i2,.int .i64 i3,.int .i64 i4,.int .i64 i5,.int .i64 i6,.int .i64 i7,.int .i64 i8,.int .i64 i9,.int .i64 i10,.int .i64 i11,bt'],.bool false])/\IRw w' bt' n F/\(∀t,bt'.ownBlock=some t->w.heap.size<=t)/\Below w.heap.size w w':=by
 have HI:=Hd hI
 obtain⟨ao,cap,hbt,-⟩:=id hI
 subst hbt
 clear hI
 go_enter Tryz.func61,Tryz.ntmps61
 go_wp2_with fail
 refine(Z1d (.slice ao n cap) n F _ (HI.out.below (by go_grown)) hn).mono ?_
 rintro e w1 ⟨bt',rfl,hI1,hb1,ho1⟩
 obtain⟨ao',cap',hbt'⟩:=Z03 hI1
 subst hbt'
 have z1:w.heap.size+2<w1.heap.size:=by have:=hb1.size;first|omega|(simp at this;omega)
 have B5:w1.heap[w.heap.size]?=some (.cells #[.int .i64 i0,.int .i64 i1,.int .i64 i2,.int .i64 i3,.int .i64 i4,.int .i64 i5,.int .i64 i6,.int .i64 i7,.int .i64 i8,.int .i64 i9,.int .i64 i10,.int .i64 i11,.slice ao n cap] 86 (0,0)):=(hb1.block w.heap.size (by first|omega|(simp;omega)|(simp;done))).trans (Z0x _ _ _ _).1
 have B6:w1.heap[w.heap.size+1]?=some (.cells #[.int .u8 k,.int .i32 v] 47 (0,0)):=(hb1.block (w.heap.size+1) (by first|omega|(simp;omega)|(simp;done))).trans (Z0x _ _ _ _).2.1
 have B7:w1.heap[w.heap.size+2]?=some (.cells #[.int .i64 0,.int .i64 0,.int .i64 0,.int .i64 0,.int .i64 0,.int .i64 0,.int .i64 0,.int .i64 0,.int .i64 0,.int .i64 0,.int .i64 0,.int .i64 0,.slice none 0 0] 86 (0,0)):=(hb1.block (w.heap.size+2) (by first|omega|(simp;omega)|(simp;done))).trans (Z0x _ _ _ _).2.2
 have BW:Below w.heap.size w w1:=Below.trans (by go_grown) (hb1.mono (by first|omega|(simp;omega)|(simp;done)))
 obtain⟨⟨c0,c1,c2,c3,c4,c5,c6,c7,c8,c9,c10,c11,c12⟩,z0⟩:=Z1r B5
 have f12:=Z06 B5 12
 have ho2:∀k,(Value.slice ao' n cap').ownBlock=some k->w.heap.size+3<=k/\k<w1.heap.size:=fun k hk=>⟨by have:=(ho1 k hk).1;simp at this;omega,(ho1 k hk).2⟩
 have H1:=hi6 hI1 BW ho2 B5 B6 B7
 obtain⟨⟨d0,d1,d2,d3,d4,d5,d6,d7,d8,d9,d10,d11,d12⟩,-⟩:=Z1r B7
 have fc0:=Z06 B7 0;have fc1:=Z06 B7 1;have fc2:=Z06 B7 2;have fc3:=Z06 B7 3;have fc4:=Z06 B7 4;have fc5:=Z06 B7 5;have fc6:=Z06 B7 6;have fc7:=Z06 B7 7;have fc8:=Z06 B7 8;have fc9:=Z06 B7 9;have fc10:=Z06 B7 10;have fc11:=Z06 B7 11;have fc12:=Z06 B7 12
 clear hb1 hI1 BW ho1 ho2 B5 B6 B7
 go_wp2
 generalize hw7:World.setCell _ _ _=w7
 have K2:=(Z01.refl (fun k=>k=w.heap.size) w1).setCell (p:=⟨w.heap.size,12,none⟩) (fun _=>rfl) (.slice ao' n cap')
 have E:w7.heap[w.heap.size+2]?=some (.cells #[.int .i64 i0,.int .i64 i1,.int .i64 i2,.int .i64 i3,.int .i64 i4,.int .i64 i5,.int .i64 i6,.int .i64 i7,.int .i64 i8,.int .i64 i9,.int .i64 i10,.int .i64 i11,.slice ao' n cap'] 86 (0,0))/\Z01 (fun k=>k=w.heap.size\/k=w.heap.size+2) w1 w7:=by
  rw[<-hw7]
  exact⟨Zbb ((K2.block (w.heap.size+2) z1 (by omega)).trans H1.out.2.2.2.2.2) rfl,(K2.mono (fun _ _ e=>.inl e)).trans ((Z26 _ _ _ _ _ _ _ _ _ _ _ _ _ _ _).mono (fun _ _ e=>.inr e))⟩
 obtain⟨E1,KE⟩:=E
 obtain⟨⟨r0,r1,r2,r3,r4,r5,r6,r7,r8,r9,r10,r11,r12⟩,-⟩:=Z1r E1
 have hW:=H1.out.2.1.size
 refine bodyPost_ret (v:=.tuple #[.agg #[.int .i64 i0,.int .i64 i1,.int .i64 i2,.int .i64 i3,.int .i64 i4,.int .i64 i5,.int .i64 i6,.int .i64 i7,.int .i64 i8,.int .i64 i9,.int .i64 i10,.int .i64 i11,.slice ao' n cap'],.bool false]) (by simp[results,Tryz.results61,go_sem,r0,r1,r2,r3,r4,r5,r6,r7,r8,r9,r10,r11,r12]) rfl ⟨_,rfl,?_,?_,?_⟩
 ·exact Z04 H1.out.1 KE (fun k hk e=>by have:=H1.out.2.2.1 k hk;omega)
 ·exact fun t ht=>by have:=(H1.out.2.2.1 t ht).1;omega
 ·exact H1.out.2.1.trans (KE.below hW (fun k hk e=>by omega))
theorem Zkf (hI:Its w bt n F) (hn:n<=1000000) (k1:0<=k) (k2:k<=255) (v1: -2147483648<=v) (v2:v<=2147483647) (h1:(i1 != 0)=false) (h2:(i2 != 0)=false):
 Calls Tryz.prog 61 #[.agg #[.int .i64 i0,.int .i64 i1,.int .i64 i2,.int .i64 i3,.int .i64 i4,.int .i64 i5,.int .i64 i6,.int .i64 i7,.int .i64 i8,.int .i64 i9,.int .i64 i10,.int .i64 i11,bt],.agg #[.int .u8 k,.int .i32 v]] w fun e w'=>∃bt',e= .returned (.tuple #[.agg #[.int .i64 i0,.int .i64 1,.int .i64 i2,.int .i64 (wrap64 (i3+1)),.int .i64 (Z0o k v),.int .i64 i5,.int .i64 i6,.int .i64 i7,.int .i64 i8,.int .i64 i9,.int .i64 i10,.int .i64 i11,bt'],.bool true])/\IRw w' bt' n F/\(∀t,bt'.ownBlock=some t->w.heap.size<=t)/\Below w.heap.size w w':=by
 have HI:=Hd hI
 obtain⟨ao,cap,hbt,-⟩:=id hI
 subst hbt
 clear hI
 go_enter Tryz.func61,Tryz.ntmps61
 go_wp2_with fail
 refine(Z1d (.slice ao n cap) n F _ (HI.out.below (by go_grown)) hn).mono ?_
 rintro e w1 ⟨bt',rfl,hI1,hb1,ho1⟩
 obtain⟨ao',cap',hbt'⟩:=Z03 hI1
 subst hbt'
 have z1:w.heap.size+2<w1.heap.size:=by have:=hb1.size;first|omega|(simp at this;omega)
 have B5:w1.heap[w.heap.size]?=some (.cells #[.int .i64 i0,.int .i64 i1,.int .i64 i2,.int .i64 i3,.int .i64 i4,.int .i64 i5,.int .i64 i6,.int .i64 i7,.int .i64 i8,.int .i64 i9,.int .i64 i10,.int .i64 i11,.slice ao n cap] 86 (0,0)):=(hb1.block w.heap.size (by first|omega|(simp;omega)|(simp;done))).trans (Z0x _ _ _ _).1
 have B6:w1.heap[w.heap.size+1]?=some (.cells #[.int .u8 k,.int .i32 v] 47 (0,0)):=(hb1.block (w.heap.size+1) (by first|omega|(simp;omega)|(simp;done))).trans (Z0x _ _ _ _).2.1
 have B7:w1.heap[w.heap.size+2]?=some (.cells #[.int .i64 0,.int .i64 0,.int .i64 0,.int .i64 0,.int .i64 0,.int .i64 0,.int .i64 0,.int .i64 0,.int .i64 0,.int .i64 0,.int .i64 0,.int .i64 0,.slice none 0 0] 86 (0,0)):=(hb1.block (w.heap.size+2) (by first|omega|(simp;omega)|(simp;done))).trans (Z0x _ _ _ _).2.2
 have BW:Below w.heap.size w w1:=Below.trans (by go_grown) (hb1.mono (by first|omega|(simp;omega)|(simp;done)))
 obtain⟨⟨c0,c1,c2,c3,c4,c5,c6,c7,c8,c9,c10,c11,c12⟩,z0⟩:=Z1r B5
 have f12:=Z06 B5 12
 have ho2:∀k,(Value.slice ao' n cap').ownBlock=some k->w.heap.size+3<=k/\k<w1.heap.size:=fun k hk=>⟨by have:=(ho1 k hk).1;simp at this;omega,(ho1 k hk).2⟩
 have H1:=hi6 hI1 BW ho2 B5 B6 B7
 obtain⟨⟨k0,k9⟩,-⟩:=Z0g B6
 clear hb1 hI1 BW ho1 ho2 B5 B6 B7
 go_wp2_with fail
 generalize hw2:World.setCell _ _ _=w2
 have K2:Z01 (fun k=>k=w.heap.size\/k=w.heap.size+2) w1 w2:=by rw[<-hw2];exact(Z01.refl (fun k=>k=w.heap.size\/k=w.heap.size+2) w1).setCell (p:=⟨w.heap.size,12,none⟩) (fun _=>.inl rfl) _
 have D5:w2.heap[w.heap.size]?=some (.cells #[.int .i64 i0,.int .i64 i1,.int .i64 i2,.int .i64 i3,.int .i64 i4,.int .i64 i5,.int .i64 i6,.int .i64 i7,.int .i64 i8,.int .i64 i9,.int .i64 i10,.int .i64 i11,.slice ao' n cap'] 86 (0,0)):=by rw[<-hw2];rw[Z00 H1.out.2.2.2.1];rfl
 have D7:w2.heap[w.heap.size+2]?=some (.cells #[.int .i64 0,.int .i64 0,.int .i64 0,.int .i64 0,.int .i64 0,.int .i64 0,.int .i64 0,.int .i64 0,.int .i64 0,.int .i64 0,.int .i64 0,.int .i64 0,.slice none 0 0] 86 (0,0)):=by rw[<-hw2];exact(Z01.block ((Z01.refl (fun k=>k=w.heap.size) w1).setCell (p:=⟨w.heap.size,12,none⟩) (fun _=>rfl) _) (w.heap.size+2) z1 (by omega)).trans H1.out.2.2.2.2.2
 have z2:w.heap.size+2<w2.heap.size:=Nlt z1 K2.size
 clear hw2 c0 c1 c2 c3 c4 c5 c6 c7 c8 c9 c10 c11 c12 f12 k0 k9
 refine(Zex k v w2 k1 k2 v1 v2).mono ?_
 rintro e w3 ⟨rfl,hb3⟩
 have G5:=(hb3.block w.heap.size (by omega)).trans D5
 have G7:=(hb3.block (w.heap.size+2) (by omega)).trans D7
 have KS:Z01 (fun k=>k=w.heap.size\/k=w.heap.size+2) w1 w3:=K2.trans (Z0b hb3)
 obtain⟨⟨c0,c1,c2,c3,c4,c5,c6,c7,c8,c9,c10,c11,c12⟩,z3⟩:=Z1r G5
 obtain⟨⟨d0,d1,d2,d3,d4,d5,d6,d7,d8,d9,d10,d11,d12⟩,z4⟩:=Z1r G7
 have f1:=Z06 G5 1
 have f3:=Z06 G5 3
 have f4:=Z06 G5 4
 have fc0:=Z06 G7 0;have fc1:=Z06 G7 1;have fc2:=Z06 G7 2;have fc3:=Z06 G7 3;have fc4:=Z06 G7 4;have fc5:=Z06 G7 5;have fc6:=Z06 G7 6;have fc7:=Z06 G7 7;have fc8:=Z06 G7 8;have fc9:=Z06 G7 9;have fc10:=Z06 G7 10;have fc11:=Z06 G7 11;have fc12:=Z06 G7 12
 have HG:=hi3 G7 KS G5
 clear hb3 D5 D7 K2 G5 G7 KS d0 d1 d2 d3 d4 d5 d6 d7 d8 d9 d10 d11 d12 fc0 fc1 fc2 fc3 fc4 fc5 fc6 fc7 fc8 fc9 fc10 fc11 fc12
 go_upto_region 9 with fail
 generalize hw4:World.setCell _ _ _=w4
 have KQ:=(((Z01.refl (fun k=>k=w.heap.size) w3).setCell (p:=⟨w.heap.size,4,none⟩) (fun _=>rfl) (.int .i64 (Z0o k v))).setCell (p:=⟨w.heap.size,3,none⟩) (fun _=>rfl) (.int .i64 (wrap64 (i3+1)))).setCell (p:=⟨w.heap.size,1,none⟩) (fun _=>rfl) (.int .i64 1)
 have E5:w4.heap[w.heap.size]?=some (.cells #[.int .i64 i0,.int .i64 1,.int .i64 i2,.int .i64 (wrap64 (i3+1)),.int .i64 (Z0o k v),.int .i64 i5,.int .i64 i6,.int .i64 i7,.int .i64 i8,.int .i64 i9,.int .i64 i10,.int .i64 i11,.slice ao' n cap'] 86 (0,0)):=by
  rw[<-hw4]
  have a1:(w3.setCell ⟨w.heap.size,4,none⟩ (.int .i64 (Z0o k v))).heap[w.heap.size]?=some (.cells #[.int .i64 i0,.int .i64 i1,.int .i64 i2,.int .i64 i3,.int .i64 (Z0o k v),.int .i64 i5,.int .i64 i6,.int .i64 i7,.int .i64 i8,.int .i64 i9,.int .i64 i10,.int .i64 i11,.slice ao' n cap'] 86 (0,0)):=by rw[Z00 HG.out.2.2];rfl
  have a2:((w3.setCell ⟨w.heap.size,4,none⟩ (.int .i64 (Z0o k v))).setCell ⟨w.heap.size,3,none⟩ (.int .i64 (wrap64 (i3+1)))).heap[w.heap.size]?=some (.cells #[.int .i64 i0,.int .i64 i1,.int .i64 i2,.int .i64 (wrap64 (i3+1)),.int .i64 (Z0o k v),.int .i64 i5,.int .i64 i6,.int .i64 i7,.int .i64 i8,.int .i64 i9,.int .i64 i10,.int .i64 i11,.slice ao' n cap'] 86 (0,0)):=by rw[Z00 a1];rfl
  have a3:(((w3.setCell ⟨w.heap.size,4,none⟩ (.int .i64 (Z0o k v))).setCell ⟨w.heap.size,3,none⟩ (.int .i64 (wrap64 (i3+1)))).setCell ⟨w.heap.size,1,none⟩ (.int .i64 1)).heap[w.heap.size]?=some (.cells #[.int .i64 i0,.int .i64 1,.int .i64 i2,.int .i64 (wrap64 (i3+1)),.int .i64 (Z0o k v),.int .i64 i5,.int .i64 i6,.int .i64 i7,.int .i64 i8,.int .i64 i9,.int .i64 i10,.int .i64 i11,.slice ao' n cap'] 86 (0,0)):=by rw[Z00 a2];rfl
  skip
  exact a3
 rw[hw4]at KQ
 have E7:=(KQ.block (w.heap.size+2) z4 (by omega)).trans HG.out.1
 have z5:w.heap.size+2<w4.heap.size:=(Gl E7)
 obtain⟨⟨g0,g1,g2,g3,g4,g5,g6,g7,g8,g9,g10,g11,g12⟩,-⟩:=Z1r E5
 obtain⟨⟨d0,d1,d2,d3,d4,d5,d6,d7,d8,d9,d10,d11,d12⟩,-⟩:=Z1r E7
 have fc0:=Z06 E7 0;have fc1:=Z06 E7 1;have fc2:=Z06 E7 2;have fc3:=Z06 E7 3;have fc4:=Z06 E7 4;have fc5:=Z06 E7 5;have fc6:=Z06 E7 6;have fc7:=Z06 E7 7;have fc8:=Z06 E7 8;have fc9:=Z06 E7 9;have fc10:=Z06 E7 10;have fc11:=Z06 E7 11;have fc12:=Z06 E7 12
 have HH:=hi2 E7 (HG.out.2.1.trans (KQ.mono (fun _ _ e=>.inl e)))
 clear hw4 KQ E5 E7 c0 c1 c2 c3 c4 c5 c6 c7 c8 c9 c10 c11 c12 f1 f3 f4
 go_wp2
 generalize hw7:World.setCell _ _ _=w7
 have E:w7.heap[w.heap.size+2]?=some (.cells #[.int .i64 i0,.int .i64 1,.int .i64 i2,.int .i64 (wrap64 (i3+1)),.int .i64 (Z0o k v),.int .i64 i5,.int .i64 i6,.int .i64 i7,.int .i64 i8,.int .i64 i9,.int .i64 i10,.int .i64 i11,.slice ao' n cap'] 86 (0,0))/\Z01 (fun k=>k=w.heap.size\/k=w.heap.size+2) w1 w7:=by
  rw[<-hw7]
  exact⟨Zbb HH.out.1 rfl,HH.out.2.trans ((Z26 _ _ _ _ _ _ _ _ _ _ _ _ _ _ _).mono (fun _ _ e=>.inr e))⟩
 obtain⟨E1,KE⟩:=E
 obtain⟨⟨r0,r1,r2,r3,r4,r5,r6,r7,r8,r9,r10,r11,r12⟩,-⟩:=Z1r E1
 have hW:=H1.out.2.1.size
 refine bodyPost_ret (v:=.tuple #[.agg #[.int .i64 i0,.int .i64 1,.int .i64 i2,.int .i64 (wrap64 (i3+1)),.int .i64 (Z0o k v),.int .i64 i5,.int .i64 i6,.int .i64 i7,.int .i64 i8,.int .i64 i9,.int .i64 i10,.int .i64 i11,.slice ao' n cap'],.bool true]) (by simp[results,Tryz.results61,go_sem,r0,r1,r2,r3,r4,r5,r6,r7,r8,r9,r10,r11,r12]) rfl ⟨_,rfl,?_,?_,?_⟩
 ·exact Z04 H1.out.1 KE (fun k hk e=>by have:=H1.out.2.2.1 k hk;omega)
 ·exact fun t ht=>by have:=(H1.out.2.2.1 t ht).1;omega
 ·exact H1.out.2.1.trans (KE.below hW (fun k hk e=>by omega))
theorem Zkg (hI:Its w bt n F) (hn:n<=1000000) (k1:0<=k) (k2:k<=255) (v1: -2147483648<=v) (v2:v<=2147483647) (h1:(i1 != 0)=false) (h2:(i2 != 0)=true):
 Calls Tryz.prog 61 #[.agg #[.int .i64 i0,.int .i64 i1,.int .i64 i2,.int .i64 i3,.int .i64 i4,.int .i64 i5,.int .i64 i6,.int .i64 i7,.int .i64 i8,.int .i64 i9,.int .i64 i10,.int .i64 i11,bt],.agg #[.int .u8 k,.int .i32 v]] w fun e w'=>∃bt',e= .returned (.tuple #[.agg #[.int .i64 i0,.int .i64 2,.int .i64 i2,.int .i64 (wrap64 (i3+1)),.int .i64 (Z0o k v),.int .i64 i5,.int .i64 i6,.int .i64 i7,.int .i64 i8,.int .i64 i9,.int .i64 i10,.int .i64 i11,bt'],.bool true])/\IRw w' bt' n F/\(∀t,bt'.ownBlock=some t->w.heap.size<=t)/\Below w.heap.size w w':=by
 have HI:=Hd hI
 obtain⟨ao,cap,hbt,-⟩:=id hI
 subst hbt
 clear hI
 go_enter Tryz.func61,Tryz.ntmps61
 go_wp2_with fail
 refine(Z1d (.slice ao n cap) n F _ (HI.out.below (by go_grown)) hn).mono ?_
 rintro e w1 ⟨bt',rfl,hI1,hb1,ho1⟩
 obtain⟨ao',cap',hbt'⟩:=Z03 hI1
 subst hbt'
 have z1:w.heap.size+2<w1.heap.size:=by have:=hb1.size;first|omega|(simp at this;omega)
 have B5:w1.heap[w.heap.size]?=some (.cells #[.int .i64 i0,.int .i64 i1,.int .i64 i2,.int .i64 i3,.int .i64 i4,.int .i64 i5,.int .i64 i6,.int .i64 i7,.int .i64 i8,.int .i64 i9,.int .i64 i10,.int .i64 i11,.slice ao n cap] 86 (0,0)):=(hb1.block w.heap.size (by first|omega|(simp;omega)|(simp;done))).trans (Z0x _ _ _ _).1
 have B6:w1.heap[w.heap.size+1]?=some (.cells #[.int .u8 k,.int .i32 v] 47 (0,0)):=(hb1.block (w.heap.size+1) (by first|omega|(simp;omega)|(simp;done))).trans (Z0x _ _ _ _).2.1
 have B7:w1.heap[w.heap.size+2]?=some (.cells #[.int .i64 0,.int .i64 0,.int .i64 0,.int .i64 0,.int .i64 0,.int .i64 0,.int .i64 0,.int .i64 0,.int .i64 0,.int .i64 0,.int .i64 0,.int .i64 0,.slice none 0 0] 86 (0,0)):=(hb1.block (w.heap.size+2) (by first|omega|(simp;omega)|(simp;done))).trans (Z0x _ _ _ _).2.2
 have BW:Below w.heap.size w w1:=Below.trans (by go_grown) (hb1.mono (by first|omega|(simp;omega)|(simp;done)))
 obtain⟨⟨c0,c1,c2,c3,c4,c5,c6,c7,c8,c9,c10,c11,c12⟩,z0⟩:=Z1r B5
 have f12:=Z06 B5 12
 have ho2:∀k,(Value.slice ao' n cap').ownBlock=some k->w.heap.size+3<=k/\k<w1.heap.size:=fun k hk=>⟨by have:=(ho1 k hk).1;simp at this;omega,(ho1 k hk).2⟩
 have H1:=hi6 hI1 BW ho2 B5 B6 B7
 obtain⟨⟨k0,k9⟩,-⟩:=Z0g B6
 clear hb1 hI1 BW ho1 ho2 B5 B6 B7
 go_wp2_with fail
 generalize hw2:World.setCell _ _ _=w2
 have K2:Z01 (fun k=>k=w.heap.size\/k=w.heap.size+2) w1 w2:=by rw[<-hw2];exact(Z01.refl (fun k=>k=w.heap.size\/k=w.heap.size+2) w1).setCell (p:=⟨w.heap.size,12,none⟩) (fun _=>.inl rfl) _
 have D5:w2.heap[w.heap.size]?=some (.cells #[.int .i64 i0,.int .i64 i1,.int .i64 i2,.int .i64 i3,.int .i64 i4,.int .i64 i5,.int .i64 i6,.int .i64 i7,.int .i64 i8,.int .i64 i9,.int .i64 i10,.int .i64 i11,.slice ao' n cap'] 86 (0,0)):=by rw[<-hw2];rw[Z00 H1.out.2.2.2.1];rfl
 have D7:w2.heap[w.heap.size+2]?=some (.cells #[.int .i64 0,.int .i64 0,.int .i64 0,.int .i64 0,.int .i64 0,.int .i64 0,.int .i64 0,.int .i64 0,.int .i64 0,.int .i64 0,.int .i64 0,.int .i64 0,.slice none 0 0] 86 (0,0)):=by rw[<-hw2];exact(Z01.block ((Z01.refl (fun k=>k=w.heap.size) w1).setCell (p:=⟨w.heap.size,12,none⟩) (fun _=>rfl) _) (w.heap.size+2) z1 (by omega)).trans H1.out.2.2.2.2.2
 have z2:w.heap.size+2<w2.heap.size:=Nlt z1 K2.size
 clear hw2 c0 c1 c2 c3 c4 c5 c6 c7 c8 c9 c10 c11 c12 f12 k0 k9
 refine(Zex k v w2 k1 k2 v1 v2).mono ?_
 rintro e w3 ⟨rfl,hb3⟩
 have G5:=(hb3.block w.heap.size (by omega)).trans D5
 have G7:=(hb3.block (w.heap.size+2) (by omega)).trans D7
 have KS:Z01 (fun k=>k=w.heap.size\/k=w.heap.size+2) w1 w3:=K2.trans (Z0b hb3)
 obtain⟨⟨c0,c1,c2,c3,c4,c5,c6,c7,c8,c9,c10,c11,c12⟩,z3⟩:=Z1r G5
 obtain⟨⟨d0,d1,d2,d3,d4,d5,d6,d7,d8,d9,d10,d11,d12⟩,z4⟩:=Z1r G7
 have f1:=Z06 G5 1
 have f3:=Z06 G5 3
 have f4:=Z06 G5 4
 have fc0:=Z06 G7 0;have fc1:=Z06 G7 1;have fc2:=Z06 G7 2;have fc3:=Z06 G7 3;have fc4:=Z06 G7 4;have fc5:=Z06 G7 5;have fc6:=Z06 G7 6;have fc7:=Z06 G7 7;have fc8:=Z06 G7 8;have fc9:=Z06 G7 9;have fc10:=Z06 G7 10;have fc11:=Z06 G7 11;have fc12:=Z06 G7 12
 have HG:=hi3 G7 KS G5
 clear hb3 D5 D7 K2 G5 G7 KS d0 d1 d2 d3 d4 d5 d6 d7 d8 d9 d10 d11 d12 fc0 fc1 fc2 fc3 fc4 fc5 fc6 fc7 fc8 fc9 fc10 fc11 fc12
 go_upto_region 9 with fail
 generalize hw4:World.setCell _ _ _=w4
 have KQ:=((((Z01.refl (fun k=>k=w.heap.size) w3).setCell (p:=⟨w.heap.size,4,none⟩) (fun _=>rfl) (.int .i64 (Z0o k v))).setCell (p:=⟨w.heap.size,3,none⟩) (fun _=>rfl) (.int .i64 (wrap64 (i3+1)))).setCell (p:=⟨w.heap.size,1,none⟩) (fun _=>rfl) (.int .i64 1)).setCell (p:=⟨w.heap.size,1,none⟩) (fun _=>rfl) (.int .i64 2)
 have E5:w4.heap[w.heap.size]?=some (.cells #[.int .i64 i0,.int .i64 2,.int .i64 i2,.int .i64 (wrap64 (i3+1)),.int .i64 (Z0o k v),.int .i64 i5,.int .i64 i6,.int .i64 i7,.int .i64 i8,.int .i64 i9,.int .i64 i10,.int .i64 i11,.slice ao' n cap'] 86 (0,0)):=by
  rw[<-hw4]
  have a1:(w3.setCell ⟨w.heap.size,4,none⟩ (.int .i64 (Z0o k v))).heap[w.heap.size]?=some (.cells #[.int .i64 i0,.int .i64 i1,.int .i64 i2,.int .i64 i3,.int .i64 (Z0o k v),.int .i64 i5,.int .i64 i6,.int .i64 i7,.int .i64 i8,.int .i64 i9,.int .i64 i10,.int .i64 i11,.slice ao' n cap'] 86 (0,0)):=by rw[Z00 HG.out.2.2];rfl
  have a2:((w3.setCell ⟨w.heap.size,4,none⟩ (.int .i64 (Z0o k v))).setCell ⟨w.heap.size,3,none⟩ (.int .i64 (wrap64 (i3+1)))).heap[w.heap.size]?=some (.cells #[.int .i64 i0,.int .i64 i1,.int .i64 i2,.int .i64 (wrap64 (i3+1)),.int .i64 (Z0o k v),.int .i64 i5,.int .i64 i6,.int .i64 i7,.int .i64 i8,.int .i64 i9,.int .i64 i10,.int .i64 i11,.slice ao' n cap'] 86 (0,0)):=by rw[Z00 a1];rfl
  have a3:(((w3.setCell ⟨w.heap.size,4,none⟩ (.int .i64 (Z0o k v))).setCell ⟨w.heap.size,3,none⟩ (.int .i64 (wrap64 (i3+1)))).setCell ⟨w.heap.size,1,none⟩ (.int .i64 1)).heap[w.heap.size]?=some (.cells #[.int .i64 i0,.int .i64 1,.int .i64 i2,.int .i64 (wrap64 (i3+1)),.int .i64 (Z0o k v),.int .i64 i5,.int .i64 i6,.int .i64 i7,.int .i64 i8,.int .i64 i9,.int .i64 i10,.int .i64 i11,.slice ao' n cap'] 86 (0,0)):=by rw[Z00 a2];rfl
  have a4:((((w3.setCell ⟨w.heap.size,4,none⟩ (.int .i64 (Z0o k v))).setCell ⟨w.heap.size,3,none⟩ (.int .i64 (wrap64 (i3+1)))).setCell ⟨w.heap.size,1,none⟩ (.int .i64 1)).setCell ⟨w.heap.size,1,none⟩ (.int .i64 2)).heap[w.heap.size]?=some (.cells #[.int .i64 i0,.int .i64 2,.int .i64 i2,.int .i64 (wrap64 (i3+1)),.int .i64 (Z0o k v),.int .i64 i5,.int .i64 i6,.int .i64 i7,.int .i64 i8,.int .i64 i9,.int .i64 i10,.int .i64 i11,.slice ao' n cap'] 86 (0,0)):=by rw[Z00 a3];rfl
  exact a4
 rw[hw4]at KQ
 have E7:=(KQ.block (w.heap.size+2) z4 (by omega)).trans HG.out.1
 have z5:w.heap.size+2<w4.heap.size:=(Gl E7)
 obtain⟨⟨g0,g1,g2,g3,g4,g5,g6,g7,g8,g9,g10,g11,g12⟩,-⟩:=Z1r E5
 obtain⟨⟨d0,d1,d2,d3,d4,d5,d6,d7,d8,d9,d10,d11,d12⟩,-⟩:=Z1r E7
 have fc0:=Z06 E7 0;have fc1:=Z06 E7 1;have fc2:=Z06 E7 2;have fc3:=Z06 E7 3;have fc4:=Z06 E7 4;have fc5:=Z06 E7 5;have fc6:=Z06 E7 6;have fc7:=Z06 E7 7;have fc8:=Z06 E7 8;have fc9:=Z06 E7 9;have fc10:=Z06 E7 10;have fc11:=Z06 E7 11;have fc12:=Z06 E7 12
 have HH:=hi2 E7 (HG.out.2.1.trans (KQ.mono (fun _ _ e=>.inl e)))
 clear hw4 KQ E5 E7 c0 c1 c2 c3 c4 c5 c6 c7 c8 c9 c10 c11 c12 f1 f3 f4
 go_wp2
 generalize hw7:World.setCell _ _ _=w7
 have E:w7.heap[w.heap.size+2]?=some (.cells #[.int .i64 i0,.int .i64 2,.int .i64 i2,.int .i64 (wrap64 (i3+1)),.int .i64 (Z0o k v),.int .i64 i5,.int .i64 i6,.int .i64 i7,.int .i64 i8,.int .i64 i9,.int .i64 i10,.int .i64 i11,.slice ao' n cap'] 86 (0,0))/\Z01 (fun k=>k=w.heap.size\/k=w.heap.size+2) w1 w7:=by
  rw[<-hw7]
  exact⟨Zbb HH.out.1 rfl,HH.out.2.trans ((Z26 _ _ _ _ _ _ _ _ _ _ _ _ _ _ _).mono (fun _ _ e=>.inr e))⟩
 obtain⟨E1,KE⟩:=E
 obtain⟨⟨r0,r1,r2,r3,r4,r5,r6,r7,r8,r9,r10,r11,r12⟩,-⟩:=Z1r E1
 have hW:=H1.out.2.1.size
 refine bodyPost_ret (v:=.tuple #[.agg #[.int .i64 i0,.int .i64 2,.int .i64 i2,.int .i64 (wrap64 (i3+1)),.int .i64 (Z0o k v),.int .i64 i5,.int .i64 i6,.int .i64 i7,.int .i64 i8,.int .i64 i9,.int .i64 i10,.int .i64 i11,.slice ao' n cap'],.bool true]) (by simp[results,Tryz.results61,go_sem,r0,r1,r2,r3,r4,r5,r6,r7,r8,r9,r10,r11,r12]) rfl ⟨_,rfl,?_,?_,?_⟩
 ·exact Z04 H1.out.1 KE (fun k hk e=>by have:=H1.out.2.2.1 k hk;omega)
 ·exact fun t ht=>by have:=(H1.out.2.2.1 t ht).1;omega
 ·exact H1.out.2.1.trans (KE.below hW (fun k hk e=>by omega))
end
section
variable (W0 w0 w:World) (x:Nat) (g:Option Nat) (N st:Int) (xs:List Int)
theorem Zh5 (i0 i1 i2 i3 i4 i5 i6 i7 i8 i9 i10 i11:Int) (bt:Value) (b:Nat) (age:Int) (v:Int) (h:TW W0 w0 w x g N st xs i0 40 i2 i3 i4 i5 i6 i7 i8 i9 i10 i11 bt b age) (hv:cellAt xs (1)=v) (s1:st<1000000) (h0:(v == 0)=true):
 Calls Tryz.prog 86 #[.pointer (some ⟨x,0,none⟩)] w fun e w'=>e= .returned (.tuple #[])/\TW W0 w0 w' x g N (st+Z0h xs (1)) xs i0 48 i2 i3 i4 v i6 i7 i8 i9 i10 i11 bt b age:=by
 obtain⟨⟨c0,c1,c2,c3,c4,c5,c6,c7,c8,c9,c10,c11,c12,c13,c14⟩,hf,hx⟩:=h.turn.open
 have H:=Hd h
 have Hv:=Hd hv
 clear hf h hv
 have q1:= @Z12 Tryz.prog 80
 have q2:∀l k v [Fresh k l],(Instr.mapUpdate 80 (.map (some w.heap.size)) (.int .i64 k) (.int .i64 v)).run Tryz.prog (Z1n w.drew l)= .ok () (Z1n w.drew ((k,v)::l)):=fun l k v h=>Z19 Z1m Tryz.underlying3 w.drew l k v h.all
 have q3:∀l k,(Instr.lookup 80 (.map (some w.heap.size)) (.int .i64 k) false).run Tryz.prog (Z1n w.drew l)= .ok (.int .i64 ((Z5n l k).getD 0)) (Z1n w.drew l):=fun l k=>Z1a Z1m Tryz.underlying3 Z2z w.drew l k
 have q4:∀l j,(Z1n w l).cell? ⟨x,j,none⟩=w.cell? ⟨x,j,none⟩:=fun l j=>Z0y w l hx j
 have q5:∀l j,(Z1n w.drew l).cell? ⟨x,j,none⟩=w.cell? ⟨x,j,none⟩:=fun l j=>Z0y w.drew l hx j
 go_enter Tryz.func86,Tryz.ntmps86
 go_wp2
 go_cut [2]from 4 to 29 (fun at0 wx=>at0= .int .i64 (1)/\Below w.heap.size w wx)
 case first=>
  go_region
  all_goals
   simp only[Z5n,↓reduceIte,Int.reduceEq,Option.getD_some]
   go_wp2_with fail
   go_meet
   case rel=>exact⟨rfl,(Brf _ _).drew.trans (Z1h w.drew _)⟩
 case rest=>
  obtain⟨rfl,hB⟩:=hcut
  have H2:=Hd (H.out.below hB)
  clear q1 q2 q3 q4 q5 c0 c1 c2 c3 c4 c5 c6 c7 c8 c9 c10 c11 c12 c13 c14 hB
  go_wp2_with fail
  refine(Z23 W0 w0 wc x g N st xs i0 40 i2 i3 i4 i5 i6 i7 i8 i9 i10 i11 bt b age _ v H2.out Hv.out s1).mono ?_
  rintro e w3 ⟨rfl,h3⟩
  obtain⟨⟨d0,d1,d2,d3,d4,d5,d6,d7,d8,d9,d10,d11,d12,d13,d14⟩,hf3,hx3⟩:=h3.turn.open
  have f1:=hf3 1
  have f6:=hf3 6
  have f7:=hf3 7
  have H3:=Hd h3
  clear hf3 h3
  go_wp2_with fail
  first|go_end0|refine bodyPost_ret (v:=.tuple #[]) (by simp[results,Tryz.results86,go_sem]) rfl ?_
  exact⟨rfl,H3.out.set1 48⟩
theorem Zh6 (i0 i1 i2 i3 i4 i5 i6 i7 i8 i9 i10 i11:Int) (bt:Value) (b:Nat) (age:Int) (v:Int) (h:TW W0 w0 w x g N st xs i0 40 i2 i3 i4 i5 i6 i7 i8 i9 i10 i11 bt b age) (hv:cellAt xs (1)=v) (s1:st<1000000) (h0:(v == 0)=false):
 Calls Tryz.prog 86 #[.pointer (some ⟨x,0,none⟩)] w fun e w'=>e= .returned (.tuple #[])/\TW W0 w0 w' x g N (st+Z0h xs (1)) xs i0 41 i2 i3 i4 v i6 v i8 i9 i10 i11 bt b age:=by
 obtain⟨⟨c0,c1,c2,c3,c4,c5,c6,c7,c8,c9,c10,c11,c12,c13,c14⟩,hf,hx⟩:=h.turn.open
 have H:=Hd h
 have Hv:=Hd hv
 clear hf h hv
 have q1:= @Z12 Tryz.prog 80
 have q2:∀l k v [Fresh k l],(Instr.mapUpdate 80 (.map (some w.heap.size)) (.int .i64 k) (.int .i64 v)).run Tryz.prog (Z1n w.drew l)= .ok () (Z1n w.drew ((k,v)::l)):=fun l k v h=>Z19 Z1m Tryz.underlying3 w.drew l k v h.all
 have q3:∀l k,(Instr.lookup 80 (.map (some w.heap.size)) (.int .i64 k) false).run Tryz.prog (Z1n w.drew l)= .ok (.int .i64 ((Z5n l k).getD 0)) (Z1n w.drew l):=fun l k=>Z1a Z1m Tryz.underlying3 Z2z w.drew l k
 have q4:∀l j,(Z1n w l).cell? ⟨x,j,none⟩=w.cell? ⟨x,j,none⟩:=fun l j=>Z0y w l hx j
 have q5:∀l j,(Z1n w.drew l).cell? ⟨x,j,none⟩=w.cell? ⟨x,j,none⟩:=fun l j=>Z0y w.drew l hx j
 go_enter Tryz.func86,Tryz.ntmps86
 go_wp2
 go_cut [2]from 4 to 29 (fun at0 wx=>at0= .int .i64 (1)/\Below w.heap.size w wx)
 case first=>
  go_region
  all_goals
   simp only[Z5n,↓reduceIte,Int.reduceEq,Option.getD_some]
   go_wp2_with fail
   go_meet
   case rel=>exact⟨rfl,(Brf _ _).drew.trans (Z1h w.drew _)⟩
 case rest=>
  obtain⟨rfl,hB⟩:=hcut
  have H2:=Hd (H.out.below hB)
  clear q1 q2 q3 q4 q5 c0 c1 c2 c3 c4 c5 c6 c7 c8 c9 c10 c11 c12 c13 c14 hB
  go_wp2_with fail
  refine(Z23 W0 w0 wc x g N st xs i0 40 i2 i3 i4 i5 i6 i7 i8 i9 i10 i11 bt b age _ v H2.out Hv.out s1).mono ?_
  rintro e w3 ⟨rfl,h3⟩
  obtain⟨⟨d0,d1,d2,d3,d4,d5,d6,d7,d8,d9,d10,d11,d12,d13,d14⟩,hf3,hx3⟩:=h3.turn.open
  have f1:=hf3 1
  have f6:=hf3 6
  have f7:=hf3 7
  have H3:=Hd h3
  clear hf3 h3
  go_wp2_with fail
  first|go_end0|refine bodyPost_ret (v:=.tuple #[]) (by simp[results,Tryz.results86,go_sem]) rfl ?_
  exact⟨rfl,(H3.out.set7 v).set1 41⟩
end
section
variable (W0 w0 w:World) (x:Nat) (g:Option Nat) (N st:Int) (xs:List Int)
theorem Zh7 (i0 i1 i2 i3 i4 i5 i6 i7 i8 i9 i10 i11:Int) (bt:Value) (b:Nat) (age:Int) (v:Int) (h:TW W0 w0 w x g N st xs i0 41 i2 i3 i4 i5 i6 i7 i8 i9 i10 i11 bt b age) (hv:cellAt xs (wrap64 (i7+3))=v) (s1:st<1000000) (h0:(v == 0)=true):
 Calls Tryz.prog 86 #[.pointer (some ⟨x,0,none⟩)] w fun e w'=>e= .returned (.tuple #[])/\TW W0 w0 w' x g N (st+Z0h xs (wrap64 (i7+3))) xs i0 48 i2 i3 i4 v i6 i7 i8 i9 i10 i11 bt b age:=by
 obtain⟨⟨c0,c1,c2,c3,c4,c5,c6,c7,c8,c9,c10,c11,c12,c13,c14⟩,hf,hx⟩:=h.turn.open
 have H:=Hd h
 have Hv:=Hd hv
 clear hf h hv
 have q1:= @Z12 Tryz.prog 80
 have q2:∀l k v [Fresh k l],(Instr.mapUpdate 80 (.map (some w.heap.size)) (.int .i64 k) (.int .i64 v)).run Tryz.prog (Z1n w.drew l)= .ok () (Z1n w.drew ((k,v)::l)):=fun l k v h=>Z19 Z1m Tryz.underlying3 w.drew l k v h.all
 have q3:∀l k,(Instr.lookup 80 (.map (some w.heap.size)) (.int .i64 k) false).run Tryz.prog (Z1n w.drew l)= .ok (.int .i64 ((Z5n l k).getD 0)) (Z1n w.drew l):=fun l k=>Z1a Z1m Tryz.underlying3 Z2z w.drew l k
 have q4:∀l j,(Z1n w l).cell? ⟨x,j,none⟩=w.cell? ⟨x,j,none⟩:=fun l j=>Z0y w l hx j
 have q5:∀l j,(Z1n w.drew l).cell? ⟨x,j,none⟩=w.cell? ⟨x,j,none⟩:=fun l j=>Z0y w.drew l hx j
 go_enter Tryz.func86,Tryz.ntmps86
 go_wp2
 go_cut [2]from 4 to 29 (fun at0 wx=>at0= .int .i64 (wrap64 (i7+3))/\Below w.heap.size w wx)
 case first=>
  go_region
  all_goals
   simp only[Z5n,↓reduceIte,Int.reduceEq,Option.getD_some]
   go_wp2_with fail
   go_meet
   case rel=>exact⟨rfl,(Brf _ _).drew.trans (Z1h w.drew _)⟩
 case rest=>
  obtain⟨rfl,hB⟩:=hcut
  have H2:=Hd (H.out.below hB)
  clear q1 q2 q3 q4 q5 c0 c1 c2 c3 c4 c5 c6 c7 c8 c9 c10 c11 c12 c13 c14 hB
  go_wp2_with fail
  refine(Z23 W0 w0 wc x g N st xs i0 41 i2 i3 i4 i5 i6 i7 i8 i9 i10 i11 bt b age _ v H2.out Hv.out s1).mono ?_
  rintro e w3 ⟨rfl,h3⟩
  obtain⟨⟨d0,d1,d2,d3,d4,d5,d6,d7,d8,d9,d10,d11,d12,d13,d14⟩,hf3,hx3⟩:=h3.turn.open
  have f1:=hf3 1
  have f6:=hf3 6
  have f7:=hf3 7
  have H3:=Hd h3
  clear hf3 h3
  go_wp2_with fail
  first|go_end0|refine bodyPost_ret (v:=.tuple #[]) (by simp[results,Tryz.results86,go_sem]) rfl ?_
  exact⟨rfl,H3.out.set1 48⟩
theorem Zh8 (i0 i1 i2 i3 i4 i5 i6 i7 i8 i9 i10 i11:Int) (bt:Value) (b:Nat) (age:Int) (v:Int) (h:TW W0 w0 w x g N st xs i0 41 i2 i3 i4 i5 i6 i7 i8 i9 i10 i11 bt b age) (hv:cellAt xs (wrap64 (i7+3))=v) (s1:st<1000000) (h0:(v == 0)=false):
 Calls Tryz.prog 86 #[.pointer (some ⟨x,0,none⟩)] w fun e w'=>e= .returned (.tuple #[])/\TW W0 w0 w' x g N (st+Z0h xs (wrap64 (i7+3))) xs i0 42 i2 i3 i4 v v i7 i8 i9 i10 i11 bt b age:=by
 obtain⟨⟨c0,c1,c2,c3,c4,c5,c6,c7,c8,c9,c10,c11,c12,c13,c14⟩,hf,hx⟩:=h.turn.open
 have H:=Hd h
 have Hv:=Hd hv
 clear hf h hv
 have q1:= @Z12 Tryz.prog 80
 have q2:∀l k v [Fresh k l],(Instr.mapUpdate 80 (.map (some w.heap.size)) (.int .i64 k) (.int .i64 v)).run Tryz.prog (Z1n w.drew l)= .ok () (Z1n w.drew ((k,v)::l)):=fun l k v h=>Z19 Z1m Tryz.underlying3 w.drew l k v h.all
 have q3:∀l k,(Instr.lookup 80 (.map (some w.heap.size)) (.int .i64 k) false).run Tryz.prog (Z1n w.drew l)= .ok (.int .i64 ((Z5n l k).getD 0)) (Z1n w.drew l):=fun l k=>Z1a Z1m Tryz.underlying3 Z2z w.drew l k
 have q4:∀l j,(Z1n w l).cell? ⟨x,j,none⟩=w.cell? ⟨x,j,none⟩:=fun l j=>Z0y w l hx j
 have q5:∀l j,(Z1n w.drew l).cell? ⟨x,j,none⟩=w.cell? ⟨x,j,none⟩:=fun l j=>Z0y w.drew l hx j
 go_enter Tryz.func86,Tryz.ntmps86
 go_wp2
 go_cut [2]from 4 to 29 (fun at0 wx=>at0= .int .i64 (wrap64 (i7+3))/\Below w.heap.size w wx)
 case first=>
  go_region
  all_goals
   simp only[Z5n,↓reduceIte,Int.reduceEq,Option.getD_some]
   go_wp2_with fail
   go_meet
   case rel=>exact⟨rfl,(Brf _ _).drew.trans (Z1h w.drew _)⟩
 case rest=>
  obtain⟨rfl,hB⟩:=hcut
  have H2:=Hd (H.out.below hB)
  clear q1 q2 q3 q4 q5 c0 c1 c2 c3 c4 c5 c6 c7 c8 c9 c10 c11 c12 c13 c14 hB
  go_wp2_with fail
  refine(Z23 W0 w0 wc x g N st xs i0 41 i2 i3 i4 i5 i6 i7 i8 i9 i10 i11 bt b age _ v H2.out Hv.out s1).mono ?_
  rintro e w3 ⟨rfl,h3⟩
  obtain⟨⟨d0,d1,d2,d3,d4,d5,d6,d7,d8,d9,d10,d11,d12,d13,d14⟩,hf3,hx3⟩:=h3.turn.open
  have f1:=hf3 1
  have f6:=hf3 6
  have f7:=hf3 7
  have H3:=Hd h3
  clear hf3 h3
  go_wp2_with fail
  first|go_end0|refine bodyPost_ret (v:=.tuple #[]) (by simp[results,Tryz.results86,go_sem]) rfl ?_
  exact⟨rfl,(H3.out.set6 v).set1 42⟩
end
end
end Go.Proofs.YtihljjgmkaeohaaGreat
