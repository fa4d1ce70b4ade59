/- part 21 -/
import Derived.Test.YtihljjgmkaeohaaGreatPnAE
import Derived.Test.YtihljjgmkaeohaaGreatPnAG
set_option linter.all false
set_option maxHeartbeats 16000000
set_option maxRecDepth 100000
namespace Go.Proofs.YtihljjgmkaeohaaGreat
section
open Go.RowKit Go.ChangeShapes Go.WideShapes Go.ChangeAt
section
variable (W0 w0 w:World) (x:Nat) (g:Option Nat) (N st:Int) (xs:List Int)
theorem Zh9 (i0 i1 i2 i3 i4 i5 i6 i7 i8 i9 i10 i11:Int) (bt:Value) (b:Nat) (age:Int) (v:Int) (h:TW W0 w0 w x g N st xs i0 42 i2 i3 i4 i5 i6 i7 i8 i9 i10 i11 bt b age) (hv:cellAt xs (wrap64 (i6+1))=v) (s1:st<1000000) (h0:(v == 1)=true):
 Calls Tryz.prog 86 #[.pointer (some ⟨x,0,none⟩)] w fun e w'=>e= .returned (.tuple #[])/\TW W0 w0 w' x g N (st+Z0h xs (wrap64 (i6+1))) xs i0 43 i2 i3 i4 v i6 i7 i8 i9 i10 i11 bt b age:=by
 obtain⟨⟨c0,c1,c2,c3,c4,c5,c6,c7,c8,c9,c10,c11,c12,c13,c14⟩,hf,hx⟩:=h.turn.open
 have H:=Hd h
 have Hv:=Hd hv
 clear hf h hv
 have q1:= @Z12 Tryz.prog 80
 have q2:∀l k v [Fresh k l],(Instr.mapUpdate 80 (.map (some w.heap.size)) (.int .i64 k) (.int .i64 v)).run Tryz.prog (Z1n w.drew l)= .ok () (Z1n w.drew ((k,v)::l)):=fun l k v h=>Z19 Z1m Tryz.underlying3 w.drew l k v h.all
 have q3:∀l k,(Instr.lookup 80 (.map (some w.heap.size)) (.int .i64 k) false).run Tryz.prog (Z1n w.drew l)= .ok (.int .i64 ((Z5n l k).getD 0)) (Z1n w.drew l):=fun l k=>Z1a Z1m Tryz.underlying3 Z2z w.drew l k
 have q4:∀l j,(Z1n w l).cell? ⟨x,j,none⟩=w.cell? ⟨x,j,none⟩:=fun l j=>Z0y w l hx j
 have q5:∀l j,(Z1n w.drew l).cell? ⟨x,j,none⟩=w.cell? ⟨x,j,none⟩:=fun l j=>Z0y w.drew l hx j
 go_enter Tryz.func86,Tryz.ntmps86
 go_wp2
 go_cut [2]from 4 to 29 (fun at0 wx=>at0= .int .i64 (wrap64 (i6+1))/\Below w.heap.size w wx)
 case first=>
  go_region
  all_goals
   simp only[Z5n,↓reduceIte,Int.reduceEq,Option.getD_some]
   go_wp2_with fail
   go_meet
   case rel=>exact⟨rfl,(Brf _ _).drew.trans (Z1h w.drew _)⟩
 case rest=>
  obtain⟨rfl,hB⟩:=hcut
  have H2:=Hd (H.out.below hB)
  clear q1 q2 q3 q4 q5 c0 c1 c2 c3 c4 c5 c6 c7 c8 c9 c10 c11 c12 c13 c14 hB
  go_wp2_with fail
  refine(Z23 W0 w0 wc x g N st xs i0 42 i2 i3 i4 i5 i6 i7 i8 i9 i10 i11 bt b age _ v H2.out Hv.out s1).mono ?_
  rintro e w3 ⟨rfl,h3⟩
  obtain⟨⟨d0,d1,d2,d3,d4,d5,d6,d7,d8,d9,d10,d11,d12,d13,d14⟩,hf3,hx3⟩:=h3.turn.open
  have f1:=hf3 1
  have f6:=hf3 6
  have f7:=hf3 7
  have H3:=Hd h3
  clear hf3 h3
  go_wp2_with fail
  first|go_end0|refine bodyPost_ret (v:=.tuple #[]) (by simp[results,Tryz.results86,go_sem]) rfl ?_
  exact⟨rfl,H3.out.set1 43⟩
theorem Zha (i0 i1 i2 i3 i4 i5 i6 i7 i8 i9 i10 i11:Int) (bt:Value) (b:Nat) (age:Int) (v:Int) (h:TW W0 w0 w x g N st xs i0 42 i2 i3 i4 i5 i6 i7 i8 i9 i10 i11 bt b age) (hv:cellAt xs (wrap64 (i6+1))=v) (s1:st<1000000) (h0:(v == 1)=false):
 Calls Tryz.prog 86 #[.pointer (some ⟨x,0,none⟩)] w fun e w'=>e= .returned (.tuple #[])/\TW W0 w0 w' x g N (st+Z0h xs (wrap64 (i6+1))) xs i0 41 i2 i3 i4 v i6 i6 i8 i9 i10 i11 bt b age:=by
 obtain⟨⟨c0,c1,c2,c3,c4,c5,c6,c7,c8,c9,c10,c11,c12,c13,c14⟩,hf,hx⟩:=h.turn.open
 have H:=Hd h
 have Hv:=Hd hv
 clear hf h hv
 have q1:= @Z12 Tryz.prog 80
 have q2:∀l k v [Fresh k l],(Instr.mapUpdate 80 (.map (some w.heap.size)) (.int .i64 k) (.int .i64 v)).run Tryz.prog (Z1n w.drew l)= .ok () (Z1n w.drew ((k,v)::l)):=fun l k v h=>Z19 Z1m Tryz.underlying3 w.drew l k v h.all
 have q3:∀l k,(Instr.lookup 80 (.map (some w.heap.size)) (.int .i64 k) false).run Tryz.prog (Z1n w.drew l)= .ok (.int .i64 ((Z5n l k).getD 0)) (Z1n w.drew l):=fun l k=>Z1a Z1m Tryz.underlying3 Z2z w.drew l k
 have q4:∀l j,(Z1n w l).cell? ⟨x,j,none⟩=w.cell? ⟨x,j,none⟩:=fun l j=>Z0y w l hx j
 have q5:∀l j,(Z1n w.drew l).cell? ⟨x,j,none⟩=w.cell? ⟨x,j,none⟩:=fun l j=>Z0y w.drew l hx j
 go_enter Tryz.func86,Tryz.ntmps86
 go_wp2
 go_cut [2]from 4 to 29 (fun at0 wx=>at0= .int .i64 (wrap64 (i6+1))/\Below w.heap.size w wx)
 case first=>
  go_region
  all_goals
   simp only[Z5n,↓reduceIte,Int.reduceEq,Option.getD_some]
   go_wp2_with fail
   go_meet
   case rel=>exact⟨rfl,(Brf _ _).drew.trans (Z1h w.drew _)⟩
 case rest=>
  obtain⟨rfl,hB⟩:=hcut
  have H2:=Hd (H.out.below hB)
  clear q1 q2 q3 q4 q5 c0 c1 c2 c3 c4 c5 c6 c7 c8 c9 c10 c11 c12 c13 c14 hB
  go_wp2_with fail
  refine(Z23 W0 w0 wc x g N st xs i0 42 i2 i3 i4 i5 i6 i7 i8 i9 i10 i11 bt b age _ v H2.out Hv.out s1).mono ?_
  rintro e w3 ⟨rfl,h3⟩
  obtain⟨⟨d0,d1,d2,d3,d4,d5,d6,d7,d8,d9,d10,d11,d12,d13,d14⟩,hf3,hx3⟩:=h3.turn.open
  have f1:=hf3 1
  have f6:=hf3 6
  have f7:=hf3 7
  have H3:=Hd h3
  clear hf3 h3
  go_wp2_with fail
  refine(Zbw W0 w0 w3 x g N _ xs i0 42 i2 i3 i4 v i6 i7 i8 i9 i10 i11 bt b age H3.out).mono ?_
  rintro e w4 ⟨rfl,h4⟩
  have H4:=Hd h4
  clear h4
  go_wp2
  first|go_end0|refine bodyPost_ret (v:=.tuple #[]) (by simp[results,Tryz.results86,go_sem]) rfl ?_
  exact⟨rfl,H4.out⟩
end
section
variable (W0 w0 w:World) (x:Nat) (g:Option Nat) (N st:Int) (xs:List Int)
theorem Zhb (i0 i1 i2 i3 i4 i5 i6 i7 i8 i9 i10 i11:Int) (bt:Value) (b:Nat) (age:Int) (v:Int) (h:TW W0 w0 w x g N st xs i0 43 i2 i3 i4 i5 i6 i7 i8 i9 i10 i11 bt b age) (hv:cellAt xs (wrap64 (i6+2))=v) (s1:st<1000000) (h0:age<wrap64 (i10-v)):
 Calls Tryz.prog 86 #[.pointer (some ⟨x,0,none⟩)] w fun e w'=>e= .returned (.tuple #[])/\TW W0 w0 w' x g N (st+Z0h xs (wrap64 (i6+2))) xs i0 44 i2 i3 i4 v i6 i7 i8 i9 i10 i11 bt b age:=by
 obtain⟨⟨c0,c1,c2,c3,c4,c5,c6,c7,c8,c9,c10,c11,c12,c13,c14⟩,hf,hx⟩:=h.turn.open
 have H:=Hd h
 have Hv:=Hd hv
 clear hf h hv
 have q1:= @Z12 Tryz.prog 80
 have q2:∀l k v [Fresh k l],(Instr.mapUpdate 80 (.map (some w.heap.size)) (.int .i64 k) (.int .i64 v)).run Tryz.prog (Z1n w.drew l)= .ok () (Z1n w.drew ((k,v)::l)):=fun l k v h=>Z19 Z1m Tryz.underlying3 w.drew l k v h.all
 have q3:∀l k,(Instr.lookup 80 (.map (some w.heap.size)) (.int .i64 k) false).run Tryz.prog (Z1n w.drew l)= .ok (.int .i64 ((Z5n l k).getD 0)) (Z1n w.drew l):=fun l k=>Z1a Z1m Tryz.underlying3 Z2z w.drew l k
 have q4:∀l j,(Z1n w l).cell? ⟨x,j,none⟩=w.cell? ⟨x,j,none⟩:=fun l j=>Z0y w l hx j
 have q5:∀l j,(Z1n w.drew l).cell? ⟨x,j,none⟩=w.cell? ⟨x,j,none⟩:=fun l j=>Z0y w.drew l hx j
 go_enter Tryz.func86,Tryz.ntmps86
 go_wp2
 go_cut [2]from 4 to 29 (fun at0 wx=>at0= .int .i64 (wrap64 (i6+2))/\Below w.heap.size w wx)
 case first=>
  go_region
  all_goals
   simp only[Z5n,↓reduceIte,Int.reduceEq,Option.getD_some]
   go_wp2_with fail
   go_meet
   case rel=>exact⟨rfl,(Brf _ _).drew.trans (Z1h w.drew _)⟩
 case rest=>
  obtain⟨rfl,hB⟩:=hcut
  have H2:=Hd (H.out.below hB)
  clear q1 q2 q3 q4 q5 c0 c1 c2 c3 c4 c5 c6 c7 c8 c9 c10 c11 c12 c13 c14 hB
  go_wp2_with fail
  refine(Z23 W0 w0 wc x g N st xs i0 43 i2 i3 i4 i5 i6 i7 i8 i9 i10 i11 bt b age _ v H2.out Hv.out s1).mono ?_
  rintro e w3 ⟨rfl,h3⟩
  obtain⟨⟨d0,d1,d2,d3,d4,d5,d6,d7,d8,d9,d10,d11,d12,d13,d14⟩,hf3,hx3⟩:=h3.turn.open
  have f1:=hf3 1
  have f6:=hf3 6
  have f7:=hf3 7
  have H3:=Hd h3
  clear hf3 h3
  go_wp2_with fail
  go_region
  go_wp2_with fail
  first|go_end0|refine bodyPost_ret (v:=.tuple #[]) (by simp[results,Tryz.results86,go_sem]) rfl ?_
  exact⟨rfl,(H3.out.below (Brf _ _).drew).set1 44⟩
theorem Zhc (i0 i1 i2 i3 i4 i5 i6 i7 i8 i9 i10 i11:Int) (bt:Value) (b:Nat) (age:Int) (v:Int) (h:TW W0 w0 w x g N st xs i0 43 i2 i3 i4 i5 i6 i7 i8 i9 i10 i11 bt b age) (hv:cellAt xs (wrap64 (i6+2))=v) (s1:st<1000000) (h0:wrap64 (i10-v)<=age):
 Calls Tryz.prog 86 #[.pointer (some ⟨x,0,none⟩)] w fun e w'=>e= .returned (.tuple #[])/\TW W0 w0 w' x g N (st+Z0h xs (wrap64 (i6+2))) xs i0 41 i2 i3 i4 v i6 i6 i8 i9 i10 i11 bt b age:=by
 obtain⟨⟨c0,c1,c2,c3,c4,c5,c6,c7,c8,c9,c10,c11,c12,c13,c14⟩,hf,hx⟩:=h.turn.open
 have H:=Hd h
 have Hv:=Hd hv
 clear hf h hv
 have q1:= @Z12 Tryz.prog 80
 have q2:∀l k v [Fresh k l],(Instr.mapUpdate 80 (.map (some w.heap.size)) (.int .i64 k) (.int .i64 v)).run Tryz.prog (Z1n w.drew l)= .ok () (Z1n w.drew ((k,v)::l)):=fun l k v h=>Z19 Z1m Tryz.underlying3 w.drew l k v h.all
 have q3:∀l k,(Instr.lookup 80 (.map (some w.heap.size)) (.int .i64 k) false).run Tryz.prog (Z1n w.drew l)= .ok (.int .i64 ((Z5n l k).getD 0)) (Z1n w.drew l):=fun l k=>Z1a Z1m Tryz.underlying3 Z2z w.drew l k
 have q4:∀l j,(Z1n w l).cell? ⟨x,j,none⟩=w.cell? ⟨x,j,none⟩:=fun l j=>Z0y w l hx j
 have q5:∀l j,(Z1n w.drew l).cell? ⟨x,j,none⟩=w.cell? ⟨x,j,none⟩:=fun l j=>Z0y w.drew l hx j
 go_enter Tryz.func86,Tryz.ntmps86
 go_wp2
 go_cut [2]from 4 to 29 (fun at0 wx=>at0= .int .i64 (wrap64 (i6+2))/\Below w.heap.size w wx)
 case first=>
  go_region
  all_goals
   simp only[Z5n,↓reduceIte,Int.reduceEq,Option.getD_some]
   go_wp2_with fail
   go_meet
   case rel=>exact⟨rfl,(Brf _ _).drew.trans (Z1h w.drew _)⟩
 case rest=>
  obtain⟨rfl,hB⟩:=hcut
  have H2:=Hd (H.out.below hB)
  clear q1 q2 q3 q4 q5 c0 c1 c2 c3 c4 c5 c6 c7 c8 c9 c10 c11 c12 c13 c14 hB
  go_wp2_with fail
  refine(Z23 W0 w0 wc x g N st xs i0 43 i2 i3 i4 i5 i6 i7 i8 i9 i10 i11 bt b age _ v H2.out Hv.out s1).mono ?_
  rintro e w3 ⟨rfl,h3⟩
  obtain⟨⟨d0,d1,d2,d3,d4,d5,d6,d7,d8,d9,d10,d11,d12,d13,d14⟩,hf3,hx3⟩:=h3.turn.open
  have f1:=hf3 1
  have f6:=hf3 6
  have f7:=hf3 7
  have H3:=Hd h3
  clear hf3 h3
  go_wp2_with fail
  go_region
  go_wp2_with fail
  refine(Zbw W0 w0 _ x g N _ xs i0 43 i2 i3 i4 v i6 i7 i8 i9 i10 i11 bt b age (H3.out.below (Brf _ _).drew)).mono ?_
  rintro e w4 ⟨rfl,h4⟩
  have H4:=Hd h4
  clear h4
  go_wp2
  first|go_end0|refine bodyPost_ret (v:=.tuple #[]) (by simp[results,Tryz.results86,go_sem]) rfl ?_
  exact⟨rfl,H4.out⟩
end
end
end Go.Proofs.YtihljjgmkaeohaaGreat
