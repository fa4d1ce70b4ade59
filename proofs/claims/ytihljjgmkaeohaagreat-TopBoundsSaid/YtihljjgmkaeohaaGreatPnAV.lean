/- part 22 -/
import Derived.Test.YtihljjgmkaeohaaGreatPnAP
import Derived.Test.YtihljjgmkaeohaaGreatPnAR
import Derived.Test.YtihljjgmkaeohaaGreatPnAS
set_option linter.all false
set_option maxHeartbeats 16000000
set_option maxRecDepth 100000
namespace Go.Proofs.YtihljjgmkaeohaaGreat
section
open Go.RowKit Go.ChangeShapes Go.WideShapes Go.ChangeAt Go.Deep
section
variable (w:World) (s c:Nat) (ts:List Tw) (most:Int) (nx:Nat->Nat->Option Nat) (cv:Value) (bs:List Bool) (ov:Value) (L:List (Int×Int))
theorem Zgn (hS:SkP w s ts most nx) (hC:CoP w c cv bs) (hO:P2 w 47 ov L) (h32:Z8f L) (dC:∀k,CoF c cv k->¬SkF s ts k) (dO:∀t,ov.ownBlock=some t->¬SkF s ts t/\t≠c) (h9:L.length<=1000000):
 Calls Tryz.prog 227 #[.agg #[.pointer (some ⟨s,0,none⟩)],.pointer (some ⟨c,0,none⟩),ov] w fun e w'=>∃u ord,e= .returned u/\Z31 3 L ord/\P2 w' 43 u (Z0n most L (ts.map (·.v),List.replicate L.length (0,0)) ord).2/\(∀t,u.ownBlock=some t->w.heap.size<=t)/\∃ts' nx',SkP w' s ts' most nx'/\ts'.map (·.v)=(Z0n most L (ts.map (·.v),List.replicate L.length (0,0)) ord).1/\(∀k,SkF s ts' k->SkF s ts k\/w.heap.size<=k)/\(∃cv' bs',CoP w' c cv' bs'/\cv'.ownBlock=cv.ownBlock)/\Z01 (fun k=>SkF s ts k\/k=c) w w':=by
 have H:=hi7 hS hC hO h32 dC dO h9
 clear hS hC hO h32 dC dO h9
 go_enter Tryz.func227,Tryz.ntmps227
 go_wp2_with fail
 generalize hW1:World.alloc _ _=w1
 have B1:Below w.heap.size w w1:=by rw[<-hW1];go_grown
 clear hW1
 refine(Zgm w1 s c ts most nx cv bs _ L (H.out.1.below B1) (H.out.2.1.below B1) (H.out.2.2.1.below B1) H.out.2.2.2.1 H.out.2.2.2.2.1 H.out.2.2.2.2.2.1 H.out.2.2.2.2.2.2).mono ?_
 rintro e w' ⟨u,ord,rfl,h1⟩
 have H1:=Hd h1
 clear h1
 go_wp2
 go_ret
 obtain⟨a,b,d,ts',nx',e1,e2,e3,e4,e5⟩:=H1.out
 exact⟨_,ord,rfl,a,b,fun t h=>Nat.le_trans B1.size (d t h),ts',nx',e1,e2,fun k h=>(e3 k h).imp id (fun h=>Nat.le_trans B1.size h),e4,(Z0b B1).trans e5⟩
theorem Zgo (hS:SkP w s ts most nx) (hC:CoP w c cv bs) (hO:P2 w 47 ov L) (h32:Z8f L) (dC:∀k,CoF c cv k->¬SkF s ts k) (dO:∀t,ov.ownBlock=some t->¬SkF s ts t/\t≠c) (h9:L.length<=1000000):
 Calls Tryz.prog 229 #[.agg #[.pointer (some ⟨s,0,none⟩)],.pointer (some ⟨c,0,none⟩),ov] w fun e w'=>∃u ord,e= .returned u/\Z31 3 L ord/\P2 w' 43 u (Z0n most L (ts.map (·.v),List.replicate L.length (0,0)) ord).2/\(∀t,u.ownBlock=some t->w.heap.size<=t)/\∃ts' nx',SkP w' s ts' most nx'/\ts'.map (·.v)=(Z0n most L (ts.map (·.v),List.replicate L.length (0,0)) ord).1/\(∀k,SkF s ts' k->SkF s ts k\/w.heap.size<=k)/\(∃cv' bs',CoP w' c cv' bs'/\cv'.ownBlock=cv.ownBlock)/\Z01 (fun k=>SkF s ts k\/k=c) w w':=by
 have H:=hi7 hS hC hO h32 dC dO h9
 clear hS hC hO h32 dC dO h9
 go_enter Tryz.func229,Tryz.ntmps229
 go_wp2_with fail
 generalize hW1:World.alloc _ _=w1
 have B1:Below w.heap.size w w1:=by rw[<-hW1];go_grown
 clear hW1
 refine(Zgk w1 s c ts most nx cv bs _ L (H.out.1.below B1) (H.out.2.1.below B1) (H.out.2.2.1.below B1) H.out.2.2.2.1 H.out.2.2.2.2.1 H.out.2.2.2.2.2.1 H.out.2.2.2.2.2.2).mono ?_
 rintro e w' ⟨u,ord,rfl,h1⟩
 have H1:=Hd h1
 clear h1
 go_wp2
 go_ret
 obtain⟨a,b,d,ts',nx',e1,e2,e3,e4,e5⟩:=H1.out
 exact⟨_,ord,rfl,a,b,fun t h=>Nat.le_trans B1.size (d t h),ts',nx',e1,e2,fun k h=>(e3 k h).imp id (fun h=>Nat.le_trans B1.size h),e4,(Z0b B1).trans e5⟩
end
theorem Z5e (most:Int):Z0d 1 most=Z08 most:=by funext xs o;unfold Z0d;rw[if_pos rfl]
theorem Z6o (most:Int):Z0d 2 most=Z07 most:=by funext xs o;unfold Z0d;rw[if_neg (by decide),if_pos rfl]
theorem Z6p (most:Int):Z0d 3 most=Z0u most:=by funext xs o;unfold Z0d;rw[if_neg (by decide),if_neg (by decide)]
theorem Z51 {ob:Int} (L:List (Int×Int)) (h:ob≠3):Z31 ob L (Z3j L.length):=⟨fun _=>rfl,fun e=>absurd e h⟩
section
variable (w:World) (s c:Nat) (v:Value) (xs:List Int) (most:Int) (cv:Value) (bs:List Bool)
theorem Z8v (h:Z2c w s v xs most) (hm:(xs.length:Int)<=most) (hC:CoP w c cv bs) (ov:Value) (L:List (Int×Int)) (hO:P2 w 47 ov L) (h32:Z8f L) (hk:∀p ∈ L,0<=p.1/\p.1<=255) (h9:L.length<=900000) (dC:∀k,CoF c cv k->¬Z0r s v k) (dO:∀t,ov.ownBlock=some t->¬Z0r s v t) (hx:most<=1000):
 Calls Tryz.prog 180 #[.agg #[.pointer (some ⟨s,0,none⟩)],.pointer (some ⟨c,0,none⟩),ov] w fun e w'=>∃u ord,e= .returned u/\Z31 1 L ord/\P2 w' 43 u (Z0m (Z0d 1 most) L (xs,List.replicate L.length (0,0)) ord).2/\(∀t,u.ownBlock=some t->w.heap.size<=t)/\(∃G',Z1w w' most 1 (.iface 114 (.agg #[.pointer (some ⟨s,0,none⟩)])) (Z0m (Z0d 1 most) L (xs,List.replicate L.length (0,0)) ord).1 G'/\∀k,G' k->Z0r s v k\/w.heap.size<=k)/\(∃cv' bs',CoP w' c cv' bs'/\cv'.ownBlock=cv.ownBlock)/\Z01 (fun k=>Z0r s v k\/k=c) w w':=by
 have hle:(xs.length:Int)<=most:=hm
 refine(Zje w _ s v xs most ov L h hO dO hk (by omega) hm).mono ?_
 rintro e w' ⟨u,rfl,r1,r2,v',h',o',k'⟩
 refine⟨u,Z3j L.length,rfl,Z51 L (by decide),?_,r2,⟨Z0r s v',?_,fun k e=>?_⟩,⟨cv,bs,hC.kept k' dC,rfl⟩,k'.mono (fun k _ e=>.inl e)⟩
 ·rw[Z5e,Z21];exact r1
 ·rw[Z5e,Z21];exact .stk s v' _ h' (Z4s most L xs hm)
 ·rcases e with e|e
  ·exact .inl (.inl e)
  ·rcases o' with o|o
   ·exact .inl (.inr (o ▸ e))
   ·exact .inr (o k e)
theorem Z8w (h:Z2c w s v xs most) (hm:(xs.length:Int)<=most) (hC:CoP w c cv bs) (ov:Value) (L:List (Int×Int)) (hO:P2 w 47 ov L) (h32:Z8f L) (hk:∀p ∈ L,0<=p.1/\p.1<=255) (h9:L.length<=900000) (dC:∀k,CoF c cv k->¬Z0r s v k) (dO:∀t,ov.ownBlock=some t->¬Z0r s v t) (hx:most<=1000):
 Calls Tryz.prog 178 #[.agg #[.pointer (some ⟨s,0,none⟩)],.pointer (some ⟨c,0,none⟩),ov] w fun e w'=>∃u ord,e= .returned u/\Z31 1 L ord/\P2 w' 43 u (Z0m (Z0d 1 most) L (xs,List.replicate L.length (0,0)) ord).2/\(∀t,u.ownBlock=some t->w.heap.size<=t)/\(∃G',Z1w w' most 1 (.iface 114 (.agg #[.pointer (some ⟨s,0,none⟩)])) (Z0m (Z0d 1 most) L (xs,List.replicate L.length (0,0)) ord).1 G'/\∀k,G' k->Z0r s v k\/w.heap.size<=k)/\(∃cv' bs',CoP w' c cv' bs'/\cv'.ownBlock=cv.ownBlock)/\Z01 (fun k=>Z0r s v k\/k=c) w w':=by
 have hle:(xs.length:Int)<=most:=hm
 refine(Zjd w _ s v xs most ov L h hO dO hk (by omega) hm).mono ?_
 rintro e w' ⟨u,rfl,r1,r2,v',h',o',k'⟩
 refine⟨u,Z3j L.length,rfl,Z51 L (by decide),?_,r2,⟨Z0r s v',?_,fun k e=>?_⟩,⟨cv,bs,hC.kept k' dC,rfl⟩,k'.mono (fun k _ e=>.inl e)⟩
 ·rw[Z5e,Z21];exact r1
 ·rw[Z5e,Z21];exact .stk s v' _ h' (Z4s most L xs hm)
 ·rcases e with e|e
  ·exact .inl (.inl e)
  ·rcases o' with o|o
   ·exact .inl (.inr (o ▸ e))
   ·exact .inr (o k e)
theorem Zab (h:RgS w s v xs most) (hC:CoP w c cv bs) (ov:Value) (L:List (Int×Int)) (hO:P2 w 47 ov L) (h32:Z8f L) (hk:∀p ∈ L,0<=p.1/\p.1<=255) (h9:L.length<=900000) (dC:∀k,CoF c cv k->¬Z0r s v k) (dO:∀t,ov.ownBlock=some t->¬Z0r s v t) (hx:most<=1000):
 Calls Tryz.prog 204 #[.agg #[.pointer (some ⟨s,0,none⟩)],.pointer (some ⟨c,0,none⟩),ov] w fun e w'=>∃u ord,e= .returned u/\Z31 2 L ord/\P2 w' 43 u (Z0m (Z0d 2 most) L (xs,List.replicate L.length (0,0)) ord).2/\(∀t,u.ownBlock=some t->w.heap.size<=t)/\(∃G',Z1w w' most 2 (.iface 118 (.agg #[.pointer (some ⟨s,0,none⟩)])) (Z0m (Z0d 2 most) L (xs,List.replicate L.length (0,0)) ord).1 G'/\∀k,G' k->Z0r s v k\/w.heap.size<=k)/\(∃cv' bs',CoP w' c cv' bs'/\cv'.ownBlock=cv.ownBlock)/\Z01 (fun k=>Z0r s v k\/k=c) w w':=by
 have hle:(xs.length:Int)<=most:=h.le
 refine(Zjx w _ s v xs most ov L h hO dO hk (by omega)).mono ?_
 rintro e w' ⟨u,rfl,r1,r2,v',h',o',k'⟩
 refine⟨u,Z3j L.length,rfl,Z51 L (by decide),?_,r2,⟨Z0r s v',?_,fun k e=>?_⟩,⟨cv,bs,hC.kept k' dC,rfl⟩,k'.mono (fun k _ e=>.inl e)⟩
 ·rw[Z6o,Z21];exact r1
 ·rw[Z6o,Z21];exact .rg s v' _ h'
 ·rcases e with e|e
  ·exact .inl (.inl e)
  ·rcases o' with o|o
   ·exact .inl (.inr (o ▸ e))
   ·exact .inr (o k e)
theorem Zac (h:RgS w s v xs most) (hC:CoP w c cv bs) (ov:Value) (L:List (Int×Int)) (hO:P2 w 47 ov L) (h32:Z8f L) (hk:∀p ∈ L,0<=p.1/\p.1<=255) (h9:L.length<=900000) (dC:∀k,CoF c cv k->¬Z0r s v k) (dO:∀t,ov.ownBlock=some t->¬Z0r s v t) (hx:most<=1000):
 Calls Tryz.prog 202 #[.agg #[.pointer (some ⟨s,0,none⟩)],.pointer (some ⟨c,0,none⟩),ov] w fun e w'=>∃u ord,e= .returned u/\Z31 2 L ord/\P2 w' 43 u (Z0m (Z0d 2 most) L (xs,List.replicate L.length (0,0)) ord).2/\(∀t,u.ownBlock=some t->w.heap.size<=t)/\(∃G',Z1w w' most 2 (.iface 118 (.agg #[.pointer (some ⟨s,0,none⟩)])) (Z0m (Z0d 2 most) L (xs,List.replicate L.length (0,0)) ord).1 G'/\∀k,G' k->Z0r s v k\/w.heap.size<=k)/\(∃cv' bs',CoP w' c cv' bs'/\cv'.ownBlock=cv.ownBlock)/\Z01 (fun k=>Z0r s v k\/k=c) w w':=by
 have hle:(xs.length:Int)<=most:=h.le
 refine(Zjw w _ s v xs most ov L h hO dO hk (by omega)).mono ?_
 rintro e w' ⟨u,rfl,r1,r2,v',h',o',k'⟩
 refine⟨u,Z3j L.length,rfl,Z51 L (by decide),?_,r2,⟨Z0r s v',?_,fun k e=>?_⟩,⟨cv,bs,hC.kept k' dC,rfl⟩,k'.mono (fun k _ e=>.inl e)⟩
 ·rw[Z6o,Z21];exact r1
 ·rw[Z6o,Z21];exact .rg s v' _ h'
 ·rcases e with e|e
  ·exact .inl (.inl e)
  ·rcases o' with o|o
   ·exact .inl (.inr (o ▸ e))
   ·exact .inr (o k e)
end
section
variable (w:World) (s c:Nat) (ts:List Tw) (nx:Nat->Nat->Option Nat) (most:Int) (cv:Value) (bs:List Bool)
theorem Zad (h:SkP w s ts most nx) (hC:CoP w c cv bs) (ov:Value) (L:List (Int×Int)) (hO:P2 w 47 ov L) (h32:Z8f L) (hk:∀p ∈ L,0<=p.1/\p.1<=255) (h9:L.length<=900000) (dC:∀k,CoF c cv k->¬SkF s ts k) (dO:∀t,ov.ownBlock=some t->¬SkF s ts t/\t≠c):
 Calls Tryz.prog 229 #[.agg #[.pointer (some ⟨s,0,none⟩)],.pointer (some ⟨c,0,none⟩),ov] w fun e w'=>∃u ord,e= .returned u/\Z31 3 L ord/\P2 w' 43 u (Z0m (Z0d 3 most) L (ts.map (·.v),List.replicate L.length (0,0)) ord).2/\(∀t,u.ownBlock=some t->w.heap.size<=t)/\(∃G',Z1w w' most 3 (.iface 122 (.agg #[.pointer (some ⟨s,0,none⟩)])) (Z0m (Z0d 3 most) L (ts.map (·.v),List.replicate L.length (0,0)) ord).1 G'/\∀k,G' k->SkF s ts k\/w.heap.size<=k)/\(∃cv' bs',CoP w' c cv' bs'/\cv'.ownBlock=cv.ownBlock)/\Z01 (fun k=>SkF s ts k\/k=c) w w':=by
 refine(Zgo w s c ts most nx cv bs ov L h hC hO h32 dC dO (by omega)).mono ?_
 rintro e w' ⟨u,ord,rfl,r0,r1,r2,ts',nx',h',e',f',c',k'⟩
 refine⟨u,ord,rfl,r0,?_,r2,⟨SkF s ts',?_,f'⟩,c',k'⟩
 ·rw[Z6p];exact r1
 ·rw[Z6p,show(Z0m (Z0u most) L (ts.map (·.v),List.replicate L.length (0,0)) ord).1=ts'.map (·.v)from e'.symm];exact .sk s ts' nx' h'
theorem Zae (h:SkP w s ts most nx) (hC:CoP w c cv bs) (ov:Value) (L:List (Int×Int)) (hO:P2 w 47 ov L) (h32:Z8f L) (hk:∀p ∈ L,0<=p.1/\p.1<=255) (h9:L.length<=900000) (dC:∀k,CoF c cv k->¬SkF s ts k) (dO:∀t,ov.ownBlock=some t->¬SkF s ts t/\t≠c):
 Calls Tryz.prog 227 #[.agg #[.pointer (some ⟨s,0,none⟩)],.pointer (some ⟨c,0,none⟩),ov] w fun e w'=>∃u ord,e= .returned u/\Z31 3 L ord/\P2 w' 43 u (Z0m (Z0d 3 most) L (ts.map (·.v),List.replicate L.length (0,0)) ord).2/\(∀t,u.ownBlock=some t->w.heap.size<=t)/\(∃G',Z1w w' most 3 (.iface 122 (.agg #[.pointer (some ⟨s,0,none⟩)])) (Z0m (Z0d 3 most) L (ts.map (·.v),List.replicate L.length (0,0)) ord).1 G'/\∀k,G' k->SkF s ts k\/w.heap.size<=k)/\(∃cv' bs',CoP w' c cv' bs'/\cv'.ownBlock=cv.ownBlock)/\Z01 (fun k=>SkF s ts k\/k=c) w w':=by
 refine(Zgn w s c ts most nx cv bs ov L h hC hO h32 dC dO (by omega)).mono ?_
 rintro e w' ⟨u,ord,rfl,r0,r1,r2,ts',nx',h',e',f',c',k'⟩
 refine⟨u,ord,rfl,r0,?_,r2,⟨SkF s ts',?_,f'⟩,c',k'⟩
 ·rw[Z6p];exact r1
 ·rw[Z6p,show(Z0m (Z0u most) L (ts.map (·.v),List.replicate L.length (0,0)) ord).1=ts'.map (·.v)from e'.symm];exact .sk s ts' nx' h'
end
structure Z4j (w:World) (o:Nat) (ob most:Int) (pl:Bool) (xs:List Int) (c:Nat) (cv:Value) (bs:List Bool) (b:Value) (G:Nat->Prop):Prop where
 blk:w.heap[o]?=some (.cells #[b,.pointer (some ⟨c,0,none⟩),.bool pl] 127 (0,0))
 body:Z1w w most ob b xs G
 coin:CoP w c cv bs
 dc:∀k,CoF c cv k->¬G k/\k≠o
 dG:¬G o
abbrev ObF (o c:Nat) (cv:Value) (G:Nat->Prop):Nat->Prop:=fun k=>k=o\/CoF c cv k\/G k
section
variable {w w':World} {o:Nat} {ob most:Int} {pl:Bool} {xs:List Int} {c:Nat} {cv:Value} {bs:List Bool} {b:Value} {G:Nat->Prop}
theorem Z4j.lt (h:Z4j w o ob most pl xs c cv bs b G):∀k,ObF o c cv G k->k<w.heap.size:=fun k e=>by
 rcases e with rfl|e|e
 ·exact(Gl h.blk)
 ·exact h.coin.lt k e
 ·exact h.body.lt k e
theorem Z4j.kept {F:Nat->Prop} (h:Z4j w o ob most pl xs c cv bs b G) (hk:Z01 F w w') (hd:∀k,ObF o c cv G k->¬F k):Z4j w' o ob most pl xs c cv bs b G:=
 ⟨(hk.block o (h.lt o (.inl rfl)) (hd o (.inl rfl))).trans h.blk,h.body.kept hk (fun k e=>hd k (.inr (.inr e))),h.coin.kept hk (fun k e=>hd k (.inr (.inl e))),h.dc,h.dG⟩
theorem Z4j.below (h:Z4j w o ob most pl xs c cv bs b G) (hb:Below w.heap.size w w'):Z4j w' o ob most pl xs c cv bs b G:=h.kept (Z01.of_below (S:=fun _=>False) hb (fun k h1 h2=>by omega)) (fun _ _ h=>h)
end
section
variable (w:World) (o:Nat) (ob most:Int) (pl:Bool) (xs:List Int) (c:Nat) (cv:Value) (bs:List Bool) (b:Value) (G:Nat->Prop)
theorem Zpb (h:Z4j w o ob most pl xs c cv bs b G) (ov:Value) (L:List (Int×Int)) (hO:P2 w 47 ov L) (h32:Z8f L) (hk:∀p ∈ L,0<=p.1/\p.1<=255) (h9:L.length<=900000) (dO:∀t,ov.ownBlock=some t->¬ObF o c cv G t) (hx:most<=1000):
 Calls Tryz.prog 147 #[.pointer (some ⟨o,0,none⟩),ov] w fun e w'=>∃u ord,e= .returned u/\Z31 ob L ord/\P2 w' 43 u (Z0m (Z0d ob most) L (xs,List.replicate L.length (0,0)) ord).2/\(∀t,u.ownBlock=some t->w.heap.size<=t)/\∃cv' bs' G',Z4j w' o ob most pl (Z0m (Z0d ob most) L (xs,List.replicate L.length (0,0)) ord).1 c cv' bs' b G'/\(∀k,ObF o c cv' G' k->ObF o c cv G k\/w.heap.size<=k)/\Z01 (ObF o c cv G) w w':=by
 have hblk:=h.blk
 have hoc:¬(G o\/o=c):=fun e=>e.elim h.dG (fun e=>(h.dc c (.inl rfl)).2 e.symm)
 have dCG:∀k,CoF c cv k->¬G k:=fun k e=>(h.dc k e).1
 have dOG:∀t,ov.ownBlock=some t->¬G t/\t≠c:=fun t e=>⟨fun g=>dO t e (.inr (.inr g)),fun g=>dO t e (.inr (.inl (.inl g)))⟩
 have key:Calls Tryz.prog 147 #[.pointer (some ⟨o,0,none⟩),ov] w (Z5f w ob most L xs c cv b G):=by
  have hb:=h.body
  cases hb with
  |stk s v xs hs hm=>
   cases pl
   ·exact Z7d w o c s ov _ cv 0 xs _ most L _ hblk hoc (fun u hu=>Z8w u s c v xs most cv bs (hs.below hu) hm (h.coin.below hu) ov L (hO.below hu) h32 hk h9 dCG (fun t e=>(dOG t e).1) hx)
   ·exact Z7c w o c s ov _ cv 0 xs _ most L _ hblk hoc (fun u hu=>Z8v u s c v xs most cv bs (hs.below hu) hm (h.coin.below hu) ov L (hO.below hu) h32 hk h9 dCG (fun t e=>(dOG t e).1) hx)
  |rg s v xs hs=>
   cases pl
   ·exact Z8y w o c s ov _ cv 0 xs _ most L _ hblk hoc (fun u hu=>Zac u s c v xs most cv bs (hs.below hu) (h.coin.below hu) ov L (hO.below hu) h32 hk h9 dCG (fun t e=>(dOG t e).1) hx)
   ·exact Z8x w o c s ov _ cv 0 xs _ most L _ hblk hoc (fun u hu=>Zab u s c v xs most cv bs (hs.below hu) (h.coin.below hu) ov L (hO.below hu) h32 hk h9 dCG (fun t e=>(dOG t e).1) hx)
  |sk s ts nx hs=>
   cases pl
   ·exact Z90 w o c s ov _ cv 0 _ _ most L _ hblk hoc (fun u hu=>Zae u s c ts nx most cv bs (hs.below hu) (h.coin.below hu) ov L (hO.below hu) h32 hk h9 dCG dOG)
   ·exact Z8z w o c s ov _ cv 0 _ _ most L _ hblk hoc (fun u hu=>Zad u s c ts nx most cv bs (hs.below hu) (h.coin.below hu) ov L (hO.below hu) h32 hk h9 dCG dOG)
 refine key.mono ?_
 rintro e w' ⟨u,ord,rfl,r1,r2,r3,⟨G',b',g'⟩,⟨cv',bs',c',o'⟩,k'⟩
 have hcl:=h.coin.lt
 have hol:=h.lt o (.inl rfl)
 have hCF:∀k,CoF c cv' k->CoF c cv k:=fun k e=>e.imp id (fun h=>o' ▸ h)
 refine⟨u,ord,rfl,r1,r2,r3,cv',bs',G',⟨(k'.block o hol hoc).trans hblk,b',c',fun k e=>⟨fun g=>?_,(h.dc k (hCF k e)).2⟩,fun g=>?_⟩,fun k e=>?_,k'.mono (fun k _ e=>e.elim (fun e=>.inr (.inr e)) (fun e=>.inr (.inl (.inl e))))⟩
 ·rcases g' k g with h1|h1
  ·exact(h.dc k (hCF k e)).1 h1
  ·have:=hcl k (hCF k e);omega
 ·rcases g' o g with h1|h1
  ·exact h.dG h1
  ·omega
 ·rcases e with e|e|e
  ·exact .inl (.inl e)
  ·exact .inl (.inr (.inl (hCF k e)))
  ·exact(g' k e).imp (fun h=>.inr (.inr h)) id
theorem Zjy (h:Z4j w o ob most pl xs c cv bs b G) (g off cap:Nat) (v:Int) (hb:w.cell? ⟨g,off,none⟩=some (.int .u8 v)) (b0:0<=v) (b9:v<=255) (hg:¬CoF c cv g):
 Calls Tryz.prog 35 #[.pointer (some ⟨o,0,none⟩),.slice (some ⟨g,off,none⟩) 1 cap] w fun e w'=>e= .returned (.tuple #[])/\∃cv' bs',Z4j w' o ob most pl xs c cv' bs' b G/\(∀k,ObF o c cv' G k->ObF o c cv G k\/w.heap.size<=k)/\Z01 (ObF o c cv G) w w':=by
 obtain⟨⟨d0,d1,d2⟩,zo⟩:=Z3d h.blk
 have cF:=Zn1 w c cv bs h.coin g off cap v hb b0 b9 hg
 have H:=Hd h
 clear h d0 d2 hb
 go_enter Tryz.func35,Tryz.ntmps35
 go_wp2_with fail
 refine cF.mono ?_
 rintro e w' ⟨rfl,cv',bs',c',f',k'⟩
 have H2:=hi3 c' f' k'
 clear c' f' k' cF
 go_wp2
 go_end0
 obtain⟨c',f',k'⟩:=H2.out
 have h:=H.out
 refine⟨rfl,cv',bs',⟨(k'.block o zo (fun e=>(h.dc o e).2 rfl)).trans h.blk,h.body.kept k' (fun k e f=>(h.dc k f).1 e),c',fun k e=>?_,h.dG⟩,fun k e=>?_,k'.mono (fun k _ e=>.inr (.inl e))⟩
 ·rcases f' k e with h1|h1
  ·exact h.dc k h1
  ·exact⟨fun g=>by have:=h.body.lt k g;omega,fun e=>by omega⟩
 ·rcases e with e|e|e
  ·exact .inl (.inl e)
  ·exact(f' k e).imp (fun h=>.inr (.inl h)) id
  ·exact .inl (.inr (.inr e))
end
theorem Zpc (w:World) (most:Int) (h1:1<=most) (h9:most<=1000):
 Calls Tryz.prog 54 #[.int .i64 most] w fun e w'=>e= .returned (.pointer (some ⟨w.heap.size,0,none⟩))/\Z2c w' w.heap.size (.slice none 0 0) [] most/\Below w.heap.size w w':=by
 have e1:min most 1000=most:=by omega
 have e2:max 0 most=most:=by omega
 have e3:¬most<=0:=by omega
 clear h1
 go_enter Tryz.func54,Tryz.ntmps54
 go_wp2
 go_ret
 exact⟨rfl,⟨Han _ _,R32.nil _,fun t e=>(by cases e)⟩,by go_grown⟩
theorem Zgp (w:World):
 Calls Tryz.prog 59 #[] w fun e w'=>e= .returned (.pointer (some ⟨w.heap.size,0,none⟩))/\CoP w' w.heap.size (.slice none 0 0) []/\Below w.heap.size w w':=by
 go_enter Tryz.func59,Tryz.ntmps59
 go_wp2
 go_ret
 exact⟨rfl,⟨Han _ _,Z2b.nil _ _,fun t e=>(by cases e),by simp⟩,by go_grown⟩
theorem Zn5 {w:World} {s:Nat} {most:Int} (h:w.heap[s]?=some (.cells (skA (fun _=>.pointer none) 0 most) 154 (0,0))) (h1:0<=most) (h9:most<=1000):SkP w s [] most (fun _ _=>none) where
 hd:=h
 tw:=fun j hj=>by simp at hj
 nd:=fun i j _ hj=>by simp at hj
 ns:=fun j hj=>by simp at hj
 hh:=fun j hj=>by simp at hj
 so:=fun i j _ hj=>by simp at hj
 l0:=fun i hi=>by simp
 ln:=fun i hi k hk h j hj=>by cases hj
 lz:=fun i hi k hk h=>rfl
 le:=by simpa using h1
 m9:=h9
theorem Zpd (w:World) (most:Int) (h1:1<=most) (h9:most<=1000):
 Calls Tryz.prog 58 #[.int .i64 most] w fun e w'=>e= .returned (.pointer (some ⟨w.heap.size,0,none⟩))/\SkP w' w.heap.size [] most (fun _ _=>none)/\Below w.heap.size w w':=by
 have e1:min most 1000=most:=by omega
 have e2:max 0 most=most:=by omega
 have e3:¬most<=0:=by omega
 have h0:0<=most:=by omega
 clear h1
 go_enter Tryz.func58,Tryz.ntmps58
 go_wp2
 go_ret
 exact⟨rfl,Zn5 (Han _ _) h0 h9,by go_grown⟩
theorem Z5g (w:World) (f:Fn) (a b:Array Value):(binOp .eql 108 (.func f a b) .nilFunc).run Tryz.prog w= .ok (.bool false) w:=by kernel_rfl
theorem Zpe (w:World) (n:Nat) (h1:1<=n) (h9:n<=1000):
 Calls Tryz.prog 56 #[.int .i64 (n:Int)] w fun e w'=>∃r,e= .returned (.pointer (some ⟨r,0,none⟩))/\∃v,RgS w' r v [] (n:Int)/\w.heap.size<=r/\(∀t,v.ownBlock=some t->w.heap.size<=t)/\Below w.heap.size w w':=by
 have e1:min (n:Int) 1000=(n:Int):=by omega
 have e2:max 0 (n:Int)=(n:Int):=by omega
 have e3:¬(n:Int)<=0:=by omega
 obtain⟨i0,hi,hz0,hz1,hz2⟩:=info_parts Tryz.info32
 have hmk:=Z5b 31 21 i0 Tryz.underlying31 hi hz0 hz1 hz2 n (by omega)
 have H:=Hd h1
 clear h1 hi hz0 hz1 hz2
 go_enter Tryz.func56,Tryz.ntmps56
 go_wp2
 go_ret
 have hr:=(Zcc w n (by omega)).alloc (.cells #[.slice (some ⟨w.heap.size,0,none⟩) n n,.int .i64 0,.int .i64 0] 148)
 refine⟨w.heap.size+1,rfl,.slice (some ⟨w.heap.size,0,none⟩) n n,⟨List.replicate n 0,0,⟨by simpa using Han (w.alloc (.cells (madeCells #[.int .i32 0] n) 21)) (.cells #[.slice (some ⟨w.heap.size,0,none⟩) n n,.int .i64 0,.int .i64 0] 148),hr,fun t e=>by have e2:w.heap.size=t:=Option.some.inj e;omega,by have:=H.out;simp;omega,by simp,by simp;omega,fun i hi=>by simp at hi⟩,by simp⟩,by omega,fun t e=>by have e2:w.heap.size=t:=Option.some.inj e;omega,by go_grown⟩
theorem Zjz (w:World) (n:Nat) (h1:1<=n) (h9:n<=1000):
 Calls Tryz.prog 53 #[.int .i64 (n:Int)] w fun e w'=>∃s,e= .returned (.iface 114 (.agg #[.pointer (some ⟨s,0,none⟩)]))/\∃G,Z1w w' (n:Int) 1 (.iface 114 (.agg #[.pointer (some ⟨s,0,none⟩)])) [] G/\(∀k,G k->w.heap.size<=k)/\Below w.heap.size w w':=by
 have cN:=Zpc w (n:Int) (by omega) (by omega)
 clear h1 h9
 go_enter Tryz.func53,Tryz.ntmps53
 go_wp2_with fail
 refine cN.mono ?_
 rintro e w' ⟨rfl,h,hb⟩
 have H:=hi2 h hb
 clear h hb cN
 go_wp2
 go_ret
 exact⟨_,rfl,_,.stk _ _ _ H.out.1 (by simp),fun k e=>(by rcases e with e|e;exact Nat.le_of_eq e.symm;cases e),H.out.2⟩
theorem Zk0 (w:World) (n:Nat) (h1:1<=n) (h9:n<=1000):
 Calls Tryz.prog 55 #[.int .i64 (n:Int)] w fun e w'=>∃s,e= .returned (.iface 118 (.agg #[.pointer (some ⟨s,0,none⟩)]))/\∃G,Z1w w' (n:Int) 2 (.iface 118 (.agg #[.pointer (some ⟨s,0,none⟩)])) [] G/\(∀k,G k->w.heap.size<=k)/\Below w.heap.size w w':=by
 have cN:=Zpe w n h1 h9
 clear h1 h9
 go_enter Tryz.func55,Tryz.ntmps55
 go_wp2_with fail
 refine cN.mono ?_
 rintro e w' ⟨r,rfl,v,h,h2,h3,hb⟩
 have H:=hi4 h h2 h3 hb
 clear h hb h2 h3 cN
 go_wp2
 go_ret
 exact⟨_,rfl,_,.rg _ _ _ H.out.1,fun k e=>(by rcases e with e|e;exact e ▸ H.out.2.1;exact H.out.2.2.1 k e),H.out.2.2.2⟩
theorem Zk1 (w:World) (n:Nat) (h1:1<=n) (h9:n<=1000):
 Calls Tryz.prog 57 #[.int .i64 (n:Int)] w fun e w'=>∃s,e= .returned (.iface 122 (.agg #[.pointer (some ⟨s,0,none⟩)]))/\∃G,Z1w w' (n:Int) 3 (.iface 122 (.agg #[.pointer (some ⟨s,0,none⟩)])) [] G/\(∀k,G k->w.heap.size<=k)/\Below w.heap.size w w':=by
 have cN:=Zpd w (n:Int) (by omega) (by omega)
 clear h1 h9
 go_enter Tryz.func57,Tryz.ntmps57
 go_wp2_with fail
 refine cN.mono ?_
 rintro e w' ⟨rfl,h,hb⟩
 have H:=hi2 h hb
 clear h hb cN
 go_wp2
 go_ret
 exact⟨_,rfl,_,.sk _ [] _ H.out.1,fun k e=>(by rcases e with e|⟨j,hj,e⟩;exact Nat.le_of_eq e.symm;simp at hj),H.out.2⟩
def Zqf (w:World) (ob most:Int) (pl:Bool) (e:Ending) (w':World):Prop:=∃o c b G,e= .returned (.pointer (some ⟨o,0,none⟩))/\Z4j w' o ob most pl [] c (.slice none 0 0) [] b G/\(∀k,ObF o c (.slice none 0 0) G k->w.heap.size<=k)/\Below w.heap.size w w'
def Z5h:List (Int×Value):= [(3,.func (.func 57) #[] #[]),(2,.func (.func 55) #[] #[]),(1,.func (.func 53) #[] #[])]
section
variable (w:World) (n:Nat) (pl:Bool)
theorem Zn6 (h1:1<=n) (h9:n<=1000):
 Calls Tryz.prog 32 #[.int .u8 1,.int .i64 (n:Int),.bool pl] w (Zqf w 1 (n:Int) pl):=by
 have q0:(Instr.makeMap 123 none).run Tryz.prog w= .ok (.map (some w.heap.size)) (Z0z .u8 w []):=rfl
 have q1:(Instr.mapUpdate 123 (.map (some w.heap.size)) (.int .u8 1) (.func (.func 53) #[] #[])).run Tryz.prog (Z0z .u8 w [])= .ok () (Z0z .u8 w [(1,.func (.func 53) #[] #[])]):=Z0a Tryz.underlying123 Tryz.underlying5 w _ _ _ rfl
 have q2:(Instr.mapUpdate 123 (.map (some w.heap.size)) (.int .u8 2) (.func (.func 55) #[] #[])).run Tryz.prog (Z0z .u8 w [(1,.func (.func 53) #[] #[])])= .ok () (Z0z .u8 w [(2,.func (.func 55) #[] #[]),(1,.func (.func 53) #[] #[])]):=Z0a Tryz.underlying123 Tryz.underlying5 w _ _ _ rfl
 have q3:(Instr.mapUpdate 123 (.map (some w.heap.size)) (.int .u8 3) (.func (.func 57) #[] #[])).run Tryz.prog (Z0z .u8 w [(2,.func (.func 55) #[] #[]),(1,.func (.func 53) #[] #[])])= .ok () (Z0z .u8 w Z5h):=Z0a Tryz.underlying123 Tryz.underlying5 w _ _ _ rfl
 have q4:(Instr.lookup 123 (.map (some w.heap.size)) (.int .u8 1) false).run Tryz.prog (Z0z .u8 w Z5h)= .ok (.func (.func 53) #[] #[]) (Z0z .u8 w Z5h):=Z2w Tryz.underlying123 Tryz.underlying5 w.heap.size _ Z5h _ 1 _ (Z2p w Z5h) rfl
 have q5:=Z5g
 have hb0:Below w.heap.size w (Z0z .u8 w Z5h):=Z1u w Z5h
 have H:=hi2 h1 h9
 clear h1 h9
 go_enter Tryz.func32,Tryz.ntmps32
 go_wp2_with fail
 have cN:=Zjz (Z0z .u8 w Z5h) n H.out.1 H.out.2
 refine cN.mono ?_
 rintro e w2 ⟨s,rfl,G,h1,h2,h3⟩
 have hb2:=hb0.trans (h3.mono hb0.size)
 have H2:=hi4 h1 h2 h3 hb2
 clear h1 h2 h3 cN q0 q1 q2 q3 q4 hb0 hb2
 go_wp2_with fail
 refine(Zgp w2).mono ?_
 rintro e w3 ⟨rfl,c1,b3⟩
 have H3:=hi2 c1 b3
 clear c1 b3
 go_wp2
 go_ret
 obtain⟨h1,h2,h3,hb2⟩:=H2.out
 obtain⟨c1,b3⟩:=H3.out
 have hB4:Below w3.heap.size w3 (w3.alloc (.cells #[.iface 114 (.agg #[.pointer (some ⟨s,0,none⟩)]),.pointer (some ⟨w2.heap.size,0,none⟩),.bool pl] 127)):=by go_grown
 have s0:=hb2.size
 have s3:=b3.size
 have c3:=c1.lt w2.heap.size (.inl rfl)
 refine⟨w3.heap.size,w2.heap.size,_,G,rfl,⟨Han _ _,(h1.below b3).below hB4,c1.below hB4,fun k e=>?_,fun g=>?_⟩,fun k e=>?_,(hb2.trans (b3.mono s0)).trans (hB4.mono (Nat.le_trans s0 s3))⟩
 ·rcases e with e|e
  ·exact⟨fun g=>by have:=h1.lt k g;omega,by omega⟩
  ·cases e
 ·have:=h1.lt _ g;omega
 ·rcases e with e|e|e
  ·omega
  ·rcases e with e|e
   ·omega
   ·cases e
  ·have:=h2 k e
   have:=(Z1u (kd:=.u8) w Z5h).size
   omega
theorem Zn7 (h1:1<=n) (h9:n<=1000):
 Calls Tryz.prog 32 #[.int .u8 2,.int .i64 (n:Int),.bool pl] w (Zqf w 2 (n:Int) pl):=by
 have q0:(Instr.makeMap 123 none).run Tryz.prog w= .ok (.map (some w.heap.size)) (Z0z .u8 w []):=rfl
 have q1:(Instr.mapUpdate 123 (.map (some w.heap.size)) (.int .u8 1) (.func (.func 53) #[] #[])).run Tryz.prog (Z0z .u8 w [])= .ok () (Z0z .u8 w [(1,.func (.func 53) #[] #[])]):=Z0a Tryz.underlying123 Tryz.underlying5 w _ _ _ rfl
 have q2:(Instr.mapUpdate 123 (.map (some w.heap.size)) (.int .u8 2) (.func (.func 55) #[] #[])).run Tryz.prog (Z0z .u8 w [(1,.func (.func 53) #[] #[])])= .ok () (Z0z .u8 w [(2,.func (.func 55) #[] #[]),(1,.func (.func 53) #[] #[])]):=Z0a Tryz.underlying123 Tryz.underlying5 w _ _ _ rfl
 have q3:(Instr.mapUpdate 123 (.map (some w.heap.size)) (.int .u8 3) (.func (.func 57) #[] #[])).run Tryz.prog (Z0z .u8 w [(2,.func (.func 55) #[] #[]),(1,.func (.func 53) #[] #[])])= .ok () (Z0z .u8 w Z5h):=Z0a Tryz.underlying123 Tryz.underlying5 w _ _ _ rfl
 have q4:(Instr.lookup 123 (.map (some w.heap.size)) (.int .u8 2) false).run Tryz.prog (Z0z .u8 w Z5h)= .ok (.func (.func 55) #[] #[]) (Z0z .u8 w Z5h):=Z2w Tryz.underlying123 Tryz.underlying5 w.heap.size _ Z5h _ 2 _ (Z2p w Z5h) rfl
 have q5:=Z5g
 have hb0:Below w.heap.size w (Z0z .u8 w Z5h):=Z1u w Z5h
 have H:=hi2 h1 h9
 clear h1 h9
 go_enter Tryz.func32,Tryz.ntmps32
 go_wp2_with fail
 have cN:=Zk0 (Z0z .u8 w Z5h) n H.out.1 H.out.2
 refine cN.mono ?_
 rintro e w2 ⟨s,rfl,G,h1,h2,h3⟩
 have hb2:=hb0.trans (h3.mono hb0.size)
 have H2:=hi4 h1 h2 h3 hb2
 clear h1 h2 h3 cN q0 q1 q2 q3 q4 hb0 hb2
 go_wp2_with fail
 refine(Zgp w2).mono ?_
 rintro e w3 ⟨rfl,c1,b3⟩
 have H3:=hi2 c1 b3
 clear c1 b3
 go_wp2
 go_ret
 obtain⟨h1,h2,h3,hb2⟩:=H2.out
 obtain⟨c1,b3⟩:=H3.out
 have hB4:Below w3.heap.size w3 (w3.alloc (.cells #[.iface 118 (.agg #[.pointer (some ⟨s,0,none⟩)]),.pointer (some ⟨w2.heap.size,0,none⟩),.bool pl] 127)):=by go_grown
 have s0:=hb2.size
 have s3:=b3.size
 have c3:=c1.lt w2.heap.size (.inl rfl)
 refine⟨w3.heap.size,w2.heap.size,_,G,rfl,⟨Han _ _,(h1.below b3).below hB4,c1.below hB4,fun k e=>?_,fun g=>?_⟩,fun k e=>?_,(hb2.trans (b3.mono s0)).trans (hB4.mono (Nat.le_trans s0 s3))⟩
 ·rcases e with e|e
  ·exact⟨fun g=>by have:=h1.lt k g;omega,by omega⟩
  ·cases e
 ·have:=h1.lt _ g;omega
 ·rcases e with e|e|e
  ·omega
  ·rcases e with e|e
   ·omega
   ·cases e
  ·have:=h2 k e
   have:=(Z1u (kd:=.u8) w Z5h).size
   omega
theorem Zn8 (h1:1<=n) (h9:n<=1000):
 Calls Tryz.prog 32 #[.int .u8 3,.int .i64 (n:Int),.bool pl] w (Zqf w 3 (n:Int) pl):=by
 have q0:(Instr.makeMap 123 none).run Tryz.prog w= .ok (.map (some w.heap.size)) (Z0z .u8 w []):=rfl
 have q1:(Instr.mapUpdate 123 (.map (some w.heap.size)) (.int .u8 1) (.func (.func 53) #[] #[])).run Tryz.prog (Z0z .u8 w [])= .ok () (Z0z .u8 w [(1,.func (.func 53) #[] #[])]):=Z0a Tryz.underlying123 Tryz.underlying5 w _ _ _ rfl
 have q2:(Instr.mapUpdate 123 (.map (some w.heap.size)) (.int .u8 2) (.func (.func 55) #[] #[])).run Tryz.prog (Z0z .u8 w [(1,.func (.func 53) #[] #[])])= .ok () (Z0z .u8 w [(2,.func (.func 55) #[] #[]),(1,.func (.func 53) #[] #[])]):=Z0a Tryz.underlying123 Tryz.underlying5 w _ _ _ rfl
 have q3:(Instr.mapUpdate 123 (.map (some w.heap.size)) (.int .u8 3) (.func (.func 57) #[] #[])).run Tryz.prog (Z0z .u8 w [(2,.func (.func 55) #[] #[]),(1,.func (.func 53) #[] #[])])= .ok () (Z0z .u8 w Z5h):=Z0a Tryz.underlying123 Tryz.underlying5 w _ _ _ rfl
 have q4:(Instr.lookup 123 (.map (some w.heap.size)) (.int .u8 3) false).run Tryz.prog (Z0z .u8 w Z5h)= .ok (.func (.func 57) #[] #[]) (Z0z .u8 w Z5h):=Z2w Tryz.underlying123 Tryz.underlying5 w.heap.size _ Z5h _ 3 _ (Z2p w Z5h) rfl
 have q5:=Z5g
 have hb0:Below w.heap.size w (Z0z .u8 w Z5h):=Z1u w Z5h
 have H:=hi2 h1 h9
 clear h1 h9
 go_enter Tryz.func32,Tryz.ntmps32
 go_wp2_with fail
 have cN:=Zk1 (Z0z .u8 w Z5h) n H.out.1 H.out.2
 refine cN.mono ?_
 rintro e w2 ⟨s,rfl,G,h1,h2,h3⟩
 have hb2:=hb0.trans (h3.mono hb0.size)
 have H2:=hi4 h1 h2 h3 hb2
 clear h1 h2 h3 cN q0 q1 q2 q3 q4 hb0 hb2
 go_wp2_with fail
 refine(Zgp w2).mono ?_
 rintro e w3 ⟨rfl,c1,b3⟩
 have H3:=hi2 c1 b3
 clear c1 b3
 go_wp2
 go_ret
 obtain⟨h1,h2,h3,hb2⟩:=H2.out
 obtain⟨c1,b3⟩:=H3.out
 have hB4:Below w3.heap.size w3 (w3.alloc (.cells #[.iface 122 (.agg #[.pointer (some ⟨s,0,none⟩)]),.pointer (some ⟨w2.heap.size,0,none⟩),.bool pl] 127)):=by go_grown
 have s0:=hb2.size
 have s3:=b3.size
 have c3:=c1.lt w2.heap.size (.inl rfl)
 refine⟨w3.heap.size,w2.heap.size,_,G,rfl,⟨Han _ _,(h1.below b3).below hB4,c1.below hB4,fun k e=>?_,fun g=>?_⟩,fun k e=>?_,(hb2.trans (b3.mono s0)).trans (hB4.mono (Nat.le_trans s0 s3))⟩
 ·rcases e with e|e
  ·exact⟨fun g=>by have:=h1.lt k g;omega,by omega⟩
  ·cases e
 ·have:=h1.lt _ g;omega
 ·rcases e with e|e|e
  ·omega
  ·rcases e with e|e
   ·omega
   ·cases e
  ·have:=h2 k e
   have:=(Z1u (kd:=.u8) w Z5h).size
   omega
end
theorem Zk5 (w:World) (s:Nat) (v:Value) (xs:List Int) (most:Int) (h:Z2c w s v xs most) (hm:xs.length<=1000000):
 Calls Tryz.prog 176 #[.pointer (some ⟨s,0,none⟩)] w fun e w'=>∃u,e= .returned u/\R32 w' u xs/\(∀k,u.ownBlock=some k->w.heap.size<=k)/\Below w.heap.size w w':=by
 obtain⟨⟨c0,c1⟩,zs⟩:=Z0g h.blk
 have cC:=Z6e v xs w h.row hm
 obtain⟨ao,cap,rfl⟩:=h.row.shape
 clear h
 go_enter Tryz.func176,Tryz.ntmps176
 go_wp2_with fail
 refine cC.mono ?_
 rintro e w' ⟨u,rfl,h1,h2,h3⟩
 have H:=hi3 h1 h3 h2
 clear h1 h2 h3
 go_wp2
 go_ret
 exact⟨_,rfl,H.out⟩
theorem Zk6 (w:World) (s:Nat) (ts:List Tw) (most:Int) (nx:Nat->Nat->Option Nat) (h:SkP w s ts most nx):
 Calls Tryz.prog 222 #[.pointer (some ⟨s,0,none⟩)] w fun e w'=>∃u,e= .returned u/\R32 w' u (ts.map (·.v))/\(∀k,u.ownBlock=some k->w.heap.size<=k)/\Below w.heap.size w w':=by
 have cC:=Zk4 w s ts most nx h
 clear h
 go_enter Tryz.func222,Tryz.ntmps222
 go_wp2_with fail
 refine cC.mono ?_
 rintro e w' ⟨u,rfl,h1⟩
 have H:=Hd h1
 clear h1
 go_wp2
 go_ret
 exact⟨_,rfl,H.out⟩
theorem Z91 (s:Nat) (w:World):(callMethod (.iface 114 (.agg #[.pointer (some ⟨s,0,none⟩)])) "Items" #[]).run Tryz.prog w= .ok (.enter 176 #[.pointer (some ⟨s,0,none⟩)]) w:=by kernel_rfl
theorem Zag (s:Nat) (w:World):(callMethod (.iface 118 (.agg #[.pointer (some ⟨s,0,none⟩)])) "Items" #[]).run Tryz.prog w= .ok (.enter 197 #[.pointer (some ⟨s,0,none⟩)]) w:=by kernel_rfl
theorem Zah (s:Nat) (w:World):(callMethod (.iface 122 (.agg #[.pointer (some ⟨s,0,none⟩)])) "Items" #[]).run Tryz.prog w= .ok (.enter 222 #[.pointer (some ⟨s,0,none⟩)]) w:=by kernel_rfl
section
variable (w:World) (o s:Nat) (xs:List Int) (y z:Value)
theorem Zbv (hb:w.heap[o]?=some (.cells #[.iface 114 (.agg #[.pointer (some ⟨s,0,none⟩)]),y,z] 127 (0,0))) (hc:Calls Tryz.prog 176 #[.pointer (some ⟨s,0,none⟩)] w fun e w'=>∃u,e= .returned u/\R32 w' u xs/\(∀k,u.ownBlock=some k->w.heap.size<=k)/\Below w.heap.size w w'):
 Calls Tryz.prog 42 #[.pointer (some ⟨o,0,none⟩)] w fun e w'=>∃u,e= .returned u/\R32 w' u xs/\(∀k,u.ownBlock=some k->w.heap.size<=k)/\Below w.heap.size w w':=by
 obtain⟨⟨c0,c1,c2⟩,zo⟩:=Z3d hb
 have hi:=Z91
 clear c1 c2 hb
 go_enter Tryz.func42,Tryz.ntmps42
 go_wp2_with fail
 refine hc.mono ?_
 rintro e w' ⟨u,rfl,h1⟩
 have H:=Hd h1
 clear h1
 go_wp2
 go_ret
 exact⟨_,rfl,H.out⟩
theorem Zdx (hb:w.heap[o]?=some (.cells #[.iface 118 (.agg #[.pointer (some ⟨s,0,none⟩)]),y,z] 127 (0,0))) (hc:Calls Tryz.prog 197 #[.pointer (some ⟨s,0,none⟩)] w fun e w'=>∃u,e= .returned u/\R32 w' u xs/\(∀k,u.ownBlock=some k->w.heap.size<=k)/\Below w.heap.size w w'):
 Calls Tryz.prog 42 #[.pointer (some ⟨o,0,none⟩)] w fun e w'=>∃u,e= .returned u/\R32 w' u xs/\(∀k,u.ownBlock=some k->w.heap.size<=k)/\Below w.heap.size w w':=by
 obtain⟨⟨c0,c1,c2⟩,zo⟩:=Z3d hb
 have hi:=Zag
 clear c1 c2 hb
 go_enter Tryz.func42,Tryz.ntmps42
 go_wp2_with fail
 refine hc.mono ?_
 rintro e w' ⟨u,rfl,h1⟩
 have H:=Hd h1
 clear h1
 go_wp2
 go_ret
 exact⟨_,rfl,H.out⟩
theorem Zdy (hb:w.heap[o]?=some (.cells #[.iface 122 (.agg #[.pointer (some ⟨s,0,none⟩)]),y,z] 127 (0,0))) (hc:Calls Tryz.prog 222 #[.pointer (some ⟨s,0,none⟩)] w fun e w'=>∃u,e= .returned u/\R32 w' u xs/\(∀k,u.ownBlock=some k->w.heap.size<=k)/\Below w.heap.size w w'):
 Calls Tryz.prog 42 #[.pointer (some ⟨o,0,none⟩)] w fun e w'=>∃u,e= .returned u/\R32 w' u xs/\(∀k,u.ownBlock=some k->w.heap.size<=k)/\Below w.heap.size w w':=by
 obtain⟨⟨c0,c1,c2⟩,zo⟩:=Z3d hb
 have hi:=Zah
 clear c1 c2 hb
 go_enter Tryz.func42,Tryz.ntmps42
 go_wp2_with fail
 refine hc.mono ?_
 rintro e w' ⟨u,rfl,h1⟩
 have H:=Hd h1
 clear h1
 go_wp2
 go_ret
 exact⟨_,rfl,H.out⟩
end
theorem Zgq (w:World) (o:Nat) (ob most:Int) (pl:Bool) (xs:List Int) (c:Nat) (cv:Value) (bs:List Bool) (b:Value) (G:Nat->Prop) (h:Z4j w o ob most pl xs c cv bs b G) (h9:most<=1000):
 Calls Tryz.prog 42 #[.pointer (some ⟨o,0,none⟩)] w fun e w'=>∃u,e= .returned u/\R32 w' u xs/\(∀k,u.ownBlock=some k->w.heap.size<=k)/\Below w.heap.size w w':=by
 have hblk:=h.blk
 have hle:=h.body.le
 have hb:=h.body
 cases hb with
 |stk s v xs hs hm=>exact Zbv w o s _ _ _ hblk (Zk5 w s v _ most hs (by omega))
 |rg s v xs hs=>exact Zdx w o s _ _ _ hblk (Zk3 w s v _ most hs)
 |sk s ts nx hs=>exact Zdy w o s _ _ _ hblk (Zk6 w s ts most nx hs)
end
section
open Go.RowKit Go.MapKept Go.ChangeShapes Go.WideShapes Go.ChangeAt Go.Deep
section
variable {α:Type} {f:α->List Value} {m:Nat}
theorem Z63 (hf:∀a,(f a).length=m):∀L:List α,(L.flatMap f).length=L.length*m
 | []=>by simp
 |a::l=>by rw[List.flatMap_cons,Lla,hf,Z63 hf l,Llc,Nat.succ_mul];omega
theorem Zbx (hf:∀a,(f a).length=m):∀(L:List α) (i j:Nat) (a:α),L[i]?=some a->j<m->(L.flatMap f)[i*m+j]?=(f a)[j]?
 | [],i,j,a,h,_=>by simp at h
 |b::l,0,j,a,h,hj=>by
  obtain rfl:b=a:=by simpa using h
  rw[List.flatMap_cons,Nat.zero_mul,Nat.zero_add,Lel (by rw[hf];exact hj)]
 |b::l,i+1,j,a,h,hj=>by
  have:=Zbx hf l i j a (by simpa using h) hj
  rw[List.flatMap_cons,Ler (by rw[hf,Nat.succ_mul];omega),hf,<-this]
  congr 1
  rw[Nat.succ_mul];omega
theorem Zcq (hf:∀a,(f a).length=m):∀(L:List α) (i:Nat) (a:α),i<L.length->(L.set i a).flatMap f=(L.flatMap f).take (i*m)++f a++(L.flatMap f).drop (i*m+m)
 | [],i,a,h=>by simp at h
 |b::l,0,a,h=>by
  rw[List.set_cons_zero,List.flatMap_cons,List.flatMap_cons,Nat.zero_mul,List.take_zero,List.nil_append,Nat.zero_add,List.drop_append,List.drop_of_length_le (by rw[hf];exact Nat.le_refl _),hf,Nat.sub_self,List.drop_zero,List.nil_append]
 |b::l,i+1,a,h=>by
  have ih:=Zcq hf l i a (by simpa using h)
  rw[List.set_cons_succ,List.flatMap_cons,List.flatMap_cons,ih,List.take_append,List.drop_append,hf]
  have e:(i+1)*m=m+i*m:=by rw[Nat.succ_mul];omega
  rw[e,List.take_of_length_le (l:=f b) (by rw[hf];omega),List.drop_of_length_le (l:=f b) (by rw[hf];omega),show m+i*m-m=i*m by omega,show m+i*m+m-m=i*m+m by omega]
  simp
def Z1q (f:α->List Value) (m:Nat) (w:World) (T:TypeId) (v:Value) (L:List α):Prop:=w.ownsRow 0 T m v L.length (L.flatMap f)
variable {w w':World} {T:TypeId} {v:Value} {L:List α}
theorem Z1q.kept {S:Nat->Prop} (h:Z1q f m w T v L) (hk:Z01 S w w') (hs:∀g,v.ownBlock=some g->¬S g):Z1q f m w' T v L:=Z04 h hk hs
theorem Z1q.lt (h:Z1q f m w T v L) {g:Nat} (hg:v.ownBlock=some g):g<w.heap.size:=(World.ownsRow.lt h g hg).2
theorem Z1q.below (h:Z1q f m w T v L) (hb:Below w.heap.size w w'):Z1q f m w' T v L:=h.kept (Z01.of_below (S:=fun _=>False) hb (fun k h1 h2=>by omega)) (fun _ _ h=>h)
theorem Z1q.nil (f:α->List Value) (m:Nat) (w:World) (T:TypeId):Z1q f m w T (.slice none 0 0) []:=World.ownsRow_nil w 0 T m
theorem Z1q.of {base n:Nat} {ys:List Value} (h:w.ownsRow base T m v n ys) (hn:n=L.length) (hy:ys=L.flatMap f):Z1q f m w T v L:=by
 subst hn;subst hy
 refine⟨h.1,?_⟩
 rcases h.2 with h2|⟨g,cap,cur,h2,_,r⟩
 ·exact .inl h2
 ·exact .inr ⟨g,cap,cur,h2,Nat.zero_le _,r⟩
theorem Z1q.snoc {a:α} {base:Nat} (h:w.ownsRow base T m v (L.length+1) (L.flatMap f++f a)):Z1q f m w T v (L++ [a]):=Z1q.of h (by simp) (by simp)
theorem Z1q.shape (h:Z1q f m w T v L):∃ao cap,v= .slice ao L.length cap:=Z03 h
theorem Z1q.pos (hf:∀a,(f a).length=m) (h:Z1q f m w T v L) (hp:0<L.length):∃g cap,v= .slice (some ⟨g,0,none⟩) L.length cap/\L.length<=cap/\g<w.heap.size/\
 (∀i j a u,L[i]?=some a->j<m->(f a)[j]?=some u->w.cell? ⟨g,i*m+j,none⟩=some u)/\(∀j,w.frozen? ⟨g,j,none⟩=false):=by
 rcases h.2 with⟨rfl,h0⟩|⟨g,cap,cur,rfl,_,hg,hn,_,hc,ht⟩
 ·omega
 ·refine⟨g,cap,rfl,hn,(Gl hg),fun i j a u ha hj hu=>?_,fun j=>by simp[World.frozen?,hg]⟩
  have h1:=World.ownsRow.cells h (g:=g) rfl (i*m+j) u ((Zbx hf L i j a ha hj).trans hu)
  rwa [Z2t,Nat.zero_add]at h1
theorem Z6r (b:Nat) (t:TypeId):∀(l:List Value) (w:World) (k:Nat) (cs:Array Value),w.heap[b]?=some (.cells cs t (0,0))->k+l.length<=cs.size->
 ∃cs',(Z3n w b k l).heap[b]?=some (.cells cs' t (0,0))/\cs'.toList=cs.toList.take k++l++cs.toList.drop (k+l.length)
 | [],w,k,cs,h,hs=>⟨cs,h,by simp⟩
 |x::l,w,k,cs,h,hs=>by
  simp only[Llc]at hs
  obtain⟨cs',h1,h2⟩:=Z6r b t l (w.setCell ⟨b,k,none⟩ x) (k+1) (cs.setIfInBounds k x) (Z00 h k x) (by simp;omega)
  refine⟨cs',h1,?_⟩
  have hk:k<cs.toList.length:=by rw[Array.length_toList];omega
  rw[h2,Array.toList_setIfInBounds,Llc,show k+1+l.length=k+(l.length+1) by omega]
  have e1:(cs.toList.set k x).take (k+1)=cs.toList.take k++ [x]:=by
   rw[List.take_set,List.take_succ_eq_append_getElem hk,List.set_append_right _ _ (by rw[List.length_take];omega),show k-(cs.toList.take k).length=0 by rw[List.length_take];omega,List.set_cons_zero]
  have e2:(cs.toList.set k x).drop (k+(l.length+1))=cs.toList.drop (k+(l.length+1)):=List.drop_set_of_lt (by omega)
  rw[e1,e2]
  simp
theorem Z1q.setAt (hf:∀a,(f a).length=m) {g n cap:Nat} (h:Z1q f m w T (.slice (some ⟨g,0,none⟩) n cap) L) (i:Nat) (hi:i<L.length) (a:α):Z1q f m (Z3n w g (i*m) (f a)) T (.slice (some ⟨g,0,none⟩) n cap) (L.set i a):=by
 rcases h.2 with⟨e,_⟩|⟨g',cap',cur,e,hb,hg,hn,hm,hc,ht⟩
 ·cases e
 ·cases e
  have hle:(i+1)*m<=L.length*m:=Nat.mul_le_mul_right m hi
  have hle2:L.length*m<=cap*m:=Nat.mul_le_mul_right m hn
  rw[Nat.succ_mul]at hle
  obtain⟨cs',h1,h2⟩:=Z6r g T (f a) w (i*m) cur hg (by rw[hf];omega)
  have hs:cs'.size=cap*m:=by
   rw[<-Array.length_toList,h2,Lla,Lla,List.length_take,List.length_drop,Array.length_toList,hf];omega
  have hcl:cur.toList.length=cap*m:=by simpa using hc
  refine⟨by rw[Z63 hf],.inr ⟨g,cap,cs',by simp,Nat.zero_le _,h1,by simpa using hn,hm,hs,?_⟩⟩
  rw[h2,Zcq hf L i a hi,Lls,hf,<-ht,List.take_take,Nat.min_eq_left (by omega),List.take_append,List.take_of_length_le (by rw[Lla,List.length_take,hf];omega)]
  congr 1
  rw[Lla,List.length_take,hf,hcl,Nat.min_eq_left (by omega),List.drop_take]
end
def Zhd (w:World) (b:Nat) (n:Int):Prop:=∃(es:Array MapEntry) (nx:Nat),w.heap[b]?=some (.map es nx)/\∀e ∈ es.toList,∃k v:Int,e.key= .int .i64 k/\e.val= .int .i64 v/\0<=v/\v<n
theorem Zhd.lt {w:World} {b:Nat} {n:Int} (h:Zhd w b n):b<w.heap.size:=by
 obtain⟨es,nx,hb,_⟩:=h
 exact(Gl hb)
theorem Zhd.kept {w w':World} {b:Nat} {n:Int} {S:Nat->Prop} (h:Zhd w b n) (hk:Z01 S w w') (hs:¬S b):Zhd w' b n:=by
 have hl:=h.lt
 obtain⟨es,nx,hb,he⟩:=h
 exact⟨es,nx,(hk.block b hl hs).trans hb,he⟩
theorem Z6s {n:Int} (k:Int):∀(l:List MapEntry) (i:Nat),(∀e ∈ l,∃k v:Int,e.key= .int .i64 k/\e.val= .int .i64 v/\0<=v/\v<n)->
 Instr.findNow (.int .i64) (.int .i64 k) l i=some none\/∃j v,Instr.findNow (.int .i64) (.int .i64 k) l i=some (some (i+j,.int .i64 v))/\0<=v/\v<n/\∃e,l[j]?=some e/\e.key= .int .i64 k
 | [],i,_=>.inl rfl
 |e::l,i,h=>by
  obtain⟨q,v,e1,e2,e3,e4⟩:=h e (by simp)
  by_cases hk:k=q
  ·subst hk
   exact .inr ⟨0,v,by simp[Instr.findNow,Instr.sameNow,e1,e2],e3,e4,e,rfl,e1⟩
  ·have hk':(k == q)=false:=beq_eq_false_iff_ne.2 hk
   rcases Z6s k l (i+1) (fun e he=>h e (by simp[he]))with h1|⟨j,v,h1,h2,h3,e',h4,h5⟩
   ·exact .inl (by simpa [Instr.findNow,Instr.sameNow,e1,hk']using h1)
   ·exact .inr ⟨j+1,v,by rw[show i+(j+1)=i+1+j by omega];simpa [Instr.findNow,Instr.sameNow,e1,hk']using h1,h2,h3,e',by simpa using h4,h5⟩
section
variable {P:Program} {mt kt et:TypeId} (hm:P.underlying mt=some (.map kt et)) (hk:P.underlying kt=some (.int .i64))
include hm hk
theorem Zhe (he:∀w:World,(zeroValue et).run P w= .ok (.int .i64 0) w) {w:World} {b:Nat} {n:Int} (h:Zhd w b n) (hn:0<n) (k:Int):∃v:Int,0<=v/\v<n/\(Instr.lookup mt (.map (some b)) (.int .i64 k) false).run P w= .ok (.int .i64 v) w:=by
 obtain⟨es,nx,hb,hes⟩:=h
 have hc:(Instr.checkKey es.isEmpty 10000 kt (.int .i64 k)).run P w= .ok () w:=run_checkKey hk (k:=.int .i64 k) rfl es.isEmpty 9999
 rcases Z6s k es.toList 0 hes with hj|⟨j,v,hj,h1,h2,-⟩
 ·have hf:=Go.MapKept.run_findKey (P:=P) (w:=w) hk hj
  refine⟨0,by omega,hn,?_⟩
  unfold Instr.lookup
  simp only[Sem.run_bind,run_underlying hm,Result.andThen_ok,Go.MapKept.run_getObj_map hb,Sem.run_pure,hc,hf]
  simp[he,Result.andThen]
 ·have hf:=Go.MapKept.run_findKey (P:=P) (w:=w) hk hj
  refine⟨v,h1,h2,?_⟩
  unfold Instr.lookup
  simp only[Sem.run_bind,run_underlying hm,Result.andThen_ok,Go.MapKept.run_getObj_map hb,Sem.run_pure,hc,hf]
  simp[Result.andThen]
theorem Zka {w:World} {b:Nat} {n:Int} (h:Zhd w b n) (k v:Int) (h1:0<=v) (h2:v<n):∃w',(Instr.mapUpdate mt (.map (some b)) (.int .i64 k) (.int .i64 v)).run P w= .ok () w'/\Zhd w' b n/\Z01 (fun k=>k=b) w w'/\w'.heap.size=w.heap.size:=by
 have hlt:=h.lt
 obtain⟨es,nx,hb,hes⟩:=h
 have hc:(Instr.checkKey false 10000 kt (.int .i64 k)).run P w= .ok () w:=run_checkKey hk (k:=.int .i64 k) rfl false 9999
 have key:∀(es':Array MapEntry) (nx':Nat),(∀e ∈ es'.toList,∃k v:Int,e.key= .int .i64 k/\e.val= .int .i64 v/\0<=v/\v<n)->Zhd {w with heap:=w.heap.setIfInBounds b (.map es' nx')} b n/\Z01 (fun k=>k=b) w {w with heap:=w.heap.setIfInBounds b (.map es' nx')}/\({w with heap:=w.heap.setIfInBounds b (.map es' nx')}:World).heap.size=w.heap.size:=fun es' nx' h'=>
  ⟨⟨es',nx',by simp[hlt],h'⟩,⟨rfl,rfl,rfl,by simp,fun k hk hn=>by simp only[];rw[Array.getElem?_setIfInBounds,if_neg (fun e=>hn e.symm)]⟩,by simp⟩
 rcases Z6s k es.toList 0 hes with hj|⟨j,v0,hj,-,-,e0,he0,hek⟩
 ·have hf:=Go.MapKept.run_findKey (P:=P) (w:=w) hk hj
  refine⟨_,?_,key (es.push {key:=.int .i64 k,val:=.int .i64 v,born:=nx}) (nx+1) (fun e he=>?_)⟩
  ·unfold Instr.mapUpdate
   simp only[Sem.run_bind,run_underlying hm,Result.andThen_ok,Go.MapKept.run_getObj_map hb,hc,hf,Go.MapKept.run_setObj_map _ hb]
  ·rw[Array.toList_push,List.mem_append]at he
   rcases he with he|he
   ·exact hes e he
   ·rw[List.mem_singleton.1 he];exact⟨k,v,rfl,rfl,h1,h2⟩
 ·have hf:=Go.MapKept.run_findKey (P:=P) (w:=w) hk hj
  rw[Nat.zero_add]at hf
  have hes0:es[j]?=some e0:=by simpa using he0
  have hst:(Instr.keyThatStays (((es[j]?).map (·.key)).getD (.int .i64 k)) (.int .i64 k)).run P w= .ok (.int .i64 k) w:=by
   rw[hes0]
   simp only[Option.map_some,Option.getD_some,hek]
   unfold Instr.keyThatStays
   rw[if_pos (by simp[Instr.sameBits]),Sem.run_pure]
  refine⟨_,?_,key (es.modify j fun e=>{e with key:=.int .i64 k,val:=.int .i64 v}) nx (fun e he=>?_)⟩
  ·unfold Instr.mapUpdate
   simp only[Sem.run_bind,run_underlying hm,Result.andThen_ok,Go.MapKept.run_getObj_map hb,hc,hf,hst,Go.MapKept.run_setObj_map _ hb]
  ·obtain⟨i,hi,hg⟩:=List.getElem_of_mem he
   simp only[Array.getElem_toList,Array.getElem_modify]at hg
   split at hg
   ·rw[<-hg];exact⟨k,v,rfl,rfl,h1,h2⟩
   ·rw[<-hg];exact hes _ (by simp)
end
end
end Go.Proofs.YtihljjgmkaeohaaGreat
