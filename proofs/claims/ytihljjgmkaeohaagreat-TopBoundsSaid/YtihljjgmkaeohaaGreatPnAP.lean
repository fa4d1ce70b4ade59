/- part 16 -/
import Derived.Test.YtihljjgmkaeohaaGreatPnAM
import Derived.Test.YtihljjgmkaeohaaGreatPnAO
set_option linter.all false
set_option maxHeartbeats 16000000
set_option maxRecDepth 100000
namespace Go.Proofs.YtihljjgmkaeohaaGreat
section
open Go.RowKit Go.ChangeShapes Go.WideShapes Go.ChangeAt Go.Deep
structure Bx4 (w:World) (tb ob vb r:Nat) (ov vv:Value):Prop where
 ct:w.heap[tb]?=some (.cells #[Zci r,Zcj r] 270 (0,0))
 co:w.cell? ⟨ob,0,none⟩=some ov
 cv:w.cell? ⟨vb,0,none⟩=some vv
section
variable {w w':World} {tb ob vb r:Nat} {ov vv:Value}
theorem Bx4.kept {F:Nat->Prop} (h:Bx4 w tb ob vb r ov vv) (hk:Z01 F w w') (hd:Dj F (BxF tb ob vb)):Bx4 w' tb ob vb r ov vv:=
 ⟨(hk.block tb (Gl h.ct) (fun e=>hd _ e (.inl rfl))).trans h.ct,(hk.cell (p:=⟨ob,0,none⟩) (Blt w _ h.co) (fun e=>hd _ e (.inr (.inl rfl)))).trans h.co,(hk.cell (p:=⟨vb,0,none⟩) (Blt w _ h.cv) (fun e=>hd _ e (.inr (.inr rfl)))).trans h.cv⟩
theorem Bx4.lt (h:Bx4 w tb ob vb r ov vv):∀k,BxF tb ob vb k->k<w.heap.size:=fun k e=>by
 rcases e with rfl|rfl|rfl
 ·exact(Gl h.ct)
 ·exact Blt w _ h.co
 ·exact Blt w _ h.cv
theorem Bx4.c0 (h:Bx4 w tb ob vb r ov vv):w.cell? ⟨tb,0,none⟩=some (Zci r)/\w.cell? ⟨tb,1,none⟩=some (Zcj r):=by
 have:=h.ct
 exact⟨by simp[World.cell?,this],by simp[World.cell?,this]⟩
end
structure EA (w:World) (r m tb ob vb mk:Nat) (rv v0 v1 vv ov tv:Value) (xs W0 W1 Vs:List Int) (L RR:List (Int×Int)) (most be:Int):Prop where
 R:RgS w r rv xs most
 M:EnP w m v0 v1 W0 W1 be most
 V:R32 w vv Vs
 O:P2 w 47 ov L
 T:P2 w 43 tv RR
 B:Bx4 w tb ob vb r ov vv
 K:w.heap[mk]?=some (.map (Z85 .u8 Z77) Z77.length)
 dRM:Dj (RgF r rv) (EnF m v0 v1)
 dRV:Dj (RgF r rv) (Z14 vv)
 dRO:Dj (RgF r rv) (Z14 ov)
 dRT:Dj (RgF r rv) (Z14 tv)
 dRB:Dj (RgF r rv) (BxF tb ob vb)
 dRK:Dj (RgF r rv) ((fun k=>k=mk))
 dMV:Dj (EnF m v0 v1) (Z14 vv)
 dMO:Dj (EnF m v0 v1) (Z14 ov)
 dMT:Dj (EnF m v0 v1) (Z14 tv)
 dMB:Dj (EnF m v0 v1) (BxF tb ob vb)
 dMK:Dj (EnF m v0 v1) ((fun k=>k=mk))
 dVO:Dj (Z14 vv) (Z14 ov)
 dVT:Dj (Z14 vv) (Z14 tv)
 dVB:Dj (Z14 vv) (BxF tb ob vb)
 dVK:Dj (Z14 vv) ((fun k=>k=mk))
 dOT:Dj (Z14 ov) (Z14 tv)
 dOB:Dj (Z14 ov) (BxF tb ob vb)
 dOK:Dj (Z14 ov) ((fun k=>k=mk))
 dTB:Dj (Z14 tv) (BxF tb ob vb)
 dTK:Dj (Z14 tv) ((fun k=>k=mk))
 dBK:Dj (BxF tb ob vb) ((fun k=>k=mk))
section
variable {w w':World} {r m tb ob vb mk:Nat} {rv v0 v1 vv ov tv:Value} {xs W0 W1 Vs:List Int} {L RR:List (Int×Int)} {most be:Int}
theorem EA.below (h:EA w r m tb ob vb mk rv v0 v1 vv ov tv xs W0 W1 Vs L RR most be) (hb:Below w.heap.size w w'):EA w' r m tb ob vb mk rv v0 v1 vv ov tv xs W0 W1 Vs L RR most be where
 R:=h.R.below hb
 M:=h.M.below hb
 V:=h.V.below hb
 O:=h.O.below hb
 T:=h.T.below hb
 B:=h.B.kept (Z0b (F:=fun _=>False) hb) (fun k e=>e.elim)
 K:=(hb.block mk (Gl h.K)).trans h.K
 dRM:=h.dRM
 dRV:=h.dRV
 dRO:=h.dRO
 dRT:=h.dRT
 dRB:=h.dRB
 dRK:=h.dRK
 dMV:=h.dMV
 dMO:=h.dMO
 dMT:=h.dMT
 dMB:=h.dMB
 dMK:=h.dMK
 dVO:=h.dVO
 dVT:=h.dVT
 dVB:=h.dVB
 dVK:=h.dVK
 dOT:=h.dOT
 dOB:=h.dOB
 dOK:=h.dOK
 dTB:=h.dTB
 dTK:=h.dTK
 dBK:=h.dBK
theorem EA.turnM (h:EA w r m tb ob vb mk rv v0 v1 vv ov tv xs W0 W1 Vs L RR most be) {v0' v1':Value} {W0' W1':List Int} {be':Int} (h2:EnP w' m v0' v1' W0' W1' be' most) (hg:∀k,EnF m v0' v1' k->EnF m v0 v1 k\/w.heap.size<=k) (hk:Z01 (EnF m v0 v1) w w'):EA w' r m tb ob vb mk rv v0' v1' vv ov tv xs W0' W1' Vs L RR most be' where
 R:=h.R.kept hk (fun e=>h.dRM.symm _ e (.inl rfl)) (fun t e hh=>h.dRM.symm _ hh (.inr e))
 M:=h2
 V:=h.V.kept hk (fun t e hh=>h.dMV _ hh e)
 O:=h.O.kept hk (fun t e hh=>h.dMO _ hh e)
 T:=h.T.kept hk (fun t e hh=>h.dMT _ hh e)
 B:=h.B.kept hk h.dMB
 K:=(hk.block mk (Gl h.K) (fun e=>h.dMK _ e rfl)).trans h.K
 dRM:=(h.dRM.symm.grow hg (fun k e=>by rcases e with e|e;rw[e];exact h.R.lt;exact h.R.vlt k e)).symm
 dRV:=h.dRV
 dRO:=h.dRO
 dRT:=h.dRT
 dRB:=h.dRB
 dRK:=h.dRK
 dMV:=h.dMV.grow hg (fun k e=>h.V.lt e)
 dMO:=h.dMO.grow hg (fun k e=>h.O.lt e)
 dMT:=h.dMT.grow hg (fun k e=>h.T.lt e)
 dMB:=h.dMB.grow hg h.B.lt
 dMK:=h.dMK.grow hg (fun k e=>by rw[e];exact(Gl h.K))
 dVO:=h.dVO
 dVT:=h.dVT
 dVB:=h.dVB
 dVK:=h.dVK
 dOT:=h.dOT
 dOB:=h.dOB
 dOK:=h.dOK
 dTB:=h.dTB
 dTK:=h.dTK
 dBK:=h.dBK
theorem EA.turnV (h:EA w r m tb ob vb mk rv v0 v1 vv ov tv xs W0 W1 Vs L RR most be) {Vs':List Int} (h2:R32 w' vv Vs') (hk:Z01 (Z14 vv) w w'):EA w' r m tb ob vb mk rv v0 v1 vv ov tv xs W0 W1 Vs' L RR most be where
 R:=h.R.kept hk (fun e=>h.dRV.symm _ e (.inl rfl)) (fun t e hh=>h.dRV.symm _ hh (.inr e))
 M:=h.M.kept hk (fun t e hh=>h.dMV.symm _ hh e)
 V:=h2
 O:=h.O.kept hk (fun t e hh=>h.dVO _ hh e)
 T:=h.T.kept hk (fun t e hh=>h.dVT _ hh e)
 B:=h.B.kept hk h.dVB
 K:=(hk.block mk (Gl h.K) (fun e=>h.dVK _ e rfl)).trans h.K
 dRM:=h.dRM
 dRV:=(h.dRV.symm.grow (fun k e=>.inl e) (fun k e=>by rcases e with e|e;rw[e];exact h.R.lt;exact h.R.vlt k e)).symm
 dRO:=h.dRO
 dRT:=h.dRT
 dRB:=h.dRB
 dRK:=h.dRK
 dMV:=(h.dMV.symm.grow (fun k e=>.inl e) h.M.flt).symm
 dMO:=h.dMO
 dMT:=h.dMT
 dMB:=h.dMB
 dMK:=h.dMK
 dVO:=h.dVO.grow (fun k e=>.inl e) (fun k e=>h.O.lt e)
 dVT:=h.dVT.grow (fun k e=>.inl e) (fun k e=>h.T.lt e)
 dVB:=h.dVB.grow (fun k e=>.inl e) h.B.lt
 dVK:=h.dVK.grow (fun k e=>.inl e) (fun k e=>by rw[e];exact(Gl h.K))
 dOT:=h.dOT
 dOB:=h.dOB
 dOK:=h.dOK
 dTB:=h.dTB
 dTK:=h.dTK
 dBK:=h.dBK
theorem EA.turnT (h:EA w r m tb ob vb mk rv v0 v1 vv ov tv xs W0 W1 Vs L RR most be) {RR':List (Int×Int)} (h2:P2 w' 43 tv RR') (hk:Z01 (Z14 tv) w w'):EA w' r m tb ob vb mk rv v0 v1 vv ov tv xs W0 W1 Vs L RR' most be where
 R:=h.R.kept hk (fun e=>h.dRT.symm _ e (.inl rfl)) (fun t e hh=>h.dRT.symm _ hh (.inr e))
 M:=h.M.kept hk (fun t e hh=>h.dMT.symm _ hh e)
 V:=h.V.kept hk (fun t e hh=>h.dVT.symm _ hh e)
 O:=h.O.kept hk (fun t e hh=>h.dOT.symm _ hh e)
 T:=h2
 B:=h.B.kept hk h.dTB
 K:=(hk.block mk (Gl h.K) (fun e=>h.dTK _ e rfl)).trans h.K
 dRM:=h.dRM
 dRV:=h.dRV
 dRO:=h.dRO
 dRT:=(h.dRT.symm.grow (fun k e=>.inl e) (fun k e=>by rcases e with e|e;rw[e];exact h.R.lt;exact h.R.vlt k e)).symm
 dRB:=h.dRB
 dRK:=h.dRK
 dMV:=h.dMV
 dMO:=h.dMO
 dMT:=(h.dMT.symm.grow (fun k e=>.inl e) h.M.flt).symm
 dMB:=h.dMB
 dMK:=h.dMK
 dVO:=h.dVO
 dVT:=(h.dVT.symm.grow (fun k e=>.inl e) (fun k e=>h.V.lt e)).symm
 dVB:=h.dVB
 dVK:=h.dVK
 dOT:=(h.dOT.symm.grow (fun k e=>.inl e) (fun k e=>h.O.lt e)).symm
 dOB:=h.dOB
 dOK:=h.dOK
 dTB:=h.dTB.grow (fun k e=>.inl e) h.B.lt
 dTK:=h.dTK.grow (fun k e=>.inl e) (fun k e=>by rw[e];exact(Gl h.K))
 dBK:=h.dBK
theorem EA.turnR (h:EA w r m tb ob vb mk rv v0 v1 vv ov tv xs W0 W1 Vs L RR most be) {xs':List Int} (h2:RgS w' r rv xs' most) (hk:Z01 (RgF r rv) w w'):EA w' r m tb ob vb mk rv v0 v1 vv ov tv xs' W0 W1 Vs L RR most be where
 R:=h2
 M:=h.M.kept hk (fun t e hh=>h.dRM _ hh e)
 V:=h.V.kept hk (fun t e hh=>h.dRV _ hh e)
 O:=h.O.kept hk (fun t e hh=>h.dRO _ hh e)
 T:=h.T.kept hk (fun t e hh=>h.dRT _ hh e)
 B:=h.B.kept hk h.dRB
 K:=(hk.block mk (Gl h.K) (fun e=>h.dRK _ e rfl)).trans h.K
 dRM:=h.dRM.grow (fun k e=>.inl e) h.M.flt
 dRV:=h.dRV.grow (fun k e=>.inl e) (fun k e=>h.V.lt e)
 dRO:=h.dRO.grow (fun k e=>.inl e) (fun k e=>h.O.lt e)
 dRT:=h.dRT.grow (fun k e=>.inl e) (fun k e=>h.T.lt e)
 dRB:=h.dRB.grow (fun k e=>.inl e) h.B.lt
 dRK:=h.dRK.grow (fun k e=>.inl e) (fun k e=>by rw[e];exact(Gl h.K))
 dMV:=h.dMV
 dMO:=h.dMO
 dMT:=h.dMT
 dMB:=h.dMB
 dMK:=h.dMK
 dVO:=h.dVO
 dVT:=h.dVT
 dVB:=h.dVB
 dVK:=h.dVK
 dOT:=h.dOT
 dOB:=h.dOB
 dOK:=h.dOK
 dTB:=h.dTB
 dTK:=h.dTK
 dBK:=h.dBK
theorem EA.turnRV (h:EA w r m tb ob vb mk rv v0 v1 vv ov tv xs W0 W1 Vs L RR most be) {xs' Vs':List Int} (h2:RgS w' r rv xs' most) (hV2:R32 w' vv Vs') (hk:Z01 (fun k=>RgF r rv k\/Z14 vv k) w w'):EA w' r m tb ob vb mk rv v0 v1 vv ov tv xs' W0 W1 Vs' L RR most be where
 R:=h2
 M:=h.M.kept hk (fun t e hh=>(show Dj (fun k=>RgF r rv k\/Z14 vv k) _ from fun k e=>e.elim (h.dRM k) (h.dMV.symm k)) _ hh e)
 V:=hV2
 O:=h.O.kept hk (fun t e hh=>(show Dj (fun k=>RgF r rv k\/Z14 vv k) _ from fun k e=>e.elim (h.dRO k) (h.dVO k)) _ hh e)
 T:=h.T.kept hk (fun t e hh=>(show Dj (fun k=>RgF r rv k\/Z14 vv k) _ from fun k e=>e.elim (h.dRT k) (h.dVT k)) _ hh e)
 B:=h.B.kept hk (show Dj (fun k=>RgF r rv k\/Z14 vv k) _ from fun k e=>e.elim (h.dRB k) (h.dVB k))
 K:=(hk.block mk (Gl h.K) (fun e=>(show Dj (fun k=>RgF r rv k\/Z14 vv k) _ from fun k e=>e.elim (h.dRK k) (h.dVK k)) _ e rfl)).trans h.K
 dRM:=h.dRM.grow (fun k e=>.inl e) h.M.flt
 dRV:=h.dRV
 dRO:=h.dRO.grow (fun k e=>.inl e) (fun k e=>h.O.lt e)
 dRT:=h.dRT.grow (fun k e=>.inl e) (fun k e=>h.T.lt e)
 dRB:=h.dRB.grow (fun k e=>.inl e) h.B.lt
 dRK:=h.dRK.grow (fun k e=>.inl e) (fun k e=>by rw[e];exact(Gl h.K))
 dMV:=(h.dMV.symm.grow (fun k e=>.inl e) h.M.flt).symm
 dMO:=h.dMO
 dMT:=h.dMT
 dMB:=h.dMB
 dMK:=h.dMK
 dVO:=h.dVO.grow (fun k e=>.inl e) (fun k e=>h.O.lt e)
 dVT:=h.dVT.grow (fun k e=>.inl e) (fun k e=>h.T.lt e)
 dVB:=h.dVB.grow (fun k e=>.inl e) h.B.lt
 dVK:=h.dVK.grow (fun k e=>.inl e) (fun k e=>by rw[e];exact(Gl h.K))
 dOT:=h.dOT
 dOB:=h.dOB
 dOK:=h.dOK
 dTB:=h.dTB
 dTK:=h.dTK
 dBK:=h.dBK
theorem EA.newT {tv':Value} {RR':List (Int×Int)} (h:EA w r m tb ob vb mk rv v0 v1 vv ov tv xs W0 W1 Vs L RR most be) (hb:Below w.heap.size w w') (hT:P2 w' 43 tv' RR') (hn:∀k,Z14 tv' k->w.heap.size<=k):EA w' r m tb ob vb mk rv v0 v1 vv ov tv' xs W0 W1 Vs L RR' most be where
 R:=(h.below hb).R
 M:=(h.below hb).M
 V:=(h.below hb).V
 O:=(h.below hb).O
 T:=hT
 B:=(h.below hb).B
 K:=(h.below hb).K
 dRM:=h.dRM
 dRV:=h.dRV
 dRO:=h.dRO
 dRT:=fun k hk hn'=>absurd ((show ∀k,(RgF r rv) k->k<w.heap.size from(fun k e=>by rcases e with e|e;rw[e];exact h.R.lt;exact h.R.vlt k e)) k hk) (by have:=hn k hn';omega)
 dRB:=h.dRB
 dRK:=h.dRK
 dMV:=h.dMV
 dMO:=h.dMO
 dMT:=fun k hk hn'=>absurd ((show ∀k,(EnF m v0 v1) k->k<w.heap.size from h.M.flt) k hk) (by have:=hn k hn';omega)
 dMB:=h.dMB
 dMK:=h.dMK
 dVO:=h.dVO
 dVT:=fun k hk hn'=>absurd ((show ∀k,(Z14 vv) k->k<w.heap.size from(fun k e=>h.V.lt e)) k hk) (by have:=hn k hn';omega)
 dVB:=h.dVB
 dVK:=h.dVK
 dOT:=fun k hk hn'=>absurd ((show ∀k,(Z14 ov) k->k<w.heap.size from(fun k e=>h.O.lt e)) k hk) (by have:=hn k hn';omega)
 dOB:=h.dOB
 dOK:=h.dOK
 dTB:=fun k hn' hk=>absurd ((show ∀k,(BxF tb ob vb) k->k<w.heap.size from h.B.lt) k hk) (by have:=hn k hn';omega)
 dTK:=fun k hn' hk=>absurd ((show ∀k,((fun k=>k=mk)) k->k<w.heap.size from(fun k e=>by rw[e];exact(Gl h.K))) k hk) (by have:=hn k hn';omega)
 dBK:=h.dBK
end
structure EA0 (w:World) (r m tb ob vb:Nat) (rv v0 v1 vv ov:Value) (xs W0 W1 Vs:List Int) (L:List (Int×Int)) (most be:Int):Prop where
 R:RgS w r rv xs most
 M:EnP w m v0 v1 W0 W1 be most
 V:R32 w vv Vs
 O:P2 w 47 ov L
 B:Bx4 w tb ob vb r ov vv
 dRM:Dj (RgF r rv) (EnF m v0 v1)
 dRV:Dj (RgF r rv) (Z14 vv)
 dRO:Dj (RgF r rv) (Z14 ov)
 dRB:Dj (RgF r rv) (BxF tb ob vb)
 dMV:Dj (EnF m v0 v1) (Z14 vv)
 dMO:Dj (EnF m v0 v1) (Z14 ov)
 dMB:Dj (EnF m v0 v1) (BxF tb ob vb)
 dVO:Dj (Z14 vv) (Z14 ov)
 dVB:Dj (Z14 vv) (BxF tb ob vb)
 dOB:Dj (Z14 ov) (BxF tb ob vb)
theorem EA0.up {w w':World} {r m tb ob vb mk:Nat} {rv v0 v1 vv ov tv:Value} {xs W0 W1 Vs:List Int} {L RR:List (Int×Int)} {most be:Int} (h:EA0 w r m tb ob vb rv v0 v1 vv ov xs W0 W1 Vs L most be) (hb:Below w.heap.size w w') (hT:P2 w' 43 tv RR) (hn:∀k,Z14 tv k->w.heap.size<=k) (hK:w'.heap[mk]?=some (.map (Z85 .u8 Z77) Z77.length)) (hm:w.heap.size<=mk) (ht:∀k,Z14 tv k->k≠mk):EA w' r m tb ob vb mk rv v0 v1 vv ov tv xs W0 W1 Vs L RR most be where
 R:=h.R.below hb
 M:=h.M.below hb
 V:=h.V.below hb
 O:=h.O.below hb
 T:=hT
 B:=h.B.kept (Z0b (F:=fun _=>False) hb) (fun k e=>e.elim)
 K:=hK
 dRM:=h.dRM
 dRV:=h.dRV
 dRO:=h.dRO
 dRT:=fun k e f=>by have:=(show ∀k,(RgF r rv) k->k<w.heap.size from(fun k e=>by rcases e with rfl|e;exact h.R.lt;exact h.R.vlt k e)) k e;have:=hn k f;omega
 dRB:=h.dRB
 dRK:=fun k e f=>by have:=(show ∀k,(RgF r rv) k->k<w.heap.size from(fun k e=>by rcases e with rfl|e;exact h.R.lt;exact h.R.vlt k e)) k e;have f2:k=mk:=f;omega
 dMV:=h.dMV
 dMO:=h.dMO
 dMT:=fun k e f=>by have:=(show ∀k,(EnF m v0 v1) k->k<w.heap.size from h.M.flt) k e;have:=hn k f;omega
 dMB:=h.dMB
 dMK:=fun k e f=>by have:=(show ∀k,(EnF m v0 v1) k->k<w.heap.size from h.M.flt) k e;have f2:k=mk:=f;omega
 dVO:=h.dVO
 dVT:=fun k e f=>by have:=(show ∀k,(Z14 vv) k->k<w.heap.size from(fun k e=>h.V.lt e)) k e;have:=hn k f;omega
 dVB:=h.dVB
 dVK:=fun k e f=>by have:=(show ∀k,(Z14 vv) k->k<w.heap.size from(fun k e=>h.V.lt e)) k e;have f2:k=mk:=f;omega
 dOT:=fun k e f=>by have:=(show ∀k,(Z14 ov) k->k<w.heap.size from(fun k e=>h.O.lt e)) k e;have:=hn k f;omega
 dOB:=h.dOB
 dOK:=fun k e f=>by have:=(show ∀k,(Z14 ov) k->k<w.heap.size from(fun k e=>h.O.lt e)) k e;have f2:k=mk:=f;omega
 dTB:=fun k f e=>by have:=(show ∀k,(BxF tb ob vb) k->k<w.heap.size from h.B.lt) k e;have:=hn k f;omega
 dTK:=fun k e f=>ht k e f
 dBK:=fun k e f=>by have:=(show ∀k,(BxF tb ob vb) k->k<w.heap.size from h.B.lt) k e;have f2:k=mk:=f;omega
abbrev opV (L:List (Int×Int)) (p:Int):Int:=(L.getD p.toNat (0,0)).2
def Z1z (L:List (Int×Int)) (W0 xs W1:List Int):List Int:=(W0.map (opV L)).reverse++(xs++W1.map (opV L))
structure Zmw (most:Int) (xs0:List Int) (L:List (Int×Int)) (i:Nat) (xs W0 W1 Vs:List Int) (RR:List (Int×Int)):Prop where
 st:(Z09 (Z07 most) xs0 (L.take i)).1=Z1z L W0 xs W1
 w0:∀p ∈ W0,0<=p/\p<(i:Int)
 w1:∀p ∈ W1,0<=p/\p<(i:Int)
 rl:RR.length=L.length
 vl:Vs.length=L.length
 r2:∀j,(RR.getD j (0,0)).2=0
 v0:∀j,i<=j->Vs.getD j 0=0
 eq:∀j,j<i->(Z09 (Z07 most) xs0 (L.take i)).2.getD j (0,0)=((RR.getD j (0,0)).1,Vs.getD j 0)
theorem Zmw.step {most:Int} {xs0 xs W0 W1 Vs xs' W0' W1' Vs':List Int} {L RR RR':List (Int×Int)} {i:Nat} (h:Zmw most xs0 L i xs W0 W1 Vs RR) (hi:i<L.length) {k y c d:Int} (hk:L.getD i (0,0)=(k,y))
 (hst:Z07 most (Z1z L W0 xs W1) (k,y)=(Z1z L W0' xs' W1',(c,d)))
 (hw0:∀p ∈ W0',p ∈ W0\/p=(i:Int)) (hw1:∀p ∈ W1',p ∈ W1\/p=(i:Int)) (hr:RR'=RR.set i (c,0)) (hv:Vs'=Vs.set i d):Zmw most xs0 L (i+1) xs' W0' W1' Vs' RR':=by
 have hs:Z09 (Z07 most) xs0 (L.take (i+1))=(Z1z L W0' xs' W1',(Z09 (Z07 most) xs0 (L.take i)).2++ [(c,d)]):=by
  rw[Z34 hi,hk,Z1t,h.st,hst]
 have hl:(Z09 (Z07 most) xs0 (L.take i)).2.length=i:=by rw[Z1i,List.length_take];omega
 have hrl:=h.rl
 have hvl:=h.vl
 subst hr hv
 refine⟨by rw[hs],fun p hp=>?_,fun p hp=>?_,by rw[Lls];exact h.rl,by rw[Lls];exact h.vl,fun j=>?_,fun j hj=>?_,fun j hj=>?_⟩
 ·rcases hw0 p hp with h1|h1
  ·have:=h.w0 p h1;omega
  ·omega
 ·rcases hw1 p hp with h1|h1
  ·have:=h.w1 p h1;omega
  ·omega
 ·rw[Z0i _ _ _ _ _ (by omega)]
  split
  ·rfl
  ·exact h.r2 j
 ·rw[Z0i _ _ _ _ _ (by omega),if_neg (by omega)]
  exact h.v0 j (by omega)
 ·rw[hs,Z0i _ _ _ _ _ (by omega),Z0i _ _ _ _ _ (by omega)]
  by_cases e:j=i
  ·subst e
   rw[if_pos rfl,if_pos rfl,Lgd,Ler (by omega),hl,Nat.sub_self]
   rfl
  ·rw[if_neg e,if_neg e,<-h.eq j (by omega),Lgd,Lgd,Lel (by omega)]
section
variable {L:List (Int×Int)} {W0 W1 xs:List Int}
theorem Z35:(Z1z L W0 xs W1).length=W0.length+xs.length+W1.length:=by simp[Z1z];omega
theorem Zgd (p:Int):Z1z L (W0++ [p]) xs W1=opV L p::Z1z L W0 xs W1:=by simp[Z1z]
theorem Zge (p:Int):Z1z L W0 xs (W1++ [p])=Z1z L W0 xs W1++ [opV L p]:=by simp[Z1z]
theorem Zjk (z:Int):Z1z L [] (z::xs) W1=z::Z1z L [] xs W1:=by simp[Z1z]
theorem Zjl (z:Int):Z1z L W0 (xs++ [z]) []=Z1z L W0 xs []++ [z]:=by simp[Z1z]
theorem Zdq (p:Int):Z1z L [] [] (p::W1)=opV L p::Z1z L [] [] W1:=by simp[Z1z]
theorem Zdr (p:Int):Z1z L (p::W0) [] []=Z1z L W0 [] []++ [opV L p]:=by simp[Z1z]
end
section
variable {most:Int} {ys:List Int} {y z:Int}
theorem Zjm (h:most<=(ys.length:Int)):Z07 most ys (1,y)=(ys,(3,0)):=by unfold Z07;rw[if_pos rfl,if_pos h]
theorem Zjn (h:¬most<=(ys.length:Int)):Z07 most ys (1,y)=(y::ys,(1,0)):=by unfold Z07;rw[if_pos rfl,if_neg h]
theorem Zjo (h:most<=(ys.length:Int)):Z07 most ys (2,y)=(ys,(3,0)):=by unfold Z07;rw[if_neg (show ¬(2:Int)=1 by decide),if_pos rfl,if_pos h]
theorem Zjp (h:¬most<=(ys.length:Int)):Z07 most ys (2,y)=(ys++ [y],(1,0)):=by unfold Z07;rw[if_neg (show ¬(2:Int)=1 by decide),if_pos rfl,if_neg h]
theorem Zjq:Z07 most [] (3,y)=([],(4,0)):=by unfold Z07;rw[if_neg (show ¬(3:Int)=1 by decide),if_neg (show ¬(3:Int)=2 by decide),if_pos rfl];rfl
theorem Zjr:Z07 most [] (4,y)=([],(4,0)):=by unfold Z07;rw[if_neg (show ¬(4:Int)=1 by decide),if_neg (show ¬(4:Int)=2 by decide),if_neg (show ¬(4:Int)=3 by decide),if_pos rfl];rfl
theorem Zbr:Z07 most (z::ys) (3,y)=(ys,(2,z)):=by unfold Z07;rw[if_neg (show ¬(3:Int)=1 by decide),if_neg (show ¬(3:Int)=2 by decide),if_pos rfl,if_neg (by simp)];rfl
theorem Zbs:Z07 most (ys++ [z]) (4,y)=(ys,(2,z)):=by unfold Z07;rw[if_neg (show ¬(4:Int)=1 by decide),if_neg (show ¬(4:Int)=2 by decide),if_neg (show ¬(4:Int)=3 by decide),if_pos rfl,if_neg (by simp)];simp
theorem Zp5 {k:Int} (h1:k≠1) (h2:k≠2) (h3:k≠3) (h4:k≠4):Z07 most ys (k,y)=(ys,(5,0)):=by unfold Z07;rw[if_neg h1,if_neg h2,if_neg h3,if_neg h4]
end
theorem Z6m (w:World):(zeroValue 279).run Tryz.prog w= .ok (Z9a false 0) w:=by simp[go_sem,Z9a]
theorem keE {w w1 w2:World} {F G:Nat->Prop} (h1:Z01 F w w1) (h2:Z01 G w1 w2) (hg:∀k,G k->F k\/w.heap.size<=k):Z01 F w w2:=
 h1.step h2 (fun i hi e=>by rcases hg i e with h|h;exact h;omega)
theorem Zgf (most:Int) (L:List (Int×Int)) (xs:List Int) (i:Nat):(Z09 (Z07 most) xs (L.take i)).1.length<=xs.length+L.length:=by
 have:=Z4w most (L.take i) xs
 rw[List.length_take]at this
 omega
theorem Zp6 (w:World) (r m tb ob vb:Nat) (rv v00 v10 vv ov:Value) (xs0 Vs0:List Int) (L:List (Int×Int)) (most:Int) (h:EA0 w r m tb ob vb rv v00 v10 vv ov xs0 [] [] Vs0 L most (xs0.length:Int)) (hV:Vs0=List.replicate L.length 0) (hk:∀p ∈ L,0<=p.1/\p.1<=255) (hl:xs0.length+L.length<=1000000):
 Calls Tryz.prog 212 #[.pointer (some ⟨m,0,none⟩),ov,.func (.func 213) #[] #[.pointer (some ⟨tb,0,none⟩),.pointer (some ⟨vb,0,none⟩),.pointer (some ⟨ob,0,none⟩)]] w fun e w'=>∃tv mk v0 v1 xs W0 W1 Vs RR,e= .returned tv/\EA w' r m tb ob vb mk rv v0 v1 vv ov tv xs W0 W1 Vs L RR most (xs.length:Int)/\Zmw most xs0 L L.length xs W0 W1 Vs RR/\(∀k,EnF m v0 v1 k->EnF m v00 v10 k\/w.heap.size<=k)/\Z01 (fun k=>RgF r rv k\/EnF m v00 v10 k\/Z14 vv k) w w'/\(∀t,tv.ownBlock=some t->w.heap.size<=t):=by
 obtain⟨n,hn⟩:∃n,L.length=n:=⟨_,rfl⟩
 obtain⟨oo,oc,hov⟩:=h.O.shape
 rw[hn]at hov
 subst hov
 have H:=hi5 h hV hk hl hn
 have hn9:(n:Int)<=1000000:=by omega
 obtain⟨i0,hi,hz0,hz1,hz2⟩:=info_parts Tryz.infoRes
 have hmk:=Z1f 212 43 i0 Tryz.underlying212 hi hz0 hz1 hz2 n (by omega)
 clear h hV hk hl hn hi hz0 hz1 hz2
 go_enter Tryz.func212,Tryz.ntmps212
 go_upto_region 2 with fail
 generalize hB:w.heap.size=B
 generalize hW1:World.alloc _ _=w0
 have T0:P2 w0 43 (.slice (some ⟨B,0,none⟩) n n) (List.replicate n (0,0)):=by rw[<-hW1,<-hB];exact Z3p _ _ _ (by omega)
 have B0:Below w.heap.size w w0:=by rw[<-hW1];go_grown
 have z0:w0.heap.size=B+1:=by rw[<-hW1,<-hB];simp
 have H0:=hi4 T0 B0 z0 hB
 clear hW1 T0 B0 z0 hmk hB
 go_wp2_with fail
 refine(Zgc w0).mono ?_
 rintro e w1 ⟨rfl,hw1⟩
 rw[H0.out.2.2.1]
 obtain⟨mk,hmk⟩:∃mk,B+1=mk:=⟨_,rfl⟩
 rw[hmk]
 have K1:w1.heap[mk]?=some (.map (Z85 .u8 Z77) Z77.length):=by rw[hw1,<-hmk,<-H0.out.2.2.1];exact Z2p w0 Z77
 have B1:Below w0.heap.size w0 w1:=by rw[hw1];exact Z1u w0 Z77
 have BW:Below w.heap.size w w1:=H0.out.2.1.trans (B1.mono H0.out.2.1.size)
 have A1:EA w1 r m tb ob vb mk rv v00 v10 vv (.slice oo n oc) (.slice (some ⟨B,0,none⟩) n n) xs0 [] [] Vs0 L (List.replicate n (0,0)) most (xs0.length:Int):=by
  exact H.out.1.up BW (H0.out.1.below B1) (fun k e=>by have h2:B=k:=Option.some.inj e;have:=H0.out.2.2.2;omega) K1 (by have:=H0.out.2.2.2;omega) (fun k e=>by have h2:B=k:=Option.some.inj e;omega)
 have M1:Zmw most xs0 L 0 xs0 [] [] Vs0 (List.replicate n (0,0)):=⟨by simp[Z09,Z1z],fun p hp=>(by cases hp),fun p hp=>(by cases hp),by rw[Llr];exact H.out.2.2.2.2.symm,by rw[H.out.2.1,Llr],fun j=>by
  rw[Lgd,List.getElem?_replicate];split<;>rfl,fun j _=>by
  rw[H.out.2.1,Lgd,List.getElem?_replicate];split<;>rfl,fun j hj=>by omega⟩
 have HV0:∀(i:Nat),i<L.length->∀{xs W0 W1 Vs RR},Zmw most xs0 L i xs W0 W1 Vs RR->Vs=Vs.set i 0:=fun i hi xs W0 W1 Vs RR h=>Z9t (by rw[h.vl];exact hi) (h.v0 i (Nat.le_refl _))
 have H1:=hi4 A1 M1 BW H0.out.2.2.2
 clear A1 M1 BW K1 B1 hw1 hmk
 go_wp2_with fail
 go_loopw [21] (fun k wr=>∃(i:Nat) (v0 v1:Value) (xs W0 W1 Vs:List Int) (RR:List (Int×Int)),i<=n/\k= .int .i64 i/\EA wr r m tb ob vb mk rv v0 v1 vv (.slice oo n oc) (.slice (some ⟨B,0,none⟩) n n) xs W0 W1 Vs L RR most (xs.length:Int)/\Zmw most xs0 L i xs W0 W1 Vs RR/\(∀k,EnF m v0 v1 k->EnF m v00 v10 k\/w.heap.size<=k)/\Z01 (fun k=>RgF r rv k\/EnF m v00 v10 k\/Z14 vv k) w wr) (fun k _=>n-(intOf k).toNat)
 case atStart=>exact⟨0,v00,v10,xs0,[],[],Vs0,List.replicate n (0,0),Nat.zero_le _,rfl,H1.out.1,H1.out.2.1,fun k e=>.inl e,Z0b H1.out.2.2.1⟩
 case round=>
  obtain⟨i,v0,v1,xs,W0,W1,Vs,RR,hin,rfl,hA,hMt,hG,hK⟩:=hrel
  have yi:(0:Int)<=(i:Int):=by omega
  have HR:=hi4 hA hMt hG hK
  by_cases hlt:i<n
  ·have hlt':(i:Int)<(n:Int):=by omega
   have hlL:i<L.length:=by have:=H.out.2.2.2.2;omega
   obtain⟨og,oc2,hs,-,hgl,hc,-⟩:=hA.O.pos (by omega)
   rw[H.out.2.2.2.2]at hs
   cases hs
   obtain⟨c1,c2⟩:=hc i hlL
   have hkb:=H.out.2.2.1 (L.getD i (0,0)) (by
    rw[Lgd,Lge hlL]
    exact List.getElem_mem _)
   obtain⟨⟨k,y⟩,hky⟩:∃p,L.getD i (0,0)=p:=⟨_,rfl⟩
   rw[hky]at c1 c2 hkb
   rw[show 2*i=i*2 by omega]at c1 c2
   have hrl:i<RR.length:=by have:=hMt.rl;omega
   have zB:B<wr.heap.size:=hA.T.lt rfl
   have HK:=hi4 hkb hky hlL hrl
   have hlxs:xs.length+W0.length+W1.length<=1000000:=by
    have h1:=Zgf most L xs0 i
    rw[hMt.st,Z35]at h1
    have h2:=H.out.2.2.2.1
    omega
   have HKM:=Hd (((Brf wr.heap.size wr).alloc (Nat.le_refl _) (.cells #[.int .u8 k,.int .i32 y] 47)).block mk (Gl hA.K) |>.trans hA.K)
   clear hA hMt hG hK hc hkb hky hgl
   by_cases hk1:k=1
   ·subst hk1
    have hlk:(Instr.lookup 276 (.map (some mk)) (.int .u8 1) true).run Tryz.prog (wr.alloc (.cells #[.int .u8 1,.int .i32 y] 47))= .ok (.tuple #[.agg #[.bool true,.int .i64 0],.bool true]) (wr.alloc (.cells #[.int .u8 1,.int .i32 y] 47)):=Z1p (kd:=.u8) Tryz.underlying276 Tryz.underlying5 Z6m mk _ Z77 Z77.length 1 HKM.out
    go_upto_region 14 with fail
    generalize hQ:wr.heap.size=Q
    generalize hW2:World.alloc _ _=W2
    have BQ:W2.heap[Q+1]?=some (.cells #[.bool true,.int .i64 0] 279 (0,0)):=by rw[<-hW2];exact tn2 hQ _ _
    have B2:Below wr.heap.size wr W2:=by rw[<-hW2];go_grown
    have A2:=HR.out.1.below B2
    obtain⟨⟨a0,a1⟩,zQ⟩:=Z0g BQ
    have HS:=hi3 A2 BQ B2
    clear hQ hW2 BQ B2 A2 c1 c2 hlk
    go_wp2_with fail
    by_cases hm:most<=(xs.length:Int)+(W0.length:Int)+(W1.length:Int)
    ·refine(Zbn W2 m v0 v1 W0 W1 (xs.length:Int) most (i:Int) HS.out.1.M (by omega) (by omega) (by omega) (by omega) hm).mono ?_
     rintro e w4 ⟨rfl,hb4⟩
     have A4:=HS.out.1.below hb4
     have q4:=(hb4.block (Q+1) (Gl HS.out.2.1)).trans HS.out.2.1
     obtain⟨⟨a0,a1⟩,zQ4⟩:=Z0g q4
     obtain⟨u1,u2,uf⟩:=A4.T.at_ hrl
     have uf1:=uf (i*2)
     have HA4:=hi2 A4 (HR.out.2.2.2.trans (Z0b (HS.out.2.2.trans (hb4.mono HS.out.2.2.size))))
     clear A4 q4 uf hb4
     go_wp2
     go_roundw
     case rel=>
      have T5:=HA4.out.1.T.set1' (j:=i) hrl 3 (HR.out.2.1.r2 i)
      have K5:Z01 (fun k=>k=B) w4 (w4.setCell ⟨B,i*2,none⟩ (.int .u8 3)):=(Z01.refl (fun k=>k=B) w4).setCell (p:=⟨B,i*2,none⟩) (fun _=>rfl) _
      exact⟨i+1,v0,v1,xs,W0,W1,Vs,RR.set i (3,0),by omega,by go_num,HA4.out.1.turnT T5 (K5.mono (fun _ _ e=>by rw[e];rfl)),HR.out.2.1.step hlL HK.out.2.1 (Zjm (by rw[Z35];omega)) (fun p hp=>.inl hp) (fun p hp=>.inl hp) rfl (HV0 i hlL HR.out.2.1),HR.out.2.2.1,keE HA4.out.2 K5 (fun k e=>.inr (by have:=H1.out.2.2.2;omega))⟩
     case measure=>simp[intOf];omega
    ·refine(Zbo W2 m v0 v1 W0 W1 (xs.length:Int) most (i:Int) HS.out.1.M (by omega) (by omega) (by omega) (by omega) (by omega)).mono ?_
     rintro e w4 ⟨rfl,v',h4,ho4,hk4⟩
     have hg4:∀k,EnF m v' v1 k->EnF m v0 v1 k\/W2.heap.size<=k:=fun k e=>by
      rcases e with e|e|e
      ·exact .inl (.inl e)
      ·rcases ho4 with h|h;exact .inl (.inr (.inl (h ▸ e)));exact .inr (h k e)
      ·exact .inl (.inr (.inr e))
     have hk4':Z01 (EnF m v0 v1) W2 w4:=hk4.mono (fun _ _ e=>by rcases e with e|e;exact .inl e;exact .inr (.inl e))
     have A4:=HS.out.1.turnM h4 hg4 hk4'
     obtain⟨u1,u2,uf⟩:=A4.T.at_ hrl
     have uf1:=uf (i*2)
     have hgw:∀k,EnF m v0 v1 k->((fun k=>RgF r rv k\/EnF m v00 v10 k\/Z14 vv k)) k\/w.heap.size<=k:=fun k e=>by rcases HR.out.2.2.1 k e with h|h;exact .inl (.inr (.inl h));exact .inr h
     have hws:w.heap.size<=W2.heap.size:=Nat.le_trans HR.out.2.2.2.size HS.out.2.2.size
     have HA4:=hi3 A4 (keE (HR.out.2.2.2.trans (Z0b HS.out.2.2)) hk4' hgw) (show ∀k,EnF m v' v1 k->EnF m v00 v10 k\/w.heap.size<=k from fun k e=>by
      rcases hg4 k e with h|h
      ·exact HR.out.2.2.1 k h
      ·exact .inr (by omega))
     clear A4 uf h4 ho4 hk4 hg4 hk4' hgw
     go_wp2
     go_roundw
     case rel=>
      have T5:=HA4.out.1.T.set1' (j:=i) hrl 1 (HR.out.2.1.r2 i)
      have K5:Z01 (fun k=>k=B) w4 (w4.setCell ⟨B,i*2,none⟩ (.int .u8 1)):=(Z01.refl (fun k=>k=B) w4).setCell (p:=⟨B,i*2,none⟩) (fun _=>rfl) _
      exact⟨i+1,v',v1,xs,W0++ [(i:Int)],W1,Vs,RR.set i (1,0),by omega,by go_num,HA4.out.1.turnT T5 (K5.mono (fun _ _ e=>by rw[e];rfl)),HR.out.2.1.step hlL HK.out.2.1 (by rw[Zjn (by rw[Z35];omega),Zgd,show opV L (i:Int)=y from by unfold opV;rw[Int.toNat_natCast,HK.out.2.1]]) (fun p hp=>by rcases List.mem_append.1 hp with h|h;exact .inl h;exact .inr (List.mem_singleton.1 h)) (fun p hp=>.inl hp) rfl (HV0 i hlL HR.out.2.1),HA4.out.2.2,keE HA4.out.2.1 K5 (fun k e=>.inr (by have:=H1.out.2.2.2;omega))⟩
     case measure=>simp[intOf];omega
   by_cases hk2:k=2
   ·subst hk2
    have hlk:(Instr.lookup 276 (.map (some mk)) (.int .u8 2) true).run Tryz.prog (wr.alloc (.cells #[.int .u8 2,.int .i32 y] 47))= .ok (.tuple #[.agg #[.bool true,.int .i64 1],.bool true]) (wr.alloc (.cells #[.int .u8 2,.int .i32 y] 47)):=Z1p (kd:=.u8) Tryz.underlying276 Tryz.underlying5 Z6m mk _ Z77 Z77.length 2 HKM.out
    go_upto_region 14 with fail
    generalize hQ:wr.heap.size=Q
    generalize hW2:World.alloc _ _=W2
    have BQ:W2.heap[Q+1]?=some (.cells #[.bool true,.int .i64 1] 279 (0,0)):=by rw[<-hW2];exact tn2 hQ _ _
    have B2:Below wr.heap.size wr W2:=by rw[<-hW2];go_grown
    have A2:=HR.out.1.below B2
    obtain⟨⟨a0,a1⟩,zQ⟩:=Z0g BQ
    have HS:=hi3 A2 BQ B2
    clear hQ hW2 BQ B2 A2 c1 c2 hlk
    go_wp2_with fail
    by_cases hm:most<=(xs.length:Int)+(W0.length:Int)+(W1.length:Int)
    ·refine(Zbp W2 m v0 v1 W0 W1 (xs.length:Int) most (i:Int) HS.out.1.M (by omega) (by omega) (by omega) (by omega) hm).mono ?_
     rintro e w4 ⟨rfl,hb4⟩
     have A4:=HS.out.1.below hb4
     have q4:=(hb4.block (Q+1) (Gl HS.out.2.1)).trans HS.out.2.1
     obtain⟨⟨a0,a1⟩,zQ4⟩:=Z0g q4
     obtain⟨u1,u2,uf⟩:=A4.T.at_ hrl
     have uf1:=uf (i*2)
     have HA4:=hi2 A4 (HR.out.2.2.2.trans (Z0b (HS.out.2.2.trans (hb4.mono HS.out.2.2.size))))
     clear A4 q4 uf hb4
     go_wp2
     go_roundw
     case rel=>
      have T5:=HA4.out.1.T.set1' (j:=i) hrl 3 (HR.out.2.1.r2 i)
      have K5:Z01 (fun k=>k=B) w4 (w4.setCell ⟨B,i*2,none⟩ (.int .u8 3)):=(Z01.refl (fun k=>k=B) w4).setCell (p:=⟨B,i*2,none⟩) (fun _=>rfl) _
      exact⟨i+1,v0,v1,xs,W0,W1,Vs,RR.set i (3,0),by omega,by go_num,HA4.out.1.turnT T5 (K5.mono (fun _ _ e=>by rw[e];rfl)),HR.out.2.1.step hlL HK.out.2.1 (Zjo (by rw[Z35];omega)) (fun p hp=>.inl hp) (fun p hp=>.inl hp) rfl (HV0 i hlL HR.out.2.1),HR.out.2.2.1,keE HA4.out.2 K5 (fun k e=>.inr (by have:=H1.out.2.2.2;omega))⟩
     case measure=>simp[intOf];omega
    ·refine(Zbq W2 m v0 v1 W0 W1 (xs.length:Int) most (i:Int) HS.out.1.M (by omega) (by omega) (by omega) (by omega) (by omega)).mono ?_
     rintro e w4 ⟨rfl,v',h4,ho4,hk4⟩
     have hg4:∀k,EnF m v0 v' k->EnF m v0 v1 k\/W2.heap.size<=k:=fun k e=>by
      rcases e with e|e|e
      ·exact .inl (.inl e)
      ·exact .inl (.inr (.inl e))
      ·rcases ho4 with h|h;exact .inl (.inr (.inr (h ▸ e)));exact .inr (h k e)
     have hk4':Z01 (EnF m v0 v1) W2 w4:=hk4.mono (fun _ _ e=>by rcases e with e|e;exact .inl e;exact .inr (.inr e))
     have A4:=HS.out.1.turnM h4 hg4 hk4'
     obtain⟨u1,u2,uf⟩:=A4.T.at_ hrl
     have uf1:=uf (i*2)
     have hgw:∀k,EnF m v0 v1 k->((fun k=>RgF r rv k\/EnF m v00 v10 k\/Z14 vv k)) k\/w.heap.size<=k:=fun k e=>by rcases HR.out.2.2.1 k e with h|h;exact .inl (.inr (.inl h));exact .inr h
     have hws:w.heap.size<=W2.heap.size:=Nat.le_trans HR.out.2.2.2.size HS.out.2.2.size
     have HA4:=hi3 A4 (keE (HR.out.2.2.2.trans (Z0b HS.out.2.2)) hk4' hgw) (show ∀k,EnF m v0 v' k->EnF m v00 v10 k\/w.heap.size<=k from fun k e=>by
      rcases hg4 k e with h|h
      ·exact HR.out.2.2.1 k h
      ·exact .inr (by omega))
     clear A4 uf h4 ho4 hk4 hg4 hk4' hgw
     go_wp2
     go_roundw
     case rel=>
      have T5:=HA4.out.1.T.set1' (j:=i) hrl 1 (HR.out.2.1.r2 i)
      have K5:Z01 (fun k=>k=B) w4 (w4.setCell ⟨B,i*2,none⟩ (.int .u8 1)):=(Z01.refl (fun k=>k=B) w4).setCell (p:=⟨B,i*2,none⟩) (fun _=>rfl) _
      exact⟨i+1,v0,v',xs,W0,W1++ [(i:Int)],Vs,RR.set i (1,0),by omega,by go_num,HA4.out.1.turnT T5 (K5.mono (fun _ _ e=>by rw[e];rfl)),HR.out.2.1.step hlL HK.out.2.1 (by rw[Zjp (by rw[Z35];omega),Zge,show opV L (i:Int)=y from by unfold opV;rw[Int.toNat_natCast,HK.out.2.1]]) (fun p hp=>.inl hp) (fun p hp=>by rcases List.mem_append.1 hp with h|h;exact .inl h;exact .inr (List.mem_singleton.1 h)) rfl (HV0 i hlL HR.out.2.1),HA4.out.2.2,keE HA4.out.2.1 K5 (fun k e=>.inr (by have:=H1.out.2.2.2;omega))⟩
     case measure=>simp[intOf];omega
   by_cases hk3:k=3
   ·subst hk3
    have hlk:(Instr.lookup 276 (.map (some mk)) (.int .u8 3) true).run Tryz.prog (wr.alloc (.cells #[.int .u8 3,.int .i32 y] 47))= .ok (.tuple #[.agg #[.bool false,.int .i64 0],.bool true]) (wr.alloc (.cells #[.int .u8 3,.int .i32 y] 47)):=Z1p (kd:=.u8) Tryz.underlying276 Tryz.underlying5 Z6m mk _ Z77 Z77.length 3 HKM.out
    have hiV:i<Vs.length:=by have:=HR.out.2.1.vl;omega
    go_upto_region 7 with fail
    generalize hQ:wr.heap.size=Q
    generalize hW2:World.alloc _ _=W2
    have BQ:W2.heap[Q+1]?=some (.cells #[.bool false,.int .i64 0] 279 (0,0)):=by rw[<-hW2];exact tn2 hQ _ _
    have B2:Below wr.heap.size wr W2:=by rw[<-hW2];go_grown
    have A2:=HR.out.1.below B2
    obtain⟨⟨a0,a1⟩,zQ⟩:=Z0g BQ
    obtain⟨u1,u2,uf⟩:=A2.T.at_ hrl
    have uf1:=uf (i*2)
    have hBQ:¬B=Q+1:=by omega
    have hQB:¬Q+1=B:=by omega
    have hfr:=A2.M.flt
    have hmQ:¬Q+1=m:=fun e=>by have:=HR.out.1.M.lt;omega
    have hBQ2:∀k,((fun k=>RgF r rv k\/EnF m v00 v10 k\/Z14 vv k)) k->k<Q+1:=fun k e=>by
     rcases e with e|e|e
     ·rcases e with e|e
      ·have:=HR.out.1.R.lt;omega
      ·have:=HR.out.1.R.vlt k e;omega
     ·have h1:=H.out.1.M.flt k e
      have:=HR.out.2.2.2.size;omega
     ·have:=HR.out.1.V.lt e;omega
    have HS:=hi4 A2 BQ B2 (show m<Q+1/\B<Q+1 by have:=HR.out.1.M.lt;omega)
    clear hQ hW2 BQ B2 A2 c1 c2 hlk uf hfr hBQ2
    go_wp2_with fail
    generalize hW3:World.setCell _ _ _=W3
    have T3:=HS.out.1.T.set1' (j:=i) hrl 4 (HR.out.2.1.r2 i)
    have K3:Z01 (fun k=>k=B) W2 W3:=by rw[<-hW3];exact(Z01.refl (fun k=>k=B) W2).setCell (p:=⟨B,i*2,none⟩) (fun _=>rfl) _
    rw[hW3]at T3
    have A3:=HS.out.1.turnT T3 (K3.mono (fun _ _ e=>by rw[e];rfl))
    have HA3:=hi3 A3 (keE (HR.out.2.2.2.trans (Z0b HS.out.2.2.1)) K3 (fun k e=>.inr (by have:=H1.out.2.2.2;omega))) K3
    clear hW3 T3 K3 A3 u1 u2 uf1 a0 a1
    by_cases hW:W0.length=0
    ·have hW0:=Lnl hW
     subst hW0
     by_cases hx:xs.length=0
     ·have hx0:=Lnl hx
      subst hx0
      by_cases hF:W1.length=0
      ·have hF0:=Lnl hF
       subst hF0
       refine(Zdn W3 m v0 v1 [] [] 0 0 most (by simpa using HA3.out.1.M)).mono ?_
       rintro e w4 ⟨rfl,hb4⟩
       have HA4:=hi2 (HA3.out.1.below hb4) (HA3.out.2.1.trans (Z0b hb4))
       clear hb4
       go_wp2
       go_roundw
       case rel=>exact⟨i+1,v0,v1,[],[],[],Vs,RR.set i (4,0),by omega,by go_num,HA4.out.1,HR.out.2.1.step hlL HK.out.2.1 Zjq (fun p hp=>.inl hp) (fun p hp=>.inl hp) rfl (HV0 i hlL HR.out.2.1),HR.out.2.2.1,HA4.out.2⟩
       case measure=>simp[intOf];omega
      ·obtain⟨p,W',rfl⟩:∃p W',W1=p::W':=by
        cases hc:W1 with
        |nil=>rw[hc]at hF;exact absurd rfl hF
        |cons a l=>exact⟨a,l,rfl⟩
       obtain⟨hp0,hp1⟩:=HR.out.2.1.w1 p (by simp)
       obtain⟨pn,hpn⟩:∃pn:Nat,p=(pn:Int):=⟨p.toNat,by omega⟩
       subst hpn
       refine(Zg9 W3 m v0 v1 W' [] (pn:Int) 0 most (by simpa using HA3.out.1.M) (by simp at hlxs;omega)).mono ?_
       rintro e w4 ⟨rfl,v',h4,ho4,hk4⟩
       have hg4:∀k,EnF m v0 v' k->EnF m v0 v1 k\/W3.heap.size<=k:=fun k e=>by
        rcases e with e|e|e
        ·exact .inl (.inl e)
        ·exact .inl (.inr (.inl (e)))
        ·exact .inl (.inr (.inr (ho4 ▸ e)))
       have hk4':Z01 (EnF m v0 v1) W3 w4:=hk4.mono (fun _ _ e=>.inl e)
       have A4:=HA3.out.1.turnM h4 hg4 hk4'
       have HA4:=hi3 A4 (keE HA3.out.2.1 hk4' (fun k e=>by rcases HR.out.2.2.1 k e with h|h;exact .inl (.inr (.inl h));exact .inr h)) ((show Z01 (fun k=>k=B\/k=m) W2 w4 from(HA3.out.2.2.mono (fun _ _ e=>.inl e)).trans (hk4.mono (fun _ _ e=>.inr e))))
       have HG4:=Hd (show ∀k,EnF m v0 v' k->EnF m v00 v10 k\/w.heap.size<=k from fun k e=>by
        rcases hg4 k e with h|h
        ·exact HR.out.2.2.1 k h
        ·exact .inr (Nat.le_trans HA3.out.2.1.size h))
       clear A4 h4 ho4 hk4 hg4 hk4'
       obtain⟨u1,u2,uf⟩:=HA4.out.1.T.at_ (j:=i) (by rw[Lls];exact hrl)
       have uf1:=uf (i*2)
       have q4:=(HA4.out.2.2.block (Q+1) (Gl HS.out.2.1) (fun e=>by have:=HS.out.2.2.2;omega)).trans HS.out.2.1
       obtain⟨⟨a0,a1⟩,zQ4⟩:=Z0g q4
       clear uf q4
       go_wp2_with fail
       generalize hW5:World.setCell _ _ _=W5
       have T5:=HA4.out.1.T.set1' (j:=i) (by rw[Lls];exact hrl) 2 (by rw[Z0i _ _ _ _ _ hrl,if_pos rfl])
       rw[List.set_set,hW5]at T5
       have K5:Z01 (fun k=>k=B) w4 W5:=by rw[<-hW5];exact(Z01.refl (fun k=>k=B) w4).setCell (p:=⟨B,i*2,none⟩) (fun _=>rfl) _
       have A5:=HA4.out.1.turnT T5 (K5.mono (fun _ _ e=>by rw[e];rfl))
       have HA5:=hi2 A5 (keE HA4.out.2.1 K5 (fun k e=>.inr (by have:=H1.out.2.2.2;omega)))
       clear hW5 T5 K5 A5 u1 u2 uf1 a0 a1
       refine(Z8o W5 tb ob vb _ vv L Vs i pn 0 HA5.out.1.B.co HA5.out.1.B.cv HA5.out.1.O HA5.out.1.V hiV (by omega) (fun t e=>⟨fun h=>HA5.out.1.dVB t e (.inr (.inl h)),fun h=>HA5.out.1.dVB t e (.inr (.inr h)),fun h=>HA5.out.1.dVO t e h⟩) (by have:=HR.out.2.1.vl;have:=H.out.2.2.2.2;omega) (by have:=H.out.2.2.2.2;omega)).mono ?_
       rintro e w6 ⟨rfl,V6,hk6⟩
       have A6:=HA5.out.1.turnV V6 hk6
       have HA6:=hi2 A6 (keE HA5.out.2 hk6 (fun k e=>.inl (.inr (.inr e))))
       clear A6 V6 hk6
       skip
       go_wp2
       go_roundw
       case rel=>
        exact⟨i+1,v0,v',[],[],W',Vs.set i (L.getD pn (0,0)).2,RR.set i (2,0),by omega,by go_num,HA6.out.1,HR.out.2.1.step hlL HK.out.2.1 (by rw[Zdq,Zbr];rfl) (fun p hp=>.inl hp) (fun p hp=>.inl (by simp[hp])) rfl rfl,HG4.out,HA6.out.2⟩
       case measure=>simp[intOf];omega
     ·obtain⟨xs',z,hxz⟩:∃xs' z,xs=z::xs':=⟨_,_,Zl1 hx⟩
      subst hxz
      have hbl:((z::xs').length:Int)=(xs'.length:Int)+1:=by simp
      have hM3:=HA3.out.1.M
      rw[hbl]at hM3
      refine(Zg8 W3 m v0 v1 [] W1 0 (xs'.length:Int) most hM3 (by omega) (by simp at hlxs;omega)).mono ?_
      rintro e w4 ⟨rfl,h4,hk4⟩
      have hk4':Z01 (EnF m v0 v1) W3 w4:=hk4.mono (fun _ _ e=>.inl e)
      have A4:=HA3.out.1.turnM h4 (fun k e=>.inl e) hk4'
      have HA4:=hi3 A4 (keE HA3.out.2.1 hk4' (fun k e=>by rcases HR.out.2.2.1 k e with h|h;exact .inl (.inr (.inl h));exact .inr h)) ((show Z01 (fun k=>k=B\/k=m) W2 w4 from(HA3.out.2.2.mono (fun _ _ e=>.inl e)).trans (hk4.mono (fun _ _ e=>.inr e))))
      clear A4 h4 hk4 hk4' hM3 hbl
      obtain⟨u1,u2,uf⟩:=HA4.out.1.T.at_ (j:=i) (by rw[Lls];exact hrl)
      have uf1:=uf (i*2)
      have q4:=(HA4.out.2.2.block (Q+1) (Gl HS.out.2.1) (fun e=>by have:=HS.out.2.2.2;omega)).trans HS.out.2.1
      obtain⟨⟨a0,a1⟩,zQ4⟩:=Z0g q4
      clear uf q4
      go_wp2_with fail
      generalize hW5:World.setCell _ _ _=W5
      have T5:=HA4.out.1.T.set1' (j:=i) (by rw[Lls];exact hrl) 2 (by rw[Z0i _ _ _ _ _ hrl,if_pos rfl])
      rw[List.set_set,hW5]at T5
      have K5:Z01 (fun k=>k=B) w4 W5:=by rw[<-hW5];exact(Z01.refl (fun k=>k=B) w4).setCell (p:=⟨B,i*2,none⟩) (fun _=>rfl) _
      have A5:=HA4.out.1.turnT T5 (K5.mono (fun _ _ e=>by rw[e];rfl))
      have HA5:=hi2 A5 (keE HA4.out.2.1 K5 (fun k e=>.inr (by have:=H1.out.2.2.2;omega)))
      clear hW5 T5 K5 A5 u1 u2 uf1 a0 a1
      obtain⟨cs,f,hR5,hmo⟩:=HA5.out.1.R
      refine(Zmu W5 tb ob vb r rv vv cs f xs' z Vs i HA5.out.1.B.c0.1 HA5.out.1.B.cv hR5 HA5.out.1.V hiV (fun t e=>⟨fun h=>HA5.out.1.dVB t e (.inl h),fun h=>HA5.out.1.dVB t e (.inr (.inr h)),fun h=>HA5.out.1.dRV t h e⟩) (fun h=>HA5.out.1.dRB tb h (.inl rfl)) (fun h=>HA5.out.1.dRB vb h (.inr (.inr rfl))) (by have:=HR.out.2.1.vl;have:=H.out.2.2.2.2;omega)).mono ?_
      rintro e w6 ⟨rfl,V6,⟨cs6,f6,h6,l6⟩,hk6⟩
      have A6:=HA5.out.1.turnRV ⟨cs6,f6,h6,by rw[l6];exact hmo⟩ V6 hk6
      have HA6:=hi2 A6 (keE HA5.out.2 hk6 (fun k e=>by rcases e with e|e;exact .inl (.inl e);exact .inl (.inr (.inr e))))
      clear A6 V6 hk6 h6 l6 hR5 hmo
      skip
      go_wp2
      go_roundw
      case rel=>
       exact⟨i+1,v0,v1,xs',[],W1,Vs.set i z,RR.set i (2,0),by omega,by go_num,HA6.out.1,HR.out.2.1.step hlL HK.out.2.1 (by rw[Zjk,Zbr]) (fun p hp=>.inl hp) (fun p hp=>.inl hp) rfl rfl,HR.out.2.2.1,HA6.out.2⟩
      case measure=>simp[intOf];omega
    ·obtain⟨W',p,hWp⟩:∃W' p,W0=W'++ [p]:=⟨_,_,Zch hW⟩
     subst hWp
     obtain⟨hp0,hp1⟩:=HR.out.2.1.w0 p (by simp)
     obtain⟨pn,hpn⟩:∃pn:Nat,p=(pn:Int):=⟨p.toNat,by omega⟩
     subst hpn
     refine(Zdm W3 m v0 v1 W' W1 (pn:Int) (xs.length:Int) most HA3.out.1.M (by simp at hlxs;omega)).mono ?_
     rintro e w4 ⟨rfl,v',h4,ho4,hk4⟩
     have hg4:∀k,EnF m v' v1 k->EnF m v0 v1 k\/W3.heap.size<=k:=fun k e=>by
      rcases e with e|e|e
      ·exact .inl (.inl e)
      ·exact .inl (.inr (.inl (ho4 ▸ e)))
      ·exact .inl (.inr (.inr (e)))
     have hk4':Z01 (EnF m v0 v1) W3 w4:=hk4.mono (fun _ _ e=>.inl e)
     have A4:=HA3.out.1.turnM h4 hg4 hk4'
     have HA4:=hi3 A4 (keE HA3.out.2.1 hk4' (fun k e=>by rcases HR.out.2.2.1 k e with h|h;exact .inl (.inr (.inl h));exact .inr h)) ((show Z01 (fun k=>k=B\/k=m) W2 w4 from(HA3.out.2.2.mono (fun _ _ e=>.inl e)).trans (hk4.mono (fun _ _ e=>.inr e))))
     have HG4:=Hd (show ∀k,EnF m v' v1 k->EnF m v00 v10 k\/w.heap.size<=k from fun k e=>by
      rcases hg4 k e with h|h
      ·exact HR.out.2.2.1 k h
      ·exact .inr (Nat.le_trans HA3.out.2.1.size h))
     clear A4 h4 ho4 hk4 hg4 hk4'
     obtain⟨u1,u2,uf⟩:=HA4.out.1.T.at_ (j:=i) (by rw[Lls];exact hrl)
     have uf1:=uf (i*2)
     have q4:=(HA4.out.2.2.block (Q+1) (Gl HS.out.2.1) (fun e=>by have:=HS.out.2.2.2;omega)).trans HS.out.2.1
     obtain⟨⟨a0,a1⟩,zQ4⟩:=Z0g q4
     clear uf q4
     go_wp2_with fail
     generalize hW5:World.setCell _ _ _=W5
     have T5:=HA4.out.1.T.set1' (j:=i) (by rw[Lls];exact hrl) 2 (by rw[Z0i _ _ _ _ _ hrl,if_pos rfl])
     rw[List.set_set,hW5]at T5
     have K5:Z01 (fun k=>k=B) w4 W5:=by rw[<-hW5];exact(Z01.refl (fun k=>k=B) w4).setCell (p:=⟨B,i*2,none⟩) (fun _=>rfl) _
     have A5:=HA4.out.1.turnT T5 (K5.mono (fun _ _ e=>by rw[e];rfl))
     have HA5:=hi2 A5 (keE HA4.out.2.1 K5 (fun k e=>.inr (by have:=H1.out.2.2.2;omega)))
     clear hW5 T5 K5 A5 u1 u2 uf1 a0 a1
     refine(Z8o W5 tb ob vb _ vv L Vs i pn 0 HA5.out.1.B.co HA5.out.1.B.cv HA5.out.1.O HA5.out.1.V hiV (by omega) (fun t e=>⟨fun h=>HA5.out.1.dVB t e (.inr (.inl h)),fun h=>HA5.out.1.dVB t e (.inr (.inr h)),fun h=>HA5.out.1.dVO t e h⟩) (by have:=HR.out.2.1.vl;have:=H.out.2.2.2.2;omega) (by have:=H.out.2.2.2.2;omega)).mono ?_
     rintro e w6 ⟨rfl,V6,hk6⟩
     have A6:=HA5.out.1.turnV V6 hk6
     have HA6:=hi2 A6 (keE HA5.out.2 hk6 (fun k e=>.inl (.inr (.inr e))))
     clear A6 V6 hk6
     skip
     go_wp2
     go_roundw
     case rel=>
      exact⟨i+1,v',v1,xs,W',W1,Vs.set i (L.getD pn (0,0)).2,RR.set i (2,0),by omega,by go_num,HA6.out.1,HR.out.2.1.step hlL HK.out.2.1 (by rw[Zgd,Zbr];rfl) (fun p hp=>.inl (by simp[hp])) (fun p hp=>.inl hp) rfl rfl,HG4.out,HA6.out.2⟩
     case measure=>simp[intOf];omega
   by_cases hk4:k=4
   ·subst hk4
    have hlk:(Instr.lookup 276 (.map (some mk)) (.int .u8 4) true).run Tryz.prog (wr.alloc (.cells #[.int .u8 4,.int .i32 y] 47))= .ok (.tuple #[.agg #[.bool false,.int .i64 1],.bool true]) (wr.alloc (.cells #[.int .u8 4,.int .i32 y] 47)):=Z1p (kd:=.u8) Tryz.underlying276 Tryz.underlying5 Z6m mk _ Z77 Z77.length 4 HKM.out
    have hiV:i<Vs.length:=by have:=HR.out.2.1.vl;omega
    go_upto_region 7 with fail
    generalize hQ:wr.heap.size=Q
    generalize hW2:World.alloc _ _=W2
    have BQ:W2.heap[Q+1]?=some (.cells #[.bool false,.int .i64 1] 279 (0,0)):=by rw[<-hW2];exact tn2 hQ _ _
    have B2:Below wr.heap.size wr W2:=by rw[<-hW2];go_grown
    have A2:=HR.out.1.below B2
    obtain⟨⟨a0,a1⟩,zQ⟩:=Z0g BQ
    obtain⟨u1,u2,uf⟩:=A2.T.at_ hrl
    have uf1:=uf (i*2)
    have hBQ:¬B=Q+1:=by omega
    have hQB:¬Q+1=B:=by omega
    have hfr:=A2.M.flt
    have hmQ:¬Q+1=m:=fun e=>by have:=HR.out.1.M.lt;omega
    have hBQ2:∀k,((fun k=>RgF r rv k\/EnF m v00 v10 k\/Z14 vv k)) k->k<Q+1:=fun k e=>by
     rcases e with e|e|e
     ·rcases e with e|e
      ·have:=HR.out.1.R.lt;omega
      ·have:=HR.out.1.R.vlt k e;omega
     ·have h1:=H.out.1.M.flt k e
      have:=HR.out.2.2.2.size;omega
     ·have:=HR.out.1.V.lt e;omega
    have HS:=hi4 A2 BQ B2 (show m<Q+1/\B<Q+1 by have:=HR.out.1.M.lt;omega)
    clear hQ hW2 BQ B2 A2 c1 c2 hlk uf hfr hBQ2
    go_wp2_with fail
    generalize hW3:World.setCell _ _ _=W3
    have T3:=HS.out.1.T.set1' (j:=i) hrl 4 (HR.out.2.1.r2 i)
    have K3:Z01 (fun k=>k=B) W2 W3:=by rw[<-hW3];exact(Z01.refl (fun k=>k=B) W2).setCell (p:=⟨B,i*2,none⟩) (fun _=>rfl) _
    rw[hW3]at T3
    have A3:=HS.out.1.turnT T3 (K3.mono (fun _ _ e=>by rw[e];rfl))
    have HA3:=hi3 A3 (keE (HR.out.2.2.2.trans (Z0b HS.out.2.2.1)) K3 (fun k e=>.inr (by have:=H1.out.2.2.2;omega))) K3
    clear hW3 T3 K3 A3 u1 u2 uf1 a0 a1
    by_cases hW:W1.length=0
    ·have hW0:=Lnl hW
     subst hW0
     by_cases hx:xs.length=0
     ·have hx0:=Lnl hx
      subst hx0
      by_cases hF:W0.length=0
      ·have hF0:=Lnl hF
       subst hF0
       refine(Zdp W3 m v0 v1 [] [] 0 0 most (by simpa using HA3.out.1.M)).mono ?_
       rintro e w4 ⟨rfl,hb4⟩
       have HA4:=hi2 (HA3.out.1.below hb4) (HA3.out.2.1.trans (Z0b hb4))
       clear hb4
       go_wp2
       go_roundw
       case rel=>exact⟨i+1,v0,v1,[],[],[],Vs,RR.set i (4,0),by omega,by go_num,HA4.out.1,HR.out.2.1.step hlL HK.out.2.1 Zjr (fun p hp=>.inl hp) (fun p hp=>.inl hp) rfl (HV0 i hlL HR.out.2.1),HR.out.2.2.1,HA4.out.2⟩
       case measure=>simp[intOf];omega
      ·obtain⟨p,W',rfl⟩:∃p W',W0=p::W':=by
        cases hc:W0 with
        |nil=>rw[hc]at hF;exact absurd rfl hF
        |cons a l=>exact⟨a,l,rfl⟩
       obtain⟨hp0,hp1⟩:=HR.out.2.1.w0 p (by simp)
       obtain⟨pn,hpn⟩:∃pn:Nat,p=(pn:Int):=⟨p.toNat,by omega⟩
       subst hpn
       refine(Zgb W3 m v0 v1 W' [] (pn:Int) 0 most (by simpa using HA3.out.1.M) (by simp at hlxs;omega)).mono ?_
       rintro e w4 ⟨rfl,v',h4,ho4,hk4⟩
       have hg4:∀k,EnF m v' v1 k->EnF m v0 v1 k\/W3.heap.size<=k:=fun k e=>by
        rcases e with e|e|e
        ·exact .inl (.inl e)
        ·exact .inl (.inr (.inl (ho4 ▸ e)))
        ·exact .inl (.inr (.inr (e)))
       have hk4':Z01 (EnF m v0 v1) W3 w4:=hk4.mono (fun _ _ e=>.inl e)
       have A4:=HA3.out.1.turnM h4 hg4 hk4'
       have HA4:=hi3 A4 (keE HA3.out.2.1 hk4' (fun k e=>by rcases HR.out.2.2.1 k e with h|h;exact .inl (.inr (.inl h));exact .inr h)) ((show Z01 (fun k=>k=B\/k=m) W2 w4 from(HA3.out.2.2.mono (fun _ _ e=>.inl e)).trans (hk4.mono (fun _ _ e=>.inr e))))
       have HG4:=Hd (show ∀k,EnF m v' v1 k->EnF m v00 v10 k\/w.heap.size<=k from fun k e=>by
        rcases hg4 k e with h|h
        ·exact HR.out.2.2.1 k h
        ·exact .inr (Nat.le_trans HA3.out.2.1.size h))
       clear A4 h4 ho4 hk4 hg4 hk4'
       obtain⟨u1,u2,uf⟩:=HA4.out.1.T.at_ (j:=i) (by rw[Lls];exact hrl)
       have uf1:=uf (i*2)
       have q4:=(HA4.out.2.2.block (Q+1) (Gl HS.out.2.1) (fun e=>by have:=HS.out.2.2.2;omega)).trans HS.out.2.1
       obtain⟨⟨a0,a1⟩,zQ4⟩:=Z0g q4
       clear uf q4
       go_wp2_with fail
       generalize hW5:World.setCell _ _ _=W5
       have T5:=HA4.out.1.T.set1' (j:=i) (by rw[Lls];exact hrl) 2 (by rw[Z0i _ _ _ _ _ hrl,if_pos rfl])
       rw[List.set_set,hW5]at T5
       have K5:Z01 (fun k=>k=B) w4 W5:=by rw[<-hW5];exact(Z01.refl (fun k=>k=B) w4).setCell (p:=⟨B,i*2,none⟩) (fun _=>rfl) _
       have A5:=HA4.out.1.turnT T5 (K5.mono (fun _ _ e=>by rw[e];rfl))
       have HA5:=hi2 A5 (keE HA4.out.2.1 K5 (fun k e=>.inr (by have:=H1.out.2.2.2;omega)))
       clear hW5 T5 K5 A5 u1 u2 uf1 a0 a1
       refine(Z8o W5 tb ob vb _ vv L Vs i pn 1 HA5.out.1.B.co HA5.out.1.B.cv HA5.out.1.O HA5.out.1.V hiV (by omega) (fun t e=>⟨fun h=>HA5.out.1.dVB t e (.inr (.inl h)),fun h=>HA5.out.1.dVB t e (.inr (.inr h)),fun h=>HA5.out.1.dVO t e h⟩) (by have:=HR.out.2.1.vl;have:=H.out.2.2.2.2;omega) (by have:=H.out.2.2.2.2;omega)).mono ?_
       rintro e w6 ⟨rfl,V6,hk6⟩
       have A6:=HA5.out.1.turnV V6 hk6
       have HA6:=hi2 A6 (keE HA5.out.2 hk6 (fun k e=>.inl (.inr (.inr e))))
       clear A6 V6 hk6
       skip
       go_wp2
       go_roundw
       case rel=>
        exact⟨i+1,v',v1,[],W',[],Vs.set i (L.getD pn (0,0)).2,RR.set i (2,0),by omega,by go_num,HA6.out.1,HR.out.2.1.step hlL HK.out.2.1 (by rw[Zdr,Zbs];rfl) (fun p hp=>.inl (by simp[hp])) (fun p hp=>.inl hp) rfl rfl,HG4.out,HA6.out.2⟩
       case measure=>simp[intOf];omega
     ·obtain⟨xs',z,hxz⟩:∃xs' z,xs=xs'++ [z]:=⟨_,_,Zch hx⟩
      subst hxz
      have hbl:((xs'++ [z]).length:Int)=(xs'.length:Int)+1:=by simp
      have hM3:=HA3.out.1.M
      rw[hbl]at hM3
      refine(Zga W3 m v0 v1 [] W0 0 (xs'.length:Int) most hM3 (by omega) (by simp at hlxs;omega)).mono ?_
      rintro e w4 ⟨rfl,h4,hk4⟩
      have hk4':Z01 (EnF m v0 v1) W3 w4:=hk4.mono (fun _ _ e=>.inl e)
      have A4:=HA3.out.1.turnM h4 (fun k e=>.inl e) hk4'
      have HA4:=hi3 A4 (keE HA3.out.2.1 hk4' (fun k e=>by rcases HR.out.2.2.1 k e with h|h;exact .inl (.inr (.inl h));exact .inr h)) ((show Z01 (fun k=>k=B\/k=m) W2 w4 from(HA3.out.2.2.mono (fun _ _ e=>.inl e)).trans (hk4.mono (fun _ _ e=>.inr e))))
      clear A4 h4 hk4 hk4' hM3 hbl
      obtain⟨u1,u2,uf⟩:=HA4.out.1.T.at_ (j:=i) (by rw[Lls];exact hrl)
      have uf1:=uf (i*2)
      have q4:=(HA4.out.2.2.block (Q+1) (Gl HS.out.2.1) (fun e=>by have:=HS.out.2.2.2;omega)).trans HS.out.2.1
      obtain⟨⟨a0,a1⟩,zQ4⟩:=Z0g q4
      clear uf q4
      go_wp2_with fail
      generalize hW5:World.setCell _ _ _=W5
      have T5:=HA4.out.1.T.set1' (j:=i) (by rw[Lls];exact hrl) 2 (by rw[Z0i _ _ _ _ _ hrl,if_pos rfl])
      rw[List.set_set,hW5]at T5
      have K5:Z01 (fun k=>k=B) w4 W5:=by rw[<-hW5];exact(Z01.refl (fun k=>k=B) w4).setCell (p:=⟨B,i*2,none⟩) (fun _=>rfl) _
      have A5:=HA4.out.1.turnT T5 (K5.mono (fun _ _ e=>by rw[e];rfl))
      have HA5:=hi2 A5 (keE HA4.out.2.1 K5 (fun k e=>.inr (by have:=H1.out.2.2.2;omega)))
      clear hW5 T5 K5 A5 u1 u2 uf1 a0 a1
      obtain⟨cs,f,hR5,hmo⟩:=HA5.out.1.R
      refine(Zmv W5 tb ob vb r rv vv cs f xs' z Vs i HA5.out.1.B.c0.2 HA5.out.1.B.cv hR5 HA5.out.1.V hiV (fun t e=>⟨fun h=>HA5.out.1.dVB t e (.inl h),fun h=>HA5.out.1.dVB t e (.inr (.inr h)),fun h=>HA5.out.1.dRV t h e⟩) (fun h=>HA5.out.1.dRB tb h (.inl rfl)) (fun h=>HA5.out.1.dRB vb h (.inr (.inr rfl))) (by have:=HR.out.2.1.vl;have:=H.out.2.2.2.2;omega)).mono ?_
      rintro e w6 ⟨rfl,V6,⟨cs6,f6,h6,l6⟩,hk6⟩
      have A6:=HA5.out.1.turnRV ⟨cs6,f6,h6,by rw[l6];exact hmo⟩ V6 hk6
      have HA6:=hi2 A6 (keE HA5.out.2 hk6 (fun k e=>by rcases e with e|e;exact .inl (.inl e);exact .inl (.inr (.inr e))))
      clear A6 V6 hk6 h6 l6 hR5 hmo
      skip
      go_wp2
      go_roundw
      case rel=>
       exact⟨i+1,v0,v1,xs',W0,[],Vs.set i z,RR.set i (2,0),by omega,by go_num,HA6.out.1,HR.out.2.1.step hlL HK.out.2.1 (by rw[Zjl,Zbs]) (fun p hp=>.inl hp) (fun p hp=>.inl hp) rfl rfl,HR.out.2.2.1,HA6.out.2⟩
      case measure=>simp[intOf];omega
    ·obtain⟨W',p,hWp⟩:∃W' p,W1=W'++ [p]:=⟨_,_,Zch hW⟩
     subst hWp
     obtain⟨hp0,hp1⟩:=HR.out.2.1.w1 p (by simp)
     obtain⟨pn,hpn⟩:∃pn:Nat,p=(pn:Int):=⟨p.toNat,by omega⟩
     subst hpn
     refine(Zdo W3 m v0 v1 W' W0 (pn:Int) (xs.length:Int) most HA3.out.1.M (by simp at hlxs;omega)).mono ?_
     rintro e w4 ⟨rfl,v',h4,ho4,hk4⟩
     have hg4:∀k,EnF m v0 v' k->EnF m v0 v1 k\/W3.heap.size<=k:=fun k e=>by
      rcases e with e|e|e
      ·exact .inl (.inl e)
      ·exact .inl (.inr (.inl (e)))
      ·exact .inl (.inr (.inr (ho4 ▸ e)))
     have hk4':Z01 (EnF m v0 v1) W3 w4:=hk4.mono (fun _ _ e=>.inl e)
     have A4:=HA3.out.1.turnM h4 hg4 hk4'
     have HA4:=hi3 A4 (keE HA3.out.2.1 hk4' (fun k e=>by rcases HR.out.2.2.1 k e with h|h;exact .inl (.inr (.inl h));exact .inr h)) ((show Z01 (fun k=>k=B\/k=m) W2 w4 from(HA3.out.2.2.mono (fun _ _ e=>.inl e)).trans (hk4.mono (fun _ _ e=>.inr e))))
     have HG4:=Hd (show ∀k,EnF m v0 v' k->EnF m v00 v10 k\/w.heap.size<=k from fun k e=>by
      rcases hg4 k e with h|h
      ·exact HR.out.2.2.1 k h
      ·exact .inr (Nat.le_trans HA3.out.2.1.size h))
     clear A4 h4 ho4 hk4 hg4 hk4'
     obtain⟨u1,u2,uf⟩:=HA4.out.1.T.at_ (j:=i) (by rw[Lls];exact hrl)
     have uf1:=uf (i*2)
     have q4:=(HA4.out.2.2.block (Q+1) (Gl HS.out.2.1) (fun e=>by have:=HS.out.2.2.2;omega)).trans HS.out.2.1
     obtain⟨⟨a0,a1⟩,zQ4⟩:=Z0g q4
     clear uf q4
     go_wp2_with fail
     generalize hW5:World.setCell _ _ _=W5
     have T5:=HA4.out.1.T.set1' (j:=i) (by rw[Lls];exact hrl) 2 (by rw[Z0i _ _ _ _ _ hrl,if_pos rfl])
     rw[List.set_set,hW5]at T5
     have K5:Z01 (fun k=>k=B) w4 W5:=by rw[<-hW5];exact(Z01.refl (fun k=>k=B) w4).setCell (p:=⟨B,i*2,none⟩) (fun _=>rfl) _
     have A5:=HA4.out.1.turnT T5 (K5.mono (fun _ _ e=>by rw[e];rfl))
     have HA5:=hi2 A5 (keE HA4.out.2.1 K5 (fun k e=>.inr (by have:=H1.out.2.2.2;omega)))
     clear hW5 T5 K5 A5 u1 u2 uf1 a0 a1
     refine(Z8o W5 tb ob vb _ vv L Vs i pn 1 HA5.out.1.B.co HA5.out.1.B.cv HA5.out.1.O HA5.out.1.V hiV (by omega) (fun t e=>⟨fun h=>HA5.out.1.dVB t e (.inr (.inl h)),fun h=>HA5.out.1.dVB t e (.inr (.inr h)),fun h=>HA5.out.1.dVO t e h⟩) (by have:=HR.out.2.1.vl;have:=H.out.2.2.2.2;omega) (by have:=H.out.2.2.2.2;omega)).mono ?_
     rintro e w6 ⟨rfl,V6,hk6⟩
     have A6:=HA5.out.1.turnV V6 hk6
     have HA6:=hi2 A6 (keE HA5.out.2 hk6 (fun k e=>.inl (.inr (.inr e))))
     clear A6 V6 hk6
     skip
     go_wp2
     go_roundw
     case rel=>
      exact⟨i+1,v0,v',xs,W0,W',Vs.set i (L.getD pn (0,0)).2,RR.set i (2,0),by omega,by go_num,HA6.out.1,HR.out.2.1.step hlL HK.out.2.1 (by rw[Zge,Zbs];rfl) (fun p hp=>.inl hp) (fun p hp=>.inl (by simp[hp])) rfl rfl,HG4.out,HA6.out.2⟩
     case measure=>simp[intOf];omega
   have hgn:Z3i Z77 k=none:=Z6d (by simp[Z77];omega)
   have hlk:(Instr.lookup 276 (.map (some mk)) (.int .u8 k) true).run Tryz.prog (wr.alloc (.cells #[.int .u8 k,.int .i32 y] 47))= .ok (.tuple #[.agg #[.bool false,.int .i64 0],.bool false]) (wr.alloc (.cells #[.int .u8 k,.int .i32 y] 47)):=by
    have:=Z1p (kd:=.u8) Tryz.underlying276 Tryz.underlying5 Z6m mk _ Z77 Z77.length k HKM.out
    rw[hgn]at this
    exact this
   clear hgn
   go_upto_region 13 with fail
   generalize hQ:wr.heap.size=Q
   generalize hW2:World.alloc _ _=W2
   have B2:Below wr.heap.size wr W2:=by rw[<-hW2];go_grown
   have A2:=HR.out.1.below B2
   obtain⟨u1,u2,uf⟩:=A2.T.at_ hrl
   have uf1:=uf (i*2)
   have HS:=hi2 A2 B2
   clear hQ hW2 B2 A2 c1 c2 hlk uf
   go_wp2
   go_roundw
   case rel=>
    have T5:=HS.out.1.T.set1' (j:=i) hrl 5 (HR.out.2.1.r2 i)
    have K5:Z01 (fun k=>k=B) W2 (W2.setCell ⟨B,i*2,none⟩ (.int .u8 5)):=(Z01.refl (fun k=>k=B) W2).setCell (p:=⟨B,i*2,none⟩) (fun _=>rfl) _
    exact⟨i+1,v0,v1,xs,W0,W1,Vs,RR.set i (5,0),by omega,by go_num,HS.out.1.turnT T5 (K5.mono (fun _ _ e=>by rw[e];rfl)),HR.out.2.1.step hlL HK.out.2.1 (Zp5 hk1 hk2 hk3 hk4) (fun p hp=>.inl hp) (fun p hp=>.inl hp) rfl (HV0 i hlL HR.out.2.1),HR.out.2.2.1,keE (HR.out.2.2.2.trans (Z0b HS.out.2)) K5 (fun k e=>.inr (by have:=H1.out.2.2.2;omega))⟩
   case measure=>simp[intOf];omega
  ·obtain rfl:i=n:=by omega
   have HZ:=hi4 hA hMt hG hK
   clear hA hMt hG hK
   go_wp2
   go_ret
   exact⟨_,mk,v0,v1,xs,W0,W1,Vs,RR,rfl,HZ.out.1,by have h1:=HZ.out.2.1;rwa [<-H.out.2.2.2.2]at h1,HZ.out.2.2.1,HZ.out.2.2.2,fun t e=>by have h1:B=t:=Option.some.inj e;have:=H1.out.2.2.2;omega⟩
def dqP (L:List (Int×Int)) (W0 W1 xs:List Int) (j:Nat):List Int:=if j=0 then xs else if j=1 then(W0.map (opV L)).reverse++xs else Z1z L W0 xs W1
theorem Zmx (x y:Value) (w:World):(Instr.index 267 (.agg #[x,y]) (.int .i64 0)).run Tryz.prog w= .ok (.agg #[x]) w:=by kernel_rfl
theorem Zmy (x y:Value) (w:World):(Instr.index 267 (.agg #[x,y]) (.int .i64 1)).run Tryz.prog w= .ok (.agg #[y]) w:=by kernel_rfl
theorem Zck (most:Int):∀(l:List (Int×Int)) (xs:List Int),(xs.length:Int)<=most->((Z09 (Z07 most) xs l).1.length:Int)<=most
 | [],xs,h=>by simpa [Z09]using h
 |o::l,xs,h=>by
  refine Zck most l (Z07 most xs o).1 ?_
  unfold Z07
  split
  ·split
   ·exact h
   ·simp;omega
  ·split
   ·split
    ·exact h
    ·simp;omega
   ·split
    ·split
     ·exact h
     ·simp;omega
    ·split
     ·split
      ·exact h
      ·simp;omega
     ·exact h
theorem tn6 {w1:World} {k:Nat} (h:w1.heap.size=k) {A B C D E F:Obj} {u:World} (hu:(((((w1.alloc A).alloc B).alloc C).alloc D).alloc E).alloc F=u):
 u.heap[k]?=some A/\u.heap[k+1]?=some B/\u.heap[k+1+1]?=some C/\u.heap[k+1+1+1]?=some D/\u.heap[k+1+1+1+1]?=some E/\u.heap[k+1+1+1+1+1]?=some F/\Below k w1 u/\u.heap.size=k+6:=by
 subst hu
 subst h
 have s1:(w1.alloc A).heap.size=w1.heap.size+1:=by simp
 have s2:((w1.alloc A).alloc B).heap.size=w1.heap.size+1+1:=by simp
 have s3:(((w1.alloc A).alloc B).alloc C).heap.size=w1.heap.size+1+1+1:=by simp
 have s4:((((w1.alloc A).alloc B).alloc C).alloc D).heap.size=w1.heap.size+1+1+1+1:=by simp
 have s5:(((((w1.alloc A).alloc B).alloc C).alloc D).alloc E).heap.size=w1.heap.size+1+1+1+1+1:=by simp
 have nx:∀(x:World) (o o':Obj) (j:Nat),x.heap[j]?=some o->(x.alloc o').heap[j]?=some o:=fun x o o' j hj=>(Below.heap_alloc _ _ _ (Gl hj)).trans hj
 refine⟨?_,?_,?_,?_,?_,?_,by go_grown,by simp⟩
 ·exact nx _ _ _ _ (nx _ _ _ _ (nx _ _ _ _ (nx _ _ _ _ (nx _ _ _ _ (Han _ _)))))
 ·exact nx _ _ _ _ (nx _ _ _ _ (nx _ _ _ _ (nx _ _ _ _ (by rw[<-s1];exact Han _ _))))
 ·exact nx _ _ _ _ (nx _ _ _ _ (nx _ _ _ _ (by rw[<-s2];exact Han _ _)))
 ·exact nx _ _ _ _ (nx _ _ _ _ (by rw[<-s3];exact Han _ _))
 ·exact nx _ _ _ _ (by rw[<-s4];exact Han _ _)
 ·rw[<-s5];exact Han _ _
theorem Zp7 {w:World} {G n:Nat} (h:w.heap[G]?=some (.cells (madeCells #[.int .i32 0] n) 21)) (hn:n<=1000000):R32 w (.slice (some ⟨G,0,none⟩) n n) (List.replicate n 0):=by
 refine⟨by simp,.inr ⟨G,n,_,by simp,Nat.zero_le _,h,by simp,by unfold maxLen;omega,by rw[size_madeCells];omega,?_⟩⟩
 rw[Zkx,List.take_of_length_le (by simp)]
theorem Zjs (w:World) (r:Nat) (rv:Value) (xs:List Int) (most:Int) (ov:Value) (L:List (Int×Int)) (h:RgS w r rv xs most) (hp:P2 w 47 ov L) (ho:∀t,ov.ownBlock=some t->¬RgF r rv t) (hk:∀p ∈ L,0<=p.1/\p.1<=255) (hl:xs.length+L.length<=1000000):
 Calls Tryz.prog 205 #[.pointer (some ⟨r,0,none⟩),ov] w fun e w'=>∃u,e= .returned u/\P2 w' 43 u (Z09 (Z07 most) xs L).2/\(∀t,u.ownBlock=some t->w.heap.size<=t)/\∃v',RgS w' r v' (Z09 (Z07 most) xs L).1 most/\Z39 w rv v'/\Z01 (Z0r r rv) w w':=by
 have hs:=h.lt
 obtain⟨n,hn⟩:∃n,L.length=n:=⟨_,rfl⟩
 obtain⟨oo,oc,hovs⟩:=hp.shape
 rw[hn]at hovs
 subst hovs
 have hm:=h.le
 obtain⟨cs,f,hR,hmo⟩:=id h
 have H:=hi7 h hp ho hk hl hn hm
 have HR:=hi2 hR hmo
 have hn9:(n:Int)<=1000000:=by omega
 obtain⟨i0,hi,hz0,hz1,hz2⟩:=info_parts Tryz.info32
 have hmk:=Z5b 31 21 i0 Tryz.underlying31 hi hz0 hz1 hz2 n (by omega)
 have hmf:∀(fn:Fn) (first cap:Array Value) (w:World),(Instr.makeFunc fn first cap).run Tryz.prog w= .ok (.func fn first cap) w:=fun _ _ _ _=>rfl
 clear h hp ho hk hl hn hm hi hz0 hz1 hz2 hR hmo
 go_enter Tryz.func205,Tryz.ntmps205
 go_upto_region 5 with(first|(go_at_call 198;refine Go.Calls.mono (Z2j _ r rv cs f xs (HR.out.1.below (by go_grown))) ?_;rintro e w' ⟨rfl,rfl⟩)|(go_at_call 207;refine Go.Calls.mono (Z3t _ r rv cs f xs (HR.out.1.below (by go_grown))) ?_;rintro e w' ⟨rfl,rfl⟩))
 generalize hW:World.alloc _ _=w1
 have X:=tn6 rfl hW
 clear hW
 generalize hB:w.heap.size=ob at X |-
 generalize h1:ob+1=m at X |-
 generalize h2:m+1=tb at X |-
 generalize h3:tb+1=pb at X |-
 generalize h4:pb+1=G at X |-
 generalize h5:G+1=vb at X |-
 obtain⟨x0,x1,x2,x3,x4,x5,xB,xS⟩:=X
 rw[HR.out.2]at x1
 have hso:∀k,RgF r rv k->k<ob:=fun k e=>by
  rcases e with e|e
  ·omega
  ·have:=H.out.1.vlt k e;omega
 have hoo:∀k,Z14 (.slice oo n oc) k->k<ob:=fun k e=>by have:=H.out.2.1.lt e;omega
 have xB':Below w.heap.size w w1:=by rw[hB];exact xB
 have A0:EA0 w1 r m tb ob vb rv (.slice none 0 0) (.slice none 0 0) (.slice (some ⟨G,0,none⟩) n n) (.slice oo n oc) xs [] [] (List.replicate n 0) L most (xs.length:Int):=by
  have hGF:∀t,Z14 (.slice (some ⟨G,0,none⟩) n n) t->t=G:=fun t e=>(Option.some.inj e).symm
  have hmF:∀t,EnF m (.slice none 0 0) (.slice none 0 0) t->t=m:=fun t e=>by
   rcases e with e|e|e
   ·exact e
   ·cases e
   ·cases e
  have hBF:∀t,BxF tb ob vb t->t=tb\/t=ob\/t=vb:=fun t e=>e
  exact {
   R:=H.out.1.below xB'
   M:=⟨x1,Z2b.nil _ _,Z2b.nil _ _,fun t e=>(by cases e),fun t e=>(by cases e),fun t e=>(by cases e)⟩
   V:=Zp7 x4 (by omega)
   O:=H.out.2.1.below xB'
   B:=⟨x2,Z2a x0,Z2a x5⟩
   dRM:=fun t e f=>by have:=hso t e;have:=hmF t f;omega
   dRV:=fun t e f=>by have:=hso t e;have:=hGF t f;omega
   dRO:=fun t e f=>H.out.2.2.1 t f e
   dRB:=fun t e f=>by have:=hso t e;have:=hBF t f;omega
   dMV:=fun t e f=>by have:=hmF t e;have:=hGF t f;omega
   dMO:=fun t e f=>by have:=hmF t e;have:=hoo t f;omega
   dMB:=fun t e f=>by have:=hmF t e;have:=hBF t f;omega
   dVO:=fun t e f=>by have:=hGF t e;have:=hoo t f;omega
   dVB:=fun t e f=>by have:=hGF t e;have:=hBF t f;omega
   dOB:=fun t e f=>by have:=hoo t e;have:=hBF t f;omega}
 have c0:=Z2a x0
 have z0:ob<w1.heap.size:=by omega
 have HX:=hi4 A0 x3 xB' xS
 have HN:=hi6 hB h1 h2 h3 h4 h5
 clear x0 x1 x2 x3 x4 x5 xB xB' xS A0 hB h1 h2 h3 h4 h5
 go_wp2_with fail
 refine(Zp6 w1 r m tb ob vb rv _ _ _ _ xs _ L most HX.out.1 (by rw[H.out.2.2.2.2.2.1]) H.out.2.2.2.1 H.out.2.2.2.2.1).mono ?_
 rintro e w5 ⟨tv,mk,v0,v1,xs1,W0,W1,Vs,RR,rfl,A5,M5,g5,k5,hT5⟩
 obtain⟨ta,tc,htv⟩:=A5.T.shape
 have hRl:=M5.rl
 have hVl:=M5.vl
 have hnL:=H.out.2.2.2.2.2.1
 rw[hRl,hnL]at htv
 subst htv
 rw[hnL]at hRl hVl
 have cv5:=A5.B.cv
 obtain⟨m0,m1,-,-,-,zm⟩:=A5.M.cells
 obtain⟨a0,p0,e0⟩:=A5.M.row0.shape
 obtain⟨a1,p1,e1⟩:=A5.M.row1.shape
 rw[e0]at m0
 rw[e1]at m1
 have l0:(Z0w W0).length=W0.length:=by simp
 have l1:(Z0w W1).length=W1.length:=by simp
 rw[l0]at e0 m0
 rw[l1]at e1 m1
 have hmost:=Zck most L xs H.out.2.2.2.2.2.2
 have hlen:=Z4w most L xs
 have hst:=M5.st
 rw[List.take_length]at hst
 rw[hst,Z35]at hmost hlen
 have hpb:w5.heap[pb]?=some (.cells #[.func (.func 210) #[.pointer (some ⟨r,0,none⟩)] #[],.func (.func 211) #[.pointer (some ⟨r,0,none⟩)] #[]] 271 (0,0)):=(k5.block pb (by have:=HN.out;have:=HX.out.2.2.2;omega) (fun e=>by
  have h9:=HN.out
  rcases e with e|(e|e|e)|e
  ·have:=hso pb e;omega
  ·omega
  ·cases e
  ·cases e
  ·have h1:G=pb:=Option.some.inj e;omega)).trans HX.out.2.1
 have H5:=hi11 A5 M5 g5 k5 hT5 hRl hVl hst e0 e1 hpb
 clear A5 M5 g5 k5 hT5 hRl hVl hnL hst e0 e1 hpb l0 l1
 have hl9:=H.out.2.2.2.2.1
 go_wp2_with fail
 go_loopw [43] (fun k wr=>∃(j:Nat),j<=2/\k= .int .i64 j/\RgS wr r rv (dqP L W0 W1 xs1 j) most/\Z01 (RgF r rv) w5 wr) (fun k _=>2-(intOf k).toNat)
 case atStart=>exact⟨0,by omega,rfl,H5.out.1.R,Z01.refl _ _⟩
 case round=>
  obtain⟨j,hj2,rfl,hS,hK⟩:=hrel
  have HR5:=hi2 hS hK
  clear hS hK
  by_cases hlt:j<2
  ·have hlt':(j:Int)<2:=by omega
   have hj:j=0\/j=1:=by omega
   rcases hj with rfl|rfl
   ·rw[show(((0:Nat)):Int)=0 from rfl]
    have hix:=Zmx (.slice a0 W0.length p0) (.slice a1 W1.length p1)
    go_wp2_with fail
    generalize hw6:World.alloc _ _=w6
    have B6:Below wr.heap.size wr w6:=by rw[<-hw6];go_grown
    have H6:=Hd B6
    clear hw6 B6
    go_loopw [50] (fun k wr=>∃(i:Nat),i<=W0.length/\k= .int .i64 i/\RgS wr r rv (((W0.take i).map (opV L)).reverse++xs1) most/\Z01 (RgF r rv) w5 wr) (fun k _=>W0.length-(intOf k).toNat)
    case atStart=>exact⟨0,Nat.zero_le _,rfl,by have h7:=HR5.out.1.below H6.out;simpa [dqP]using h7,HR5.out.2.trans (Z0b H6.out)⟩
    case round=>
     obtain⟨i,hi,rfl,hS,hK⟩:=hrel
     have yi:(0:Int)<=(i:Int):=by omega
     by_cases hli:i<W0.length
     ·have hli':(i:Int)<(W0.length:Int):=by omega
      have hM:=H5.out.1.M.kept hK (fun t f e=>H5.out.1.dRM t e f)
      obtain⟨wg,wo,wc,hwv,-,-,-,hwc,-⟩:=hM.row0.pos (by simp;omega)
      rw[H5.out.2.2.2.2.2.2.2.2.1]at hwv
      have hl_:(Z0w W0).length=W0.length:=by simp
      rw[hl_]at hwv
      cases hwv
      have hpm:=H5.out.2.1.w0 (W0.getD i 0) (by
       rw[Lgd,Lge hli]
       exact List.getElem_mem _)
      have cw:=hwc i (.int .i64 (W0.getD i 0)) (by simp[List.getElem?_map,Lge hli])
      have hsn:=Z5a hli
      obtain⟨p,hp⟩:∃p,W0.getD i 0=p:=⟨_,rfl⟩
      rw[hp]at cw hpm hsn
      obtain⟨pn,rfl⟩:∃pn:Nat,p=(pn:Int):=⟨p.toNat,by omega⟩
      have hpL:pn<L.length:=by omega
      have hOr:=H5.out.1.O.kept hK (fun t e hh=>H5.out.1.dRO t hh e)
      have hBr:=H5.out.1.B.kept hK H5.out.1.dRB
      obtain⟨og,oc2,hs2,-,hog,hc2,-⟩:=hOr.pos (by omega)
      rw[H.out.2.2.2.2.2.1]at hs2
      cases hs2
      obtain⟨-,d2⟩:=hc2 pn hpL
      rw[show 2*pn+1=pn*2+1 by omega]at d2
      obtain⟨y,hy⟩:∃y,(L.getD pn (0,0)).2=y:=⟨_,rfl⟩
      rw[hy]at d2
      have hpb9:¬RgF r rv pb:=fun e=>by have:=hso pb e;have:=HN.out;omega
      have b1:=(hK.block pb (Gl H5.out.2.2.2.2.2.2.2.2.2.2) hpb9).trans H5.out.2.2.2.2.2.2.2.2.2.2
      have b2:=hBr.co
      have b3:wr.cell? ⟨pb,0,none⟩=some (.func (.func 210) #[.pointer (some ⟨r,0,none⟩)] #[]):=by simp[World.cell?,b1]
      have hnL:=H.out.2.2.2.2.2.1
      have hpn0:(0:Int)<=(pn:Int):=by omega
      have hpn1:(pn:Int)<(n:Int):=by omega
      obtain⟨cs6,f6,hR6,hm6⟩:=hS
      have hroom:(((W0.take i).map (opV L)).reverse++xs1).length<cs6.length:=by
       simp only[Lla,List.length_reverse,Llm,List.length_take]
       omega
      have HI:=hi8 hR6 hm6 hK hsn hy hroom hOr hBr
      have hwi:IntKind.i64.wrap ((i:Int)+1)=((i+1:Nat):Int):=by rw[show(i:Int)+1=((i+1:Nat):Int) by omega];exact I6n _ (by omega)
      have z1:ob<wr.drew.heap.size:=Blt wr _ b2
      have z2:pb<wr.drew.heap.size:=Blt wr _ b3
      have z3:og<wr.drew.heap.size:=hog
      have dd1:=((Brf wr.heap.size wr).drew.cell (p:=⟨ob,0,none⟩) z1).trans b2
      have dd2:=((Brf wr.heap.size wr).drew.cell (p:=⟨pb,0,none⟩) z2).trans b3
      have dd3:=((Brf wr.heap.size wr).drew.cell (p:=⟨og,pn*2+1,none⟩) z3).trans d2
      have HD:=hi3 dd1 dd2 dd3
      have hnb:¬RgF r rv ob:=fun e=>by have:=hso ob e;omega
      have hng:¬RgF r rv og:=fun e=>H5.out.1.dRO og e rfl
      clear hM hwc hp hsn hOr hBr hc2 hy b1 hR6 hm6 hK hroom hpm dd1 dd2 dd3 hnL hl_ hpL
      go_wp2_with fail
      go_region_held3 (fun wz=>wz.cell? ⟨ob,0,none⟩=some (.slice (some ⟨og,0,none⟩) n oc)/\wz.cell? ⟨pb,0,none⟩=some (.func (.func 210) #[.pointer (some ⟨r,0,none⟩)] #[])/\wz.cell? ⟨og,pn*2+1,none⟩=some (.int .i32 y))
       (first|(exact⟨b2,b3,d2⟩)|(exact⟨g1,g2,g3⟩)|go_keep)
       (first|(go_at_call 210;go_split_ands;with_reducible refine(Z6j _ r rv cs6 f6 _ y (HI.out.1.below (Brf _ _).drew) HI.out.2.2.2.2.2.1).mono ?_;rintro e w8 ⟨rfl,h8,k8⟩;have g1:=(k8.cell (p:=⟨ob,0,none⟩) z1 hnb).trans HD.out.1;have g2:=(k8.cell (p:=⟨pb,0,none⟩) z2 hpb9).trans HD.out.2.1;have g3:=(k8.cell (p:=⟨og,pn*2+1,none⟩) z3 hng).trans HD.out.2.2;have H8:=hi2 h8 k8;clear h8 k8))
      all_goals
       go_wp2
       go_roundw
       case rel=>
        obtain⟨cs7,f7,h7,l7⟩:=H8.out.1
        refine⟨i+1,by omega,by go_num,⟨cs7,f7,?_,by rw[l7];exact HI.out.2.1⟩,HI.out.2.2.1.drew.trans H8.out.2⟩
        rw[HI.out.2.2.2.1,List.map_append,List.map_cons,List.map_nil,show opV L (pn:Int)=y from by unfold opV;rw[Int.toNat_natCast,HI.out.2.2.2.2.1]]
        rw[List.reverse_append,List.reverse_cons,List.reverse_nil,List.nil_append,List.singleton_append,List.cons_append];exact h7
       case measure=>simp[intOf];omega
     ·obtain rfl:i=W0.length:=by omega
      have HI:=hi2 hS hK
      clear hS hK
      go_wp2
      go_roundw
      case rel=>exact⟨1,by omega,by go_num,by have h7:=HI.out.1;rw[List.take_length]at h7;simpa [dqP,Z1z]using h7,HI.out.2⟩
      case measure=>simp[intOf]
   ·rw[show(((1:Nat)):Int)=1 from rfl]
    have hix:=Zmy (.slice a0 W0.length p0) (.slice a1 W1.length p1)
    go_wp2_with fail
    generalize hw6:World.alloc _ _=w6
    have B6:Below wr.heap.size wr w6:=by rw[<-hw6];go_grown
    have H6:=Hd B6
    clear hw6 B6
    go_loopw [50] (fun k wr=>∃(i:Nat),i<=W1.length/\k= .int .i64 i/\RgS wr r rv ((W0.map (opV L)).reverse++(xs1++(W1.take i).map (opV L))) most/\Z01 (RgF r rv) w5 wr) (fun k _=>W1.length-(intOf k).toNat)
    case atStart=>exact⟨0,Nat.zero_le _,rfl,by have h7:=HR5.out.1.below H6.out;simpa [dqP]using h7,HR5.out.2.trans (Z0b H6.out)⟩
    case round=>
     obtain⟨i,hi,rfl,hS,hK⟩:=hrel
     have yi:(0:Int)<=(i:Int):=by omega
     by_cases hli:i<W1.length
     ·have hli':(i:Int)<(W1.length:Int):=by omega
      have hM:=H5.out.1.M.kept hK (fun t f e=>H5.out.1.dRM t e f)
      obtain⟨wg,wo,wc,hwv,-,-,-,hwc,-⟩:=hM.row1.pos (by simp;omega)
      rw[H5.out.2.2.2.2.2.2.2.2.2.1]at hwv
      have hl_:(Z0w W1).length=W1.length:=by simp
      rw[hl_]at hwv
      cases hwv
      have hpm:=H5.out.2.1.w1 (W1.getD i 0) (by
       rw[Lgd,Lge hli]
       exact List.getElem_mem _)
      have cw:=hwc i (.int .i64 (W1.getD i 0)) (by simp[List.getElem?_map,Lge hli])
      have hsn:=Z5a hli
      obtain⟨p,hp⟩:∃p,W1.getD i 0=p:=⟨_,rfl⟩
      rw[hp]at cw hpm hsn
      obtain⟨pn,rfl⟩:∃pn:Nat,p=(pn:Int):=⟨p.toNat,by omega⟩
      have hpL:pn<L.length:=by omega
      have hOr:=H5.out.1.O.kept hK (fun t e hh=>H5.out.1.dRO t hh e)
      have hBr:=H5.out.1.B.kept hK H5.out.1.dRB
      obtain⟨og,oc2,hs2,-,hog,hc2,-⟩:=hOr.pos (by omega)
      rw[H.out.2.2.2.2.2.1]at hs2
      cases hs2
      obtain⟨-,d2⟩:=hc2 pn hpL
      rw[show 2*pn+1=pn*2+1 by omega]at d2
      obtain⟨y,hy⟩:∃y,(L.getD pn (0,0)).2=y:=⟨_,rfl⟩
      rw[hy]at d2
      have hpb9:¬RgF r rv pb:=fun e=>by have:=hso pb e;have:=HN.out;omega
      have b1:=(hK.block pb (Gl H5.out.2.2.2.2.2.2.2.2.2.2) hpb9).trans H5.out.2.2.2.2.2.2.2.2.2.2
      have b2:=hBr.co
      have b3:wr.cell? ⟨pb,1,none⟩=some (.func (.func 211) #[.pointer (some ⟨r,0,none⟩)] #[]):=by simp[World.cell?,b1]
      have hnL:=H.out.2.2.2.2.2.1
      have hpn0:(0:Int)<=(pn:Int):=by omega
      have hpn1:(pn:Int)<(n:Int):=by omega
      obtain⟨cs6,f6,hR6,hm6⟩:=hS
      have hroom:((W0.map (opV L)).reverse++(xs1++(W1.take i).map (opV L))).length<cs6.length:=by
       simp only[Lla,List.length_reverse,Llm,List.length_take]
       omega
      have HI:=hi8 hR6 hm6 hK hsn hy hroom hOr hBr
      have hwi:IntKind.i64.wrap ((i:Int)+1)=((i+1:Nat):Int):=by rw[show(i:Int)+1=((i+1:Nat):Int) by omega];exact I6n _ (by omega)
      have z1:ob<wr.drew.heap.size:=Blt wr _ b2
      have z2:pb<wr.drew.heap.size:=Blt wr _ b3
      have z3:og<wr.drew.heap.size:=hog
      have dd1:=((Brf wr.heap.size wr).drew.cell (p:=⟨ob,0,none⟩) z1).trans b2
      have dd2:=((Brf wr.heap.size wr).drew.cell (p:=⟨pb,1,none⟩) z2).trans b3
      have dd3:=((Brf wr.heap.size wr).drew.cell (p:=⟨og,pn*2+1,none⟩) z3).trans d2
      have HD:=hi3 dd1 dd2 dd3
      have hnb:¬RgF r rv ob:=fun e=>by have:=hso ob e;omega
      have hng:¬RgF r rv og:=fun e=>H5.out.1.dRO og e rfl
      clear hM hwc hp hsn hOr hBr hc2 hy b1 hR6 hm6 hK hroom hpm dd1 dd2 dd3 hnL hl_ hpL
      go_wp2_with fail
      go_region_held3 (fun wz=>wz.cell? ⟨ob,0,none⟩=some (.slice (some ⟨og,0,none⟩) n oc)/\wz.cell? ⟨pb,1,none⟩=some (.func (.func 211) #[.pointer (some ⟨r,0,none⟩)] #[])/\wz.cell? ⟨og,pn*2+1,none⟩=some (.int .i32 y))
       (first|(exact⟨b2,b3,d2⟩)|(exact⟨g1,g2,g3⟩)|go_keep)
       (first|(go_at_call 211;go_split_ands;with_reducible refine(Z6k _ r rv cs6 f6 _ y (HI.out.1.below (Brf _ _).drew) HI.out.2.2.2.2.2.1).mono ?_;rintro e w8 ⟨rfl,h8,k8⟩;have g1:=(k8.cell (p:=⟨ob,0,none⟩) z1 hnb).trans HD.out.1;have g2:=(k8.cell (p:=⟨pb,1,none⟩) z2 hpb9).trans HD.out.2.1;have g3:=(k8.cell (p:=⟨og,pn*2+1,none⟩) z3 hng).trans HD.out.2.2;have H8:=hi2 h8 k8;clear h8 k8))
      all_goals
       go_wp2
       go_roundw
       case rel=>
        obtain⟨cs7,f7,h7,l7⟩:=H8.out.1
        refine⟨i+1,by omega,by go_num,⟨cs7,f7,?_,by rw[l7];exact HI.out.2.1⟩,HI.out.2.2.1.drew.trans H8.out.2⟩
        rw[HI.out.2.2.2.1,List.map_append,List.map_cons,List.map_nil,show opV L (pn:Int)=y from by unfold opV;rw[Int.toNat_natCast,HI.out.2.2.2.2.1]]
        rw[<-List.append_assoc,<-List.append_assoc];rw[<-List.append_assoc]at h7;exact h7
       case measure=>simp[intOf];omega
     ·obtain rfl:i=W1.length:=by omega
      have HI:=hi2 hS hK
      clear hS hK
      go_wp2
      go_roundw
      case rel=>exact⟨2,by omega,by go_num,by have h7:=HI.out.1;rw[List.take_length]at h7;simpa [dqP,Z1z]using h7,HI.out.2⟩
      case measure=>simp[intOf]
  ·obtain rfl:j=2:=by omega
   rw[show(((2:Nat)):Int)=2 from rfl]
   obtain⟨w7,hw7⟩:∃w7,wr=w7:=⟨_,rfl⟩
   rw[hw7]at HR5
   have A7:=H5.out.1.turnR (xs':=Z1z L W0 xs1 W1) (by have h7:=HR5.out.1;simpa [dqP]using h7) HR5.out.2
   have hT7:P2 w7 43 (.slice ta n tc) RR:=A7.T
   have cv7:=A7.B.cv
   have H7:=hi2 A7 HR5.out.2
   subst hw7
   clear A7 hT7 cv5 m0 m1
   go_wp2_with fail
   go_loopw [67] (fun k wx=>∃(j:Nat) (RJ:List (Int×Int)),j<=n/\k= .int .i64 j/\P2 wx 43 (.slice ta n tc) RJ/\RJ.length=n/\(∀p,RJ.getD p (0,0)=((RR.getD p (0,0)).1,if p<j then Vs.getD p 0 else(RR.getD p (0,0)).2))/\Z01 (Z14 (.slice ta n tc)) wr wx) (fun k _=>n-(intOf k).toNat)
   case atStart=>exact⟨0,RR,Nat.zero_le _,rfl,H7.out.1.T,H5.out.2.2.2.2.2.1,fun p=>by simp,Z01.refl _ _⟩
   case round=>
    obtain⟨j,RJ,hjn,rfl,hT,hRJ,hE,hK⟩:=hrel
    have yj:(0:Int)<=(j:Int):=by omega
    by_cases hlt:j<n
    ·have hlt':(j:Int)<(n:Int):=by omega
     have hVr:=H7.out.1.V.kept hK (fun t e f=>H7.out.1.dVT t e f)
     have cx:=hVr.cellAt (j:=j) (by have:=H5.out.2.2.2.2.2.2.1;omega)
     obtain⟨x,hx⟩:∃x,Vs.getD j 0=x:=⟨_,rfl⟩
     rw[hx]at cx
     have hTn:=hT.set2n (j:=j) (by omega) x
     obtain⟨tg,tc2,hs2,-,-,hc2,hf2⟩:=hT.pos (by omega)
     rw[hRJ]at hs2
     cases hs2
     obtain⟨-,e2⟩:=hc2 j (by omega)
     rw[show 2*j+1=j*2+1 by omega]at e2
     have f2:=hf2 (j*2+1)
     obtain⟨y,hy⟩:∃y,(RJ.getD j (0,0)).2=y:=⟨_,rfl⟩
     rw[hy]at e2
     have hTn:=hTn tg rfl
     have HJ:=hi5 hTn hRJ hE hK hx
     clear hT hTn hc2 hf2 hRJ hE hK hx hy hVr
     go_wp2_with fail
     go_roundw
     case rel=>
      refine⟨j+1,RJ.set j ((RJ.getD j (0,0)).1,x),by omega,by go_num,HJ.out.1,by rw[Lls];exact HJ.out.2.1,fun p=>?_,HJ.out.2.2.2.1.setCell (p:=⟨tg,j*2+1,none⟩) (fun _=>rfl) _⟩
      rw[Z0i _ _ _ _ _ (by rw[HJ.out.2.1];exact hlt)]
      by_cases hp:p=j
      ·subst hp
       rw[if_pos rfl,HJ.out.2.2.1 p,if_pos (Nat.lt_succ_self p),HJ.out.2.2.2.2]
      ·rw[if_neg hp,HJ.out.2.2.1 p]
       congr 1
       by_cases hp2:p<j
       ·rw[if_pos hp2,if_pos (by omega)]
       ·rw[if_neg hp2,if_neg (by omega)]
     case measure=>simp[intOf];omega
    ·obtain rfl:j=n:=by omega
     have hRR:RJ=(Z09 (Z07 most) xs L).2:=by
      refine List.ext_getElem (by rw[hRJ,Z1i,H.out.2.2.2.2.2.1]) (fun p h1 h2=>?_)
      have e1:RJ[p]=RJ.getD p (0,0):=by rw[Lgd,Lge h1];rfl
      have e2:(Z09 (Z07 most) xs L).2[p]=(Z09 (Z07 most) xs L).2.getD p (0,0):=by rw[Lgd,Lge h2];rfl
      have e3:=H5.out.2.1.eq p (by rw[H.out.2.2.2.2.2.1];omega)
      rw[List.take_length]at e3
      rw[e1,e2,e3,hE p,if_pos (by omega)]
     have AZ:=H7.out.1.turnT hT hK
     have HZ:=hi3 AZ hRR hK
     clear AZ hRR hK hT hE hRJ
     go_wp2
     go_ret
     have hst:=H5.out.2.2.2.2.2.2.2.1
     have hob:=HN.out.1
     refine⟨_,rfl,by rw[<-HZ.out.2.1];exact HZ.out.1.T,fun t e=>Nat.le_trans HX.out.2.2.1.size (H5.out.2.2.2.2.1 t e),rv,?_,.inl rfl,?_⟩
     ·rw[hst];exact HZ.out.1.R
     ·have K1:Z01 (Z0r r rv) w w5:=(Z0b (F:=Z0r r rv) HX.out.2.2.1).step H5.out.2.2.2.1 (fun i hi e=>by
       have hN:=HN.out
       rcases e with e|(e|e|e)|e
       ·exact e
       ·omega
       ·cases e
       ·cases e
       ·have h1:G=i:=Option.some.inj e
        omega)
      exact(K1.trans H7.out.2).step HZ.out.2.2 (fun i hi e=>by
       have h8:=H5.out.2.2.2.2.1 i e
       have h9:=HX.out.2.2.1.size
       omega)
section
variable (w:World) (c:Value) (r:Nat) (rv:Value) (xs:List Int) (most:Int) (ov:Value) (L:List (Int×Int))
theorem Zjw (h:RgS w r rv xs most) (hp:P2 w 47 ov L) (ho:∀t,ov.ownBlock=some t->¬Z0r r rv t) (hk:∀p ∈ L,0<=p.1/\p.1<=255) (hl:xs.length+L.length<=1000000):
 Calls Tryz.prog 202 #[.agg #[.pointer (some ⟨r,0,none⟩)],c,ov] w fun e w'=>∃u,e= .returned u/\P2 w' 43 u (Z09 (Z07 most) xs L).2/\(∀t,u.ownBlock=some t->w.heap.size<=t)/\∃v',RgS w' r v' (Z09 (Z07 most) xs L).1 most/\Z39 w rv v'/\Z01 (Z0r r rv) w w':=by
 have hs:=h.lt
 have H:=hi5 h hp ho hk hl
 clear h hp ho hk hl
 go_enter Tryz.func202,Tryz.ntmps202
 go_wp2_with fail
 generalize hW1:World.alloc _ _=w1
 have B1:Below w.heap.size w w1:=by rw[<-hW1];go_grown
 clear hW1
 refine(Zjs w1 r rv xs most _ L (H.out.1.below B1) (H.out.2.1.below B1) H.out.2.2.1 H.out.2.2.2.1 H.out.2.2.2.2).mono ?_
 rintro e w' ⟨u,rfl,h1⟩
 have H1:=Hd h1
 clear h1
 go_wp2
 go_ret
 obtain⟨a,b,v',c1,d,e⟩:=H1.out
 exact⟨_,rfl,a,fun t h=>Nat.le_trans B1.size (b t h),v',c1,Z39.trans (.inl rfl) d B1.size,(Z0b B1).trans e⟩
theorem Zjx (h:RgS w r rv xs most) (hp:P2 w 47 ov L) (ho:∀t,ov.ownBlock=some t->¬Z0r r rv t) (hk:∀p ∈ L,0<=p.1/\p.1<=255) (hl:xs.length+L.length<=1000000):
 Calls Tryz.prog 204 #[.agg #[.pointer (some ⟨r,0,none⟩)],c,ov] w fun e w'=>∃u,e= .returned u/\P2 w' 43 u (Z09 (Z07 most) xs L).2/\(∀t,u.ownBlock=some t->w.heap.size<=t)/\∃v',RgS w' r v' (Z09 (Z07 most) xs L).1 most/\Z39 w rv v'/\Z01 (Z0r r rv) w w':=by
 have hs:=h.lt
 have H:=hi5 h hp ho hk hl
 clear h hp ho hk hl
 go_enter Tryz.func204,Tryz.ntmps204
 go_wp2_with fail
 generalize hW1:World.alloc _ _=w1
 have B1:Below w.heap.size w w1:=by rw[<-hW1];go_grown
 clear hW1
 refine(Zmt w1 r rv xs most _ L (H.out.1.below B1) (H.out.2.1.below B1) H.out.2.2.1 H.out.2.2.2.1 H.out.2.2.2.2).mono ?_
 rintro e w' ⟨u,rfl,h1⟩
 have H1:=Hd h1
 clear h1
 go_wp2
 go_ret
 obtain⟨a,b,v',c1,d,e⟩:=H1.out
 exact⟨_,rfl,a,fun t h=>Nat.le_trans B1.size (b t h),v',c1,Z39.trans (.inl rfl) d B1.size,(Z0b B1).trans e⟩
end
end
end Go.Proofs.YtihljjgmkaeohaaGreat
