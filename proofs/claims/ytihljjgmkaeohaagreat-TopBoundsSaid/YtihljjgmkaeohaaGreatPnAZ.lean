/- part 26 -/
import Derived.Test.YtihljjgmkaeohaaGreatPnAW
import Derived.Test.YtihljjgmkaeohaaGreatPnAX
set_option linter.all false
set_option maxHeartbeats 16000000
set_option maxRecDepth 100000
namespace Go.Proofs.YtihljjgmkaeohaaGreat
section
open Go.RowKit Go.ChangeShapes Go.WideShapes Go.ChangeAt Go.Deep
theorem Tryz.infoLg:(Tryz.prog.info? 49).map (fun i=>(i.zero,i.size,i.bytes))=some (some (.agg #[.int .i64 0,.int .i64 0,.int .u8 0,.int .i32 0,.int .u8 0,.int .i32 0,.int .i64 0]),7,40):=by kernel_rfl
theorem Zl3 {w:World} {g:Nat} {e:Lg} (h:w.heap[g]?=some (.cells #[.int .i64 e.t,.int .i64 e.s,.int .u8 e.ok,.int .i32 e.ov,.int .u8 e.rc,.int .i32 e.rv,.int .i64 e.b] 49 (0,0))):w.ownsRow 0 49 7 (.slice (some ⟨g,0,none⟩) 1 1) 1 (lgV e):=
 ⟨rfl,.inr ⟨g,1,_,rfl,Nat.zero_le _,h,Nat.le_refl _,by unfold maxLen;omega,rfl,rfl⟩⟩
theorem Zhh (e:Lg):∀u ∈ lgV e,u.oneCell'=true:=by
 intro u hu
 simp only[lgV,List.mem_cons,List.not_mem_nil,or_false]at hu
 rcases hu with rfl|rfl|rfl|rfl|rfl|rfl|rfl<;>rfl
def Z92 (n:Nat) (Fd:Nat->Int) (k:Int):(Int×Int)×(Int×Int):=((Z0k n Fd).getD k.toNat (0,0),(wk (Fd (3*k.toNat+2)),wv (Fd (3*k.toNat+2))))
section
variable {ob:Int} {L:List (Int×Int)} {ys:List Int}
theorem Z31.rng (h:Z31 ob L ys):∀y ∈ ys,0<=y/\y<L.length:=fun y hy=>by
 have:y ∈ Z3j L.length:=by
  by_cases e:ob=3
  ·exact(h.2 e).1.subset hy
  ·rw[h.1 e]at hy;exact hy
 simp only[Z3j,List.mem_map,List.mem_range]at this
 obtain⟨i,hi,rfl⟩:=this
 omega
theorem Z31.len (h:Z31 ob L ys):ys.length=L.length:=by
 by_cases e:ob=3
 ·rw[(h.2 e).1.length_eq];simp[Z3j]
 ·rw[h.1 e];simp[Z3j]
end
theorem Zni {W0 w:World} {p:Nat} {c:Cfg} {S:WM} {a:WA} (h:WP W0 w p c S a) (dn:Value) (n:Nat) (Fd:Nat->Int) (hD:IRw w dn n Fd) (hdt:∀k,dn.ownBlock=some k->a.tag k=0) (hn:n<=900000) (hlg:a.lg.length+n<=1000000000000) (hth:1<=c.th):
 Calls Tryz.prog 78 #[.pointer (some ⟨p,0,none⟩),dn] w fun e w'=>e= .returned (.tuple #[])/\∃ord a',Z31 c.ob (Z0k n Fd) ord/\WP W0 w' p c {S with lg:=S.lg++ord.map (Z92 n Fd)} a'/\a'.st=a.st:=by
 obtain⟨ao,cap,rfl⟩:=Z03 hD
 obtain⟨⟨c0,c1,c2,c3,c4,c5,c6,c7,c8,c9,c10,c11,c12,c13⟩,cf,cz⟩:=h.open
 obtain⟨i0',hi,hz0,hz1,hz2⟩:=info_parts Tryz.infoOp
 have hmk:=Z1f 74 47 i0' Tryz.underlying74 hi hz0 hz1 hz2 n (by omega)
 have f13:=cf 13
 have H:=hi4 h hD hdt hlg
 have hn9:(n:Int)<=900000:=by omega
 have hn2:n*2<=1800000:=by omega
 clear h hD hdt hlg hi hz0 hz1 hz2 cf
 go_enter Tryz.func78,Tryz.ntmps78
 go_wp2_with fail
 generalize hB:w.heap.size=B
 generalize hW1:World.alloc _ _=w1
 obtain⟨x13,P1⟩:∃x,WP W0 w1 p c S {a with btc:=x}:=⟨_,by rw[<-hW1];exact(H.out.1.setB _).below (by go_grown)⟩
 have T1:P2 w1 47 (.slice (some ⟨B,0,none⟩) n n) (List.replicate n (0,0)):=by
  have h1:=Z3p (w.setCell ⟨p,13,none⟩ (.int .i64 (wrap64 (a.btc+1)))) 47 n (by omega)
  rw[show(w.setCell ⟨p,13,none⟩ (.int .i64 (wrap64 (a.btc+1)))).heap.size=w.heap.size by simp]at h1
  rw[<-hW1,<-hB];exact h1
 have D1:IRw w1 (.slice ao n cap) n Fd:=by
  rw[<-hW1]
  exact IRw.below (Z04 H.out.2.1 (Z02 w ⟨p,13,none⟩ _) (fun k e e2=>by have h1:=H.out.2.2.1 k e;have e3:k=p:=e2;rw[e3,H.out.1.tp]at h1;omega)) (by go_grown)
 have htB:a.tag B=0:=by rw[<-hB];exact H.out.1.old (Nat.le_refl _)
 have hzB:W0.heap.size<=B:=by rw[<-hB];exact H.out.1.base
 have hdB:∀k,(Value.slice ao n cap).ownBlock=some k->¬k=B:=fun k e e2=>by have:=World.ownsRow.lt H.out.2.1 k e;omega
 have H1:=hi7 T1 P1 D1 htB hzB hdB hB
 clear hW1 T1 P1 D1 hB hmk htB hzB hdB f13 c0 c1 c2 c3 c4 c5 c6 c7 c8 c9 c10 c11 c12 c13 cz
 go_loopw [24] (fun k wr=>∃i:Nat,i<=n/\k= .int .i64 i/\P2 wr 47 (.slice (some ⟨B,0,none⟩) n n) (Z0k i Fd++List.replicate (n-i) (0,0))/\Z01 (fun k=>k=B) w1 wr) (fun k _=>n-(intOf k).toNat)
 case atStart=>exact⟨0,Nat.zero_le _,rfl,by simpa [Z0k]using H1.out.1,Z01.refl _ _⟩
 case round=>
  obtain⟨i,hin,rfl,hT,hK⟩:=hrel
  have yi:(0:Int)<=(i:Int):=by omega
  have HR:=hi2 hT hK
  have DR:IRw wr (.slice ao n cap) n Fd:=Z04 H1.out.2.2.1 hK H1.out.2.2.2.2.2.1
  by_cases hlt:i<n
  ·have hlt':(i:Int)<(n:Int):=by omega
   obtain⟨gb,cap',hs,hgl,-,-⟩:=DR.shp (by omega)
   cases hs
   obtain⟨k0,k1,k2⟩:=DR.at_ hlt
   have zB:B<wr.heap.size:=hT.lt rfl
   clear hT hK DR
   go_wp2_with fail
   generalize hW2:World.alloc _ _=W2
   have B2:Below wr.heap.size wr W2:=by rw[<-hW2];go_grown
   have HB2:=Hd B2
   clear hW2 B2 k0 k1 k2
   refine(Z9g (Fd (3*i+1)) W2).mono ?_
   rintro e w3 ⟨rfl,hb3⟩
   have T3:=(HR.out.1.below HB2.out).below hb3
   have hRl:(Z0k i Fd).length=i:=Z13 i Fd
   obtain⟨tg,tc,hs,-,htl,ht,htf⟩:=T3.pos (by rw[Lla,Llr];omega)
   have e1:tg=B:=by injection hs with h1;injection h1 with h1;injection h1 with h1;exact h1.symm
   subst e1
   obtain⟨t1,t2⟩:=ht i (by rw[Lla,Llr];omega)
   rw[show 2*i=i*2 by omega]at t1 t2
   have tf1:=htf (i*2)
   have tf2:=htf (i*2+1)
   have H3:=hi3 T3 (HB2.out.trans (hb3.mono HB2.out.size)) hRl
   clear T3 hb3 hRl hs ht htf
   go_wp2
   go_roundw
   case rel=>
    refine⟨i+1,by omega,by go_num,?_,((HR.out.2.trans (Z0b H3.out.2.1)).setCell (p:=⟨tg,i*2,none⟩) (fun _=>rfl) _).setCell (p:=⟨tg,i*2+1,none⟩) (fun _=>rfl) _⟩
    have h1:=H3.out.1.set rfl i (by rw[Lla,Llr];have:=H3.out.2.2;omega) (wk (Fd (3*i+1))) (wv (Fd (3*i+1)))
    rw[Z4q _ H3.out.2.2 hlt,show 2*i=i*2 by omega,<-Z7u]at h1
    exact h1
   case measure=>simp[intOf];omega
  ·obtain rfl:i=n:=by omega
   have e0:Z0k i Fd++List.replicate (i-i) (0,0)=Z0k i Fd:=by rw[Nat.sub_self,List.replicate_zero,List.append_nil]
   have O1:P2 wr 47 (.slice (some ⟨B,0,none⟩) i i) (Z0k i Fd):=e0 ▸ hT
   have PR:=H1.out.2.1.kept hK (fun k e _=>by rw[e];exact⟨H1.out.2.2.2.1,H1.out.2.2.2.2.1⟩)
   have cO:=Zj9 wr c.ob (.slice (some ⟨B,0,none⟩) i i) (Z0k i Fd) O1 (by rw[Z13];omega) (Z36 i Fd)
   have CO:=Hd cO
   obtain⟨⟨c0,c1,c2,c3,c4,c5,c6,c7,c8,c9,c10,c11,c12,c13⟩,cf,cz⟩:=PR.open
   have HP:=hi4 PR O1 DR e0
   clear hT hK cO O1 PR DR e0 cf
   go_wp2_with fail
   refine CO.out.mono ?_
   rintro e w4 ⟨u,ys,rfl,u1,u2,u3,u4⟩
   have hyl:ys.length=i:=by rw[u2.len,Z13]
   have hyr:∀y ∈ ys,0<=y/\y<(i:Int):=fun y hy=>by have:=u2.rng y hy;rw[Z13]at this;exact this
   obtain⟨uo,uc,rfl⟩:=u1.shape
   rw[hyl]at u1 u3 |-
   have H4:=hi6 u1 u2 u3 u4 hyl hyr
   clear CO u1 u2 u3 u4 hyl hyr c0 c1 c2 c3 c4 c5 c6 c7 c8 c9 c10 c11 c12 c13 cz
   go_wp2_with fail
   obtain⟨wL,hwL⟩:∃wL,wL=w4:=⟨_,rfl⟩
   have PL:WP W0 w4 p c S {a with btc:=x13}:=HP.out.1.below H4.out.2.2.2.1
   have OL:=HP.out.2.1.below H4.out.2.2.2.1
   have DL:=HP.out.2.2.1.below H4.out.2.2.2.1
   have hL:(a.tag B=0/\∀k,(Value.slice uo i uc).ownBlock=some k->a.tag k=0):=⟨H1.out.2.2.2.1,fun k e=>HP.out.1.old (H4.out.2.2.1 k e)⟩
   have HL:=hi4 PL OL DL hL
   clear PL OL DL hL hwL wL
   go_loopw [47] (fun k wq=>∃(j:Nat) (a':WA),j<=i/\k= .int .i64 j/\WP W0 wq p c {S with lg:=S.lg++(ys.take j).map (Z92 i Fd)} a'/\a'.st=a.st/\a'.lg.length=a.lg.length+j/\(∀k,k<w4.heap.size->a'.tag k=a.tag k)/\w4.heap.size<=wq.heap.size/\Z1j wq (.slice uo i uc) ys/\P2 wq 47 (.slice (some ⟨B,0,none⟩) i i) (Z0k i Fd)/\IRw wq (.slice ao i cap) i Fd) (fun k _=>i-(intOf k).toNat)
   case atStart=>exact⟨0,{a with btc:=x13},Nat.zero_le _,rfl,by rw[List.take_zero,List.map_nil,List.append_nil];exact HL.out.1,rfl,rfl,fun _ _=>rfl,Nat.le_refl _,H4.out.1,HL.out.2.1,HL.out.2.2.1⟩
   case round=>
    obtain⟨j,a',hj,rfl,Pj,sj,lj,tj,zj,Uj,Oj,Dj⟩:=hrel
    have yj:(0:Int)<=(j:Int):=by omega
    by_cases hlt:j<i
    ·have hlt':(j:Int)<(i:Int):=by omega
     obtain⟨k,hk⟩:∃k:Nat,ys.getD j 0=(k:Int):=by
      have hjy:j<ys.length:=by have:=H4.out.2.2.2.2.1;omega
      have:=H4.out.2.2.2.2.2 (ys.getD j 0) (by rw[Lgd,Lge hjy];exact List.getElem_mem _)
      exact⟨(ys.getD j 0).toNat,by omega⟩
     have hki:k<i:=by
      have hjy:j<ys.length:=by have:=H4.out.2.2.2.2.1;omega
      have:=H4.out.2.2.2.2.2 (ys.getD j 0) (by rw[Lgd,Lge hjy];exact List.getElem_mem _)
      omega
     have hki':(k:Int)<(i:Int):=by omega
     have hk0:(0:Int)<=(k:Int):=by omega
     obtain⟨gu,ucap,ucur,hs,-,-,-,huc,-⟩:=Uj.pos (by have:=H4.out.2.2.2.2.1;omega)
     rw[H4.out.2.2.2.2.1]at hs
     cases hs
     have cu:=huc j (by have:=H4.out.2.2.2.2.1;omega)
     rw[hk]at cu
     obtain⟨gb,cap',hs,hgl,-,-⟩:=Dj.shp (by omega)
     cases hs
     obtain⟨k0,k1,k2⟩:=Dj.at_ hki
     have zgu:=Uj.lt (g:=gu) rfl
     obtain⟨⟨c0,c1,c2,c3,c4,c5,c6,c7,c8,c9,c10,c11,c12,c13⟩,cf,cz⟩:=Pj.open
     have HJ:=hi9 Pj sj lj tj zj Uj Oj Dj hk
     clear Pj sj lj tj zj Uj Oj Dj hk huc k1
     go_wp2_with fail
     refine(Z7l (Fd (3*k+2)) wr).mono ?_
     rintro e w5 ⟨rfl,hb5⟩
     have P5:=HJ.out.1.below hb5
     have K0:=(hb5.cell (p:=⟨gb,k*3,none⟩) hgl).trans k0
     have hgl5:=Nlt hgl hb5.size
     clear c0 c1 c2 c3 c4 c5 c6 c7 c8 c9 c10 c11 c12 c13 cf cz k0 k2 cu zgu
     go_upto_region 11 with fail
     generalize hrb:w5.heap.size=rb
     generalize hW6:World.alloc _ _=w6
     have hr6:w6.heap[rb]?=some (.cells #[.int .u8 (wk (Fd (3*k+2))),.int .i32 (wv (Fd (3*k+2)))] 43 (0,0)):=by rw[<-hW6,<-hrb];exact Han _ _
     have B6:Below w5.heap.size w5 w6:=by rw[<-hW6];go_grown
     have P6:=P5.below B6
     have K6:=(B6.cell (p:=⟨gb,k*3,none⟩) hgl5).trans K0
     have hgl6:=Nlt hgl5 B6.size
     have hrb5:wr.heap.size<=rb:=by rw[<-hrb];exact hb5.size
     have Bw6:=hb5.trans (B6.mono hb5.size)
     obtain⟨iv,hv0,hv1,qv⟩:=Zhe (P:=Tryz.prog) Tryz.underlying80 Tryz.underlying3 (fun w=>by kernel_rfl) (w:=w6.drew) (P6.below (Brf _ _).drew).own (by omega) (Fd (3*k))
     obtain⟨ii,rfl⟩:∃ii:Nat,iv=(ii:Int):=⟨iv.toNat,by omega⟩
     obtain⟨⟨c0,c1,c2,c3,c4,c5,c6,c7,c8,c9,c10,c11,c12,c13⟩,cf,cz⟩:=P6.open
     have H6:=hi5 P6 hr6 hrb5 Bw6 hv1
     clear P5 P6 hr6 hrb5 Bw6 hv1 hb5 B6 K0 hgl5 hrb hW6
     go_wp2_with fail
     go_region
     obtain⟨w7,hw7⟩:∃w7,w6.drew=w7:=⟨_,rfl⟩
     have B7:Below w6.heap.size w6 w7:=by rw[<-hw7];exact(Brf _ _).drew
     rw[hw7]
     have P7:=H6.out.1.below B7
     have R7:=(B7.block rb (Gl H6.out.2.1)).trans H6.out.2.1
     have Bw7:=H6.out.2.2.2.1.trans (B7.mono H6.out.2.2.2.1.size)
     have hrb7:=H6.out.2.2.1
     have hv7:=H6.out.2.2.2.2
     clear c0 c1 c2 c3 c4 c5 c6 c7 c8 c9 c10 c11 c12 c13 cf cz hw7 H6 qv K6 hgl6 B7 w6
     obtain⟨⟨c0,c1,c2,c3,c4,c5,c6,c7,c8,c9,c10,c11,c12,c13⟩,cf,cz⟩:=P7.open
     have hiT:ii<S.T.length:=by have:=P7.thn;dsimp only at this;omega
     obtain⟨tb,capT,vT,hT1,-,-,-,hT2⟩:=P7.at_ (k:=ii) hiT
     obtain⟨nT,hnT⟩:∃nT,S.T.length=nT:=⟨_,rfl⟩
     dsimp only at hT1 hT2
     rw[hnT]at hT1
     have t3:=hT2.c.2.2.2.1
     have ztb:=hT2.lt
     obtain⟨sq,hsq⟩:∃sq,(S.T[ii].t).i3=sq:=⟨_,rfl⟩
     rw[hsq]at t3
     rw[hT1]at c8
     have hii0:(0:Int)<=(ii:Int):=by omega
     have hii9:(ii:Int)<(nT:Int):=by omega
     have O7:=HJ.out.2.2.2.2.2.2.1.below Bw7
     obtain⟨tg,tc,hs,-,zB,ho,-⟩:=O7.pos (by rw[Z13];omega)
     have e1:tg=B:=by injection hs with h1;injection h1 with h1;injection h1 with h1;exact h1.symm
     subst e1
     obtain⟨o1,o2⟩:=ho k (by rw[Z13];exact hki)
     rw[show 2*k=k*2 by omega]at o1 o2
     obtain⟨⟨ok,ov⟩,hop⟩:∃q,(Z0k i Fd).getD k (0,0)=q:=⟨_,rfl⟩
     rw[hop]at o1 o2
     obtain⟨⟨r1,r2⟩,zrb⟩:=Z0g R7
     obtain⟨rc,hrc⟩:∃q,wk (Fd (3*k+2))=q:=⟨_,rfl⟩
     obtain⟨rv,hrv⟩:∃q,wv (Fd (3*k+2))=q:=⟨_,rfl⟩
     rw[hrc]at r1
     rw[hrv]at r2
     obtain⟨bb,hbb⟩:∃q,a'.btc=q:=⟨_,rfl⟩
     rw[hbb]at c13
     obtain⟨i1',hi,hz0,hz1,hz2⟩:=info_parts Tryz.infoLg
     have fp:=cf 11
     have hlB:a'.tag tg=0:=(HJ.out.2.2.2.1 tg (by have:=(HL.out.2.1).lt (g:=tg) rfl;omega)).trans HL.out.2.2.2.1
     have HX:=Hd (show ¬a'.lv.ownBlock=some p/\¬a'.lv.ownBlock=some tb/\¬a'.lv.ownBlock=some tg/\¬a'.lv.ownBlock=some rb from⟨fun e=>by have h1:=P7.tl p e;have h2:=P7.tp;omega,fun e=>by have h1:=P7.tl tb e;have h2:=P7.tt tb (by show a'.tv.ownBlock=_;rw[hT1];rfl);omega,fun e=>by have h1:=P7.tl tg e;have h2:a'.tag tg=0:=hlB;omega,fun e=>by have h1:=(HJ.out.1.ge rb (by have h2:=HJ.out.1.tl rb e;omega)).2;omega⟩)
     have RU:=Hd (fun(u:World) (hu:Below w7.heap.size w7 u)=>P7.lgr.below hu)
     have hpt:¬tb=p:=fun e=>by have h1:=P7.tt tb (by show a'.tv.ownBlock=_;rw[hT1];rfl);have h2:=P7.tp;rw[e]at h1;omega
     have hpB:¬tg=p:=fun e=>by have h2:=P7.tp;rw[<-e]at h2;have h3:a'.tag tg=0:=hlB;omega
     have hpr:¬rb=p:=fun e=>by have h1:=HJ.out.1.lt;omega
     have hRS:∀u,Below w7.heap.size w7 u->u.cell? ⟨p,8,none⟩=some (.slice (some ⟨tb,0,none⟩) nT capT)/\u.cell? ⟨tb,ii*13+3,none⟩=some (.int .i64 sq)/\u.cell? ⟨tg,k*2,none⟩=some (.int .u8 ok)/\u.cell? ⟨tg,k*2+1,none⟩=some (.int .i32 ov)/\u.cell? ⟨rb,0,none⟩=some (.int .u8 rc)/\u.cell? ⟨rb,1,none⟩=some (.int .i32 rv)/\u.cell? ⟨p,13,none⟩=some (.int .i64 bb):=fun u hu=>⟨(hu.cell (p:=⟨p,8,none⟩) cz).trans c8,(hu.cell (p:=⟨tb,ii*13+3,none⟩) ztb).trans t3,(hu.cell (p:=⟨tg,k*2,none⟩) zB).trans o1,(hu.cell (p:=⟨tg,k*2+1,none⟩) zB).trans o2,(hu.cell (p:=⟨rb,0,none⟩) zrb).trans r1,(hu.cell (p:=⟨rb,1,none⟩) zrb).trans r2,(hu.cell (p:=⟨p,13,none⟩) cz).trans c13⟩
     have hll:a'.lg.length+1<=1000000000000:=by have:=HJ.out.2.2.1;have:=H.out.2.2.2;omega
     obtain⟨ml,hml⟩:∃ml,ml=a'.lg.length:=⟨_,rfl⟩
     have RS:=Hd hRS
     have H7:=hi8 P7 Bw7 O7 hop hrc hrv hbb hml
     have hpt':¬p=tb:=fun e=>hpt e.symm
     have hpB':¬p=tg:=fun e=>hpB e.symm
     have hpr':¬p=rb:=fun e=>hpr e.symm
     clear hRS P7 R7 Bw7 O7 hop hrc hrv hbb hml hT1 hT2 hs ho hsq hnT cf hv7 c0 c1 c2 c3 c4 c5 c6 c7 c9 c10 c12 hlB hrb7
     go_wp2_with fail
     refine wp_region_noPanic ?_
     refine wp_region_held_drew (S:=(fun wz=>wz.cell? ⟨p,8,none⟩=some (.slice (some ⟨tb,0,none⟩) nT capT)/\wz.cell? ⟨tb,ii*13+3,none⟩=some (.int .i64 sq)/\wz.cell? ⟨tg,k*2,none⟩=some (.int .u8 ok)/\wz.cell? ⟨tg,k*2+1,none⟩=some (.int .i32 ov)/\wz.cell? ⟨rb,0,none⟩=some (.int .u8 rc)/\wz.cell? ⟨rb,1,none⟩=some (.int .i32 rv)/\wz.cell? ⟨p,13,none⟩=some (.int .i64 bb))) (by kernel_rfl) (RS.out _ (Brf _ _).drew) (fun hHeld=>?_)
     have hN:NL [0,1,2,3,5,6,7,8,9,10,11,12,13,14,15,16,17,18,19,20,21,22,23]:=rfl
     repeat
      refine wpT hN (v:=?_) rfl (by kernel_rfl) (by kernel_rfl) (by kernel_rfl) (fun _ _ _ h=>h) (Or.inl ⟨by rfl,?_⟩) (by assumption) ?_
      rotate_left
      ·(intro w hSw;(try dsimp only at hSw);go_split_ands;first|(go_simp;done)|(go_simp;with_reducible rfl))
      try simp only[Act.put,List.setIfInBounds_toArray,List.set_cons_zero,List.set_cons_succ,List.getElem_toArray,List.getElem_cons_zero,List.getElem_cons_succ]
      replace hN:=hN.tl
     clear hN
     refine wpAnyH_ready (rs:= [4,24]) (by kernel_rfl) (by simp) ?_
     refine AllReadyH.cons rfl (fun K hK=>?_) ?_
     ·go_simp
      refine hK.out _ _ (by(first|(exact⟨g8,g3,go1,go2,gr1,gr2,g13⟩)|(refine⟨?_,?_,?_,?_,?_,?_,?_⟩<;>(go_simp;done))|(exact RS.out _ (by go_grown)))) (fun hHeld2=>?_)
      clear hK K hHeld
      have hHeld:=hHeld2
      clear hHeld2
      try simp only[Act.put,List.setIfInBounds_toArray,List.set_cons_zero,List.set_cons_succ,List.getElem_toArray,List.getElem_cons_zero,List.getElem_cons_succ]
      refine wpAnyH_ready (rs:= [24]) (by kernel_rfl) (by simp) ?_
      refine AllReadyH.cons rfl (fun K hK=>?_) ?_
      ·go_simp
       refine hK.out _ _ (by(first|(exact⟨g8,g3,go1,go2,gr1,gr2,g13⟩)|(refine⟨?_,?_,?_,?_,?_,?_,?_⟩<;>(go_simp;done))|(exact RS.out _ (by go_grown)))) (fun hHeld2=>?_)
       clear hK K hHeld
       have hHeld:=hHeld2
       clear hHeld2
       try simp only[Act.put,List.setIfInBounds_toArray,List.set_cons_zero,List.set_cons_succ,List.getElem_toArray,List.getElem_cons_zero,List.getElem_cons_succ]
       refine wpAnyH_ready (rs:= [25]) (by kernel_rfl) (by simp) ?_
       refine AllReadyH.cons rfl (fun K hK=>?_) ?_
       ·refine Z0q rfl _ _ 30 rfl 0 0 49 i1' (.agg #[.int .i64 0,.int .i64 0,.int .u8 0,.int .i32 0,.int .u8 0,.int .i32 0,.int .i64 0]) 7 40 Tryz.underlying30 hi hz0 hz1 hz2 rfl (by decide) _ a'.lg.length _ rfl (RU.out _ (by go_grown)) _ 1 (lgV ⟨(ii:Int),sq,ok,ov,rc,rv,bb⟩) rfl (Zl3 (by first|exact Han _ _|exact Z0t _ _)) (Zhh _) ?c3 ?c4 ?c5 ?_;(case c3=>unfold maxLen;omega);(case c4=>omega);(case c5=>exact Nat.zero_le _);intro v5 w9 own5 gr5 loc5;obtain⟨ao5,cap5,rfl⟩:=Z03 own5;have k5:Z01 (fun j=>a'.lv.ownBlock=some j) w7 w9:=(by first|exact((Z01.refl _ w7).alloc _).drew.grown gr5 (fun k e _=>e)|exact((Z01.refl _ w7).drew.alloc _).grown gr5 (fun k e _=>e));have e11:=(k5.cell (p:=⟨p,11,none⟩) cz HX.out.1).trans c11;have ef:=(k5.frozen (p:=⟨p,11,none⟩) cz HX.out.1).trans fp;have G:w9.cell? ⟨p,8,none⟩=some (.slice (some ⟨tb,0,none⟩) nT capT)/\w9.cell? ⟨tb,ii*13+3,none⟩=some (.int .i64 sq)/\w9.cell? ⟨tg,k*2,none⟩=some (.int .u8 ok)/\w9.cell? ⟨tg,k*2+1,none⟩=some (.int .i32 ov)/\w9.cell? ⟨rb,0,none⟩=some (.int .u8 rc)/\w9.cell? ⟨rb,1,none⟩=some (.int .i32 rv)/\w9.cell? ⟨p,13,none⟩=some (.int .i64 bb):=⟨(k5.cell (p:=⟨p,8,none⟩) cz HX.out.1).trans c8,(k5.cell (p:=⟨tb,ii*13+3,none⟩) ztb HX.out.2.1).trans t3,(k5.cell (p:=⟨tg,k*2,none⟩) zB HX.out.2.2.1).trans o1,(k5.cell (p:=⟨tg,k*2+1,none⟩) zB HX.out.2.2.1).trans o2,(k5.cell (p:=⟨rb,0,none⟩) zrb HX.out.2.2.2).trans r1,(k5.cell (p:=⟨rb,1,none⟩) zrb HX.out.2.2.2).trans r2,(k5.cell (p:=⟨p,13,none⟩) cz HX.out.1).trans c13⟩;obtain⟨g8,g3,go1,go2,gr1,gr2,g13⟩:=G;have L5:∀j,(Value.slice ao5 (a'.lg.length+1) cap5).ownBlock=some j->a'.lv.ownBlock=some j\/w7.heap.size<=j:=(fun j e=>(by rcases loc5 with h|h;exact .inl (h ▸ e);(rw[e]at h;simp at h;exact .inr (by omega))));have H5:=hi3 own5 k5 L5;clear own5 gr5 loc5 k5 L5
        refine hK.out _ _ (by(first|(exact⟨g8,g3,go1,go2,gr1,gr2,g13⟩)|(refine⟨?_,?_,?_,?_,?_,?_,?_⟩<;>(go_simp;done))|(exact RS.out _ (by go_grown)))) (fun hHeld2=>?_)
        clear hK K hHeld
        have hHeld:=hHeld2
        clear hHeld2
        try simp only[Act.put,List.setIfInBounds_toArray,List.set_cons_zero,List.set_cons_succ,List.getElem_toArray,List.getElem_cons_zero,List.getElem_cons_succ]
        have hN:NL [26,27]:=rfl
        repeat
         refine wpT hN (v:=?_) rfl (by kernel_rfl) (by kernel_rfl) (by kernel_rfl) (fun _ _ _ h=>h) (Or.inl ⟨by rfl,?_⟩) (by assumption) ?_
         rotate_left
         ·(intro w hSw;(try dsimp only at hSw);go_split_ands;first|(go_simp;done)|(go_simp;with_reducible rfl))
         try simp only[Act.put,List.setIfInBounds_toArray,List.set_cons_zero,List.set_cons_succ,List.getElem_toArray,List.getElem_cons_zero,List.getElem_cons_succ]
         replace hN:=hN.tl
        clear hN
        refine wpAnyH_ready (rs:= [28]) (by kernel_rfl) (by simp) ?_
        refine AllReadyH.cons rfl (fun K hK=>?_) ?_
        ·go_simp
         refine hK.out _ _ (by(first|(exact⟨g8,g3,go1,go2,gr1,gr2,g13⟩)|(refine⟨?_,?_,?_,?_,?_,?_,?_⟩<;>(go_simp;done))|(exact RS.out _ (by go_grown)))) (fun hHeld2=>?_)
         clear hK K hHeld
         have hHeld:=hHeld2
         clear hHeld2
         try simp only[Act.put,List.setIfInBounds_toArray,List.set_cons_zero,List.set_cons_succ,List.getElem_toArray,List.getElem_cons_zero,List.getElem_cons_succ]
         refine wpAnyH_done (by kernel_rfl) ?_ _
         refine NoPanic.normal ?_
         go_wp2
         go_roundw
         case rel=>
          obtain⟨P7,Bw7,O7,hop,hrc,hrv,hbb,hml⟩:=H7.out
          obtain⟨own5,k5,L5⟩:=H5.out
          obtain⟨tag9,P9,hl9⟩:=P7.addLg _ ⟨(ii:Int),sq,ok,ov,rc,rv,bb⟩ (Z1q.snoc own5) k5 L5
          have hjy:j<ys.length:=by have:=H4.out.2.2.2.2.1;omega
          have hyj:ys[j]=(k:Int):=by have:=HJ.out.2.2.2.2.2.2.2.2;rw[Lgd,Lge hjy]at this;exact this
          have hlo:Z92 i Fd (k:Int)=((ok,ov),(rc,rv)):=by
           unfold Z92
           rw[Int.toNat_natCast,hop,hrc,hrv]
          have e9:S.lg++(ys.take (j+1)).map (Z92 i Fd)=(S.lg++(ys.take j).map (Z92 i Fd))++ [((ok,ov),(rc,rv))]:=by
           rw[List.take_succ_eq_append_getElem hjy,List.map_append,hyj]
           simp only[List.map_cons,List.map_nil,hlo,List.append_assoc]
          have hz7:=Bw7.size
          have hz9:=k5.size
          have KE:Z01 (fun x=>a'.lv.ownBlock=some x\/x=p) wr _:=(Z0b Bw7).step ((k5.mono (fun _ _ e=>.inl e)).trans ((Z02 w9 ⟨p,11,none⟩ (.slice ao5 (a'.lg.length+1) cap5)).mono (fun _ _ e=>.inr e))) (fun x _ e=>e)
          have hno:∀x,a'.tag x=0->¬(a'.lv.ownBlock=some x\/x=p):=fun x e f=>by
           rcases f with f|f
           ·have:=P7.tl x f;omega
           ·rw[f,P7.tp]at e;omega
          have t4:=HJ.out.2.2.2.1
          have z4:=HJ.out.2.2.2.2.1
          refine⟨j+1,{a' with lv:=.slice ao5 (a'.lg.length+1) cap5,lg:=a'.lg++ [⟨(ii:Int),sq,ok,ov,rc,rv,bb⟩],tag:=tag9},by omega,by go_num,by rw[e9];exact P9,HJ.out.2.1,by simp[HJ.out.2.2.1];omega,fun x hx=>(hl9 x (by omega)).trans (t4 x hx),Nat.le_trans z4 KE.size,HJ.out.2.2.2.2.2.1.kept KE (fun x e=>hno x ((t4 x (H4.out.1.lt e)).trans (HL.out.2.2.2.2 x e))),HJ.out.2.2.2.2.2.2.1.kept KE (fun x e=>hno x ?_),Z04 HJ.out.2.2.2.2.2.2.2.1 KE (fun x e=>hno x ?_)⟩
          ·exact(t4 x (HL.out.2.1.lt e)).trans (by have e3:tg=x:=Option.some.inj e;rw[<-e3];exact HL.out.2.2.2.1)
          ·exact(t4 x (World.ownsRow.lt HL.out.2.2.1 x e).2).trans (H.out.2.2.1 x e)
         case measure=>simp[intOf];omega
        exact AllReadyH.nil
       exact AllReadyH.nil
      exact AllReadyH.nil
     refine AllReadyH.cons rfl (fun K hK=>?_) ?_
     ·go_simp
      refine hK.out _ _ (by(first|(exact⟨g8,g3,go1,go2,gr1,gr2,g13⟩)|(refine⟨?_,?_,?_,?_,?_,?_,?_⟩<;>(go_simp;done))|(exact RS.out _ (by go_grown)))) (fun hHeld2=>?_)
      clear hK K hHeld
      have hHeld:=hHeld2
      clear hHeld2
      try simp only[Act.put,List.setIfInBounds_toArray,List.set_cons_zero,List.set_cons_succ,List.getElem_toArray,List.getElem_cons_zero,List.getElem_cons_succ]
      refine wpAnyH_ready (rs:= [4]) (by kernel_rfl) (by simp) ?_
      refine AllReadyH.cons rfl (fun K hK=>?_) ?_
      ·go_simp
       refine hK.out _ _ (by(first|(exact⟨g8,g3,go1,go2,gr1,gr2,g13⟩)|(refine⟨?_,?_,?_,?_,?_,?_,?_⟩<;>(go_simp;done))|(exact RS.out _ (by go_grown)))) (fun hHeld2=>?_)
       clear hK K hHeld
       have hHeld:=hHeld2
       clear hHeld2
       try simp only[Act.put,List.setIfInBounds_toArray,List.set_cons_zero,List.set_cons_succ,List.getElem_toArray,List.getElem_cons_zero,List.getElem_cons_succ]
       refine wpAnyH_ready (rs:= [25]) (by kernel_rfl) (by simp) ?_
       refine AllReadyH.cons rfl (fun K hK=>?_) ?_
       ·refine Z0q rfl _ _ 30 rfl 0 0 49 i1' (.agg #[.int .i64 0,.int .i64 0,.int .u8 0,.int .i32 0,.int .u8 0,.int .i32 0,.int .i64 0]) 7 40 Tryz.underlying30 hi hz0 hz1 hz2 rfl (by decide) _ a'.lg.length _ rfl (RU.out _ (by go_grown)) _ 1 (lgV ⟨(ii:Int),sq,ok,ov,rc,rv,bb⟩) rfl (Zl3 (by first|exact Han _ _|exact Z0t _ _)) (Zhh _) ?c3 ?c4 ?c5 ?_;(case c3=>unfold maxLen;omega);(case c4=>omega);(case c5=>exact Nat.zero_le _);intro v5 w9 own5 gr5 loc5;obtain⟨ao5,cap5,rfl⟩:=Z03 own5;have k5:Z01 (fun j=>a'.lv.ownBlock=some j) w7 w9:=(by first|exact((Z01.refl _ w7).alloc _).drew.grown gr5 (fun k e _=>e)|exact((Z01.refl _ w7).drew.alloc _).grown gr5 (fun k e _=>e));have e11:=(k5.cell (p:=⟨p,11,none⟩) cz HX.out.1).trans c11;have ef:=(k5.frozen (p:=⟨p,11,none⟩) cz HX.out.1).trans fp;have G:w9.cell? ⟨p,8,none⟩=some (.slice (some ⟨tb,0,none⟩) nT capT)/\w9.cell? ⟨tb,ii*13+3,none⟩=some (.int .i64 sq)/\w9.cell? ⟨tg,k*2,none⟩=some (.int .u8 ok)/\w9.cell? ⟨tg,k*2+1,none⟩=some (.int .i32 ov)/\w9.cell? ⟨rb,0,none⟩=some (.int .u8 rc)/\w9.cell? ⟨rb,1,none⟩=some (.int .i32 rv)/\w9.cell? ⟨p,13,none⟩=some (.int .i64 bb):=⟨(k5.cell (p:=⟨p,8,none⟩) cz HX.out.1).trans c8,(k5.cell (p:=⟨tb,ii*13+3,none⟩) ztb HX.out.2.1).trans t3,(k5.cell (p:=⟨tg,k*2,none⟩) zB HX.out.2.2.1).trans o1,(k5.cell (p:=⟨tg,k*2+1,none⟩) zB HX.out.2.2.1).trans o2,(k5.cell (p:=⟨rb,0,none⟩) zrb HX.out.2.2.2).trans r1,(k5.cell (p:=⟨rb,1,none⟩) zrb HX.out.2.2.2).trans r2,(k5.cell (p:=⟨p,13,none⟩) cz HX.out.1).trans c13⟩;obtain⟨g8,g3,go1,go2,gr1,gr2,g13⟩:=G;have L5:∀j,(Value.slice ao5 (a'.lg.length+1) cap5).ownBlock=some j->a'.lv.ownBlock=some j\/w7.heap.size<=j:=(fun j e=>(by rcases loc5 with h|h;exact .inl (h ▸ e);(rw[e]at h;simp at h;exact .inr (by omega))));have H5:=hi3 own5 k5 L5;clear own5 gr5 loc5 k5 L5
        refine hK.out _ _ (by(first|(exact⟨g8,g3,go1,go2,gr1,gr2,g13⟩)|(refine⟨?_,?_,?_,?_,?_,?_,?_⟩<;>(go_simp;done))|(exact RS.out _ (by go_grown)))) (fun hHeld2=>?_)
        clear hK K hHeld
        have hHeld:=hHeld2
        clear hHeld2
        try simp only[Act.put,List.setIfInBounds_toArray,List.set_cons_zero,List.set_cons_succ,List.getElem_toArray,List.getElem_cons_zero,List.getElem_cons_succ]
        have hN:NL [26,27]:=rfl
        repeat
         refine wpT hN (v:=?_) rfl (by kernel_rfl) (by kernel_rfl) (by kernel_rfl) (fun _ _ _ h=>h) (Or.inl ⟨by rfl,?_⟩) (by assumption) ?_
         rotate_left
         ·(intro w hSw;(try dsimp only at hSw);go_split_ands;first|(go_simp;done)|(go_simp;with_reducible rfl))
         try simp only[Act.put,List.setIfInBounds_toArray,List.set_cons_zero,List.set_cons_succ,List.getElem_toArray,List.getElem_cons_zero,List.getElem_cons_succ]
         replace hN:=hN.tl
        clear hN
        refine wpAnyH_ready (rs:= [28]) (by kernel_rfl) (by simp) ?_
        refine AllReadyH.cons rfl (fun K hK=>?_) ?_
        ·go_simp
         refine hK.out _ _ (by(first|(exact⟨g8,g3,go1,go2,gr1,gr2,g13⟩)|(refine⟨?_,?_,?_,?_,?_,?_,?_⟩<;>(go_simp;done))|(exact RS.out _ (by go_grown)))) (fun hHeld2=>?_)
         clear hK K hHeld
         have hHeld:=hHeld2
         clear hHeld2
         try simp only[Act.put,List.setIfInBounds_toArray,List.set_cons_zero,List.set_cons_succ,List.getElem_toArray,List.getElem_cons_zero,List.getElem_cons_succ]
         refine wpAnyH_done (by kernel_rfl) ?_ _
         refine NoPanic.normal ?_
         go_wp2
         go_roundw
         case rel=>
          obtain⟨P7,Bw7,O7,hop,hrc,hrv,hbb,hml⟩:=H7.out
          obtain⟨own5,k5,L5⟩:=H5.out
          obtain⟨tag9,P9,hl9⟩:=P7.addLg _ ⟨(ii:Int),sq,ok,ov,rc,rv,bb⟩ (Z1q.snoc own5) k5 L5
          have hjy:j<ys.length:=by have:=H4.out.2.2.2.2.1;omega
          have hyj:ys[j]=(k:Int):=by have:=HJ.out.2.2.2.2.2.2.2.2;rw[Lgd,Lge hjy]at this;exact this
          have hlo:Z92 i Fd (k:Int)=((ok,ov),(rc,rv)):=by
           unfold Z92
           rw[Int.toNat_natCast,hop,hrc,hrv]
          have e9:S.lg++(ys.take (j+1)).map (Z92 i Fd)=(S.lg++(ys.take j).map (Z92 i Fd))++ [((ok,ov),(rc,rv))]:=by
           rw[List.take_succ_eq_append_getElem hjy,List.map_append,hyj]
           simp only[List.map_cons,List.map_nil,hlo,List.append_assoc]
          have hz7:=Bw7.size
          have hz9:=k5.size
          have KE:Z01 (fun x=>a'.lv.ownBlock=some x\/x=p) wr _:=(Z0b Bw7).step ((k5.mono (fun _ _ e=>.inl e)).trans ((Z02 w9 ⟨p,11,none⟩ (.slice ao5 (a'.lg.length+1) cap5)).mono (fun _ _ e=>.inr e))) (fun x _ e=>e)
          have hno:∀x,a'.tag x=0->¬(a'.lv.ownBlock=some x\/x=p):=fun x e f=>by
           rcases f with f|f
           ·have:=P7.tl x f;omega
           ·rw[f,P7.tp]at e;omega
          have t4:=HJ.out.2.2.2.1
          have z4:=HJ.out.2.2.2.2.1
          refine⟨j+1,{a' with lv:=.slice ao5 (a'.lg.length+1) cap5,lg:=a'.lg++ [⟨(ii:Int),sq,ok,ov,rc,rv,bb⟩],tag:=tag9},by omega,by go_num,by rw[e9];exact P9,HJ.out.2.1,by simp[HJ.out.2.2.1];omega,fun x hx=>(hl9 x (by omega)).trans (t4 x hx),Nat.le_trans z4 KE.size,HJ.out.2.2.2.2.2.1.kept KE (fun x e=>hno x ((t4 x (H4.out.1.lt e)).trans (HL.out.2.2.2.2 x e))),HJ.out.2.2.2.2.2.2.1.kept KE (fun x e=>hno x ?_),Z04 HJ.out.2.2.2.2.2.2.2.1 KE (fun x e=>hno x ?_)⟩
          ·exact(t4 x (HL.out.2.1.lt e)).trans (by have e3:tg=x:=Option.some.inj e;rw[<-e3];exact HL.out.2.2.2.1)
          ·exact(t4 x (World.ownsRow.lt HL.out.2.2.1 x e).2).trans (H.out.2.2.1 x e)
         case measure=>simp[intOf];omega
        exact AllReadyH.nil
       exact AllReadyH.nil
      exact AllReadyH.nil
     exact AllReadyH.nil
    ·obtain rfl:j=i:=by omega
     have HJ:=hi2 Pj sj
     clear Pj sj lj tj zj Uj Oj Dj
     go_wp2
     go_end0
     refine⟨rfl,ys,a',H4.out.2.1,?_,HJ.out.2⟩
     have:=HJ.out.1
     rw[List.take_of_length_le (by have:=H4.out.2.2.2.2.1;omega)]at this
     exact this
theorem Zhj {W0 w:World} {p:Nat} {c:Cfg} {S:WM} {a:WA} (h:WP W0 w p c S a) (k ok ov:Int) (hk:k<0\/(S.T.length:Int)<=k):
 Calls Tryz.prog 33 #[.pointer (some ⟨p,0,none⟩),.int .i64 k,.agg #[.int .u8 ok,.int .i32 ov]] w fun e w'=>e= .returned (.bool false)/\Below w.heap.size w w':=by
 have cT:∀u,Below w.heap.size w u->Calls Tryz.prog 60 #[.pointer (some ⟨p,0,none⟩),.int .i64 k] u fun e w'=>e= .returned (.pointer none)/\Below u.heap.size u w':=fun u hu=>by
  by_cases h0:k<0
  ·exact Zal (h.below hu) k h0
  ·exact Zam (h.below hu) k (by omega) (by omega)
 have CT:=Hd cT
 clear cT hk h
 go_enter Tryz.func33,Tryz.ntmps33
 go_wp2_with fail
 refine(CT.out _ (by go_grown)).mono ?_
 rintro e w1 ⟨rfl,hb1⟩
 have HB:=Hd hb1
 clear hb1
 go_wp2
 go_ret
 exact⟨rfl,(show Below w.heap.size w _ from by go_grown).trans (HB.out.mono (by simp))⟩
section
variable (w:World) (i0 i1 i2 i3 i4 i5 i6 i7 i8 i9 i10 i11:Int) (bo:Option Addr) (bn bc:Nat)
theorem Zhk (h:i1<40):
 Calls Tryz.prog 66 #[.agg #[.int .i64 i0,.int .i64 i1,.int .i64 i2,.int .i64 i3,.int .i64 i4,.int .i64 i5,.int .i64 i6,.int .i64 i7,.int .i64 i8,.int .i64 i9,.int .i64 i10,.int .i64 i11,.slice bo bn bc]] w fun e w'=>e= .returned (.bool false)/\Below w.heap.size w w':=by
 go_enter Tryz.func66,Tryz.ntmps66
 go_wp2
 go_ret
 exact⟨by first|rfl|(simp;done)|(simp;omega),by go_grown⟩
theorem Zhl (h:40<=i1) (h2:i1<=48):
 Calls Tryz.prog 66 #[.agg #[.int .i64 i0,.int .i64 i1,.int .i64 i2,.int .i64 i3,.int .i64 i4,.int .i64 i5,.int .i64 i6,.int .i64 i7,.int .i64 i8,.int .i64 i9,.int .i64 i10,.int .i64 i11,.slice bo bn bc]] w fun e w'=>e= .returned (.bool true)/\Below w.heap.size w w':=by
 go_enter Tryz.func66,Tryz.ntmps66
 go_wp2
 go_ret
 exact⟨by first|rfl|(simp;done)|(simp;omega),by go_grown⟩
theorem Zhm (h:40<=i1) (h2:48<i1):
 Calls Tryz.prog 66 #[.agg #[.int .i64 i0,.int .i64 i1,.int .i64 i2,.int .i64 i3,.int .i64 i4,.int .i64 i5,.int .i64 i6,.int .i64 i7,.int .i64 i8,.int .i64 i9,.int .i64 i10,.int .i64 i11,.slice bo bn bc]] w fun e w'=>e= .returned (.bool false)/\Below w.heap.size w w':=by
 go_enter Tryz.func66,Tryz.ntmps66
 go_wp2
 go_ret
 exact⟨by first|rfl|(simp;done)|(simp;omega),by go_grown⟩
end
def Z52 (t:Th):Bool:=decide (1<=t.i1/\t.i1<=16)
theorem Znk (w:World) (t:Th) (bo:Option Addr) (bn bc:Nat):Calls Tryz.prog 62 #[thV t (.slice bo bn bc)] w fun e w'=>e= .returned (.bool (Z52 t))/\Below w.heap.size w w':=by
 obtain⟨i0,i1,i2,i3,i4,i5,i6,i7,i8,i9,i10,i11⟩:=t
 by_cases h:i1<1
 ·have e:Z52 ⟨i0,i1,i2,i3,i4,i5,i6,i7,i8,i9,i10,i11⟩=false:=decide_eq_false (fun h2=>by have h3:1<=i1:=h2.1;omega)
  rw[e];exact Zm3 w i0 i1 i2 i3 i4 i5 i6 i7 i8 i9 i10 i11 bo bn bc h
 ·by_cases h2:i1<=16
  ·have e:Z52 ⟨i0,i1,i2,i3,i4,i5,i6,i7,i8,i9,i10,i11⟩=true:=decide_eq_true ⟨by show 1<=i1;omega,h2⟩
   rw[e];exact Zfh w i0 i1 i2 i3 i4 i5 i6 i7 i8 i9 i10 i11 bo bn bc (by omega) h2
  ·have e:Z52 ⟨i0,i1,i2,i3,i4,i5,i6,i7,i8,i9,i10,i11⟩=false:=decide_eq_false (fun h3=>h2 h3.2)
   rw[e];exact Zm4 w i0 i1 i2 i3 i4 i5 i6 i7 i8 i9 i10 i11 bo bn bc (by omega) (by omega)
def Z28 (t:Th):Bool:=decide (20<=t.i1/\t.i1<=39)
theorem Zhn (w:World) (t:Th) (bo:Option Addr) (bn bc:Nat):Calls Tryz.prog 64 #[thV t (.slice bo bn bc)] w fun e w'=>e= .returned (.bool (Z28 t))/\Below w.heap.size w w':=by
 obtain⟨i0,i1,i2,i3,i4,i5,i6,i7,i8,i9,i10,i11⟩:=t
 by_cases h:i1<20
 ·have e:Z28 ⟨i0,i1,i2,i3,i4,i5,i6,i7,i8,i9,i10,i11⟩=false:=decide_eq_false (fun h2=>by have h3:20<=i1:=h2.1;omega)
  rw[e];exact Zf5 w i0 i1 i2 i3 i4 i5 i6 i7 i8 i9 i10 i11 bo bn bc h
 ·by_cases h2:i1<=39
  ·have e:Z28 ⟨i0,i1,i2,i3,i4,i5,i6,i7,i8,i9,i10,i11⟩=true:=decide_eq_true ⟨by show 20<=i1;omega,h2⟩
   rw[e];exact Z9m w i0 i1 i2 i3 i4 i5 i6 i7 i8 i9 i10 i11 bo bn bc (by omega) h2
  ·have e:Z28 ⟨i0,i1,i2,i3,i4,i5,i6,i7,i8,i9,i10,i11⟩=false:=decide_eq_false (fun h3=>h2 h3.2)
   rw[e];exact Zf6 w i0 i1 i2 i3 i4 i5 i6 i7 i8 i9 i10 i11 bo bn bc (by omega) (by omega)
def Z2q (t:Th):Bool:=decide (40<=t.i1/\t.i1<=48)
theorem Zho (w:World) (t:Th) (bo:Option Addr) (bn bc:Nat):Calls Tryz.prog 66 #[thV t (.slice bo bn bc)] w fun e w'=>e= .returned (.bool (Z2q t))/\Below w.heap.size w w':=by
 obtain⟨i0,i1,i2,i3,i4,i5,i6,i7,i8,i9,i10,i11⟩:=t
 by_cases h:i1<40
 ·have e:Z2q ⟨i0,i1,i2,i3,i4,i5,i6,i7,i8,i9,i10,i11⟩=false:=decide_eq_false (fun h2=>by have h3:40<=i1:=h2.1;omega)
  rw[e];exact Zhk w i0 i1 i2 i3 i4 i5 i6 i7 i8 i9 i10 i11 bo bn bc h
 ·by_cases h2:i1<=48
  ·have e:Z2q ⟨i0,i1,i2,i3,i4,i5,i6,i7,i8,i9,i10,i11⟩=true:=decide_eq_true ⟨by show 40<=i1;omega,h2⟩
   rw[e];exact Zhl w i0 i1 i2 i3 i4 i5 i6 i7 i8 i9 i10 i11 bo bn bc (by omega) h2
  ·have e:Z2q ⟨i0,i1,i2,i3,i4,i5,i6,i7,i8,i9,i10,i11⟩=false:=decide_eq_false (fun h3=>h2 h3.2)
   rw[e];exact Zhm w i0 i1 i2 i3 i4 i5 i6 i7 i8 i9 i10 i11 bo bn bc (by omega) (by omega)
end
end Go.Proofs.YtihljjgmkaeohaaGreat
