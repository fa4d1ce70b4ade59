/- TopBounds: for every input the law returns true. No condition. -/
import Derived.SizedLaws
import Derived.Test.YtihljjgmkaeohaaGreatPnBD
import Derived.Test.YtihljjgmkaeohaaGreatPnBE
set_option linter.all false
set_option maxHeartbeats 16000000
set_option maxRecDepth 100000
namespace Go.Proofs.YtihljjgmkaeohaaGreat
section
open Go.RowKit Go.ChangeShapes Go.WideShapes Go.ChangeAt Go.Deep
theorem Zqu {j:Int} (h:0<=j) (k:j<=33):0<=j*j/\j*j<=1089:=⟨Int.mul_nonneg h h,Int.mul_le_mul k k h (by omega)⟩
theorem Z1k {L K:List Ent} (h:∀e ∈ L,Z2h e) (k:∀e ∈ K,Z2h e):∀e ∈ L++K,Z2h e:=fun e he=>(List.mem_append.1 he).elim (h e) (k e)
theorem Z45 {e:Ent} (h:Z2h e):∀x ∈ [e],Z2h x:=fun x hx=>by rw[List.mem_singleton.1 hx];exact h
theorem Zkr {e f:Ent} (h:Z2h e) (k:Z2h f):∀x ∈ [e,f],Z2h x:=fun x hx=>by
 rcases List.mem_cons.1 hx with rfl|hx
 ·exact h
 ·rw[List.mem_singleton.1 hx];exact k
theorem Zcz (t:Int):Z2h ⟨2,t,0,0,0⟩:=⟨by dsimp only;omega,by dsimp only;omega,by dsimp only;omega,by dsimp only;omega⟩
theorem Zed (v:Value) (cs:List Int) (th:Nat) (w:World) (h:Z1s .u8 w v cs) (hw:∀x ∈ cs,(Lit.int .u8 x).wf=true) (hcl:cs.length<=200) (t1:1<=th) (t2:th<=9):
 Calls Tryz.prog 6 #[v,.int .i64 th] w fun e w'=>∃u L,e= .returned u/\ER w.heap.size w' u L/\L.length<=700/\(∀e ∈ L,Z2h e)/\Below w.heap.size w w':=by
 have HF:=Hd (fun(u:World) (hu:Below w.heap.size w u)=>h.below hu)
 have HW:=Hd hw
 obtain⟨ao,cap,rfl,-,-,hcells⟩:=h
 have HC:=Hd hcells
 have hcl':(cs.length:Int)<=200:=by omega
 have t1':(1:Int)<=(th:Int):=by omega
 have t2':(th:Int)<=9:=by omega
 have t0:¬(th:Int)=0:=by omega
 clear hw hcells
 go_enter Tryz.func6,Tryz.ntmps6
 go_wp2
 go_loopw [5,6,7,8,9,10] (fun l x _ _ _ _ wr=>∃(i:Nat) (L:List Ent),i<=cs.length/\x= .int .i64 i/\ER w.heap.size wr l L/\L.length<=700/\(∀e ∈ L,Z2h e)/\Below w.heap.size w wr) (fun _ x _ _ _ _ _=>cs.length-(intOf x).toNat)
 case atStart=>exact⟨0,[],Nat.zero_le _,rfl,ER.nil _ _,Nat.zero_le _,fun e he=>(by cases he),Brf _ _⟩
 case round=>
  obtain⟨i,L,hi,rfl,hL,hlen,hok,hB⟩:=hrel
  have zi:(0:Int)<=(i:Int):=by omega
  obtain⟨la,lc,rfl⟩:=hL.shape
  have hlen':(L.length:Int)<=700:=by omega
  by_cases hlt:i<cs.length
  ·have hlt':(i:Int)<(cs.length:Int):=by omega
   by_cases h5:L.length<500
   ·have h5':(L.length:Int)<500:=by omega
    have HLT:=Hd h5
    obtain⟨b,off,hao,hb,hc⟩:=HC.out (by omega)
    subst hao
    have hxi:=(hB.cell (p:=⟨b,off+i,none⟩) hb).trans (hc i hlt)
    have hr:=bounds_u8 (Zb3 HW.out i hlt)
    obtain⟨x,hx⟩:∃x,cs.getD i 0=x:=⟨_,rfl⟩
    rw[hx]at hxi hr
    obtain⟨r0,r1⟩:=hr
    have hw0:w.heap.size<=wr.heap.size:=hB.size
    have RU:=Hd (fun(u:World) (hu:Below wr.heap.size wr u)=>hL.below hu)
    have HJ:=hi3 hB hlen hok
    obtain⟨n,hn⟩:∃n,x/8=n:=⟨_,rfl⟩
    have n0:0<=n:=by omega
    have n1:n<=31:=by omega
    clear hc hL hB hlen hok hx h5
    by_cases e0:x%8=0
    ·go_wp2_with fail
     refine(Zau _ cs _ (HF.out _ (HJ.out.1.trans (Below.mono (by go_grown) hw0))) ((i:Int)+1) (by omega)).mono ?_
     rintro e w2 ⟨rfl,rfl⟩
     have hy:=Zat HW.out ((i:Int)+1) (by omega)
     obtain⟨y,hyy⟩:∃y,f8 cs ((i:Int)+1)=y:=⟨_,rfl⟩
     rw[hyy]at hy |-
     obtain⟨y0,y1⟩:=hy
     clear hyy
     go_wp2_with (at_builtin;refine Zi4 rfl _ _ rfl w.heap.size _ _ L [⟨1,_,_,_,0⟩] rfl (RU.out _ (by go_grown)) rfl (Z3h (e:=⟨1,_,_,_,0⟩) (Han _ _)) (by have:=HJ.out.2.1;simp only[Llc,List.length_nil];omega) (by first|omega|(simp;omega)) ?_)
     intro ao5 c5 w5 L5 b5
     have H5:=hi2 L5 b5
     clear L5 b5
     go_wp2
     go_roundw
     case rel=>exact⟨i+1,_,by omega,by go_num,H5.out.1,by have:=HJ.out.2.1;have:=HLT.out;simp only[Lla,Llc,List.length_nil]at *;omega,Z1k HJ.out.2.2 (Z45 ⟨by dsimp only;omega,by dsimp only;omega,by dsimp only;omega,by dsimp only;omega⟩),HJ.out.1.trans (Below.trans (by go_grown) H5.out.2)⟩
     case measure=>simp[intOf];omega
    by_cases e1:x%8=1
    ·go_wp2_with fail
     refine(Zau _ cs _ (HF.out _ (HJ.out.1.trans (Below.mono (by go_grown) hw0))) ((i:Int)+1) (by omega)).mono ?_
     rintro e w2 ⟨rfl,rfl⟩
     have hy:=Zat HW.out ((i:Int)+1) (by omega)
     obtain⟨y,hyy⟩:∃y,f8 cs ((i:Int)+1)=y:=⟨_,rfl⟩
     rw[hyy]at hy |-
     obtain⟨y0,y1⟩:=hy
     clear hyy
     go_wp2_with (at_builtin;refine Zi4 rfl _ _ rfl w.heap.size _ _ L [⟨1,_,_,_,0⟩] rfl (RU.out _ (by go_grown)) rfl (Z3h (e:=⟨1,_,_,_,0⟩) (Han _ _)) (by have:=HJ.out.2.1;simp only[Llc,List.length_nil];omega) (by first|omega|(simp;omega)) ?_)
     intro ao5 c5 w5 L5 b5
     have H5:=hi2 L5 b5
     clear L5 b5
     go_wp2
     go_roundw
     case rel=>exact⟨i+1,_,by omega,by go_num,H5.out.1,by have:=HJ.out.2.1;have:=HLT.out;simp only[Lla,Llc,List.length_nil]at *;omega,Z1k HJ.out.2.2 (Z45 ⟨by dsimp only;omega,by dsimp only;omega,by dsimp only;omega,by dsimp only;omega⟩),HJ.out.1.trans (Below.trans (by go_grown) H5.out.2)⟩
     case measure=>simp[intOf];omega
    by_cases e2:x%8=2
    ·go_wp2_with fail
     refine(Zau _ cs _ (HF.out _ (HJ.out.1.trans (Below.mono (by go_grown) hw0))) ((i:Int)+1) (by omega)).mono ?_
     rintro e w2 ⟨rfl,rfl⟩
     have hy:=Zat HW.out ((i:Int)+1) (by omega)
     obtain⟨y,hyy⟩:∃y,f8 cs ((i:Int)+1)=y:=⟨_,rfl⟩
     rw[hyy]at hy |-
     obtain⟨y0,y1⟩:=hy
     clear hyy
     go_wp2_with (at_builtin;refine Zi4 rfl _ _ rfl w.heap.size _ _ L [⟨1,_,_,_,0⟩] rfl (RU.out _ (by go_grown)) rfl (Z3h (e:=⟨1,_,_,_,0⟩) (Han _ _)) (by have:=HJ.out.2.1;simp only[Llc,List.length_nil];omega) (by first|omega|(simp;omega)) ?_)
     intro ao5 c5 w5 L5 b5
     have H5:=hi2 L5 b5
     clear L5 b5
     go_wp2
     go_roundw
     case rel=>exact⟨i+1,_,by omega,by go_num,H5.out.1,by have:=HJ.out.2.1;have:=HLT.out;simp only[Lla,Llc,List.length_nil]at *;omega,Z1k HJ.out.2.2 (Z45 ⟨by dsimp only;omega,by dsimp only;omega,by dsimp only;omega,by dsimp only;omega⟩),HJ.out.1.trans (Below.trans (by go_grown) H5.out.2)⟩
     case measure=>simp[intOf];omega
    by_cases e3:x%8=3
    ·go_wp2
     rw[hn,e3]
     obtain⟨m,hm⟩:∃m:Nat,n%8+1=(m:Int):=⟨(n%8+1).toNat,by omega⟩
     have hm9:m<=33:=by omega
     clear hn e3
     go_loopw [5,9] (fun l y wr=>∃(j:Nat) (M:List Ent),j<=m/\y= .int .i64 j/\ER w.heap.size wr l M/\M.length=L.length+j/\(∀e ∈ M,Z2h e)/\Below w.heap.size w wr) (fun _ y _=>m-(intOf y).toNat)
     case atStart=>exact⟨0,L,Nat.zero_le _,rfl,RU.out _ (by go_grown),rfl,HJ.out.2.2,HJ.out.1.trans (Below.mono (by go_grown) hw0)⟩
     case round=>
      obtain⟨j,M,hj,rfl,hM,hml,hmo,hMB⟩:=hrel
      have zj:(0:Int)<=(j:Int):=by omega
      have zj9:(j:Int)<=33:=by omega
      obtain⟨ma,mc,rfl⟩:=hM.shape
      have hmlen:(M.length:Int)<=600:=by omega
      have hw1:w.heap.size<=wr.heap.size:=hMB.size
      have RM:=Hd (fun(u:World) (hu:Below wr.heap.size wr u)=>hM.below hu)
      have HM:=hi4 hMB hml hmo hM
      clear hM hml hmo hMB
      by_cases hjm:j<m
      ·have hjm':(j:Int)<=n%8:=by omega
       go_wp2_with (at_builtin;refine Zi4 rfl _ _ rfl w.heap.size _ _ M [⟨2,_,0,0,0⟩] rfl (RM.out _ (by go_grown)) rfl (Z3h (e:=⟨2,_,0,0,0⟩) (Han _ _)) (by simp only[Llc,List.length_nil];omega) (by first|omega|(simp;omega)) ?_)
       intro ao5 c5 w5 L5 b5
       have H5:=hi2 L5 b5
       clear L5 b5
       go_wp2
       go_roundw
       case rel=>exact⟨j+1,_,by omega,by go_num,H5.out.1,by have:=HM.out.2.1;simp only[Lla,Llc,List.length_nil];omega,Z1k HM.out.2.2.1 (Z45 (Zcz _)),HM.out.1.trans (Below.trans (by go_grown) H5.out.2)⟩
       case measure=>simp[intOf];omega
      ·have hjm':¬(j:Int)<=n%8:=by omega
       go_wp2
       go_roundw
       case rel=>exact⟨i+1,M,by omega,by go_num,HM.out.2.2.2,by have:=HM.out.2.1;have:=HLT.out;omega,HM.out.2.2.1,HM.out.1⟩
       case measure=>simp[intOf];omega
    by_cases e4:x%8=4
    ·go_wp2
     rw[hn,e4]
     obtain⟨m,hm⟩:∃m:Nat,n%8+1=(m:Int):=⟨(n%8+1).toNat,by omega⟩
     have hm9:m<=33:=by omega
     clear hn e4
     go_loopw [5,9] (fun l y wr=>∃(j:Nat) (M:List Ent),j<=m/\y= .int .i64 j/\ER w.heap.size wr l M/\M.length=L.length+j/\(∀e ∈ M,Z2h e)/\Below w.heap.size w wr) (fun _ y _=>m-(intOf y).toNat)
     case atStart=>exact⟨0,L,Nat.zero_le _,rfl,RU.out _ (by go_grown),rfl,HJ.out.2.2,HJ.out.1.trans (Below.mono (by go_grown) hw0)⟩
     case round=>
      obtain⟨j,M,hj,rfl,hM,hml,hmo,hMB⟩:=hrel
      have zj:(0:Int)<=(j:Int):=by omega
      have zj9:(j:Int)<=33:=by omega
      obtain⟨ma,mc,rfl⟩:=hM.shape
      have hmlen:(M.length:Int)<=600:=by omega
      have hw1:w.heap.size<=wr.heap.size:=hMB.size
      have RM:=Hd (fun(u:World) (hu:Below wr.heap.size wr u)=>hM.below hu)
      have HM:=hi4 hMB hml hmo hM
      clear hM hml hmo hMB
      by_cases hjm:j<m
      ·have hjm':(j:Int)<=n%8:=by omega
       go_wp2_with (at_builtin;refine Zi4 rfl _ _ rfl w.heap.size _ _ M [⟨2,_,0,0,0⟩] rfl (RM.out _ (by go_grown)) rfl (Z3h (e:=⟨2,_,0,0,0⟩) (Han _ _)) (by simp only[Llc,List.length_nil];omega) (by first|omega|(simp;omega)) ?_)
       intro ao5 c5 w5 L5 b5
       have H5:=hi2 L5 b5
       clear L5 b5
       go_wp2
       go_roundw
       case rel=>exact⟨j+1,_,by omega,by go_num,H5.out.1,by have:=HM.out.2.1;simp only[Lla,Llc,List.length_nil];omega,Z1k HM.out.2.2.1 (Z45 (Zcz _)),HM.out.1.trans (Below.trans (by go_grown) H5.out.2)⟩
       case measure=>simp[intOf];omega
      ·have hjm':¬(j:Int)<=n%8:=by omega
       go_wp2
       go_roundw
       case rel=>exact⟨i+1,M,by omega,by go_num,HM.out.2.2.2,by have:=HM.out.2.1;have:=HLT.out;omega,HM.out.2.2.1,HM.out.1⟩
       case measure=>simp[intOf];omega
    by_cases e5:x%8=5
    ·obtain⟨m,hm⟩:∃m:Nat,1+n%16=(m:Int):=⟨(1+n%16).toNat,by omega⟩
     have hm1:1<=m:=by omega
     have hm9:m<=16:=by omega
     go_wp2_with fail
     refine(Z7z _ th m t1 (by omega) hm1 (by omega)).mono ?_
     rintro e w2 ⟨u2,rfl,R2,b2⟩
     obtain⟨a2,c2,rfl⟩:=R2.shape
     have hrl:(Z73 th m).length<=144:=by rw[Z66];exact Nat.mul_le_mul hm9 t2
     have HR2:=hi3 R2 b2 hrl
     have zb:=b2.size
     clear R2 b2 hrl
     go_wp2_with (at_builtin;refine Zi4 rfl _ _ rfl w.heap.size _ _ L (Z73 th m) rfl (RU.out _ HR2.out.2.1) rfl HR2.out.1.rec (by have:=HJ.out.2.1;have:=HR2.out.2.2;omega) (by omega) ?_)
     intro ao5 c5 w5 L5 b5
     have H5:=hi2 L5 b5
     clear L5 b5
     go_wp2
     go_roundw
     case rel=>exact⟨i+1,_,by omega,by go_num,H5.out.1,by have:=HR2.out.2.2;have:=HLT.out;simp only[Lla]at *;omega,Z1k HJ.out.2.2 (Zi6 th m),(HJ.out.1.trans (Below.mono HR2.out.2.1 hw0)).trans H5.out.2⟩
     case measure=>simp[intOf];omega
    by_cases e6:x%8=6
    ·go_wp2
     rw[hn,e6]
     obtain⟨m,hm⟩:∃m:Nat,n+2=(m:Int):=⟨(n+2).toNat,by omega⟩
     have hm9:m<=33:=by omega
     clear hn e6
     go_loopw [5,10] (fun l y wr=>∃(j:Nat) (M:List Ent),j<=m/\y= .int .i64 j/\ER w.heap.size wr l M/\M.length=L.length+j/\(∀e ∈ M,Z2h e)/\Below w.heap.size w wr) (fun _ y _=>m-(intOf y).toNat)
     case atStart=>exact⟨0,L,Nat.zero_le _,rfl,RU.out _ (by go_grown),rfl,HJ.out.2.2,HJ.out.1.trans (Below.mono (by go_grown) hw0)⟩
     case round=>
      obtain⟨j,M,hj,rfl,hM,hml,hmo,hMB⟩:=hrel
      have zj:(0:Int)<=(j:Int):=by omega
      have zj9:(j:Int)<=33:=by omega
      obtain⟨ma,mc,rfl⟩:=hM.shape
      have hmlen:(M.length:Int)<=600:=by omega
      have hw1:w.heap.size<=wr.heap.size:=hMB.size
      have RM:=Hd (fun(u:World) (hu:Below wr.heap.size wr u)=>hM.below hu)
      have HM:=hi4 hMB hml hmo hM
      clear hM hml hmo hMB
      by_cases hjm:j<m
      ·have hjm':(j:Int)<2+n:=by omega
       have jj:=Zqu zj zj9
       go_wp2_with (at_builtin;refine Zi4 rfl _ _ rfl w.heap.size _ _ M [⟨2,_,0,0,0⟩] rfl (RM.out _ (by go_grown)) rfl (Z3h (e:=⟨2,_,0,0,0⟩) (Han _ _)) (by simp only[Llc,List.length_nil];omega) (by first|omega|(simp;omega)) ?_)
       intro ao5 c5 w5 L5 b5
       have H5:=hi2 L5 b5
       clear L5 b5
       go_wp2
       go_roundw
       case rel=>exact⟨j+1,_,by omega,by go_num,H5.out.1,by have:=HM.out.2.1;simp only[Lla,Llc,List.length_nil];omega,Z1k HM.out.2.2.1 (Z45 (Zcz _)),HM.out.1.trans (Below.trans (by go_grown) H5.out.2)⟩
       case measure=>simp[intOf];omega
      ·have hjm':¬(j:Int)<2+n:=by omega
       go_wp2
       go_roundw
       case rel=>exact⟨i+1,M,by omega,by go_num,HM.out.2.2.2,by have:=HM.out.2.1;have:=HLT.out;omega,HM.out.2.2.1,HM.out.1⟩
       case measure=>simp[intOf];omega
    by_cases e7:x%8=7
    ·skip
     go_wp2_with (at_builtin;refine Zi4 rfl _ _ rfl w.heap.size _ _ L [⟨_,_,0,0,_⟩,⟨2,_,0,0,0⟩] rfl (RU.out _ (by go_grown)) rfl (Zko (e:=⟨_,_,0,0,_⟩) (f:=⟨2,_,0,0,0⟩) (Han _ _)) (by have:=HJ.out.2.1;simp only[Llc,List.length_nil];omega) (by first|omega|(simp;omega)) ?_)
     intro ao5 c5 w5 L5 b5
     have H5:=hi2 L5 b5
     clear L5 b5
     go_wp2
     go_roundw
     case rel=>exact⟨i+1,_,by omega,by go_num,H5.out.1,by have:=HJ.out.2.1;have:=HLT.out;simp only[Lla,Llc,List.length_nil]at *;omega,Z1k HJ.out.2.2 (Zkr ⟨by dsimp only;omega,by dsimp only;omega,by dsimp only;omega,by dsimp only;omega⟩ (Zcz _)),HJ.out.1.trans (Below.trans (by go_grown) H5.out.2)⟩
     case measure=>simp[intOf];omega
    omega
   ·have h5':¬(L.length:Int)<500:=by omega
    have HJ:=hi4 hL hlen hok hB
    clear hL hB hlen hok
    go_wp2
    go_ret
    first|exact⟨_,L,rfl,HJ.out⟩|exact⟨_,rfl,L,HJ.out⟩
  ·obtain rfl:i=cs.length:=by omega
   have HJ:=hi4 hL hlen hok hB
   clear hL hB hlen hok
   go_wp2
   go_ret
   first|exact⟨_,L,rfl,HJ.out⟩|exact⟨_,rfl,L,HJ.out⟩
theorem Zc1 {H:Type} {enc:TypeId×Value->H} {C:Checked} {os:Os} {f:FuncId} {fn:Func} {s:ChangeSpec} {T:TypeId} (own:ownKnob C.prog.godebug=none) (started:os.Started) (noInit:C.prog.inits.idxOf? f=none) (hfn:C.prog.funcs[f]?=some fn)
 (witness:∃(w:World) (tape:Tape) (i:Input),w.os=os/\(w.forCall tape i).Shaped C.prog/\i.vars= []/\Input.okWide C.prog (w.forCall tape i) .any w.heap.size f i/\
   s.pre6 enc C.prog fn [] false (w.forCall tape i).memory i.args/\({}:Assume).holds C.prog (lone (Frame.enter C.prog f i.args .normal) [] (w.forCall tape i)))
 (hl:laidOutB C.prog=true) (hr:∀t ∈ fn.params.toList,C.prog.readableRec t=true/\t<C.prog.types.size) (hres:fn.resultTypes= #[T]) (hT:C.prog.underlying T=some .bool) (hvars:s.vars= [])
 (hspec:∀ds:List (DataW H),ds.length=fn.params.toList.length->s.fn H (ds++ [])={results:= [.lit (.bool true)],args:=ds})
 (contract:∀(W:World) (base:Nat) (args:Array Value) (ds:List (DataW H)) (p:List MemPlace),(∀(j:Nat) t v,fn.params[j]?=some t->args[j]?=some v->Value.okWide C.prog W .any base t v)->
   DataW.TrodAll enc C.prog W 0 (fun _=>true) true fn.params.toList args.toList ds p->(DataW.weightsEach C.prog (fn.params.toList++s.plain.varTypes C.prog) (ds++ [])).all (· <=reachBytes)=true->Calls C.prog f args W fun e W'=>e= .returned (.bool true)/\Below W.heap.size W W'):
 ReturnsInHanded {} C os f .any (s.pre6 enc C.prog fn [] false) (s.post enc C.prog fn false true false false):=by
 refine returnsInHanded_of_change_sized own started noInit hfn witness ?_
 intro W base args ds gs before hval hW _ hsz _
 obtain⟨p,q,hA,hV,e,hz,hn⟩:=hW
 have hV0:=hV
 rw[hvars]at hV0
 obtain⟨rfl,rfl⟩:=trodVars_none hV0
 refine(contract W base args ds p hval hA hsz).mono fun e' W' ⟨he,hb⟩=>?_
 exact⟨_,he,Ziu hl hr hres hT hvars hspec ⟨p,[],hA,hV,e,hz,hn⟩ hb⟩
theorem Z53 {H:Type} {enc:TypeId×Value->H} {k:IntKind} {T E:TypeId} (hT:Tryz.prog.underlying T=some (.slice E)) (hE:Tryz.prog.underlying E=some (.int k)) (hC:Tryz.prog.cellsOf E=1)
 {W:World} {base:Nat} {v:Value} {d:DataW H} {p:List MemPlace} (hv:Value.okWide Tryz.prog W .any base T v) (h:DataW.Trod enc Tryz.prog W 0 (fun _=>true) true T v d p):
 ∃xs,Z1s k W v xs/\(xs.length=0\/∃elems spare,d= .slice elems spare/\elems.length=xs.length):=by
 have h0:=h
 have hv0:=hv
 obtain⟨xs,hx⟩:=Z9h hT hE hC hv h
 refine⟨xs,hx,?_⟩
 obtain⟨a0,len,cap,rfl⟩:=okWide_slice hT hv
 obtain⟨ao,cap',e,-⟩:=hx
 simp only[Value.slice.injEq]at e
 obtain⟨-,rfl,-⟩:=e
 obtain⟨fuel,hf⟩:=h
 rcases open_ints hT hE hC hf with⟨hcs,hy⟩|⟨a,len',cap',zs,hcs,_,hl,hm,hz,hy,_,_⟩
 ·simp only[Value.cells,List.cons.injEq,Value.slice.injEq,and_true]at hcs
  exact .inl hcs.2.1
 ·simp only[Value.cells,List.cons.injEq,Value.slice.injEq,and_true]at hcs
  obtain⟨-,e2,e3⟩:=hcs
  rw[if_pos rfl]at hz
  simp only[Prod.mk.injEq]at hy
  refine .inr ⟨_,_,hy.1,?_⟩
  unfold lits
  rw[Llm,List.length_take]
  omega
section
variable {H:Type} {enc:TypeId×Value->H} {W:World} {base:Nat} {v:Value}
theorem Zc2 {d:DataW H} {p:List MemPlace} (hv:Value.okWide Tryz.prog W .any base 25 v) (h:DataW.Trod enc Tryz.prog W 0 (fun _=>true) true 25 v d p):
 ∃c:Cfg,v= .agg #[.int .u8 c.ob,.int .i64 c.th,.int .i64 c.cap,.int .i64 c.age,.int .i64 c.ps,.bool c.pl]/\(0<=c.ob/\c.ob<=255)/\(-9223372036854775808<=c.th/\c.th<=9223372036854775807)/\(-9223372036854775808<=c.cap/\c.cap<=9223372036854775807)/\(-9223372036854775808<=c.age/\c.age<=9223372036854775807)/\(-9223372036854775808<=c.ps/\c.ps<=9223372036854775807):=by
 obtain⟨cs,rfl,hsz⟩:=okWide_struct Tryz.underlying25 hv
 obtain⟨fuel,hf⟩:=h
 obtain⟨xs,m,_,_,hl,hlen,hfl⟩:=DataW.trod_struct Tryz.underlying25 hf
 have hs6:cs.toList.length=6:=by simpa using hsz.trans (show Tryz.prog.cellsOf 25=6 by kernel_rfl)
 obtain⟨v0,v1,v2,v3,v4,v5,hcs⟩:∃v0 v1 v2 v3 v4 v5,cs.toList= [v0,v1,v2,v3,v4,v5]:=by
  match cs.toList,hs6 with
  | [a,b,c,d,e,f],_=>exact⟨a,b,c,d,e,f,rfl⟩
 have hcs':cs= #[v0,v1,v2,v3,v4,v5]:=by
  obtain⟨l⟩:=cs
  simp only at hcs
  rw[hcs]
 subst hcs'
 have hx:xs.length=6:=hlen
 have h0:=hfl 0 _ rfl
 rw[Lge (by omega)]at h0
 have h1:=hfl 1 _ rfl
 rw[Lge (by omega)]at h1
 have h2:=hfl 2 _ rfl
 rw[Lge (by omega)]at h2
 have h3:=hfl 3 _ rfl
 rw[Lge (by omega)]at h3
 have h4:=hfl 4 _ rfl
 rw[Lge (by omega)]at h4
 have h5:=hfl 5 _ rfl
 rw[Lge (by omega)]at h5
 obtain⟨i0,e0,_,w0⟩:=DataW.trod_int (k:=.u8) Tryz.underlying5 (cs:= [v0]) h0
 obtain⟨i1,e1,_,w1⟩:=DataW.trod_int (k:=.i64) Tryz.underlying3 (cs:= [v1]) h1
 obtain⟨i2,e2,_,w2⟩:=DataW.trod_int (k:=.i64) Tryz.underlying3 (cs:= [v2]) h2
 obtain⟨i3,e3,_,w3⟩:=DataW.trod_int (k:=.i64) Tryz.underlying3 (cs:= [v3]) h3
 obtain⟨i4,e4,_,w4⟩:=DataW.trod_int (k:=.i64) Tryz.underlying3 (cs:= [v4]) h4
 obtain⟨i5,e5,_⟩:=DataW.trod_bool Tryz.underlying4 (cs:= [v5]) h5
 simp only[List.cons.injEq,and_true]at e0 e1 e2 e3 e4 e5
 subst e0 e1 e2 e3 e4 e5
 have b0:=bounds_u8 w0
 have b1:=bounds_i64 w1
 have b2:=bounds_i64 w2
 have b3:=bounds_i64 w3
 have b4:=bounds_i64 w4
 exact⟨⟨i0,i1,i2,i3,i4,i5⟩,rfl,by dsimp only;omega,by dsimp only;omega,by dsimp only;omega,by dsimp only;omega,by dsimp only;omega⟩
theorem Zaw {d:DataW H} {p:List MemPlace} (hv:Value.okWide Tryz.prog W .any base 23 v) (h:DataW.Trod enc Tryz.prog W 0 (fun _=>true) true 23 v d p):
 ∃L:List Ent,Z5k W v L/\(∀e ∈ L,Z2h e)/\L.length<=maxLen:=by
 obtain⟨a0,len,cap,rfl⟩:=okWide_slice Tryz.underlying23 hv
 obtain⟨fuel,hf⟩:=h
 rcases open_slice Tryz.underlying23 hf with⟨hcs,_⟩|⟨a,len',cap',m,nf,D,Pl,hcs,_,hl,hm,hmm,_,hi⟩
 ·simp only[Value.cells,List.cons.injEq,Value.slice.injEq,and_true]at hcs
  obtain⟨rfl,rfl,rfl⟩:=hcs
  exact⟨[],⟨none,0,rfl,fun _=>rfl,fun i e he=>by simp at he⟩,fun e he=>by simp at he,Nat.zero_le _⟩
 ·simp only[Value.cells,List.cons.injEq,Value.slice.injEq,and_true]at hcs
  obtain⟨rfl,rfl,rfl⟩:=hcs
  rw[if_pos rfl]at hmm
  have hx:∀i:Nat,∃e:Ent,i<len->Z2h e/\W.cell? (a.add (i*5))=some (.int .u8 e.k)/\W.cell? (a.add (i*5+1))=some (.int .i64 e.t)/\W.cell? (a.add (i*5+2))=some (.int .u8 e.ok)/\W.cell? (a.add (i*5+3))=some (.int .i32 e.ov)/\W.cell? (a.add (i*5+4))=some (.int .u8 e.bits):=by
   intro i
   by_cases hij:i<len
   ·obtain⟨cs',hc,ht'⟩:=hi i (by omega)
    obtain⟨ys,n',_,_,hlen,hyl,hfld⟩:=DataW.trod_struct Tryz.underlying60 ht'
    obtain⟨_,hcl,hat⟩:=World.cells?_some hc
    rw[show Tryz.prog.cellsOf 60=5 by kernel_rfl]at hcl hat
    obtain⟨u0,u1,u2,u3,u4,rfl⟩:∃u0 u1 u2 u3 u4,cs'= [u0,u1,u2,u3,u4]:=by
     match cs',hcl with
     | [a,b,c,d,e],_=>exact⟨a,b,c,d,e,rfl⟩
    have hx:ys.length=4:=hyl
    have h0:=hfld 0 _ rfl
    rw[Lge (by omega)]at h0
    have h1:=hfld 1 _ rfl
    rw[Lge (by omega)]at h1
    have h2:=hfld 2 _ rfl
    rw[Lge (by omega)]at h2
    have h3:=hfld 3 _ rfl
    rw[Lge (by omega)]at h3
    obtain⟨i0,e0,_,w0⟩:=DataW.trod_int (k:=.u8) Tryz.underlying5 (cs:= [u0]) h0
    obtain⟨i1,e1,_,w1⟩:=DataW.trod_int (k:=.i64) Tryz.underlying3 (cs:= [u1]) h1
    obtain⟨zs,n2,_,_,hlen2,hzl,hfld2⟩:=DataW.trod_struct Tryz.underlying47 (cs:= [u2,u3]) h2
    have hz:zs.length=2:=hzl
    have g0:=hfld2 0 _ rfl
    rw[Lge (by omega)]at g0
    have g1:=hfld2 1 _ rfl
    rw[Lge (by omega)]at g1
    obtain⟨i2,e2,_,w2⟩:=DataW.trod_int (k:=.u8) Tryz.underlying5 (cs:= [u2]) g0
    obtain⟨i3,e3,_,w3⟩:=DataW.trod_int (k:=.i32) Tryz.underlying21 (cs:= [u3]) g1
    obtain⟨i4,e4,_,w4⟩:=DataW.trod_int (k:=.u8) Tryz.underlying5 (cs:= [u4]) h3
    simp only[List.cons.injEq,and_true]at e0 e1 e2 e3 e4
    subst e0 e1 e2 e3 e4
    have b0:=bounds_u8 w0
    have b2:=bounds_u8 w2
    have b3:=bounds_i32 w3
    have b4:=bounds_u8 w4
    have c0:=hat 0 (by omega)
    have c1:=hat 1 (by omega)
    have c2:=hat 2 (by omega)
    have c3:=hat 3 (by omega)
    have c4:=hat 4 (by omega)
    rw[Go.Deep.add_add]at c0 c1 c2 c3 c4
    exact⟨⟨i0,i1,i2,i3,i4⟩,fun _=>⟨⟨by dsimp only;omega,by dsimp only;omega,by dsimp only;omega,by dsimp only;omega⟩,c0,c1,c2,c3,c4⟩⟩
   ·exact⟨⟨0,0,0,0,0⟩,fun h=>absurd h hij⟩
  obtain⟨F,hF⟩:=Classical.axiomOfChoice hx
  have hlen:((List.range len).map F).length=len:=by simp
  refine⟨(List.range len).map F,⟨some a,cap,by rw[hlen],fun h=>by(cases h),fun i e he=>?_⟩,fun e he=>?_,by rw[hlen];exact Nat.le_trans hl hm⟩
  ·have hil:i<len:=by have:=(List.getElem?_eq_some_iff.1 he).1;omega
   rw[List.getElem?_map,List.getElem?_range hil]at he
   obtain rfl:F i=e:=by simpa using he
   obtain⟨-,c0,c1,c2,c3,c4⟩:=hF i hil
   obtain⟨b,off,spot⟩:=a
   have hspot:spot=none:=by simpa [Addr.add]using World.cell?_spot (hF 0 (by omega)).2.1
   subst hspot
   rw[add_plain]at c0 c1 c2 c3 c4
   exact⟨b,off,rfl,Blt W _ c0,c0,c1,c2,c3,c4⟩
  ·obtain⟨i,xi2,rfl⟩:=List.mem_map.1 he
   exact(hF i (List.mem_range.1 xi2)).1
end
def Zla (c:Cfg) (K:KS) (e:Ent):KS:=if e.k=1 then Z97 K e.t.toNat e.ok e.ov else if e.k=2 then Zc0 c K e.t.toNat else K
theorem Zcy {c:Cfg} (hob:c.ob=1) {L:List Ent} (hL:∀e ∈ L,0<=e.t) {K:KS} (h0:KR (wm0 c) K):∀(i:Nat) (S:WM),Z7f c L i S->KR S ((L.take i).foldl (Zla c) K)
 |0,S,h=>by
  have h:S=wm0 c:=h
  subst h
  exact h0
 |i+1,S,h=>by
  obtain⟨S0,e,h1,h2,h3⟩:=h
  have ih:=Zcy hob hL h0 i S0 h1
  have ht:=hL e (List.mem_of_getElem? h2)
  rw[List.take_add_one,h2,List.foldl_append]
  show KR S (Zla c _ e)
  unfold Zla
  unfold Ze5 at h3
  by_cases e1:e.k=1
  ·rw[if_pos e1]at h3 |-
   subst h3
   exact Zo2 ih e _ (by omega)
  ·rw[if_neg e1]at h3 |-
   by_cases e2:e.k=2
   ·rw[if_pos e2]at h3 |-
    exact Zo3 hob ih e _ (by omega) h3
   ·rw[if_neg e2]at h3 |-
    subst h3
    exact ih
theorem Zib (th n:Nat):Z73 th (n+1)=rnd th++Z73 th n:=by
 unfold Z73
 rw[List.range_succ_eq_map,List.flatMap_cons,List.flatMap_map]
theorem Zqc (c:Cfg):∀(m:Nat) (K:KS),(Z73 2 m).foldl (Zla c) K=Zqh c m K
 |0,K=>rfl
 |m+1,K=>by
  rw[Zib,List.foldl_append,Zqc c m]
  rfl
def kL:List Ent:=Z4b++Z73 2 120
theorem Zic:kL.length=242:=by unfold kL;rw[Lla,Z66];rfl
theorem Zqs:∀e ∈ kL,Z2h e:=fun e he=>by
 rcases List.mem_append.1 he with h|h
 ·simp only[Z4b,List.mem_cons,List.not_mem_nil,or_false]at h
  rcases h with rfl|rfl<;>exact⟨by decide,by decide,by decide,by decide⟩
 ·exact Zi6 2 120 e h
theorem kL_t:∀e ∈ kL,0<=e.t:=fun e he=>by
 rcases List.mem_append.1 he with h|h
 ·simp only[Z4b,List.mem_cons,List.not_mem_nil,or_false]at h
  rcases h with rfl|rfl<;>decide
 ·obtain⟨k,-,hk⟩:=List.mem_flatMap.1 h
  obtain⟨t,-,rfl⟩:=List.mem_map.1 hk
  show(0:Int)<=(t:Int)
  omega
theorem kr_0:KR (wm0 kc) k0:=by
 refine⟨rfl,rfl,rfl,rfl,rfl,rfl,fun k n t F hk=>?_⟩
 have e:(wm0 kc).T= [⟨th0 0,0,fun _=>0⟩,⟨th0 1,0,fun _=>0⟩]:=rfl
 rw[e]at hk
 match k,hk with
 |0,hk=>
  obtain⟨rfl,rfl,rfl⟩:th0 0=t/\0=n/\(fun _=>0)=F:=by simpa using hk
  exact⟨[],rfl,rfl,fun j hj=>by omega⟩
 |1,hk=>
  obtain⟨rfl,rfl,rfl⟩:th0 1=t/\0=n/\(fun _=>0)=F:=by simpa using hk
  exact⟨[],rfl,rfl,fun j hj=>by omega⟩
 |k+2,hk=>simp at hk
theorem Zid:Z0e kc=true:=by decide
theorem Zqt {S:WM} {n:Nat} (hn:kL.length=n) (h:Z7f kc kL n S):(∃a b,Z6x S.ev= [a,b]/\0<a.til/\0<b.til)/\S.lg.length=2:=by
 have hk:KR S ((kL.take n).foldl (Zla kc) k0):=Zcy (c:=kc) rfl kL_t kr_0 n S h
 have ht:=Zqb
 rw[Zi9,<-Zqc]at ht
 rw[<-hn,List.take_length]at hk
 clear hn
 have e:kL.foldl (Zla kc) k0=(Z73 2 120).foldl (Zla kc) (Z97 (Z97 k0 0 1 7) 1 2 0):=by
  unfold kL
  rw[List.foldl_append]
  rfl
 rw[e]at hk
 obtain⟨K,hK⟩:∃K,(Z73 2 120).foldl (Zla kc) (Z97 (Z97 k0 0 1 7) 1 2 0)=K:=⟨_,rfl⟩
 rw[hK]at ht hk
 rw[hk.ev,hk.lg]
 unfold kAsk at ht
 split at ht
 ·rename_i a b hab
  have:=of_decide_eq_true ht
  exact⟨⟨a,b,hab,this.1,this.2.1⟩,this.2.2⟩
 ·cases ht
theorem Z5m (w:World):Calls Tryz.prog 4 #[] w fun e w'=>e= .returned (.bool true)/\Below w.heap.size w w':=by
 go_enter Tryz.func4,Tryz.ntmps4
 go_wp2_with fail
 generalize hW:World.alloc (World.alloc _ _) _=w1
 obtain⟨q0,q1⟩:w1.heap[w.heap.size]?=some (.cells #[.int .i64 0,.int .i64 1] 3 (0,0))/\w1.heap[w.heap.size+1]?=some (.cells #[.int .u8 1,.int .i32 7,.int .u8 2,.int .i32 0] 47 (0,0)):=by rw[<-hW];exact Z05 _ _ _
 have B1:Below w.heap.size w w1:=by rw[<-hW];go_grown
 clear hW
 have z0:=(Gl q0)
 have z1:=(Gl q1)
 refine(Zia w1 w.heap.size (w.heap.size+1) z0 z1 (by simp[World.cell?,q0]) (by simp[World.cell?,q0]) (by simp[World.cell?,q1]) (by simp[World.cell?,q1]) (by simp[World.cell?,q1]) (by simp[World.cell?,q1])).mono ?_
 rintro e w2 ⟨u2,rfl,R2,b2⟩
 obtain⟨a2,c2,rfl⟩:=R2.shape
 have H2:=hi3 R2 b2 B1
 clear R2 b2 B1 q0 q1 z0 z1
 go_wp2_with fail
 refine(Z7z w2 2 120 (by omega) (by omega) (by omega) (by omega)).mono ?_
 rintro e w3 ⟨u3,rfl,R3,b3⟩
 obtain⟨a3,c3,rfl⟩:=R3.shape
 have H3:=hi2 R3 b3
 clear R3 b3
 go_wp2_with (at_builtin;refine Zi4 rfl _ _ rfl w1.heap.size _ _ Z4b (Z73 2 120) rfl (H2.out.1.below H3.out.2) rfl H3.out.1.rec (by rw[Z66];decide) (by have:=H2.out.2.1.size;have:=H3.out.2.size;omega) ?_)
 intro a4 c4 w4 L4 b4
 have hlc:(Z4b++Z73 2 120).length=242:=Zic
 have hq:Z4b.length+(Z73 2 120).length=242:=by rw[<-Lla];exact hlc
 have L4':ER w1.heap.size w4 (.slice a4 242 c4) kL:=by first|(rw[<-hq];exact L4)|(rw[<-hlc];exact L4)
 first|rw[hq]|rw[hlc]
 have H4:=hi2 L4' b4
 clear L4 L4' b4 hq hlc
 go_wp2_with fail
 refine(Zns _ kc _ kL (Z5k.below H4.out.1.rec.entIn (by go_grown)) Zid (by rw[Zic];decide) Zqs (Z95 Zid (by rw[Zic];decide))).mono ?_
 rintro e w5 ⟨S5,lg5,ev,lv,it,cs,pk,sp,rfl,hC,hev,hlv,hlg,hit,hcs,hsp,⟨ka,kn,kc',rfl⟩,hb⟩
 obtain⟨ea,ec,rfl⟩:=hev.shape
 obtain⟨ia,ic,rfl⟩:=hit.shape
 obtain⟨ca,cc,rfl⟩:=hcs.shape
 obtain⟨⟨xa,xb,hsE,ta,tb⟩,hl2⟩:=Zqt rfl hC
 have hlg2:lg5.length=2:=by rw[<-hl2,<-hlg,Llm]
 rw[hsE]at hsp
 obtain⟨g,c7,rfl,hc7,hg,hcell,-⟩:=hsp.pos Znq (by simp)
 have s0:=hcell 0 7 xa _ rfl (by omega) rfl
 have s1:=hcell 1 7 xb _ rfl (by omega) rfl
 obtain⟨la,lc,rfl⟩:=hlv.shape
 rw[hlg2]
 have hcap:2<=c7:=by simpa using hc7
 have hcap':(2:Int)<=(c7:Int):=by omega
 have H5:=Hd hb
 clear hC hev hlv hlg hit hcs hsp hb hsE hl2 hlg2 hcell hc7
 go_wp2
 go_ret
 have zA:=H2.out.2.2.size
 have zB:=H2.out.2.1.size
 have B4:Below w.heap.size w w4:=H2.out.2.2.trans (((H2.out.2.1.trans (H3.out.2.mono zB)).trans H4.out.2).mono zA)
 have B5:=B4.trans (H5.out.mono B4.size)
 exact⟨by first|rfl|(simp;done),B5.trans (Below.mono (by go_grown) B5.size)⟩
theorem Zel {w:World} {v:Value} {K:List Ent} (h:Z5k w v K) {ad:Addr} {n c:Nat} (e:v= .slice (some ad) n c):∀j u,(K.flatMap Z7v)[j]?=some u->w.cell? (ad.add j)=some u:=by
 intro j u hj
 obtain⟨ao,cap,e2,-,hc⟩:=h
 have hl:j<(K.flatMap Z7v).length:=(List.getElem?_eq_some_iff.1 hj).1
 rw[Z63 Z65]at hl
 have hi:j/5<K.length:=by omega
 have he:K[j/5]?=some K[j/5]:=Lge hi
 obtain⟨g,off,e3,-,y0,y1,y2,y3,y4⟩:=hc _ _ he
 have hf:=Zbx Z65 K (j/5) (j%5) _ he (by omega)
 rw[show j/5*5+j%5=j by omega,hj]at hf
 rw[e2,e3]at e
 have ea:ad=⟨g,off,none⟩:=by injection e with e _ _;injection e with e;exact e.symm
 rw[ea,Z2t,show off+j=off+(j/5*5+j%5) by omega]
 have h5:j%5=0\/j%5=1\/j%5=2\/j%5=3\/j%5=4:=by omega
 rcases h5 with h|h|h|h|h<;>(rw[h]at hf |-;obtain rfl:u=_:=(by simpa [Z7v]using hf);first|exact y0|(rw[<-Nat.add_assoc];assumption))
theorem wpEI {ops:Array Oper} {rest:List Oper} {o:Oper} {a:Act} {Q:Exit->Act->World->Prop} {w:World} (hgd:o.guard=none) (s x:Operand) (ho:o.op= .call {callee:=.builtin .append,args:= #[s,x],argTypes:= #[23,23]})
 (B:Nat) (v vr:Value) (L K:List Ent) (hs:a.eval s=v) (hl:ER B w v L) (hx:a.eval x=vr) (hr:Z5k w vr K) (hn:L.length+K.length<=1000000) (hB:B<=w.heap.size)
 (h:∀ao c w',ER B w' (.slice ao (L++K).length c) (L++K)->Below B w w'->wpList Tryz.prog ops Q rest (a.put o.dst (.slice ao (L++K).length c)) w'):wpList Tryz.prog ops Q (o::rest) a w:=by
 have hr2:=hr
 obtain⟨ao,cap,e,h0,hc⟩:=hr
 cases ao with
 |none=>
  have hK:K= []:=by
   cases K with
   |nil=>rfl
   |cons y l=>
    obtain⟨g,off,e3,-⟩:=hc 0 y rfl
    cases e3
  subst hK
  rw[h0 rfl]at e
  exact Zi4 hgd s x ho B v vr L [] hs hl hx (e ▸ Z1q.nil _ _ _ _) hn hB h
 |some ad=>
  obtain⟨i0,hi,hz0,hz1,hz2⟩:=info_parts Tryz.infoEnt
  refine wpList_append_own_at w hgd s x 23 ho B 60 i0 (.agg #[.int .u8 0,.int .i64 0,.int .u8 0,.int .i32 0,.int .u8 0]) 5 32 Tryz.underlying23 hi hz0 hz1 hz2 rfl (by decide) v _ _ hs hl ad _ cap _ (hx.trans e) (Z63 Z65 K) (Zel hr2 e) (Z96 K) (by unfold maxLen;omega) (by omega) hB ?_
  intro v' w' own gr _ loc
  have own':ER B w' v' (L++K):=by unfold ER;rw[Lla,List.flatMap_append];exact own
  obtain⟨ao,c,rfl⟩:=own'.shape
  exact h ao c w' own' ((Brf B w).grown gr hB (fun k hk=>(World.ownsRow.lt hl k hk).1))
theorem Z7g (w:World) (c d raw:Value) (cs ds:List Int) (t:Int) (L:List Ent) (o:Cfg) (hc:Z1s .u8 w c cs) (hd:Z1s .u8 w d ds) (hr:Z5k w raw L) (hm1:cs.length<=140737488351232) (hm2:ds.length<=140737488351232) (h:120<cs.length+ds.length\/60<L.length) (hl:L.length<=maxLen):
 Calls Tryz.prog 3 #[c,d,.int .u8 t,raw,.agg #[.int .u8 o.ob,.int .i64 o.th,.int .i64 o.cap,.int .i64 o.age,.int .i64 o.ps,.bool o.pl]] w fun e w'=>e= .returned (.bool true)/\Below w.heap.size w w':=by
 obtain⟨ao,cap,rfl,-,-,-⟩:=hc
 obtain⟨bo,cap',rfl,-,-,-⟩:=hd
 obtain⟨ro,rc,rfl,-,-⟩:=hr
 have hi1:(cs.length:Int)<=4611686018427387900:=by omega
 have xi2:(ds.length:Int)<=4611686018427387900:=by omega
 have hz1:(0:Int)<=(cs.length:Int)+(ds.length:Int):=by omega
 by_cases h1:120<cs.length+ds.length
 case' pos=>
  have h':(120:Int)<(cs.length:Int)+(ds.length:Int):=by omega
  have hb:decide ((120:Int)<(cs.length:Int)+(ds.length:Int))=true:=decide_eq_true h'
 case' neg=>
  have h':¬(120:Int)<(cs.length:Int)+(ds.length:Int):=by omega
  have h2:(60:Int)<(L.length:Int):=by omega
 all_goals
  go_enter Tryz.func3,Tryz.ntmps3
  go_wp2_with fail
  refine(Z5m _).mono ?_
  rintro e w1 ⟨rfl,hb⟩
  have B1:Below w.heap.size w w1:=Below.trans (by go_grown) (hb.mono (by simp;try omega))
  go_wp2
  go_ret
  exact⟨by first|rfl|(simp;done),B1⟩
def Zoa (W:World) (ys:List Int) (rc rv:Int) (a b:Value) (wx:World):Prop:=∃(ao:Option Addr) (cp r:Nat),a= .slice ao ys.length cp/\R32 wx (.slice ao ys.length cp) ys/\b= .pointer (some ⟨r,0,none⟩)/\W.heap.size<=r/\wx.heap[r]?=some (.cells #[.int .u8 rc,.int .i32 rv] 43 (0,0))/\Below W.heap.size W wx
theorem ap_a {W w2:World} {ys:List Int} {rc rv:Int} {ao:Option Addr} {cp:Nat} (h:R32 w2 (.slice ao ys.length cp) ys) (hz:W.heap.size<=w2.heap.size) (hB:Below W.heap.size W (w2.alloc (.cells #[.int .u8 rc,.int .i32 rv] 43 (0,0)))):Zoa W ys rc rv (.slice ao ys.length cp) (.pointer (some ⟨w2.heap.size,0,none⟩)) (w2.alloc (.cells #[.int .u8 rc,.int .i32 rv] 43 (0,0))):=
 ⟨ao,cp,_,rfl,h.alloc _,rfl,hz,Han _ _,hB⟩
theorem ap_b {W w2:World} {ys:List Int} {rc rv x0 x1:Int} {ao:Option Addr} {cp:Nat} (h:R32 w2 (.slice ao ys.length cp) ys) (hc:w2.heap[W.heap.size]?=some (.cells #[.int .u8 x0,.int .i32 x1] 43 (0,0))) (hB:Below W.heap.size W ((w2.setCell ⟨W.heap.size,0,none⟩ (.int .u8 rc)).setCell ⟨W.heap.size,1,none⟩ (.int .i32 rv))):Zoa W ys rc rv (.slice ao ys.length cp) (.pointer (some ⟨W.heap.size,0,none⟩)) ((w2.setCell ⟨W.heap.size,0,none⟩ (.int .u8 rc)).setCell ⟨W.heap.size,1,none⟩ (.int .i32 rv)):=
 ⟨ao,cp,_,rfl,h.kept (Z24 _ _ _ _) (fun g hg e=>h.noRes hg (e ▸ hc)),rfl,Nat.le_refl _,Z72 hc _ _,hB⟩
theorem alr {W a:World} (h:Below W.heap.size W a) (o:Obj):Below W.heap.size W (a.alloc o):=h.alloc h.size o
theorem bmr {W a b:World} (h1:Below W.heap.size W a) (h2:Below a.heap.size a b):Below W.heap.size W b:=h1.trans (h2.mono h1.size)
theorem stb2 {W a:World} {x0 x1:Value} (h:Below W.heap.size W a):Below W.heap.size W ((a.setCell ⟨W.heap.size,0,none⟩ x0).setCell ⟨W.heap.size,1,none⟩ x1):=h.trans ((Z24 _ _ _ _).below h.size (fun k hk e=>by have e2:k=W.heap.size:=e;omega))
theorem Z7h (w:World) (o:Obj):(w.alloc o).drew.heap[w.heap.size]?=some o:=Han w o
theorem Zil {σ:Type} (f:σ->Int×Int->σ×(Int×Int)) {x z:σ} {L R:List (Int×Int)} (h:Z09 f x L=(z,R)) {i:Nat} {o:Int×Int} (ho:L[i]?=some o):R[i]?=some (f (Z09 f x (L.take i)).1 o).2/\(Z09 f x (L.take (i+1))).1=(f (Z09 f x (L.take i)).1 o).1:=by
 have hi:=(List.getElem?_eq_some_iff.1 ho).1
 have e:L=L.take i++o::L.drop (i+1):=by
  obtain⟨h1,h2⟩:=List.getElem?_eq_some_iff.1 ho
  rw[<-h2,List.getElem_cons_drop h1,List.take_append_drop]
 have hR:R=(Z09 f x L).2:=by rw[h]
 refine⟨?_,?_⟩
 ·rw[hR]
  conv=>lhs;rw[e]
  rw[Z5l]
  have hl:(Z09 f x (L.take i)).2.length=i:=by rw[Z1i,List.length_take];omega
  rw[Ler (by omega),hl,Nat.sub_self]
  rfl
 ·rw[List.take_add_one,ho]
  exact congrArg Prod.fst (Z1t f o (L.take i) x)
theorem Z75 {ob most:Int} (h0:0<=most):∀(L:List (Int×Int)) (xs:List Int),(xs.length:Int)<=most->((Z09 (Z0d ob most) xs L).1.length:Int)<=most
 | [],xs,h=>h
 |o::l,xs,h=>Z75 h0 l _ (Z7y ob most xs o h).1
theorem Zc3 (w:World) (c d raw:Value) (cs ds:List Int) (t:Int) (L:List Ent) (o:Cfg) (hc:Z1s .u8 w c cs) (hd:Z1s .u8 w d ds) (hr:Z5k w raw L) (hL:∀e ∈ L,Z2h e) (t0:0<=t) (t1:t<=255) (h120:cs.length+ds.length<=120) (h60:L.length<=60) (ho: -9223372036854775808<=o.th/\o.th<=9223372036854775807):
 Calls Tryz.prog 3 #[c,d,.int .u8 t,raw,.agg #[.int .u8 o.ob,.int .i64 o.th,.int .i64 o.cap,.int .i64 o.age,.int .i64 o.ps,.bool o.pl]] w fun e w'=>e= .returned (.bool true)/\Below w.heap.size w w':=by
 have hwc:∀x ∈ cs,(Lit.int .u8 x).wf=true:=by obtain⟨_,_,_,h,_⟩:=hc;exact h
 have hwd:∀x ∈ ds,(Lit.int .u8 x).wf=true:=by obtain⟨_,_,_,h,_⟩:=hd;exact h
 have HW:=hi6 hc hd hr hL hwc hwd
 obtain⟨ao,cap,rfl,-,-,-⟩:=id hc
 obtain⟨bo,cap',rfl,-,-,-⟩:=id hd
 obtain⟨ro,rc,rfl,-,-⟩:=id hr
 have q1:(cs.length:Int)<=120:=by omega
 have q2:(ds.length:Int)<=120:=by omega
 have q3:(cs.length:Int)+(ds.length:Int)<=120:=by omega
 have q4:(L.length:Int)<=60:=by omega
 have q5:cs.length<=120:=by omega
 have q6:ds.length<=120:=by omega
 clear hc hd hr hL hwc hwd
 go_enter Tryz.func3,Tryz.ntmps3
 go_wp2_with fail
 generalize hW:World.alloc _ _=w1
 have hb9:w1.heap[w.heap.size]?=some (.cells #[.int .u8 o.ob,.int .i64 o.th,.int .i64 o.cap,.int .i64 o.age,.int .i64 o.ps,.bool o.pl] 25 (0,0)):=by rw[<-hW];exact Han _ _
 have B1:Below w.heap.size w w1:=by rw[<-hW];go_grown
 clear hW
 refine(Zq3 _ cs t w1 (HW.out.1.below B1) HW.out.2.2.2.2.1 t0 t1).mono ?_
 rintro e w2 ⟨x,rfl,hx,hx9,b2⟩
 obtain⟨ob,xth,xcap,xage,xps,xpl⟩:=x
 have hrg:=Z2r hx
 simp only[]at hrg hx9
 obtain⟨n,rfl⟩:∃n:Nat,xth=(n:Int):=⟨xth.toNat,by omega⟩
 have n1:1<=n:=by omega
 have n9:n<=9:=by omega
 obtain⟨⟨ob1,ob2⟩,-,⟨cap1,cap2⟩,-⟩:=hrg
 have hb9:=(b2.block _ (Gl hb9)).trans hb9
 have B2:=B1.trans (b2.mono B1.size)
 have z9:=(Gl hb9)
 have H2:=hi3 hx hb9 B2
 clear hx hb9 B1 B2 b2
 go_wp2_with fail
 generalize hW:World.alloc _ _=w3
 have hb11:w3.heap[w2.heap.size]?=some (.cells #[.int .u8 ob,.int .i64 n,.int .i64 xcap,.int .i64 xage,.int .i64 xps,.bool xpl] 25 (0,0)):=by rw[<-hW];exact Han _ _
 have b3:Below w2.heap.size w2 w3:=by rw[<-hW];go_grown
 clear hW
 have hb9:=(b3.block _ z9).trans H2.out.2.1
 have B3:=H2.out.2.2.trans (b3.mono H2.out.2.2.size)
 have z11:=(Gl hb11)
 have H3:=hi3 hb9 hb11 B3
 clear hb9 hb11 B3 b3
 refine(Zed _ ds n w3 (HW.out.2.1.below H3.out.2.2) HW.out.2.2.2.2.2 (by omega) n1 n9).mono ?_
 rintro e w4 ⟨vl,L1,rfl,R1,l1,hL1,b4⟩
 obtain⟨la,lc,rfl⟩:=R1.shape
 have hs3:=H3.out.2.2.size
 have B4:=H3.out.2.2.trans (b4.mono hs3)
 have H4:=hi5 R1 l1 hL1 b4 B4
 have zw4:w3.heap.size<=w4.heap.size:=b4.size
 clear R1 l1 hL1 b4 B4
 go_wp2_with (at_builtin;refine wpEI rfl _ _ rfl w3.heap.size _ _ L1 L rfl H4.out.1 rfl (HW.out.2.2.1.below H4.out.2.2.2.2) (by have:=H4.out.2.1;omega) zw4 ?_)
 intro l2a l2c w5 L5 b5
 obtain⟨LL,hLL⟩:∃LL,L1++L=LL:=⟨_,rfl⟩
 have hLn:L1.length+L.length=LL.length:=by rw[<-hLL,Lla]
 have hll:LL.length<=760:=by have:=H4.out.2.1;omega
 have hLok:∀e ∈ LL,Z2h e:=by rw[<-hLL];exact Z1k H4.out.2.2.1 HW.out.2.2.2.1
 rw[hLL]at L5
 first|rw[hLn]at L5 |- |(rw[Lla,hLn]at L5 |-)
 have hb9:=(b5.block w.heap.size (by omega)).trans ((H4.out.2.2.2.1.block _ (by omega)).trans H3.out.1)
 have hb11:=(b5.block w2.heap.size z11).trans ((H4.out.2.2.2.1.block _ z11).trans H3.out.2.1)
 have B5:Below w.heap.size w w5:=H3.out.2.2.trans ((H4.out.2.2.2.1.trans b5).mono hs3)
 have zw5:w3.heap.size<=w5.heap.size:=by have:=b5.size;omega
 obtain⟨x0,x1,x2,x3,x4,x5⟩:=Z1g hb11
 have H5:=hi5 L5 hb9 hb11 B5 hLok
 clear L5 hb9 hb11 B5 b5 hLok hLL hLn H4 H3
 go_wp2_with fail
 refine(Zns w5 ⟨ob,n,xcap,xage,xps,xpl⟩ _ LL H5.out.1.rec.entIn H2.out.1 (by omega) H5.out.2.2.2.2 (Z95 H2.out.1 (by omega))).mono ?_
 rintro e w6 ⟨S6,lg6,ev,lv,it,csv,pk,sp,rfl,hC,hev,hlv,hlg,hit,hcs,hsp,⟨ka,kn,kc',rfl⟩,b6⟩
 obtain⟨⟨m,hm,hxl⟩,hz,hlog,hlgl,hevl,h32⟩:=Znx H2.out.1 (by omega) hC
 obtain⟨ea,ec,rfl⟩:=hev.shape
 obtain⟨va,vc,rfl⟩:=hlv.shape
 obtain⟨ia,ic,rfl⟩:=hit.shape
 obtain⟨sa,sc,rfl⟩:=hsp.shape
 obtain⟨gc,cc,cur,rfl,hgc,-,hcc,hcel,-⟩:=hcs.pos (by omega)
 have c2:=hcel 2 (by omega)
 have zgc:=(Gl hgc)
 obtain⟨Z,hZ⟩:∃Z,S6.xs.getD 2 0=Z:=⟨_,rfl⟩
 obtain⟨P,hP⟩:∃P:Nat,(LL.countP fun e=>e.k=2)=P:=⟨_,rfl⟩
 rw[hZ]at c2 hz
 rw[hP]at hz
 obtain⟨hz0,hz1⟩:=hz
 have hm':(m:Int)<=(n:Int):=hm
 obtain⟨K,hK⟩:∃K,S6.xs.length=K:=⟨_,rfl⟩
 rw[hK]at hcc hxl |-
 have k1:¬(K:Int)<3:=by omega
 have k2:¬3+5*(n:Int)<(K:Int):=by omega
 have k3:((K:Int)-3)%5=0:=by omega
 have k4:(3:Int)<=(K:Int):=by omega
 have k5:(K:Int)<=400:=by omega
 have k6:Int.tmod ((K:Int)-3) 5=0:=by rw[Int.tmod_eq_emod_of_nonneg (by omega)];exact k3
 have k7:¬Z<0:=by omega
 have k8:¬(P:Int)<Z:=by omega
 have hb9:=(b6.block _ (by omega)).trans H5.out.2.1
 have hb11:=(b6.block _ (by omega)).trans H5.out.2.2.1
 have B6:=H5.out.2.2.2.1.trans (b6.mono H5.out.2.2.2.1.size)
 have R6:=H5.out.1.below b6
 have zz6:=b6.size
 obtain⟨lgn,hlgn⟩:∃lgn,lg6.length=lgn:=⟨_,rfl⟩
 have hlg9:lgn<=760*760:=by
  have h1:=congrArg List.length hlg
  rw[Llm]at h1
  have h2:LL.length*LL.length<=760*760:=Nat.mul_le_mul hll hll
  omega
 rw[hlgn]at hlv |-
 have H6:=hi8 hb9 hb11 B6 hlv hit hlog hlg hlgn
 have HP:=Hd hP
 clear hb9 hb11 B6 hlv hit hlog hlg hlgn hgc hcel hC hev hcs hsp hlgl hevl hm hxl hZ h32 b6 hK x0 x1 x2 x3 x4 x5 hP
 go_wp2_with fail
 generalize hW:World.alloc _ _=w7
 have hb13:w7.heap[w6.heap.size]?=some (.cells #[.slice ea S6.ev.length ec,.slice va lgn vc,.slice ia S6.its.length ic,.slice (some ⟨gc,0,none⟩) K cc,.slice ka kn kc',.slice sa (Z6x S6.ev).length sc] 36 (0,0)):=by rw[<-hW];exact Han _ _
 have b7:Below w6.heap.size w6 w7:=by rw[<-hW];go_grown
 clear hW
 have z13:=(Gl hb13)
 have hb11:=(b7.block _ (by omega)).trans H6.out.2.1
 have c2:=(b7.cell (p:=⟨gc,2,none⟩) zgc).trans c2
 obtain⟨r0,r1,r2,r3,r4,r5⟩:=Z1g hb13
 obtain⟨x0,x1,x2,x3,x4,x5⟩:=Z1g hb11
 have H7:=hi4 b7 hb13 hb11 R6
 have zgc7:gc<w7.heap.size:=by omega
 have z11':w2.heap.size<w7.heap.size:=by omega
 clear b7 hb13 hb11 R6
 have cP:∀u:World,Below w7.heap.size w7 u->Calls Tryz.prog 8 #[.slice l2a LL.length l2c] u fun e u'=>e= .returned (.int .i64 P)/\Below w7.heap.size w7 u':=fun u hu=>(Zi2 u _ LL ((H7.out.2.2.2.below H7.out.1).below hu).rec (by omega)).mono fun e u' ⟨h1,h2⟩=>⟨by rw[h1,HP.out],hu.trans (h2.mono hu.size)⟩
 have CP:=Hd cP
 clear cP
 have y1:=Bel.cell z13 r1
 have y2:=Bel.cell z13 r2
 have y3:=Bel.cell z13 r3
 have v0:=Bel.cell z11' x0
 have v1:=Bel.cell z11' x1
 have v2:=Bel.cell z11' x2
 have u2:=Bel.cell zgc7 c2
 have hcc':(2:Int)<(cc:Int):=by omega
 have hcc2:2<cc:=by omega
 have d1:decide ((K:Int)<3)=false:=decide_eq_false (by omega)
 have d2:decide (3+5*(n:Int)<(K:Int))=false:=decide_eq_false (by omega)
 have d3:decide (Z<0)=false:=decide_eq_false (by omega)
 have d4:decide ((P:Int)<Z)=false:=decide_eq_false (by omega)
 have D:=hi4 d1 d2 d3 d4
 clear d1 d2 d3 d4
 refine Z0p (by kernel_rfl) (by kernel_rfl) w7 (Brf _ _).drew ?_
 repeat (go_big_quiet_step (first|(with_reducible refine(CP.out _ (Bel.h _)).mono ?_;rintro e w9 ⟨rfl,hb⟩;exact⟨rfl,⟨w9,hb⟩,rfl⟩)))
 rw[D.out.1]
 repeat (go_big_quiet_step (first|(with_reducible refine(CP.out _ (Bel.h _)).mono ?_;rintro e w9 ⟨rfl,hb⟩;exact⟨rfl,⟨w9,hb⟩,rfl⟩)))
 rw[D.out.2.1]
 repeat (go_big_quiet_step (first|(with_reducible refine(CP.out _ (Bel.h _)).mono ?_;rintro e w9 ⟨rfl,hb⟩;exact⟨rfl,⟨w9,hb⟩,rfl⟩)))
 rw[D.out.2.2.1]
 repeat (go_big_quiet_step (first|(with_reducible refine(CP.out _ (Bel.h _)).mono ?_;rintro e w9 ⟨rfl,hb⟩;exact⟨rfl,⟨w9,hb⟩,rfl⟩)))
 refine wpQuiet_nil ?_
 rw[D.out.2.2.2]
 rintro u ⟨xu,he⟩
 have hu:Below w7.heap.size w7 u:=by rw[he];exact xu.h
 clear he xu
 have hb13:=(hu.block _ z13).trans H7.out.2.1
 have hb11:=(hu.block _ z11').trans H7.out.2.2.1
 have BU:Below w6.heap.size w6 u:=H7.out.1.trans (hu.mono (by omega))
 have hb9:=(BU.block _ (by omega)).trans H6.out.1
 have zu6:=BU.size
 have zu7:w6.heap.size<u.heap.size:=(Gl hb13)
 have HU:=hi4 hb9 hb11 hb13 BU
 have hlg':(lgn:Int)<=577600:=by omega
 clear hb9 hb11 hb13 BU hu y1 y2 y3 v0 v1 v2 u2 CP r0 r1 r2 r3 r4 r5 x0 x1 x2 x3 x4 x5 D HP c2
 obtain⟨f,hf⟩:∃f,Z0d ob xcap=f:=⟨_,rfl⟩
 obtain⟨OL,hOL⟩:∃OL,S6.lg.map (·.1)=OL:=⟨_,rfl⟩
 have HF:=hi2 hf hOL
 clear hf hOL
 go_wp2
 go_loopw [15,16,17,18] (fun s y _ _ wr=>∃i:Nat,i<=lgn/\y= .int .i64 i/\R32 wr s (Z09 f [] (OL.take i)).1/\Below u.heap.size u wr) (fun _ y _ _ _=>lgn-(intOf y).toNat)
 case atStart=>exact⟨0,Nat.zero_le _,rfl,R32.nil _,Brf _ _⟩
 case round=>
  obtain⟨i,hi,rfl,hR,hB⟩:=hrel
  have zi:(0:Int)<=(i:Int):=by omega
  have hb9:=(hB.block _ (by omega)).trans HU.out.1
  have hb11:=(hB.block _ (by omega)).trans HU.out.2.1
  have hb13:=(hB.block _ (by omega)).trans HU.out.2.2.1
  have BU:=HU.out.2.2.2.trans (hB.mono HU.out.2.2.2.size)
  have zr:=hB.size
  obtain⟨r0,r1,r2,r3,r4,r5⟩:=Z1g hb13
  obtain⟨x0,x1,x2,x3,x4,x5⟩:=Z1g hb11
  by_cases hlt:i<lgn
  ·have hlt':(i:Int)<(lgn:Int):=by omega
   obtain⟨gl,vcap,e,hvc,hgl,hcel,-⟩:=H6.out.2.2.2.1.pos Znh (by have:=H6.out.2.2.2.2.2.2.2;omega)
   have e1:=(Value.slice.inj e).1
   have e2:=(Value.slice.inj e).2.2
   subst e1
   subst e2
   obtain⟨le,hle⟩:∃le,lg6[i]?=some le:=⟨_,Lge (by have:=H6.out.2.2.2.2.2.2.2;omega)⟩
   obtain⟨lt,ls,ok,ov,rc,rv,lb⟩:=le
   have y2:=hcel i 2 _ _ hle (by omega) rfl
   have y3:=hcel i 3 _ _ hle (by omega) rfl
   have y4:=hcel i 4 _ _ hle (by omega) rfl
   have y5:=hcel i 5 _ _ hle (by omega) rfl
   have y2:=(BU.cell (p:=⟨gl,i*7+2,none⟩) hgl).trans y2
   have y3:=(BU.cell (p:=⟨gl,i*7+3,none⟩) hgl).trans y3
   have y4:=(BU.cell (p:=⟨gl,i*7+4,none⟩) hgl).trans y4
   have y5:=(BU.cell (p:=⟨gl,i*7+5,none⟩) hgl).trans y5
   have hvc':(lgn:Int)<=(vc:Int):=by have:=H6.out.2.2.2.2.2.2.2;omega
   have hgr:gl<wr.heap.size:=by have:=BU.size;omega
   have hO:OL[i]?=some (ok,ov):=by rw[<-HF.out.2,<-H6.out.2.2.2.2.2.2.1,List.getElem?_map,List.getElem?_map,hle];rfl
   have hlog:Z09 f [] OL=(S6.its,S6.lg.map (·.2)):=by rw[<-HF.out.1,<-HF.out.2];exact H6.out.2.2.2.2.2.1
   obtain⟨g1,g2⟩:=Zil f hlog hO
   have hres:(S6.lg.map (·.2))[i]?=some (rc,rv):=by rw[<-H6.out.2.2.2.2.2.2.1,List.getElem?_map,List.getElem?_map,hle];rfl
   rw[hres]at g1
   obtain⟨X,hX⟩:∃X,(Z09 f [] (OL.take i)).1=X:=⟨_,rfl⟩
   have hXl:(X.length:Int)<=xcap:=by rw[<-hX,<-HF.out.1];exact Z75 (by omega) _ [] (by simp;omega)
   rw[hX]at g1 g2 hR
   obtain⟨ys,hys⟩:∃ys,(f X (ok,ov)).1=ys:=⟨_,rfl⟩
   have hfx:f X (ok,ov)=(ys,(rc,rv)):=by
    have h1:(rc,rv)=(f X (ok,ov)).2:=Option.some.inj g1
    rw[<-hys,h1]
   have hlaw:(ys.length:Int)<=xcap/\(3<=rc->ys=X):=by
    have h1:=Z7y ob xcap X (ok,ov) hXl
    rw[HF.out.1,hfx]at h1
    exact h1
   rw[hys]at g2
   obtain⟨ta,tc,rfl⟩:=hR.shape
   have cA:∀u':World,Below wr.heap.size wr u'->Calls Tryz.prog 9 #[.int .u8 ob,.int .i64 xcap,.slice ta X.length tc,.agg #[.int .u8 ok,.int .i32 ov]] u' fun e u''=>∃(va':Option Addr) (vc':Nat),e= .returned (.tuple #[.slice va' ys.length vc',.agg #[.int .u8 rc,.int .i32 rv]])/\R32 u'' (.slice va' ys.length vc') ys/\Below u'.heap.size u' u'':=fun u' hu'=>(Zo9 u' _ ob xcap ok ov X (hR.below hu') (by omega) cap1 cap2 ob1 ob2).mono fun e u'' h=>by
    rw[HF.out.1,hfx]at h
    obtain⟨v',q1,q2,q3⟩:=h
    obtain⟨va',vc',rfl⟩:=q2.shape
    exact⟨va',vc',q1,q2,q3⟩
   have CA:=Hd cA
   obtain⟨xn,hxn⟩:∃xn,X.length=xn:=⟨_,rfl⟩
   have hxn9:(xn:Int)<=1000:=by omega
   have HR:=hi9 hR hB BU hb9 hb11 hb13 g2 hlaw hX
   rw[hxn]at CA |-
   have HX:=Hd hxn
   have z11r:w2.heap.size<wr.heap.size:=by omega
   have z13r:w6.heap.size<wr.heap.size:=by omega
   have c0:=fun(u:World) (hu:Below wr.heap.size wr u)=>(hu.cell (p:=⟨w2.heap.size,0,none⟩) z11r).trans x0
   have c2:=fun(u:World) (hu:Below wr.heap.size wr u)=>(hu.cell (p:=⟨w2.heap.size,2,none⟩) z11r).trans x2
   have d1:=fun(u:World) (hu:Below wr.heap.size wr u)=>(hu.cell (p:=⟨w6.heap.size,1,none⟩) z13r).trans r1
   have l2:=fun(u:World) (hu:Below wr.heap.size wr u)=>(hu.cell (p:=⟨gl,i*7+2,none⟩) hgr).trans y2
   have l3:=fun(u:World) (hu:Below wr.heap.size wr u)=>(hu.cell (p:=⟨gl,i*7+3,none⟩) hgr).trans y3
   have L45:=hi2 y4 y5
   clear cA hxn hR hB BU hb9 hb11 hb13 g1 g2 hlaw hX hfx hys hres hlog hO hcel hle e hXl y2 y3 y4 y5
   go_wp2_with fail
   go_cut [17,18]from 98 to 112 (fun a17 a18 wx=>Zoa wr ys rc rv a17 a18 wx)
   case first=>
    go_region_held3 (fun wz=>Below wr.heap.size wr wz)
     (first|(exact(Brf _ _).drew)|(go_split_ands;with_reducible first|assumption|exact bmr (by assumption) hbv|exact alr (bmr (by assumption) hbv) _|exact alr (bmr (Brf _ _).drew hbv) _|exact alr (Brf _ _) _|exact(alr (Brf _ _) _).drew|exact bmr (alr (Brf _ _) _).drew hbv|exact alr (by assumption) _|exact stb2 (by assumption)))
     (first|(
       go_at_call 9
       go_split_ands
       with_reducible refine(CA.out _ (by with_reducible assumption)).mono ?_
       rintro e wv ⟨va',vc',rfl,hRv,hbv⟩
       have HV:=Hd hRv
       clear hRv
       first
       |(have F2:wv.heap[wr.heap.size]?=some (.cells #[.int .u8 0,.int .i32 0] 43 (0,0)):=by
          with_reducible exact(hbv.block wr.heap.size (by simp)).trans (Z7h _ _)
         have f0:=Z06 F2 0
         have f1:=Z06 F2 1
         obtain⟨e0,e1⟩:=Z29 F2
         have y2':wr.heap.size<wv.heap.size:=(Gl F2)
         have HZ:=Hd F2
         clear F2)
       |skip))
    all_goals
     go_wp2_with fail
     go_meet
     case rel=>first|(have hz:wr.heap.size<=wv.heap.size:=hbv.size;with_reducible exact ap_a HV.out hz (by with_reducible assumption))|(with_reducible exact ap_b HV.out HZ.out (by with_reducible assumption))
   case rest=>
    obtain⟨ya,yc,r,rfl,hRy,rfl,hr1,hr2,hBc⟩:=hcut
    obtain⟨hR,hB,BU,hb9,hb11,hb13,g2,hlaw,hX⟩:=HR.out
    have zc:=hBc.size
    have zrc:=(Gl hr2)
    obtain⟨q0,q1⟩:=Z29 hr2
    have z11c:w2.heap.size<wc.heap.size:=by omega
    have z13c:w6.heap.size<wc.heap.size:=by omega
    have zgc:gl<wc.heap.size:=by omega
    have v2:=Bel.cell z11c (c2 wc hBc)
    have m1:=Bel.cell z13c (d1 wc hBc)
    have n4:=Bel.cell zgc ((hBc.cell (p:=⟨gl,i*7+4,none⟩) hgr).trans L45.out.1)
    have n5:=Bel.cell zgc ((hBc.cell (p:=⟨gl,i*7+5,none⟩) hgr).trans L45.out.2)
    have p0:=Bel.cell zrc q0
    have p1:=Bel.cell zrc q1
    have hyn:=hlaw.1
    have hRX:=hR.below hBc
    have cS:∀u':World,Below wc.heap.size wc u'->3<=rc->Calls Tryz.prog 10 #[.slice ya ys.length yc,.slice ta xn tc] u' fun e u''=>e= .returned (.bool true)/\Below wc.heap.size wc u'':=fun u' hu' h3=>by
     have e1:=hlaw.2 h3
     have h2:=hRX.below hu'
     rw[HX.out]at h2
     refine(Zcx u' _ _ ys X (hRy.below hu') h2 (by omega) (by have:=HX.out;omega)).mono fun e u'' h=>⟨by rw[h.1,e1];simp,hu'.trans (h.2.mono hu'.size)⟩
    have CS:=Hd cS
    have HC:=hi3 hRy g2 (hB.trans (hBc.mono hB.size))
    have dl:decide (xcap<(ys.length:Int))=false:=decide_eq_false (by omega)
    have DL:=Hd dl
    clear dl cS hRX hR hB BU hb9 hb11 hb13 g2 hlaw hX hRy hr2 c0 c2 d1 l2 l3 CA q0 q1
    by_cases h3:3<=rc
    ·have CT:=Hd (fun(u':World) (hu':Below wc.heap.size wc u')=>CS.out u' hu' h3)
     have d3:decide (3<=rc)=true:=decide_eq_true h3
     have D3:=Hd d3
     clear d3
     go_wp2_with fail
     refine Z0p (by kernel_rfl) (by kernel_rfl) wc (Brf _ _).drew ?_
     repeat (go_big_quiet_step (first|(with_reducible refine(CT.out _ (Bel.h _)).mono ?_;rintro e w9 ⟨rfl,hb⟩;exact⟨rfl,⟨w9,hb⟩,rfl⟩)))
     rw[DL.out]
     refine wpQuiet_nil ?_
     rintro u2 ⟨xu,he⟩
     have hu2:Below wc.heap.size wc u2:=by rw[he];exact xu.h
     clear he xu v2 m1 n4 n5 p0 p1
     go_wp2
     go_roundw
     case rel=>exact⟨i+1,by omega,by go_num,by rw[HC.out.2.1];exact HC.out.1.below hu2,HC.out.2.2.trans (hu2.mono HC.out.2.2.size)⟩
     case measure=>simp[intOf];omega
    ·have d3:decide (3<=rc)=false:=decide_eq_false h3
     have D3:=Hd d3
     clear d3
     go_wp2_with fail
     refine Z0p (by kernel_rfl) (by kernel_rfl) wc (Brf _ _).drew ?_
     repeat (go_big_quiet_step (skip))
     rw[D3.out]
     repeat (go_big_quiet_step (skip))
     rw[DL.out]
     refine wpQuiet_nil ?_
     rintro u2 ⟨xu,he⟩
     have hu2:Below wc.heap.size wc u2:=by rw[he];exact xu.h
     clear he xu v2 m1 n4 n5 p0 p1
     go_wp2
     go_roundw
     case rel=>exact⟨i+1,by omega,by go_num,by rw[HC.out.2.1];exact HC.out.1.below hu2,HC.out.2.2.trans (hu2.mono HC.out.2.2.size)⟩
     case measure=>simp[intOf];omega
  ·obtain rfl:i=lgn:=by omega
   have hX:(Z09 f [] (OL.take i)).1=S6.its:=by
    have h1:OL.length=i:=by rw[<-HF.out.2,Llm,<-H6.out.2.2.2.2.2.2.1,Llm];exact H6.out.2.2.2.2.2.2.2
    rw[List.take_of_length_le (by omega),<-HF.out.1,<-HF.out.2,H6.out.2.2.2.2.2.1]
   rw[hX]at hR
   obtain⟨ta,tc,rfl⟩:=hR.shape
   have hits:(S6.its.length:Int)<=xcap:=by rw[<-hX,<-HF.out.1];exact Z75 (by omega) _ [] (by simp;omega)
   have hitr:=H6.out.2.2.2.2.1.below BU
   obtain⟨k0,k1,k2,k3,k4,k5⟩:=Z1g hb9
   have g1:=Z06 hb9 1
   have BW:Below w.heap.size w wr:=H6.out.2.2.1.trans (BU.mono H6.out.2.2.1.size)
   have z9r:w.heap.size<wr.heap.size:=(Gl hb9)
   have HQ:=hi5 hR hitr hb9 hb13 BW
   have zq6:w.heap.size<w6.heap.size:=by omega
   clear hR hitr hb9 hb11 hb13 BU BW hB hX x0 x1 x2 x3 x4 x5
   go_upto_region 17 with fail
   go_cut [142]from 140 to 143 (fun a142 wx=>∃th',a142= .int .i64 th'/\wx=wr.setCell ⟨w.heap.size,1,none⟩ (.int .i64 th'))
   case first=>
    by_cases h70:o.th<=70
    ·go_wp2_with fail
     go_meet
     case rel=>exact⟨_,rfl,rfl⟩
    ·have h71:70<o.th:=by omega
     go_wp2_with fail
     go_meet
     case rel=>exact⟨_,rfl,rfl⟩
   case rest=>
    obtain⟨th',rfl,rfl⟩:=hcut
    have K8:Z01 (fun k=>k=w.heap.size) wr (wr.setCell ⟨w.heap.size,1,none⟩ (.int .i64 th')):=Z02 wr ⟨w.heap.size,1,none⟩ (.int .i64 th')
    have hb9:(wr.setCell ⟨w.heap.size,1,none⟩ (.int .i64 th')).heap[w.heap.size]?=some (.cells #[.int .u8 o.ob,.int .i64 th',.int .i64 o.cap,.int .i64 o.age,.int .i64 o.ps,.bool o.pl] 25 (0,0)):=by
     have h1:=Z44 (j:=1) (x:=.int .i64 th') HQ.out.2.2.1
     simpa using h1
    generalize hw8:World.setCell wr _ _=w8
    rw[hw8]at K8 hb9
    clear hw8
    have R8:R32 w8 (.slice ta S6.its.length tc) S6.its:=HQ.out.1.kept K8 (fun g hg e=>HQ.out.1.noT hg (by decide) (e ▸ HQ.out.2.2.1))
    have I8:R32 w8 (.slice ia S6.its.length ic) S6.its:=HQ.out.2.1.kept K8 (fun g hg e=>HQ.out.2.1.noT hg (by decide) (e ▸ HQ.out.2.2.1))
    have hb13:=(K8.block w6.heap.size (by omega) (fun e=>by have e2:w6.heap.size=w.heap.size:=e;omega)).trans HQ.out.2.2.2.1
    have B8:Below w.heap.size w w8:=HQ.out.2.2.2.2.trans (K8.below HQ.out.2.2.2.2.size (fun k h1 h2=>by have e:k=w.heap.size:=h2;omega))
    have z8:wr.heap.size<=w8.heap.size:=K8.size
    obtain⟨k0,k1,k2,k3,k4,k5⟩:=Z1g hb9
    have H8:=hi5 R8 I8 hb9 hb13 B8
    have H9:=hi2 HW.out.2.2.1 HW.out.2.2.2.1
    clear R8 I8 hb9 hb13 B8 K8 HQ r0 r1 r2 r3 r4 r5 g1
    go_wp2_with fail
    refine(Znt w8 ⟨o.ob,th',o.cap,o.age,o.ps,o.pl⟩ _ L (H9.out.1.below H8.out.2.2.2.2) (by omega) H9.out.2 (fun h=>Z95 h (by omega))).mono ?_
    rintro e w10 ⟨a0,n0,c0,a1,n1',c1,a2,n2,c2,a3,n3,c3,a4,n4,c4,a5,n5,c5,rfl,b10⟩
    obtain⟨q,hq⟩:∃q:Int,(if Z0e ⟨o.ob,th',o.cap,o.age,o.ps,o.pl⟩=true then(0:Int)else 1)=q:=⟨_,rfl⟩
    rw[hq]
    have HQ:=Hd hq
    have H10:=Hd b10
    clear hq b10 k0 k1 k2 k3 k4 k5
    go_wp2_with fail
    generalize hW:World.alloc _ _=w11
    have b11:Below w8.heap.size w8 w11:=by rw[<-hW];exact H10.out.alloc H10.out.size _
    clear hW
    refine(Z5m w11).mono ?_
    rintro e w12 ⟨rfl,b12⟩
    have B12:Below w8.heap.size w8 w12:=b11.trans (b12.mono b11.size)
    have hb9:=(B12.block _ (by omega)).trans H8.out.2.2.1
    have hb13:=(B12.block _ (by omega)).trans H8.out.2.2.2.1
    obtain⟨k0,k1,k2,k3,k4,k5⟩:=Z1g hb9
    obtain⟨r0,r1,r2,r3,r4,r5⟩:=Z1g hb13
    have z9s:w.heap.size<w12.heap.size:=(Gl hb9)
    have H12:=hi2 B12 hb9
    clear b11 b12 B12 hb9 hb13
    go_wp2_with fail
    refine(Zcx w12 _ _ S6.its S6.its (H8.out.1.below H12.out.1) (H8.out.2.1.below H12.out.1) (by omega) (by omega)).mono ?_
    rintro e w13 ⟨rfl,b13⟩
    have hb9:=(b13.block _ z9s).trans H12.out.2
    clear k0 k1 k2 k3 k4 k5 r0 r1 r2 r3 r4 r5
    obtain⟨k0,k1,k2,k3,k4,k5⟩:=Z1g hb9
    have H13:=Hd (H12.out.1.trans (b13.mono H12.out.1.size))
    clear hb9 b13
    simp only[decide_true]
    go_wp2_with fail
    refine(Ze7 w13 ⟨o.ob,th',o.cap,o.age,o.ps,o.pl⟩).mono ?_
    rintro e w14 ⟨rfl,b14⟩
    rw[HQ.out]
    have H14:=Hd (H8.out.2.2.2.2.trans ((H13.out.trans (b14.mono H13.out.size)).mono H8.out.2.2.2.2.size))
    clear b14 k0 k1 k2 k3 k4 k5
    go_wp2
    go_ret
    exact⟨by first|rfl|(simp;done),H14.out⟩
theorem Z99 (w:World) (c d raw:Value) (cs ds:List Int) (t:Int) (L:List Ent) (o:Cfg) (hc:Z1s .u8 w c cs) (hd:Z1s .u8 w d ds) (hr:Z5k w raw L) (hL:∀e ∈ L,Z2h e) (hl:L.length<=maxLen) (t0:0<=t) (t1:t<=255) (ho: -9223372036854775808<=o.th/\o.th<=9223372036854775807) (hm1:cs.length<=140737488351232) (hm2:ds.length<=140737488351232):
 Calls Tryz.prog 3 #[c,d,.int .u8 t,raw,.agg #[.int .u8 o.ob,.int .i64 o.th,.int .i64 o.cap,.int .i64 o.age,.int .i64 o.ps,.bool o.pl]] w fun e w'=>e= .returned (.bool true)/\Below w.heap.size w w':=by
 by_cases h:120<cs.length+ds.length\/60<L.length
 ·exact Z7g w c d raw cs ds t L o hc hd hr hm1 hm2 h hl
 ·exact Zc3 w c d raw cs ds t L o hc hd hr hL t0 t1 (by omega) (by omega) ho
theorem Tryz.resTypes3:Tryz.f3.resultTypes= #[4]:=by kernel_rfl
theorem Z38:Tryz.prog.readableRec 22=true/\22<Tryz.prog.types.size:=⟨by kernel_rfl,of_decide_eq_true (by kernel_rfl)⟩
theorem Z7i:Tryz.prog.readableRec 5=true/\5<Tryz.prog.types.size:=⟨by kernel_rfl,of_decide_eq_true (by kernel_rfl)⟩
theorem Z4i:Tryz.prog.readableRec 23=true/\23<Tryz.prog.types.size:=⟨by kernel_rfl,of_decide_eq_true (by kernel_rfl)⟩
theorem Z54:Tryz.prog.readableRec 25=true/\25<Tryz.prog.types.size:=⟨by kernel_rfl,of_decide_eq_true (by kernel_rfl)⟩
theorem Z5v (os:Os) (started:os.Started) (H:Type) (enc:TypeId×Value->H):
 ReturnsInHanded {} Tryz.checked os 3 .any (Rows.topBoundsSpec.pre6 enc Tryz.prog Tryz.f3 Rows.topBoundsRow.domain false) (Rows.topBoundsSpec.post enc Tryz.prog Tryz.f3 false true false false):=by
 refine Zc1 (C:=Tryz.checked) (T:=4) Tryz.own started (by kernel_rfl) Tryz.func3
  (ChangeSpec.witness6 (enc:=enc) (C:=Tryz.checked) false ⟨#[],#[.slice none 0 0,.slice none 0 0,.int .u8 0,.slice none 0 0,.agg #[.int .u8 0,.int .i64 0,.int .i64 0,.int .i64 0,.int .i64 0,.bool false]],[]⟩ 8 (by kernel_rfl) (by kernel_rfl) (by kernel_rfl) (by kernel_rfl))
  Tryz.laidOut (fun t ht=>?_) Tryz.resTypes3 Tryz.underlying4 rfl (fun ds hd=>?_) ?_
 ·rw[Tryz.params3]at ht
  exact(show ∀t ∈ [22,22,5,23,25],Tryz.prog.readableRec t=true/\t<Tryz.prog.types.size from List.forall_mem_cons.2 ⟨Z38,List.forall_mem_cons.2 ⟨Z38,List.forall_mem_cons.2 ⟨Z7i,List.forall_mem_cons.2 ⟨Z4i,List.forall_mem_cons.2 ⟨Z54,fun _ h=>by cases h⟩⟩⟩⟩⟩) t ht
 ·rw[Tryz.params3]at hd
  match ds,hd with
  | [e0,e1,e2,e3,e4],_=>rfl
 ·intro W base args ds p hval0 hA0 hsz0
  have hval:∀(j:Nat) t v,Tryz.f3.params[j]?=some t->args[j]?=some v->Value.okWide Tryz.prog W .any base t v:=hval0
  have hA:DataW.TrodAll enc Tryz.prog W 0 (fun _=>true) true Tryz.f3.params.toList args.toList ds p:=hA0
  have hsz:(DataW.weightsEach Tryz.prog (Tryz.f3.params.toList++Rows.topBoundsSpec.plain.varTypes Tryz.prog) (ds++ [])).all (· <=reachBytes)=true:=hsz0
  rw[Tryz.params3]at hA hval hsz
  obtain⟨v0,vs0,d0,ds0,p0,q0,hargs,rfl,rfl,h0,r0⟩:=trodAll_cons hA
  obtain⟨v1,vs1,d1,ds1,p1,q1,rfl,rfl,rfl,h1,r1⟩:=trodAll_cons r0
  obtain⟨v2,vs2,d2,ds2,p2,q2,rfl,rfl,rfl,h2,r2⟩:=trodAll_cons r1
  obtain⟨v3,vs3,d3,ds3,p3,q3,rfl,rfl,rfl,h3,r3⟩:=trodAll_cons r2
  obtain⟨v4,vs4,d4,ds4,p4,q4,rfl,rfl,rfl,h4,r4⟩:=trodAll_cons r3
  obtain⟨rfl,rfl,rfl⟩:=trodAll_nil r4
  obtain rfl:args= #[v0,v1,v2,v3,v4]:=by cases args;simp_all
  obtain⟨c,sc,lc⟩:=Z53 (k:=.u8) Tryz.underlying22 Tryz.underlying5 (by kernel_rfl) (hval 0 22 v0 rfl rfl) h0
  obtain⟨d,sd,ld⟩:=Z53 (k:=.u8) Tryz.underlying22 Tryz.underlying5 (by kernel_rfl) (hval 1 22 v1 rfl rfl) h1
  obtain⟨t,rfl,_,_,wt⟩:=open_int Tryz.underlying5 (hval 2 5 v2 rfl rfl) h2
  have bt:=bounds_u8 wt
  obtain⟨raw,sraw,kraw,mraw⟩:=Zaw (hval 3 23 v3 rfl rfl) h3
  obtain⟨o,rfl,-,tho,-⟩:=Zc2 (hval 4 25 v4 rfl rfl) h4
  have big0:∀c:List Int,(c.length=0\/∃elems spare,d0= .slice elems spare/\elems.length=c.length)->c.length<=140737488351232:=fun c lc=>by
   rcases lc with h|⟨elems,spare,e,hl⟩
   ·omega
   ·have:=sized_slice hsz (j:=0) (t:=22) (e:=5) (elems:=elems) (spare:=spare) rfl (by rw[e];rfl) Tryz.underlying22
    rw[show Tryz.prog.bytesOf 5=1 from by kernel_rfl]at this
    simp only[reachBytes]at this
    omega
  have big1:∀c:List Int,(c.length=0\/∃elems spare,d1= .slice elems spare/\elems.length=c.length)->c.length<=140737488351232:=fun c lc=>by
   rcases lc with h|⟨elems,spare,e,hl⟩
   ·omega
   ·have:=sized_slice hsz (j:=1) (t:=22) (e:=5) (elems:=elems) (spare:=spare) rfl (by rw[e];rfl) Tryz.underlying22
    rw[show Tryz.prog.bytesOf 5=1 from by kernel_rfl]at this
    simp only[reachBytes]at this
    omega
  exact Z99 W v0 v1 v3 c d t raw o sc sd sraw kraw mraw bt.1 bt.2 tho (big0 c lc) (big1 d ld)
theorem topBounds_said:Rows.TopBoundsSaid:=
 OpenClaim.holds_of_wide 3 Tryz.f3 rfl rfl rfl rfl rfl rfl rfl ⟨rfl,rfl,rfl,rfl,rfl⟩ rfl rfl rfl rfl rfl (by as_aux_lemma=>kernel_rfl) Tryz.func3 (by as_aux_lemma=>kernel_rfl)
  (of_decide_eq_true (by as_aux_lemma=>kernel_rfl)) (by unfold Func.isWrapper;first|(rw[if_pos (by decide +kernel)];kernel_rfl)|(rw[if_neg (by decide +kernel)];exact⟨rfl,rfl⟩))
  (fun os started H enc _=>Z5v os started H enc)
end
end Go.Proofs.YtihljjgmkaeohaaGreat
