/- part 25 -/
import Derived.Test.YtihljjgmkaeohaaGreatPnAX
set_option linter.all false
set_option maxHeartbeats 16000000
set_option maxRecDepth 100000
namespace Go.Proofs.YtihljjgmkaeohaaGreat
section
open Go.RowKit Go.ChangeShapes Go.WideShapes Go.ChangeAt Go.Deep
theorem Zcr (N:Int) (xs:List Int) (t:Th):(owT N xs t).i0=t.i0/\(owT N xs t).i3=t.i3:=by
 have k0:∀(P:Prop) [Decidable P] (x y:Th),x.i0=t.i0/\x.i3=t.i3->y.i0=t.i0/\y.i3=t.i3->(if P then x else y).i0=t.i0/\(if P then x else y).i3=t.i3:=by
  intro P _ x y h1 h2
  split
  ·exact h1
  ·exact h2
 unfold owT
 dsimp only
 repeat' apply k0
 all_goals exact⟨rfl,rfl⟩
theorem Zhg {T:List TS} {k:Nat} (h:k<T.length) (x:TS):(T.set k x)[k]?=some x:=by simp[h]
theorem Tryz.infoEv:(Tryz.prog.info? 92).map (fun i=>(i.zero,i.size,i.bytes))=some (some (.agg #[.int .u8 0,.int .i64 0,.int .i64 0,.int .u8 0,.int .i32 0,.int .u8 0,.int .i32 0,.int .i64 0]),8,48):=by kernel_rfl
theorem Zcs {w:World} {g:Nat} {e:Ev} (h:w.heap[g]?=some (.cells #[.int .u8 e.k,.int .i64 e.t,.int .i64 e.s,.int .u8 e.ok,.int .i32 e.ov,.int .u8 e.rc,.int .i32 e.rv,.int .i64 e.at'] 92 (0,0))):w.ownsRow 0 92 8 (.slice (some ⟨g,0,none⟩) 1 1) 1 (evV e):=
 ⟨rfl,.inr ⟨g,1,_,rfl,Nat.zero_le _,h,Nat.le_refl _,by unfold maxLen;omega,rfl,rfl⟩⟩
theorem Zan (e:Ev):∀u ∈ evV e,u.oneCell'=true:=by
 intro u hu
 simp only[evV,List.mem_cons,List.not_mem_nil,or_false]at hu
 rcases hu with rfl|rfl|rfl|rfl|rfl|rfl|rfl|rfl<;>rfl
def Z6u (S:WM) (t:Th):List Ev:=if t.i1=14 then S.ev++ [⟨2,t.i0,t.i3,0,0,owK S.xs t,owV S.xs t,S.n⟩]else S.ev
def Zpl (W0 w:World) (c:Cfg) (S:WM) (a:WA) (t t':Th) (n:Nat) (F:Nat->Int) (X:List Int) (rk rv:Int) (a4 a5:Value) (wx:World):Prop:=
 ∃(r4 r5:Nat) (ao:Option Addr) (cp:Nat) (g':Option Nat) (st':Int),a4= .pointer (some ⟨r4,0,none⟩)/\a5= .pointer (some ⟨r5,0,none⟩)/\(wx.cell? ⟨r4,0,none⟩=some (Value.int IntKind.i64 t'.i0)/\wx.cell? ⟨r4,1,none⟩=some (Value.int IntKind.i64 t'.i1)/\wx.cell? ⟨r4,2,none⟩=some (Value.int IntKind.i64 t'.i2)/\wx.cell? ⟨r4,3,none⟩=some (Value.int IntKind.i64 t'.i3)/\wx.cell? ⟨r4,4,none⟩=some (Value.int IntKind.i64 t'.i4)/\wx.cell? ⟨r4,5,none⟩=some (Value.int IntKind.i64 t'.i5)/\wx.cell? ⟨r4,6,none⟩=some (Value.int IntKind.i64 t'.i6)/\wx.cell? ⟨r4,7,none⟩=some (Value.int IntKind.i64 t'.i7)/\wx.cell? ⟨r4,8,none⟩=some (Value.int IntKind.i64 t'.i8)/\wx.cell? ⟨r4,9,none⟩=some (Value.int IntKind.i64 t'.i9)/\wx.cell? ⟨r4,10,none⟩=some (Value.int IntKind.i64 t'.i10)/\wx.cell? ⟨r4,11,none⟩=some (Value.int IntKind.i64 t'.i11)/\wx.cell? ⟨r4,12,none⟩=some (.slice ao n cp))/\(wx.cell? ⟨r5,0,none⟩=some (.int .u8 rk)/\wx.cell? ⟨r5,1,none⟩=some (.int .i32 rv))/\(w.heap.size<=r4/\r4<wx.heap.size/\w.heap.size<=r5/\r5<wx.heap.size)/\
  MS W0 wx a.b g' (3+5*c.th) X st'/\(a.st<=st'/\st'<=a.st+1)/\IRw wx (.slice ao n cp) n F/\(∀k,(Value.slice ao n cp).ownBlock=some k->w.heap.size<=k/\¬g'=some k)/\Z01 (Z18 a.b a.g) w wx/\(g'=a.g\/∃k,g'=some k/\w.heap.size<=k)
theorem Zpm {W0 w:World} {p:Nat} {c:Cfg} {S:WM} {a:WA} (h:WP W0 w p c S a) (k tb q n0 cap n:Nat) (t:Th) (F:Nat->Int) (hk:S.T[k]?=some ⟨t,n,F⟩) (hq:k*13=q) (htv:a.tv= .slice (some ⟨tb,0,none⟩) n0 cap) (h1:1<=t.i1) (h2:t.i1<=16)
 (hr: -9223372036854775808<=t.i2/\t.i2<=9223372036854775807) (hn:n<=900000) (s1:a.st<900000) (hid:0<=t.i0/\t.i0<c.th) (hev:S.ev.length<=900000):
 Calls Tryz.prog 63 #[.pointer (some ⟨p,0,none⟩),.pointer (some ⟨tb,q,none⟩)] w fun e w'=>e= .returned (.tuple #[])/\∃a',WP W0 w' p c {S with xs:=owX (3+5*c.th) S.xs t,T:=S.T.set k ⟨owT (3+5*c.th) S.xs t,n,F⟩,ev:=Z6u S t} a'/\a'.st<=a.st+1:=by
 obtain⟨v,hv,hI,hT,hl⟩:=h.atq hk hq htv
 obtain⟨ao,cp,rfl⟩:=Z03 hI
 obtain⟨⟨c0,c1,c2,c3,c4,c5,c6,c7,c8,c9,c10,c11,c12,c13⟩,cf,cz⟩:=h.open
 obtain⟨t0,t1,t2,t3,t4,t5,t6,t7,t8,t9,t10,t11,t12⟩:=hT.c
 have hf:=hT.f
 have tz:=hT.lt
 have cS:=fun(u:World) (hu:Below w.heap.size w u)=>Znd W0 u a.b a.g (3+5*c.th) a.st S.xs t (.slice ao n cp) n F (h.mem.below hu) (hI.below hu).its (by omega) h.st0 (by omega) hr h1 h2
 obtain⟨t',ht'⟩:∃t',owT (3+5*c.th) S.xs t=t':=⟨_,rfl⟩
 obtain⟨rk,hrk⟩:∃r,owK S.xs t=r:=⟨_,rfl⟩
 obtain⟨rv,hrv⟩:∃r,owV S.xs t=r:=⟨_,rfl⟩
 obtain⟨td,htd⟩:∃r,decide (t.i1=14)=r:=⟨_,rfl⟩
 rw[ht',hrk,hrv,htd]at cS
 rw[ht']
 unfold thV at cS
 have CS:=Hd cS
 have HN:=hi2 (Z18.tag h (h.tt tb (by rw[htv];rfl)) (by decide)) (Z18.tag h h.tp (by decide))
 have HN2:=Hd h.mem.past
 have HG:=Hd (fun(k:Nat) (e:a.g=some k)=>(h.ge k (by rw[h.tm k (.inr e.symm)];decide)).2)
 have hAS0:∀(u:World),u.cell? ⟨p,6,none⟩=some (.pointer (some ⟨a.b,0,none⟩))->TAt u tb q t (.slice ao n cp)->w.heap.size<=u.heap.size->∀wz,Below w.heap.size u wz->wz.cell? ⟨p,6,none⟩=some (.pointer (some ⟨a.b,0,none⟩))/\wz.cell? ⟨tb,q,none⟩=some (.int .i64 t.i0)/\wz.cell? ⟨tb,q+1,none⟩=some (.int .i64 t.i1)/\wz.cell? ⟨tb,q+2,none⟩=some (.int .i64 t.i2)/\wz.cell? ⟨tb,q+3,none⟩=some (.int .i64 t.i3)/\wz.cell? ⟨tb,q+4,none⟩=some (.int .i64 t.i4)/\wz.cell? ⟨tb,q+5,none⟩=some (.int .i64 t.i5)/\wz.cell? ⟨tb,q+6,none⟩=some (.int .i64 t.i6)/\wz.cell? ⟨tb,q+7,none⟩=some (.int .i64 t.i7)/\wz.cell? ⟨tb,q+8,none⟩=some (.int .i64 t.i8)/\wz.cell? ⟨tb,q+9,none⟩=some (.int .i64 t.i9)/\wz.cell? ⟨tb,q+10,none⟩=some (.int .i64 t.i10)/\wz.cell? ⟨tb,q+11,none⟩=some (.int .i64 t.i11)/\wz.cell? ⟨tb,q+12,none⟩=some (.slice ao n cp):=fun u h6 hTu hsz wz hb=>by
  have hc:=fun(b j:Nat) (hl:b<w.heap.size)=>hb.cell (p:=⟨b,j,none⟩) hl
  obtain⟨x0,x1,x2,x3,x4,x5,x6,x7,x8,x9,x10,x11,x12⟩:=hTu.c
  exact⟨(hc p 6 cz).trans h6,(hc tb _ tz).trans x0,(hc tb _ tz).trans x1,(hc tb _ tz).trans x2,(hc tb _ tz).trans x3,(hc tb _ tz).trans x4,(hc tb _ tz).trans x5,(hc tb _ tz).trans x6,(hc tb _ tz).trans x7,(hc tb _ tz).trans x8,(hc tb _ tz).trans x9,(hc tb _ tz).trans x10,(hc tb _ tz).trans x11,(hc tb _ tz).trans x12⟩
 have AS:=Hd (hAS0 w c6 hT (Nat.le_refl _))
 have AS0:=Hd hAS0
 clear hAS0
 have H:=hi7 h hT hI htv hv hl hq
 have HT:=hi5 ht' hrk hrv htd hk
 clear h hT hI htv hv hk hl hq hf cS ht' hrk hrv htd
 go_enter Tryz.func63,Tryz.ntmps63
 go_wp2_with fail
 go_cut [4,5,6]from 7 to 18 (fun a4 a5 a6 wx=>a6= .bool td/\Zpl W0 w c S a t t' n F (owX (3+5*c.th) S.xs t) rk rv a4 a5 wx)
 case first=>
  go_region_held3 (fun wz=>wz.cell? ⟨p,6,none⟩=some (.pointer (some ⟨a.b,0,none⟩))/\wz.cell? ⟨tb,q,none⟩=some (.int .i64 t.i0)/\wz.cell? ⟨tb,q+1,none⟩=some (.int .i64 t.i1)/\wz.cell? ⟨tb,q+2,none⟩=some (.int .i64 t.i2)/\wz.cell? ⟨tb,q+3,none⟩=some (.int .i64 t.i3)/\wz.cell? ⟨tb,q+4,none⟩=some (.int .i64 t.i4)/\wz.cell? ⟨tb,q+5,none⟩=some (.int .i64 t.i5)/\wz.cell? ⟨tb,q+6,none⟩=some (.int .i64 t.i6)/\wz.cell? ⟨tb,q+7,none⟩=some (.int .i64 t.i7)/\wz.cell? ⟨tb,q+8,none⟩=some (.int .i64 t.i8)/\wz.cell? ⟨tb,q+9,none⟩=some (.int .i64 t.i9)/\wz.cell? ⟨tb,q+10,none⟩=some (.int .i64 t.i10)/\wz.cell? ⟨tb,q+11,none⟩=some (.int .i64 t.i11)/\wz.cell? ⟨tb,q+12,none⟩=some (.slice ao n cp))
   (first|(exact AS6.out _ (by go_grown))|(exact AS.out _ (by go_grown)))
   ((go_at_call 76;(first|(with_reducible refine Go.Calls.mono (CS.out w.drew (by go_grown)) ?_)|(with_reducible refine Go.Calls.mono (CS.out (w.alloc (.cells #[.int .i64 0,.int .i64 0,.int .i64 0,.int .i64 0,.int .i64 0,.int .i64 0,.int .i64 0,.int .i64 0,.int .i64 0,.int .i64 0,.int .i64 0,.int .i64 0,.slice none 0 0] 86)).drew (by go_grown)) ?_)|(with_reducible refine Go.Calls.mono (CS.out (w.alloc (.cells #[.int .u8 0,.int .i32 0] 43)).drew (by go_grown)) ?_)|(with_reducible refine Go.Calls.mono (CS.out ((w.alloc (.cells #[.int .i64 0,.int .i64 0,.int .i64 0,.int .i64 0,.int .i64 0,.int .i64 0,.int .i64 0,.int .i64 0,.int .i64 0,.int .i64 0,.int .i64 0,.int .i64 0,.slice none 0 0] 86)).alloc (.cells #[.int .u8 0,.int .i32 0] 43)).drew (by go_grown)) ?_)|(with_reducible refine Go.Calls.mono (CS.out ((w.alloc (.cells #[.int .u8 0,.int .i32 0] 43)).alloc (.cells #[.int .i64 0,.int .i64 0,.int .i64 0,.int .i64 0,.int .i64 0,.int .i64 0,.int .i64 0,.int .i64 0,.int .i64 0,.int .i64 0,.int .i64 0,.int .i64 0,.slice none 0 0] 86)).drew (by go_grown)) ?_));rintro e w6 ⟨bt6,g6,rfl,m6,i6,o6,k6,e6⟩;obtain⟨ao6,cp6,rfl⟩:=Z03 i6;have K6:Z01 (Z18 a.b a.g) w w6:=Z01.trans (Z0b (by go_grown)) k6;have T6:TAt w6 tb q t (.slice ao n cp):=H.out.2.1.kept K6 HN.out.1;have AS6:=AS0.out w6 (Eq.trans (K6.cell (p:=⟨p,6,none⟩) cz HN.out.2) c6) T6 K6.size;have AS6:=Hd AS6;(try (have Bz:w6.heap[w.heap.size]?=some (.cells #[.int .i64 0,.int .i64 0,.int .i64 0,.int .i64 0,.int .i64 0,.int .i64 0,.int .i64 0,.int .i64 0,.int .i64 0,.int .i64 0,.int .i64 0,.int .i64 0,.slice none 0 0] 86 (0,0)):=Eq.trans (k6.block (w.heap.size) (by first|(simp;done)|(simp;omega)) (HN2.out _ (by omega))) (by first|exact Han _ _|exact(Z05 _ _ _).1|exact(Z05 _ _ _).2);obtain⟨⟨z0,z1,z2,z3,z4,z5,z6,z7,z8,z9,z10,z11,z12⟩,zl⟩:=Z1r Bz;have zf0:=Z06 Bz 0;have zf1:=Z06 Bz 1;have zf2:=Z06 Bz 2;have zf3:=Z06 Bz 3;have zf4:=Z06 Bz 4;have zf5:=Z06 Bz 5;have zf6:=Z06 Bz 6;have zf7:=Z06 Bz 7;have zf8:=Z06 Bz 8;have zf9:=Z06 Bz 9;have zf10:=Z06 Bz 10;have zf11:=Z06 Bz 11;have zf12:=Z06 Bz 12));(try (have By:w6.heap[w.heap.size]?=some (.cells #[.int .u8 0,.int .i32 0] 43 (0,0)):=Eq.trans (k6.block (w.heap.size) (by first|(simp;done)|(simp;omega)) (HN2.out _ (by omega))) (by first|exact Han _ _|exact(Z05 _ _ _).1|exact(Z05 _ _ _).2);obtain⟨⟨y0,y1⟩,yl⟩:=Z0g By;have yf0:=Z06 By 0;have yf1:=Z06 By 1));(try (have By:w6.heap[w.heap.size+1]?=some (.cells #[.int .u8 0,.int .i32 0] 43 (0,0)):=Eq.trans (k6.block (w.heap.size+1) (by first|(simp;done)|(simp;omega)) (HN2.out _ (by omega))) (by first|exact Han _ _|exact(Z05 _ _ _).1|exact(Z05 _ _ _).2);obtain⟨⟨y0,y1⟩,yl⟩:=Z0g By;have yf0:=Z06 By 0;have yf1:=Z06 By 1));(try (have Bz:w6.heap[w.heap.size+1]?=some (.cells #[.int .i64 0,.int .i64 0,.int .i64 0,.int .i64 0,.int .i64 0,.int .i64 0,.int .i64 0,.int .i64 0,.int .i64 0,.int .i64 0,.int .i64 0,.int .i64 0,.slice none 0 0] 86 (0,0)):=Eq.trans (k6.block (w.heap.size+1) (by first|(simp;done)|(simp;omega)) (HN2.out _ (by omega))) (by first|exact Han _ _|exact(Z05 _ _ _).1|exact(Z05 _ _ _).2);obtain⟨⟨z0,z1,z2,z3,z4,z5,z6,z7,z8,z9,z10,z11,z12⟩,zl⟩:=Z1r Bz;have zf0:=Z06 Bz 0;have zf1:=Z06 Bz 1;have zf2:=Z06 Bz 2;have zf3:=Z06 Bz 3;have zf4:=Z06 Bz 4;have zf5:=Z06 Bz 5;have zf6:=Z06 Bz 6;have zf7:=Z06 Bz 7;have zf8:=Z06 Bz 8;have zf9:=Z06 Bz 9;have zf10:=Z06 Bz 10;have zf11:=Z06 Bz 11;have zf12:=Z06 Bz 12));have zw6:w.heap.size<=w6.heap.size:=K6.size;(first|(obtain⟨us,hu1,hu2⟩:∃us,w.heap.size+1+1<=us/\us<=w.heap.size+1+1:=⟨_,Nat.le_refl _,Nat.le_refl _⟩;have u6:us<=w6.heap.size:=(by have:=k6.size;first|omega|(simp at this;omega)))|(obtain⟨us,hu1,hu2⟩:∃us,w.heap.size+1<=us/\us<=w.heap.size+1:=⟨_,Nat.le_refl _,Nat.le_refl _⟩;have u6:us<=w6.heap.size:=(by have:=k6.size;first|omega|(simp at this;omega)))|(obtain⟨us,hu1,hu2⟩:∃us,w.heap.size<=us/\us<=w.heap.size:=⟨_,Nat.le_refl _,Nat.le_refl _⟩;have u6:us<=w6.heap.size:=(by have:=k6.size;first|omega|(simp at this;omega))));have hg6:∀k,g6=some k->k<w.heap.size\/(us<=k/\k<w6.heap.size):=(fun k e=>(by rcases e6 with h|⟨j,h,hj⟩;exact .inl (HG.out k (h ▸ e));(have e3:j=k:=Option.some.inj (h.symm.trans e);have h4:=(e ▸ m6:MS W0 w6 a.b (some k) _ _ _).mem.row_lt;right;first|omega|(simp at hj;omega))));have hb6:∀k,(Value.slice ao6 n cp6).ownBlock=some k->us<=k/\k<w6.heap.size/\¬g6=some k:=(fun k e=>(by have h1:=o6 k e;have h2:=(World.ownsRow.lt i6 k e).2;refine⟨?_,h2,h1.2⟩;first|omega|(simp at h1;omega)));have e6':g6=a.g\/∃k,g6=some k/\w.heap.size<=k:=(e6.imp id (fun⟨k,h,hk⟩=>⟨k,h,(by first|omega|(simp at hk;omega))⟩));have H6:=hi6 m6 i6 hg6 hb6 e6' K6;clear T6 m6 i6 o6 k6 e6 K6 hg6 hb6 e6'))
  all_goals
   go_wp2_with fail
   go_meet
   case rel=>
    refine⟨rfl,_,_,ao6,cp6,g6,a.st+owC (3+5*c.th) S.xs t,rfl,rfl,?_,?_,?_,?_⟩
    ·refine⟨?_,?_,?_,?_,?_,?_,?_,?_,?_,?_,?_,?_,?_⟩<;>go_simp
    ·refine⟨?_,?_⟩<;>go_simp
    ·refine⟨?_,?_,?_,?_⟩<;>first|omega|(simp;done)|(simp;omega)
    ·obtain⟨m6,i6,hg6,hb6,e6,K6⟩:=H6.out
     have hW:=H.out.1.base
     have hab:=(H.out.1.ge a.b (by rw[H.out.1.tm _ (.inl rfl)];decide)).2
     have hc:=Znc (3+5*c.th) S.xs t
     have key:∀wx,Z01 (fun k=>(w.heap.size<=k/\k<us)\/w6.heap.size<=k) w6 wx->MS W0 wx a.b g6 (3+5*c.th) (owX (3+5*c.th) S.xs t) (a.st+owC (3+5*c.th) S.xs t)/\(a.st<=a.st+owC (3+5*c.th) S.xs t/\a.st+owC (3+5*c.th) S.xs t<=a.st+1)/\IRw wx (.slice ao6 n cp6) n F/\(∀k,(Value.slice ao6 n cp6).ownBlock=some k->w.heap.size<=k/\¬g6=some k)/\Z01 (Z18 a.b a.g) w wx/\(g6=a.g\/∃k,g6=some k/\w.heap.size<=k):=fun wx KX=>
      ⟨m6.kept KX (m6.B.trans (KX.below m6.B.size (fun k hk e=>by omega))) (fun e=>by omega) (fun k e e2=>by have:=hg6 k e;omega),by omega,Z04 i6 KX (fun k e e2=>by have:=hb6 k e;omega),fun k e=>⟨by have:=hb6 k e;omega,(hb6 k e).2.2⟩,K6.step KX (fun i hi e=>by omega),e6⟩
     refine key _ ?_
     clear key m6 i6 hg6 hb6 e6 K6
     repeat (first|with_reducible exact Z01.refl _ _|(with_reducible refine Z01.setCell ?_ (fun h=>by first|(left;constructor<;>first|omega|(simp;done)|(simp;omega))|(right;first|omega|(simp;done)|(simp;omega))) _)|with_reducible refine Z01.alloc ?_ _|with_reducible refine Z01.drew ?_)
 case rest=>
  obtain⟨rfl,r4,r5,ao6,cp6,g',st',rfl,rfl,C4,C5,Z,M,Bs,I6,O6,K6,G6⟩:=hcut
  have h0:=H.out.1
  have T6:=H.out.2.1.kept K6 HN.out.1
  have hO6:=h0.obj.kept K6 (fun k e=>Z18.tag h0 (h0.tob k e) (by decide))
  obtain⟨tag1,P1,hn1,hl1⟩:=h0.step M (by have:=h0.st0;omega) hO6 (K6.mono (fun _ _ e=>.inl e)) G6 (fun k e=>.inl e) (fun k e e2=>by
   rcases G6 with h|⟨j,h,hj⟩
   ·have e3:=h0.tm k (.inr (e.symm.trans h));rw[h0.tob k e2]at e3;omega
   ·have:=(h0.ge k (by rw[h0.tob k e2];decide)).2;have e3:j=k:=Option.some.inj (h.symm.trans e);omega)
  obtain⟨tag2,P2,hl2⟩:=P1.setT (k:=k) H.out.2.2.2.2.2.1 H.out.2.2.2.1 t' _ n F I6 (fun j e=>by
   have hj:=O6 j e
   refine⟨hn1 j hj.1 hj.2 (fun e2=>?_),Nat.le_trans h0.base hj.1⟩
   have:=(h0.ge j (by rw[h0.tob j e2];decide)).2;omega)
  rw[H.out.2.2.2.2.2.2]at P2
  obtain⟨x0,x1,x2,x3,x4,x5,x6,x7,x8,x9,x10,x11,x12⟩:=C4
  obtain⟨y0,y1⟩:=C5
  obtain⟨s0,s1,s2,s3,s4,s5,s6,s7,s8,s9,s10,s11,s12⟩:=T6.c
  have hf:=T6.f
  have f0:=hf q
  have f1:=hf (q+1);have f2:=hf (q+2);have f3:=hf (q+3);have f4:=hf (q+4);have f5:=hf (q+5);have f6:=hf (q+6);have f7:=hf (q+7);have f8:=hf (q+8);have f9:=hf (q+9);have f10:=hf (q+10);have f11:=hf (q+11);have f12:=hf (q+12)
  have sz:=T6.lt
  have htb:¬r5=tb:=fun e=>by have:=tz;omega
  have H2:=hi4 P2 Z htb Bs
  have htb':¬tb=r5:=fun e=>htb e.symm
  clear M Bs I6 O6 K6 G6 T6 hO6 P1 P2 hf h0 hn1 hl1 hl2
  go_upto_if 26 with fail
  obtain⟨hi0,xi3⟩:=Zcr (3+5*c.th) S.xs t
  rw[HT.out.1]at hi0 xi3
  generalize hw7:World.setCell _ _ _=w7
  have P7:WP W0 w7 p c {S with xs:=owX (3+5*c.th) S.xs t,its:=S.its,T:=S.T.set k ⟨t',n,F⟩} {a with g:=g',st:=st',cv:=a.cv,bs:=a.bs,G:=a.G,TV:=a.TV.set k (t',.slice ao6 n cp6),tag:=tag2}:=by rw[<-hw7];exact H2.out.1
  have K7:Z01 (fun j=>j=tb) wc w7:=by rw[<-hw7];exact Z1c tb (thF (t',.slice ao6 n cp6)) wc q
  obtain⟨v7,-,I7,T7,-⟩:=P7.atq (Zhg H.out.2.2.2.2.2.1 _) H.out.2.2.2.2.2.2 H.out.2.2.2.1
  have Y0:=(K7.cell (p:=⟨r5,0,none⟩) H2.out.2.1.2.2.2 H2.out.2.2.1).trans y0
  have Y1:=(K7.cell (p:=⟨r5,1,none⟩) H2.out.2.1.2.2.2 H2.out.2.2.1).trans y1
  have hr5:r5<w7.heap.size:=Nlt H2.out.2.1.2.2.2 K7.size
  have hmo:¬r5=a.mo:=fun e=>by have:=(H.out.1.ge a.mo (by rw[H.out.1.tow];decide)).2;have:=H2.out.2.1;omega
  clear hw7 K7 y0 y1 x0 x1 x2 x3 x4 x5 x6 x7 x8 x9 x10 x11 x12 s0 s1 s2 s3 s4 s5 s6 s7 s8 s9 s10 s11 s12 f0 f1 f2 f3 f4 f5 f6 f7 f8 f9 f10 f11 f12 sz c0 c1 c2 c3 c4 c5 c6 c7 c8 c9 c10 c11 c12 c13 t0 t1 t2 t3 t4 t5 t6 t7 t8 t9 t10 t11 t12 cf cz tz
  obtain⟨⟨d0,d1,d2,d3,d4,d5,d6,d7,d8,d9,d10,d11,d12,d13⟩,df,dz⟩:=P7.open
  obtain⟨m0,m1,m2,m3,m4,m5,m6,m7,m8,m9,m10,m11,m12⟩:=T7.c
  have H7:=hi6 P7 T7 Y0 Y1 hi0 xi3
  have htl:=T7.lt
  clear P7 T7 I7 Y0 Y1 hi0 xi3
  go_cut [26]from 26 to 38 (fun _ wx=>WP W0 wx p c {S with xs:=owX (3+5*c.th) S.xs t,its:=S.its,T:=S.T.set k ⟨t',n,F⟩} {a with g:=g',st:=st',cv:=a.cv,bs:=a.bs,G:=a.G,TV:=a.TV.set k (t',.slice ao6 n cp6),tag:=tag2}/\Z01 (fun j=>j=a.mo) w7 wx)
  case first=>
   by_cases hz:t'.i2=0
   ·have hb:(t'.i2 != 0)=false:=by simp[hz]
    clear hz
    go_wp2_with fail
    go_meet
    case rel=>exact⟨H7.out.1,Z01.refl _ _⟩
   ·have hb:(t'.i2 != 0)=true:=by simp[hz]
    obtain⟨w8,qm,o8,k8,-⟩:=Zka (P:=Tryz.prog) Tryz.underlying80 Tryz.underlying3 (w:=w7.drew) (H7.out.1.below (Brf _ _).drew).own t'.i2 t'.i0 (by rw[H7.out.2.2.2.2.1];exact hid.1) (by rw[H7.out.2.2.2.2.1];exact hid.2)
    have H8:=hi2 o8 k8
    clear hz o8 k8
    go_wp2_with fail
    go_region
    all_goals
     go_wp2_with fail
     go_meet
     case rel=>exact⟨(H7.out.1.below (Brf _ _).drew).setOwn H8.out.2 H8.out.1,Z01.trans (Z01.refl _ w7).drew H8.out.2⟩
  case rest=>
   obtain⟨P8,k8⟩:=hcut
   have T8:=H7.out.2.1.kept k8 (fun e=>by have h1:=H7.out.1.tow;have h2:=H7.out.1.tt tb (by show a.tv.ownBlock=_;rw[H.out.2.2.2.1];rfl);rw[<-e,h2]at h1;omega)
   have Y0:=(k8.cell (p:=⟨r5,0,none⟩) hr5 hmo).trans H7.out.2.2.1
   have Y1:=(k8.cell (p:=⟨r5,1,none⟩) hr5 hmo).trans H7.out.2.2.2.1
   have hr5:=Nlt hr5 k8.size
   clear d0 d1 d2 d3 d4 d5 d6 d7 d8 d9 d10 d11 d12 d13 df dz m0 m1 m2 m3 m4 m5 m6 m7 m8 m9 m10 m11 m12 htl
   obtain⟨⟨d0,d1,d2,d3,d4,d5,d6,d7,d8,d9,d10,d11,d12,d13⟩,df,dz⟩:=P8.open
   obtain⟨m0,m1,m2,m3,m4,m5,m6,m7,m8,m9,m10,m11,m12⟩:=T8.c
   have htl:=T8.lt
   obtain⟨po,pc,hpv⟩:=P8.pkr.shape
   obtain⟨eo,ec,hevv⟩:=P8.evr.shape
   have hpk:=P8.pkn
   dsimp only at hpv hevv hpk d10 d12
   rw[hpk]at hpv
   rw[hpv]at d12
   cases htd:td with
   |false=>
    have H8:=hi5 P8 htd hpv hevv hpk
    clear P8 T8 hpv hevv hpk htd
    go_wp2
    go_end0
    refine⟨rfl,{a with g:=g',st:=st',cv:=a.cv,bs:=a.bs,G:=a.G,TV:=a.TV.set k (t',.slice ao6 n cp6),tag:=tag2},?_,H2.out.2.2.2.2⟩
    unfold Z6u
    rw[if_neg (by have:=HT.out.2.2.2.1;rw[H8.out.2.1]at this;exact of_decide_eq_false this)]
    exact H8.out.1
   |true=>
    obtain⟨i0',hi,hz0,hz1,hz2⟩:=info_parts Tryz.infoEv
    have hpe:¬a.ev.ownBlock=some p:=fun e=>by have h1:=P8.te p e;have h2:=P8.tp;omega
    have fp:=df 10
    have H8:=hi5 P8 htd hpv hevv hpk
    have RU:=Hd (fun(u:World) (hu:Below wc.heap.size wc u)=>P8.evr.below hu)
    obtain⟨m,hm⟩:∃m,S.n=m:=⟨_,rfl⟩
    rw[hm]at d12
    have Hm:=Hd hm
    clear P8 T8 hpv hevv hpk htd df hm d0 d1 d2 d3 d4 d5 d6 d7 d8 d9 d11 d13 m1 m2 m4 m5 m6 m7 m8 m9 m10 m11 m12 AS AS0 HN2 HG CS hr
    go_wp2_with fail
    have htp:¬tb=p:=fun e=>by have h1:=H7.out.1.tt tb (by show a.tv.ownBlock=_;rw[H.out.2.2.2.1];rfl);have h2:=H7.out.1.tp;rw[e]at h1;omega
    have htp':¬p=tb:=fun e=>htp e.symm
    have hrp:¬r5=p:=fun e=>by have:=H.out.1.lt;have:=H2.out.2.1;omega
    have hrp':¬p=r5:=fun e=>hrp e.symm
    have hte:¬a.ev.ownBlock=some tb:=fun e=>by have h1:=H7.out.1.tt tb (by show a.tv.ownBlock=_;rw[H.out.2.2.2.1];rfl);have h2:=H7.out.1.te tb e;omega
    have hre:¬a.ev.ownBlock=some r5:=fun e=>by have h1:=(H.out.1.ge r5 (by rw[H.out.1.te r5 e];decide)).2;have:=H2.out.2.1;omega
    have hRS:∀u,Below wc.heap.size wc u->u.cell? ⟨tb,q,none⟩=some (.int .i64 t'.i0)/\u.cell? ⟨tb,q+3,none⟩=some (.int .i64 t'.i3)/\u.cell? ⟨r5,0,none⟩=some (.int .u8 rk)/\u.cell? ⟨r5,1,none⟩=some (.int .i32 rv)/\u.cell? ⟨p,12,none⟩=some (.slice po m pc):=fun u hu=>⟨(hu.cell (p:=⟨tb,q,none⟩) htl).trans m0,(hu.cell (p:=⟨tb,q+3,none⟩) htl).trans m3,(hu.cell (p:=⟨r5,0,none⟩) hr5).trans Y0,(hu.cell (p:=⟨r5,1,none⟩) hr5).trans Y1,(hu.cell (p:=⟨p,12,none⟩) dz).trans d12⟩
    have RS:=Hd hRS
    clear hRS
    refine wp_region_noPanic ?_
    refine wp_region_held_drew (S:=(fun wz=>wz.cell? ⟨tb,q,none⟩=some (.int .i64 t'.i0)/\wz.cell? ⟨tb,q+3,none⟩=some (.int .i64 t'.i3)/\wz.cell? ⟨r5,0,none⟩=some (.int .u8 rk)/\wz.cell? ⟨r5,1,none⟩=some (.int .i32 rv)/\wz.cell? ⟨p,12,none⟩=some (.slice po m pc))) (by kernel_rfl) (RS.out _ (Brf _ _).drew) (fun hHeld=>?_)
    have hN:NL [0,1,2,3,5,6,7,8,9,10,11,12,13,14,15,16,17,18,19]:=rfl
    repeat
     refine wpT hN (v:=?_) rfl (by kernel_rfl) (by kernel_rfl) (by kernel_rfl) (fun _ _ _ h=>h) (Or.inl ⟨by rfl,?_⟩) (by assumption) ?_
     rotate_left
     ·(intro w hSw;(try dsimp only at hSw);go_split_ands;first|(go_simp;done)|(go_simp;with_reducible rfl))
     try simp only[Act.put,List.setIfInBounds_toArray,List.set_cons_zero,List.set_cons_succ,List.getElem_toArray,List.getElem_cons_zero,List.getElem_cons_succ]
     replace hN:=hN.tl
    clear hN
    refine wpAnyH_ready (rs:= [4,20]) (by kernel_rfl) (by simp) ?_
    refine AllReadyH.cons rfl (fun K hK=>?_) ?_
    ·go_simp
     refine hK.out _ _ (by(first|(exact⟨g0,g3,gy0,gy1,g12⟩)|(refine⟨?_,?_,?_,?_,?_⟩<;>(go_simp;done))|(exact RS.out _ (by go_grown)))) (fun hHeld2=>?_)
     clear hK K hHeld
     have hHeld:=hHeld2
     clear hHeld2
     try simp only[Act.put,List.setIfInBounds_toArray,List.set_cons_zero,List.set_cons_succ,List.getElem_toArray,List.getElem_cons_zero,List.getElem_cons_succ]
     refine wpAnyH_ready (rs:= [20]) (by kernel_rfl) (by simp) ?_
     refine AllReadyH.cons rfl (fun K hK=>?_) ?_
     ·go_simp
      refine hK.out _ _ (by(first|(exact⟨g0,g3,gy0,gy1,g12⟩)|(refine⟨?_,?_,?_,?_,?_⟩<;>(go_simp;done))|(exact RS.out _ (by go_grown)))) (fun hHeld2=>?_)
      clear hK K hHeld
      have hHeld:=hHeld2
      clear hHeld2
      try simp only[Act.put,List.setIfInBounds_toArray,List.set_cons_zero,List.set_cons_succ,List.getElem_toArray,List.getElem_cons_zero,List.getElem_cons_succ]
      refine wpAnyH_ready (rs:= [21]) (by kernel_rfl) (by simp) ?_
      refine AllReadyH.cons rfl (fun K hK=>?_) ?_
      ·refine Z0q rfl _ _ 29 rfl 0 0 92 i0' (.agg #[.int .u8 0,.int .i64 0,.int .i64 0,.int .u8 0,.int .i32 0,.int .u8 0,.int .i32 0,.int .i64 0]) 8 48 Tryz.underlying29 hi hz0 hz1 hz2 rfl (by decide) _ S.ev.length _ rfl (RU.out _ (by go_grown)) _ 1 (evV ⟨2,t'.i0,t'.i3,0,0,rk,rv,(m:Int)⟩) rfl (Zcs (by first|exact Han _ _|exact Z0t _ _)) (Zan _) ?c3 ?c4 ?c5 ?_;(case c3=>unfold maxLen;omega);(case c4=>omega);(case c5=>exact Nat.zero_le _);intro v5 w5 own5 gr5 loc5;obtain⟨ao5,cap5,rfl⟩:=Z03 own5;have k5:Z01 (fun j=>a.ev.ownBlock=some j) wc w5:=(by first|exact((Z01.refl _ wc).alloc _).drew.grown gr5 (fun k e _=>e)|exact((Z01.refl _ wc).drew.alloc _).grown gr5 (fun k e _=>e));have e10:=(k5.cell (p:=⟨p,10,none⟩) dz hpe).trans d10;have ef:=(k5.frozen (p:=⟨p,10,none⟩) dz hpe).trans fp;have g0:=(k5.cell (p:=⟨tb,q,none⟩) htl hte).trans m0;have g3:=(k5.cell (p:=⟨tb,q+3,none⟩) htl hte).trans m3;have gy0:=(k5.cell (p:=⟨r5,0,none⟩) hr5 hre).trans Y0;have gy1:=(k5.cell (p:=⟨r5,1,none⟩) hr5 hre).trans Y1;have g12:=(k5.cell (p:=⟨p,12,none⟩) dz hpe).trans d12;have L5:∀j,(Value.slice ao5 (S.ev.length+1) cap5).ownBlock=some j->a.ev.ownBlock=some j\/wc.heap.size<=j:=(fun j e=>(by rcases loc5 with h|h;exact .inl (h ▸ e);(rw[e]at h;simp at h;exact .inr (by omega))));have H5:=hi3 own5 k5 L5;clear own5 gr5 loc5 k5 L5
       refine hK.out _ _ (by(first|(exact⟨g0,g3,gy0,gy1,g12⟩)|(refine⟨?_,?_,?_,?_,?_⟩<;>(go_simp;done))|(exact RS.out _ (by go_grown)))) (fun hHeld2=>?_)
       clear hK K hHeld
       have hHeld:=hHeld2
       clear hHeld2
       try simp only[Act.put,List.setIfInBounds_toArray,List.set_cons_zero,List.set_cons_succ,List.getElem_toArray,List.getElem_cons_zero,List.getElem_cons_succ]
       have hN:NL [22,23]:=rfl
       repeat
        refine wpT hN (v:=?_) rfl (by kernel_rfl) (by kernel_rfl) (by kernel_rfl) (fun _ _ _ h=>h) (Or.inl ⟨by rfl,?_⟩) (by assumption) ?_
        rotate_left
        ·(intro w hSw;(try dsimp only at hSw);go_split_ands;first|(go_simp;done)|(go_simp;with_reducible rfl))
        try simp only[Act.put,List.setIfInBounds_toArray,List.set_cons_zero,List.set_cons_succ,List.getElem_toArray,List.getElem_cons_zero,List.getElem_cons_succ]
        replace hN:=hN.tl
       clear hN
       refine wpAnyH_ready (rs:= [24]) (by kernel_rfl) (by simp) ?_
       refine AllReadyH.cons rfl (fun K hK=>?_) ?_
       ·go_simp
        refine hK.out _ _ (by(first|(exact⟨g0,g3,gy0,gy1,g12⟩)|(refine⟨?_,?_,?_,?_,?_⟩<;>(go_simp;done))|(exact RS.out _ (by go_grown)))) (fun hHeld2=>?_)
        clear hK K hHeld
        have hHeld:=hHeld2
        clear hHeld2
        try simp only[Act.put,List.setIfInBounds_toArray,List.set_cons_zero,List.set_cons_succ,List.getElem_toArray,List.getElem_cons_zero,List.getElem_cons_succ]
        refine wpAnyH_done (by kernel_rfl) ?_ _
        refine NoPanic.normal ?_
        go_wp2
        go_end0
        obtain⟨tag3,P9,-⟩:=H8.out.1.addEv _ ⟨2,t'.i0,t'.i3,0,0,rk,rv,(m:Int)⟩ (Z1q.snoc H5.out.1) H5.out.2.1 H5.out.2.2
        rw[H7.out.2.2.2.2.1,H7.out.2.2.2.2.2,<-Hm.out]at P9
        have he:Z6u S t=S.ev++ [⟨2,t.i0,t.i3,0,0,rk,rv,S.n⟩]:=by unfold Z6u;rw[if_pos (by have:=HT.out.2.2.2.1;rw[H8.out.2.1]at this;exact of_decide_eq_true this),HT.out.2.1,HT.out.2.2.1]
        rw[he]
        exact⟨rfl,_,P9,H2.out.2.2.2.2⟩
       exact AllReadyH.nil
      exact AllReadyH.nil
     exact AllReadyH.nil
    refine AllReadyH.cons rfl (fun K hK=>?_) ?_
    ·go_simp
     refine hK.out _ _ (by(first|(exact⟨g0,g3,gy0,gy1,g12⟩)|(refine⟨?_,?_,?_,?_,?_⟩<;>(go_simp;done))|(exact RS.out _ (by go_grown)))) (fun hHeld2=>?_)
     clear hK K hHeld
     have hHeld:=hHeld2
     clear hHeld2
     try simp only[Act.put,List.setIfInBounds_toArray,List.set_cons_zero,List.set_cons_succ,List.getElem_toArray,List.getElem_cons_zero,List.getElem_cons_succ]
     refine wpAnyH_ready (rs:= [4]) (by kernel_rfl) (by simp) ?_
     refine AllReadyH.cons rfl (fun K hK=>?_) ?_
     ·go_simp
      refine hK.out _ _ (by(first|(exact⟨g0,g3,gy0,gy1,g12⟩)|(refine⟨?_,?_,?_,?_,?_⟩<;>(go_simp;done))|(exact RS.out _ (by go_grown)))) (fun hHeld2=>?_)
      clear hK K hHeld
      have hHeld:=hHeld2
      clear hHeld2
      try simp only[Act.put,List.setIfInBounds_toArray,List.set_cons_zero,List.set_cons_succ,List.getElem_toArray,List.getElem_cons_zero,List.getElem_cons_succ]
      refine wpAnyH_ready (rs:= [21]) (by kernel_rfl) (by simp) ?_
      refine AllReadyH.cons rfl (fun K hK=>?_) ?_
      ·refine Z0q rfl _ _ 29 rfl 0 0 92 i0' (.agg #[.int .u8 0,.int .i64 0,.int .i64 0,.int .u8 0,.int .i32 0,.int .u8 0,.int .i32 0,.int .i64 0]) 8 48 Tryz.underlying29 hi hz0 hz1 hz2 rfl (by decide) _ S.ev.length _ rfl (RU.out _ (by go_grown)) _ 1 (evV ⟨2,t'.i0,t'.i3,0,0,rk,rv,(m:Int)⟩) rfl (Zcs (by first|exact Han _ _|exact Z0t _ _)) (Zan _) ?c3 ?c4 ?c5 ?_;(case c3=>unfold maxLen;omega);(case c4=>omega);(case c5=>exact Nat.zero_le _);intro v5 w5 own5 gr5 loc5;obtain⟨ao5,cap5,rfl⟩:=Z03 own5;have k5:Z01 (fun j=>a.ev.ownBlock=some j) wc w5:=(by first|exact((Z01.refl _ wc).alloc _).drew.grown gr5 (fun k e _=>e)|exact((Z01.refl _ wc).drew.alloc _).grown gr5 (fun k e _=>e));have e10:=(k5.cell (p:=⟨p,10,none⟩) dz hpe).trans d10;have ef:=(k5.frozen (p:=⟨p,10,none⟩) dz hpe).trans fp;have g0:=(k5.cell (p:=⟨tb,q,none⟩) htl hte).trans m0;have g3:=(k5.cell (p:=⟨tb,q+3,none⟩) htl hte).trans m3;have gy0:=(k5.cell (p:=⟨r5,0,none⟩) hr5 hre).trans Y0;have gy1:=(k5.cell (p:=⟨r5,1,none⟩) hr5 hre).trans Y1;have g12:=(k5.cell (p:=⟨p,12,none⟩) dz hpe).trans d12;have L5:∀j,(Value.slice ao5 (S.ev.length+1) cap5).ownBlock=some j->a.ev.ownBlock=some j\/wc.heap.size<=j:=(fun j e=>(by rcases loc5 with h|h;exact .inl (h ▸ e);(rw[e]at h;simp at h;exact .inr (by omega))));have H5:=hi3 own5 k5 L5;clear own5 gr5 loc5 k5 L5
       refine hK.out _ _ (by(first|(exact⟨g0,g3,gy0,gy1,g12⟩)|(refine⟨?_,?_,?_,?_,?_⟩<;>(go_simp;done))|(exact RS.out _ (by go_grown)))) (fun hHeld2=>?_)
       clear hK K hHeld
       have hHeld:=hHeld2
       clear hHeld2
       try simp only[Act.put,List.setIfInBounds_toArray,List.set_cons_zero,List.set_cons_succ,List.getElem_toArray,List.getElem_cons_zero,List.getElem_cons_succ]
       have hN:NL [22,23]:=rfl
       repeat
        refine wpT hN (v:=?_) rfl (by kernel_rfl) (by kernel_rfl) (by kernel_rfl) (fun _ _ _ h=>h) (Or.inl ⟨by rfl,?_⟩) (by assumption) ?_
        rotate_left
        ·(intro w hSw;(try dsimp only at hSw);go_split_ands;first|(go_simp;done)|(go_simp;with_reducible rfl))
        try simp only[Act.put,List.setIfInBounds_toArray,List.set_cons_zero,List.set_cons_succ,List.getElem_toArray,List.getElem_cons_zero,List.getElem_cons_succ]
        replace hN:=hN.tl
       clear hN
       refine wpAnyH_ready (rs:= [24]) (by kernel_rfl) (by simp) ?_
       refine AllReadyH.cons rfl (fun K hK=>?_) ?_
       ·go_simp
        refine hK.out _ _ (by(first|(exact⟨g0,g3,gy0,gy1,g12⟩)|(refine⟨?_,?_,?_,?_,?_⟩<;>(go_simp;done))|(exact RS.out _ (by go_grown)))) (fun hHeld2=>?_)
        clear hK K hHeld
        have hHeld:=hHeld2
        clear hHeld2
        try simp only[Act.put,List.setIfInBounds_toArray,List.set_cons_zero,List.set_cons_succ,List.getElem_toArray,List.getElem_cons_zero,List.getElem_cons_succ]
        refine wpAnyH_done (by kernel_rfl) ?_ _
        refine NoPanic.normal ?_
        go_wp2
        go_end0
        obtain⟨tag3,P9,-⟩:=H8.out.1.addEv _ ⟨2,t'.i0,t'.i3,0,0,rk,rv,(m:Int)⟩ (Z1q.snoc H5.out.1) H5.out.2.1 H5.out.2.2
        rw[H7.out.2.2.2.2.1,H7.out.2.2.2.2.2,<-Hm.out]at P9
        have he:Z6u S t=S.ev++ [⟨2,t.i0,t.i3,0,0,rk,rv,S.n⟩]:=by unfold Z6u;rw[if_pos (by have:=HT.out.2.2.2.1;rw[H8.out.2.1]at this;exact of_decide_eq_true this),HT.out.2.1,HT.out.2.2.1]
        rw[he]
        exact⟨rfl,_,P9,H2.out.2.2.2.2⟩
       exact AllReadyH.nil
      exact AllReadyH.nil
     exact AllReadyH.nil
    exact AllReadyH.nil
section
variable {W0 w:World} {p:Nat} {c:Cfg} {S:WM} {a:WA}
theorem Zhp (h:WP W0 w p c S a) (k:Int) (hk:k<0\/(S.T.length:Int)<=k) (hpn:S.n<=900000):
 Calls Tryz.prog 34 #[.pointer (some ⟨p,0,none⟩),.int .i64 k] w fun e w'=>e= .returned (.bool false)/\∃a',WP W0 w' p c {S with n:=S.n+1} a'/\a'.st=a.st:=by
 have cT:∀u,Below w.heap.size w u->Calls Tryz.prog 60 #[.pointer (some ⟨p,0,none⟩),.int .i64 k] u fun e w'=>e= .returned (.pointer none)/\Below u.heap.size u w':=fun u hu=>by
  by_cases h0:k<0
  ·exact Zal (h.below hu) k h0
  ·exact Zam (h.below hu) k (by omega) (by omega)
 have CT:=Hd cT
 have H:=Hd h
 clear cT hk h
 go_enter Tryz.func34,Tryz.ntmps34
 go_wp2_with fail
 refine(CT.out _ (by go_grown)).mono ?_
 rintro e wc ⟨rfl,hb1⟩
 have hP:=H.out.below hb1
 obtain⟨⟨c0,c1,c2,c3,c4,c5,c6,c7,c8,c9,c10,c11,c12,c13⟩,cf,cz⟩:=hP.open
 obtain⟨po,pc,hpv⟩:=hP.pkr.shape
 have hpk:=hP.pkn
 rw[hpk]at hpv
 obtain⟨m,hm⟩:∃m,S.n=m:=⟨_,rfl⟩
 have hm9:m<=900000:=by omega
 rw[hm]at hpv
 rw[hpv]at c12
 obtain⟨i0',hi,hz0,hz1,hz2⟩:=info_parts Tryz.infoIntM
 have fp:=cf 12
 have RU:=Hd (fun(u:World) (hu:Below wc.heap.size wc u)=>hP.pkr.below hu)
 have hpp:¬a.pv.ownBlock=some p:=fun e=>by have h1:=hP.tpk p e;have h2:=hP.tp;omega
 have hlen:a.pk.length=m:=hpk.trans hm
 rw[hpv]at hpp RU
 have hlen9:a.pk.length<=900000:=by omega
 have HP:=hi2 hP hpv
 clear hP hpv hpk hm hlen cf hb1 c0 c1 c2 c3 c4 c5 c6 c7 c8 c9 c10 c11 c13
 go_wp2_with (at_builtin;refine Z0c _ rfl _ _ 33 rfl 0 0 3 i0' (.int .i64 0) 1 8 Tryz.underlying33 hi hz0 hz1 hz2 rfl (by decide) _ _ _ rfl (RU.out _ (by go_grown)) _ 1 _ rfl (Z3e (vs:= [(-1:Int)]) (Han _ _) rfl (by omega)) (fun v hv=>(by obtain⟨q,_,rfl⟩:=List.mem_map.1 hv;rfl)) ?c3 ?c4 ?c5 ?_)
 case c3=>unfold maxLen;omega
 case c4=>omega
 case c5=>exact Nat.zero_le _
 intro v5 w5 own5 gr5 _ loc5
 obtain⟨ao5,cap5,rfl⟩:=Z03 own5
 have R5:Z1j w5 (.slice ao5 (a.pk.length+1) cap5) (a.pk++ [(-1:Int)]):=Z1j.of own5 (by simp) (by simp)
 have K5:Z01 (fun j=>(Value.slice po m pc).ownBlock=some j) wc w5:=((Z01.refl _ wc).alloc _).grown gr5 (fun k e _=>e)
 have L5:∀j,(Value.slice ao5 (a.pk.length+1) cap5).ownBlock=some j->(Value.slice po m pc).ownBlock=some j\/wc.heap.size<=j:=fun j e=>by
  rcases loc5 with h|h
  ·exact .inl (h ▸ e)
  ·rw[e]at h;simp at h;exact .inr (by omega)
 have e12:=(K5.cell (p:=⟨p,12,none⟩) cz hpp).trans c12
 have ef:=(K5.frozen (p:=⟨p,12,none⟩) cz hpp).trans fp
 have H5:=hi3 R5 K5 L5
 clear own5 gr5 loc5 R5 K5 L5 c12 fp RU
 go_wp2
 go_ret
 obtain⟨R5,K5,L5⟩:=H5.out
 obtain⟨hP,hpv⟩:=HP.out
 obtain⟨tag9,P9,-⟩:=hP.addPk _ (-1:Int) R5 (by rw[hpv];exact K5) (by rw[hpv];exact L5)
 exact⟨rfl,_,P9,rfl⟩
theorem Ze4 (h:WP W0 w p c S a) (k n:Nat) (t:Th) (F:Nat->Int) (hk:S.T[k]?=some ⟨t,n,F⟩) (h0:t.i1=0) (hpn:S.n<=900000):
 Calls Tryz.prog 34 #[.pointer (some ⟨p,0,none⟩),.int .i64 (k:Int)] w fun e w'=>e= .returned (.bool false)/\∃a',WP W0 w' p c {S with n:=S.n+1} a'/\a'.st=a.st:=by
 obtain⟨hl,he⟩:=List.getElem?_eq_some_iff.1 hk
 obtain⟨tb,cap,v0,htv,-,-,-,-⟩:=h.at_ hl
 obtain⟨q,hq⟩:∃q,k*13=q:=⟨_,rfl⟩
 obtain⟨v,hv2,hI,hT,-⟩:=h.atq hk hq htv
 obtain⟨ao,cp,rfl⟩:=Z03 hI
 have hi1:(t.i1 == 0)=true:=by simp[h0]
 have H:=hi5 h hT htv hl hq
 clear h hT hI hv2 htv hl hq hk he v0 h0
 go_enter Tryz.func34,Tryz.ntmps34
 go_wp2_with fail
 refine(Z6t H.out.1 (k:Int) tb cap k rfl H.out.2.2.2.1 H.out.2.2.1).mono ?_
 rintro e wc ⟨rfl,hb1⟩
 rw[H.out.2.2.2.2]
 have T1:=H.out.2.1.below hb1
 have t1:=T1.c.2.1
 have tz:=T1.lt
 have hP:=H.out.1.below hb1
 clear T1
 obtain⟨⟨c0,c1,c2,c3,c4,c5,c6,c7,c8,c9,c10,c11,c12,c13⟩,cf,cz⟩:=hP.open
 obtain⟨po,pc,hpv⟩:=hP.pkr.shape
 have hpk:=hP.pkn
 rw[hpk]at hpv
 obtain⟨m,hm⟩:∃m,S.n=m:=⟨_,rfl⟩
 have hm9:m<=900000:=by omega
 rw[hm]at hpv
 rw[hpv]at c12
 obtain⟨i0',hi,hz0,hz1,hz2⟩:=info_parts Tryz.infoIntM
 have fp:=cf 12
 have RU:=Hd (fun(u:World) (hu:Below wc.heap.size wc u)=>hP.pkr.below hu)
 have hpp:¬a.pv.ownBlock=some p:=fun e=>by have h1:=hP.tpk p e;have h2:=hP.tp;omega
 have hlen:a.pk.length=m:=hpk.trans hm
 rw[hpv]at hpp RU
 have hlen9:a.pk.length<=900000:=by omega
 have HP:=hi2 hP hpv
 clear hP hpv hpk hm hlen cf hb1 c0 c1 c2 c3 c4 c5 c6 c7 c8 c9 c10 c11 c13
 go_wp2_with (at_builtin;refine Z0c _ rfl _ _ 33 rfl 0 0 3 i0' (.int .i64 0) 1 8 Tryz.underlying33 hi hz0 hz1 hz2 rfl (by decide) _ _ _ rfl (RU.out _ (by go_grown)) _ 1 _ rfl (Z3e (vs:= [(-1:Int)]) (Han _ _) rfl (by omega)) (fun v hv=>(by obtain⟨q,_,rfl⟩:=List.mem_map.1 hv;rfl)) ?c3 ?c4 ?c5 ?_)
 case c3=>unfold maxLen;omega
 case c4=>omega
 case c5=>exact Nat.zero_le _
 intro v5 w5 own5 gr5 _ loc5
 obtain⟨ao5,cap5,rfl⟩:=Z03 own5
 have R5:Z1j w5 (.slice ao5 (a.pk.length+1) cap5) (a.pk++ [(-1:Int)]):=Z1j.of own5 (by simp) (by simp)
 have K5:Z01 (fun j=>(Value.slice po m pc).ownBlock=some j) wc w5:=((Z01.refl _ wc).alloc _).grown gr5 (fun k e _=>e)
 have L5:∀j,(Value.slice ao5 (a.pk.length+1) cap5).ownBlock=some j->(Value.slice po m pc).ownBlock=some j\/wc.heap.size<=j:=fun j e=>by
  rcases loc5 with h|h
  ·exact .inl (h ▸ e)
  ·rw[e]at h;simp at h;exact .inr (by omega)
 have e12:=(K5.cell (p:=⟨p,12,none⟩) cz hpp).trans c12
 have ef:=(K5.frozen (p:=⟨p,12,none⟩) cz hpp).trans fp
 have H5:=hi3 R5 K5 L5
 clear own5 gr5 loc5 R5 K5 L5 c12 fp RU
 go_wp2
 go_ret
 obtain⟨R5,K5,L5⟩:=H5.out
 obtain⟨hP,hpv⟩:=HP.out
 obtain⟨tag9,P9,-⟩:=hP.addPk _ (-1:Int) R5 (by rw[hpv];exact K5) (by rw[hpv];exact L5)
 exact⟨rfl,_,P9,rfl⟩
end
end
end Go.Proofs.YtihljjgmkaeohaaGreat
