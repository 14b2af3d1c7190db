import Derived.Test.YtcimojgkeoecfaaGreatKav
set_option linter.all false
set_option maxHeartbeats 16000000
set_option maxRecDepth 100000
namespace Go.Proofs.YtcimojgkeoecfaaGreat
open Go.RowKit Tryz
theorem agi{G:Prop}(h:G:=by
 go_quiet (fail);go_wp2_with fail;go_meet;exact⟨by rw[e],U.below (abx (Below.refl _ _) nq)⟩):G:=h
theorem agU{G:Prop}(h:G:=by
 clear W3;go_quiet ((go_at_call 23;exact Calls.quiet_of_same (STP.out _ (abx UL.out _))));go_wp2_with fail;go_meet;exact⟨by rw[e],U.below (abx (Below.refl _ _) nq)⟩):G:=h
theorem ahb{G:Prop}(h:G:=by
 go_quiet (fail);replace U:=U.below (abx (Below.refl _ _) nq);go_wp2_with fail;go_roundw
 case rel=>exact⟨j+1,by omega,by go_num,U.c6.c6.c6⟩
 case measure=>simp[intOf];omega):G:=h
abbrev VD(a py9 c pz9 gs:Nat)(cy9 b:List Value)(vy9 vz9:Value)(s:h9)(v:VV):List PL:= [⟨c,87,b⟩,⟨pz9,83,[vz9]⟩,⟨a,87,cy9⟩,⟨py9,83,[vy9]⟩,⟨gs,32,gy s.p v⟩]
theorem roX{d w:World}{L1 L:List PL}{afu:Nat->Prop}(hb: ∀x,x∈L1->ah d x.g x.t x.cs.toArray)(h:Bx d (bq none L1) w none L)(i: ∀x,x∈L1->x∈L\/afu x.g):Z1 (λb=> ¬afu b) d w:=
 ⟨h.Wu.os,h.Wu.tape,h.Wu.output,h.Wu.size,λb j f=>by
   by_cases c: ∃y,y∈L1/\y.g=b
   ·obtain⟨y,hy,rfl⟩:=c
    exact(show w.heap[y.g]? =_ from h.bC y ((i y hy).resolve_right f)).trans (show d.heap[y.g]? =_ from hb y hy).symm
   ·exact h.Wu.block b j ⟨λy hy e=>c ⟨y,hy,e⟩,λa e=>by cases e⟩⟩
theorem Tm9.Wu{w0 g w w':World}{K e d k:Nat}{B:WB}{v:VV}{s:h9}{W:Wd}{O:Nat->List Zr}{f:Nat->Option Nat}{afu:Nat->Prop}(h:Tm9 w0 g w K e d B v s W O f k)(c:Z1 (λb=> ¬afu b) w w')(a: ∀b,afu b->e<=b/\b<d):Tm9 w0 g w' K e d B v s W O f k:=by
 have t:=h.VL;exact⟨⟨t.wd.keep c (λb _ hm x=>(h.nf99 b (a b x).1 (a b x).2).1 hm) (λb hm x=>(h.nf99 b (a b x).1 (a b x).2).2 hm),t.inv,t.op,t.bE,t.Wh,t.n,t.ZS,λb hm=>⟨(t.mu b hm).1,aj (t.mu b hm).2 c.size⟩,t.xV,t.sc,
  ⟨c.os.trans t.Wu.os,c.tape.trans t.Wu.tape,c.output.trans t.Wu.output,D t.Wu.size c.size,λb hb i=>(c.block b (aj hb t.Wu.size) (λx=>by have:=h.le;have:=a b x;omega)).trans (t.Wu.block b hb i)⟩,t.Xf⟩,h.nf99,h.le.1,h.le.2.1,D h.le.2.2 c.size⟩
theorem ahs{w0:World}{B:WB}{p:PO}{F:b1}{n:Nat}{W:Wd}(h:df w0 B p F n W):
 Calls prog 23 #[.pointer (some ⟨B.O3,0,none⟩)] w0 λe w'=>e= .returned (.int .i64 W.n)/\w'=w0:=by
 have a:w0.cell? ⟨B.O3,9,none⟩=some (.int .i64 W.n):=by rw[h.wd.cell];rfl
 clear h;go_enter func23,ntmps23;go_wp2_with fail;go_ret;exact⟨rfl,rfl⟩
theorem aha{x:Int}(a:aR x)(h:dr x)(w:World):Calls prog 18 #[.int .u64 x] w λy w'=>y= .returned (.tuple #[.agg #[.int .i64 (VA x),.int .i64 (UP x),.int .i64 (WR x)],.int .i64 0])/\Below w.heap.size w w':=
 agr x w a (by unfold dr VA UP WR at h;unfold jB Y5 cC VH;omega)
theorem ag4(CX: ∀w,Calls prog 8 #[] w λe w'=>e= .returned (.bool true)/\Below w.heap.size w w')(w0:World)(Ck:Nat->Prop)(UX:Value)(n:Nat)(f:Nat->Int)(hb:KC w0 Ck UX n 1 λi=> [.int .u8 (f i)])(UA:e0 f)(U4:n<=maxLen):
 Calls prog 6 #[UX] w0 λe w'=>e= .returned (.bool true)/\Below w0.heap.size w0 w':=by
 obtain⟨s,YF⟩: ∃s,j9 f (min n 400)=s:=⟨_,rfl⟩
 have ok:=sN UA (min n 400);rw[YF]at ok;have Cp:=I (show∀w',Below w0.heap.size w0 w'->_ from λw' kr=>J5 w' Ck UX n f (hb.below (w':=w') kr) UA U4 s YF);have F:=I ok;have QO:=I CX;have U:=Bx.a0 w0;clear hb UA U4 YF ok CX;go_enter func6,ntmps6;go_wp2_with fail;refine Calls.mono (QO.out _) ?_;rintro e EH ⟨rfl,N⟩;replace U:=U.below N;clear N;go_wp2_with fail;refine Calls.mono (Cp.out _ U.all) ?_;rintro e WW ⟨B,v,rfl,vR,⟨K,Yg,Bv,QP,gS⟩,be⟩;have bz:=U.size;have fu:=U.below be;have c5:=fu.size;have Hf:=KC.one Yg.cF;have UL:=I (And.intro vR (And.intro Yg (And.intro Bv (And.intro (D bz QP) λb hb=>And.intro (D bz (gS b hb).1) (gS b hb).2))));clear U be vR Yg Bv QP gS bz c5;have U:=fu.base;simp only[gy];go_upto_region 5 with(first|(refine Hv U (ds:= [.int .i64 s.p.s,.int .i64 s.p.t,.int .i64 s.p.i,.int .i64 s.p.h,.slice (some ⟨v.U1,0,none⟩) 8 v.U6,.slice (some ⟨v.L8,0,none⟩) s.p.t.toNat v.VY,v.TK]) (m:=7) rfl (by simp[Hf];(repeat' constructor)) ?_;clear U;intro w U)|(refine aq ?_)|(refine VP U jj ?_;clear U;intro fk w U lb))
 have C:=fu.back U;have fC:=vp (L1:= []) (λx h=>by cases h) U (λx h=>by cases h);obtain⟨vR,Yg,Bv,Ei,gS⟩:=UL.out;have QQ:=(C.b (g:=fk) cX).lt;have tg:=I (show K<=w.heap.size/\w0.heap.size<=K/\K<=fk/\fk<w.heap.size from⟨D Bv fC.size,Ei,D Bv lb,QQ⟩);obtain⟨UY,jT⟩: ∃UY:WB,({B with Yi:=λb=>b<w.heap.size}:WB)=UY:=⟨_,rfl⟩
 have YQ:=I (show dw w0 w w K UY v s (l2 s.p s.bj) (λ_=> []) (λ_=>none) 0/\UY.O3=B.O3/\∀b,UY.Yi b->b<w.heap.size from jT▸⟨⟨(vR.below fC).fr _ (λb hb _=>hb),Inv.init F.out.p (zT F.out) (rU F.out.p) (λt _ c XP=>(F.out.c t).2 c XP),vK.init,rr.init,lJ.init,rfl,λi=>by show(s.bj i).length<=_;have:=(F.out.c i).1;omega,λb hb=>⟨(gS b hb).1,aj (gS b hb).2 (D Bv fC.size)⟩,λb h1 _ hm=>by have:=(gS b hm).2;omega,Yg.below fC,Z1.refl _ _,⟨0,0,0,vL.init,J⟩⟩,rfl,λb hb=>hb⟩);have Ak:=I C;clear fu U vR Yg Bv Ei gS QQ fC UL Cp QO C jT;obtain⟨O3,aaw⟩: ∃x,B.O3=x:=⟨_,rfl⟩
 have NF:=I (YQ.out.2.1.trans aaw);rw[aaw];clear aaw;generalize w=WA at*;have Av:=I (show∀w',_ from λw'=>ahr w' F.out.p (rU F.out.p));have U:=Ak.out.base;go_upto_region 6 with(first|(refine Ww U ?_)|(go_at_call 21;refine Calls.mono (Av.out _) ?_;rintro e Ef ⟨R,M,L,rfl,⟨AH,Al,Cu⟩,⟨Ev,aeS⟩,Cv,Aw,B0,N⟩;have B3:=U.size;replace U:=U.ahk N Al aeS.head Cv Aw B0;clear Al N aeS))
 go_upto_region 7 with(first|(refine Ww U ?_)|(go_at_call 21;refine Calls.mono (Av.out _) ?_;rintro e AQ ⟨T,P,WC,rfl,⟨AI,Al,D9⟩,⟨Ex,aeS⟩,DC,B5,BG,N⟩;have afd:=U.size;replace U:=U.ahk N Al aeS.head DC B5 BG;clear Al N aeS))
 have Ut:=Ak.out.back U;have fC:=vp Ak.out.bC U (λx h=>.tail _ (.tail _ (.tail _ (.tail _ h))));have r2:=I (show(WA.heap.size<=T/\T<AQ.heap.size)/\(WA.heap.size<=P/\P<AQ.heap.size)/\(WA.heap.size<=R/\R<AQ.heap.size)/\(WA.heap.size<=M/\M<AQ.heap.size)from
  ⟨⟨D afd B5,(U.b (g:=T) cX).lt⟩,⟨D afd BG,(U.b (g:=P) kw).lt⟩,⟨D B3 Aw,(U.b (g:=R) r3).lt⟩,⟨D B3 B0,(U.b (g:=M) N6).lt⟩⟩)
 have Wm:=I (show Tm9 w0 WA AQ K WA.heap.size AQ.heap.size UY v s (l2 s.p s.bj) (λ_=> []) (λ_=>none) 0 from⟨YQ.out.1.below fC,λb h1 Tw=>⟨λhm=>by have:=(YQ.out.1.mu b hm).2;omega,λUA=>by have:=YQ.out.2.2 b UA;omega⟩,tg.out.1,ai _,ai _⟩);have Zn:=I Ut;have ada:=I Cu;have Da:=I D9;obtain⟨Tv,aX⟩: ∃x,WA.heap.size=x:=⟨_,rfl⟩
 obtain⟨Tt,jN⟩: ∃x,AQ.heap.size=x:=⟨_,rfl⟩
 rw[aX,jN]at r2 Wm;clear U Ut fC afd B3 B5 BG Aw B0 DC Cv Cu D9 Av Ak YQ aX jN;go_wp2_with fail;go_loopw [8] (λi wr=> ∃(k:Nat) (B:WB) (W:Wd) (O:Nat->List Zr) (VM:Nat->Option Nat) (BJ BK:Value),k<=240/\i= .int .i64 k/\B.O3=O3/\Bx w0 (λ_=>True) wr none (VD R M T P fk AH AI BJ BK s v)/\Tm9 w0 WA wr K Tv Tt B v s W O VM k/\agW s.p W O VM) (λi _=>241-(intOf i).toNat)
 case atStart=>exact⟨0,UY,_,_,_,_,_,J,rfl,NF.out,Zn.out,Wm.out,agW.init⟩
 case round=>
  obtain⟨k,B,W,O,VM,BJ,BK,TS,rfl,aaw,C,l,Db⟩:=hrel;have U:=C.base;rw[<-aaw];clear Zn Wm NF;cases V1:xM W s.p.t.toNat s.cp k with
  |true=>
   have Xn:=I (show∀w',Below wr.heap.size wr w'->Calls prog 14 #[.pointer (some ⟨B.O3,0,none⟩),.agg (gy s.p v).toArray,.int .i64 k] w' λe du=>e= .returned (.bool true)/\Below w'.heap.size w' du from λw' hb=>V1▸B2 w' B s.p _ _ W (l.VL.wd.below hb) (λi _=>l.VL.ZS i) v s K (l.VL.CY.below hb) F.out rfl k J);simp only[gy]at Xn;clear V1 l TS aaw;go_wp2_with(first|(refine Ww U ?_)|(go_at_call 14;refine a6 U (Xn.out _ (vp C.bC U (λ_ h=>h))) ?_;clear U;intro EH U));go_ret;exact⟨rfl,(C.back U).all⟩
  |false=>
   have Xn:=I (show∀w',Below wr.heap.size wr w'->Calls prog 14 #[.pointer (some ⟨B.O3,0,none⟩),.agg (gy s.p v).toArray,.int .i64 k] w' λe du=>e= .returned (.bool false)/\Below w'.heap.size w' du from λw' hb=>V1▸B2 w' B s.p _ _ W (l.VL.wd.below hb) (λi _=>l.VL.ZS i) v s K (l.VL.CY.below hb) F.out rfl k J);simp only[gy]at Xn;have NG:=V1;unfold xM at NG;simp only[Bool.or_eq_false_iff,decide_eq_false_iff_not]at NG;obtain⟨t,Vg⟩: ∃t:Nat,iv W s.p.t.toNat s.cp k=t:=⟨(iv W s.p.t.toNat s.cp k).toNat,J⟩
   have jN:k<240:=J;have ST:=I (show∀w',Below wr.heap.size wr w'->_ from λw' hb=>((l.below hb).step F.out jN t Vg tg.out.2.1).2.2);simp only[gy]at ST;obtain⟨h7,gf,-⟩:=l.step F.out jN t Vg tg.out.2.1;have QT:=I (And.intro l.VL.inv gf);have Dc:=I h7;have NF:=I aaw;have BR:=I l.VL.n;have fV:=I l.VL.op;have De:=I Db;have WH:=I l.le;clear V1 NG Vg l TS aaw h7 gf Db;go_upto_region 10 with(first|(refine aq ?_)|(go_at_call 14;refine a6 U (Xn.out _ (vp C.bC U (λ_ h=>h))) ?_;clear U;intro EH U))
   go_wp2_with(first|(refine aq ?_));have Df:=I (D WH.out.2.2 U.size);refine Calls.mono (ST.out _ (vp C.bC U (λ_ h=>h))) ?_;rintro e EH ⟨B',d1,d2,o,u,O',dk,rfl,HL,fx,hu,Ut,QU,QN,aX⟩;have J7:=C.back U;have ir:Bx w0 (λ_=>True) EH none (VD R M T P fk AH AI BJ BK s v):=J7.after aX (λb hb=>.inl hb) (λx H=>by
    have UD:K<=x.g/\x.g<WA.heap.size\/Tv<=x.g/\x.g<Tt:=by
     have h1:=r2.out;have Tw:=tg.out;simp only[ad,E,av]at H;rcases H with rfl|rfl|rfl|rfl|rfl
     ·exact .inr h1.1
     ·exact .inr h1.2.1
     ·exact .inr h1.2.2.1
     ·exact .inr h1.2.2.2
     ·exact .inl ⟨Tw.2.2.1,Tw.2.2.2⟩
    exact⟨(aX.block _ (J7.bC x H).lt (.inr UD)).trans (J7.bC x H),by have:=tg.out;have:=WH.out;omega⟩) J7.UH
   have xo:=I QU;have yT:=I (De.out.bI QT.out.1 fV.out Dc.out QT.out.2 (by have:=BR.out;omega) Ut);have E8:=I (fun(o':db) ZQ Un BW dU YM=>ahv De.out QT.out.1 fV.out Dc.out QT.out.2 (by have:=BR.out;omega) Ut (o:=o') ZQ Un BW dU YM);have one:=vo (d1:=d1) (d2:=d2) HL.one fx.one t o (KC.one hu);have L1:=I HL.len;have L2:=I fx.len;obtain⟨nL,afc,rfl,-,-,-⟩:=id hu;obtain⟨F1,F2,F3,UR,X3⟩:=HL;obtain⟨F5,F6,F7,UN,UV⟩:=fx;obtain⟨W9,WJ,rfl,-⟩:=id X3.ws;obtain⟨G,r,rfl,-⟩:=id UV.ws;have Dh:=I X3.ws;have Dk:=I UV.ws;have E9:=I (show(i9 d1 d2 t o (.slice nL o.aC.said.length afc))[0]? =some (.slice W9 (e5 s.p) WJ)from agm L1.out (by rw[UR];rfl));have EB:=I (show(i9 d1 d2 t o (.slice nL o.aC.said.length afc))[54]? =some (.slice G (e5 s.p) r)from agL (i:=0) L1.out L2.out (by rw[UN];rfl));have Ds:=I (fun(s' j:Nat) (YF:s'<8) (OV:j<4) (x:Value) (H:(B4 (WO (bI s.p (bX s) (e5 s.p) W t) s.p.s.toNat s'))[j]? =some x)=>show(i9 d1 d2 t o (.slice nL o.aC.said.length afc))[54+(1+s'*4+j)]? =some x from agL L1.out L2.out (by rw[UN,ahj YF OV];exact H));have EC:=I (qW L1.out L2.out t o (.slice nL o.aC.said.length afc));clear U C J7 aX QU Ut hu ST Xn UR X3 UN UV L1 L2;generalize i9 d1 d2 t o (.slice nL o.aC.said.length afc)=AK at*;have U:=ir.base;go_upto_region 13 with(first|(refine Hv U (ds:=AK) (m:=124) EC.out one ?_;clear U;intro w U)|(refine VP U yf ?_;clear U;intro Bw w U QR))
   replace U:=U.drew;refine wp_region_held_drew (S:=c0 [⟨Bw,67,AK⟩,⟨R,87,AH⟩]) aM (U.bG aN) (λX=>?_);refine az [[0,1,2]] ?_;refine RC 3 ?_ (hv:=ada.out);refine az [[4,5]] ?_;refine RC 6 ?_ (hv:=E9.out);refine az [[7,8],[9]] ?_;clear U;intro w U;go_upto_region 14 with fail
   replace U:=U.drew;refine wp_region_held_drew (S:=c0 [⟨Bw,67,AK⟩,⟨T,87,AI⟩]) aM (U.bG aN) (λX=>?_);refine az [[0,1,2]] ?_;refine RC 3 ?_ (hv:=Da.out);refine az [[4,5]] ?_;refine RC 6 ?_ (hv:=EB.out);refine az [[7,8],[9]] ?_;clear U;intro w U;have At:=roX (afu:=λb=>b=M\/b=P) ir.bC U (λx H=>by
    simp only[ad,E,av]at H;rcases H with rfl|rfl|rfl|rfl|rfl
    ·exact .inl (.tail _ (.head _))
    ·exact .inr (.inr rfl)
    ·exact .inl (.tail _ (.tail _ (.tail _ (.head _))))
    ·exact .inr (.inl rfl)
    ·exact .inl (.tail _ (.tail _ (.tail _ (.tail _ (.tail _ (.head _)))))))
   have AL:=I (xo.out.Wu At (λb hb=>by
    have h1:=r2.out;rcases hb with rfl|rfl
    ·exact h1.2.2.2
    ·exact h1.2.1))
   have Bh: ∀b,Tt<=b->¬(b=M\/b=P):=λb hb H=>by
    have h1:=r2.out;rcases H with rfl|rfl<;>omega
   have Bi:=I (show isZ w M (e5 s.p) W.V from⟨⟨_,U.cell Rq rfl,(Dh.out.Wu (At.mono λb _ hb=>Bh b (D Df.out hb))).mono λ_ _ _=>trivial⟩,by have:=QT.out.1.ZU;have:=QT.out.1.pl.s;have:=QT.out.1.pl.i;have:=QT.out.1.pl.h;omega⟩);have Dt:=I (show isZ w P (e5 s.p) (bI s.p (bX s) (e5 s.p) W t).V from⟨⟨_,U.cell r3 rfl,(Dk.out.Wu (At.mono λb _ hb=>Bh b (D Df.out hb))).mono λ_ _ _=>trivial⟩,Bi.out.cE⟩);have fu:=ir.back U;have Ta:=I (show∀w',Below w.heap.size w w'->Calls prog 22 #[.pointer (some ⟨B.O3,0,none⟩)] w' λe du=> ∃v US,e= .returned v/\US.map Prod.fst=(bI s.p (bX s) (e5 s.p) W t).ops/\(∀q,q∈US->cF du (λb=>w'.heap.size<=b) q.2 q.1.aC.said)/\KC du (λb=>w'.heap.size<=b) v US.length 14 (ll US)/\Below w'.heap.size w' du from λw' hb=>QN▸BT w' B' s.p (bX s) (e5 s.p) (bI s.p (bX s) (e5 s.p) W t) (AL.out.VL.wd.below hb) (by have:=AL.out.VL.op.len;have:=AL.out.VL.n;omega) (λo ZQ=>by have:=AL.out.VL.Wh o ZQ;have:=AL.out.VL.n;omega));clear U At Bh Dh Dk;have U:=fu.base;go_upto_region 16 with(go_at_call 22;refine Calls.mono (Ta.out _ (vp fu.bC U λ_ h=>h)) ?_;rintro e w3 ⟨F8,US,rfl,n9,-,hv,N⟩;replace U:=U.below N;clear N)
   obtain⟨F9,ZS,rfl,-,-,bT⟩:=hv;obtain⟨m,hm⟩: ∃m,US.length=m:=⟨_,rfl⟩
   have FD:m<=65536:=by
    have h1:=AL.out.VL.op.len;have Tw:=AL.out.VL.n;rw[<-n9,bJ,hm]at h1;omega
   rw[hm]at bT⊢;have Wm:=I hm;have adc:=I n9;have vi:=I bT;have fB:=vp fu.bC U (λ_ h=>h);have Bj:=I (AL.out.below fB);have EI:=I (Bi.out.below fB);have aa4:=I (Dt.out.below fB);have qX:=fu.back U;have STP:=I (show∀w',Below w3.heap.size w3 w'->Calls prog 23 #[.pointer (some ⟨B.O3,0,none⟩)] w' λe du=>e= .returned (.int .i64 ((k:Int)+1))/\du=w' from λw' hb=>by
    have h:=ahs (Bj.out.VL.wd.below hb);rw[QN,Bj.out.VL.n]at h;exact h)
   have EM:=I QN;clear U hm n9 bT fB AL Bi Dt Ta QN;have Dy:=I qX.base;go_wp2_with fail;go_loopw [12] (λi ZT=> ∃j:Nat,j<=m/\i= .int .i64 j/\Bx w3 (bq none (⟨Bw,67,AK⟩::VD R M T P fk AH AI (.slice W9 (e5 s.p) WJ) (.slice G (e5 s.p) r) s v)) ZT none (⟨Bw,67,AK⟩::VD R M T P fk AH AI (.slice W9 (e5 s.p) WJ) (.slice G (e5 s.p) r) s v)) (λi _=>m-(intOf i).toNat)
   case atStart=>exact⟨0,J,rfl,Dy.out⟩
   case round=>
    obtain⟨j,OV,rfl,U⟩:=hrel;clear Dy;by_cases bV:j<m
    ·obtain⟨⟨o,u⟩,VX⟩: ∃q,US[j]? =some q:=⟨_,an (by rw[Wm.out];exact bV)⟩
     have Ak:=I (show o∈(bI s.p (bX s) (e5 s.p) W t).ops by rw[<-adc.out];exact List.mem_map.2 ⟨_,bf VX,rfl⟩);obtain⟨Dz,lo,rfl,-,mm,aef⟩:=vi.out (Nat.lt_of_le_of_lt (aL j) bV);have UL:=I (vp qX.bC U (λ_ h=>h));have YT:=I (show∀w',Below w3.heap.size w3 w'->∀i v,(dN o u)[i]? =some v->w'.cell? ⟨Dz,lo+j*14+i,none⟩=some v from λw' Yq i v hv=>(Yq.cell (p:=⟨Dz,lo+j*14+i,none⟩) mm).trans (by
      have:=aef j i v bV (by rw[Hg VX];exact hv);rwa[show lo+(j*14+i)=lo+j*14+i by omega]at this))
     have XP:=YT.out _ UL.out;have q1:=XP 1 _ rfl;have ae8:=XP 10 _ rfl;have ae9:=XP 11 _ rfl;have WU:(j:Int)<(m:Int):=J;have tV:(0:Int)<=(j:Int):=J;have FK:IntKind.i64.wrap ((k:Int)+1-1)=(k:Int):=by rw[IntKind.wrap_i64];omega
     obtain⟨WC,E0⟩: ∃y,(!decide (o.call.op=7)||(decide (o.e2<0)||(!decide (o.aC.code=0)||decide (o.e2=(k:Int)))))=y:=⟨_,rfl⟩
     have AX:=I E0;clear E0 XP aef VX;go_upto_region 19 with fail
     go_cut [114]from 80 to 113 (λz Ae=>z= .bool WC/\Bx w3 (bq none (⟨Bw,67,AK⟩::VD R M T P fk AH AI (.slice W9 (e5 s.p) WJ) (.slice G (e5 s.p) r) s v)) Ae none (⟨Bw,67,AK⟩::VD R M T P fk AH AI (.slice W9 (e5 s.p) WJ) (.slice G (e5 s.p) r) s v))
     case first=>
      as_aux_lemma=>
       by_cases Vt:o.call.op=7
       ·have Bk:(o.call.op !=7)=false:=by simpa using Vt
        have EN:=I Vt;clear Vt;by_cases Y6:o.e2<0
        ·have afq:decide (o.e2<0)=true:=by simpa using Y6
         have e:WC=true:=by rw[<-AX.out];simp[Y6]
         exact agi
        ·have afq:decide (o.e2<0)=false:=by simpa using Y6
         by_cases UI:o.aC.code=0
         ·have EX:(o.aC.code !=0)=false:=by simpa using UI
          have EY:=I UI;clear UI;by_cases W3:o.e2=(k:Int)
          ·have EZ:(o.e2==(k:Int))=true:=by simpa using W3
           have e:WC=true:=by rw[<-AX.out];simp[W3]
           exact agU
          ·have EZ:(o.e2==(k:Int))=false:=by simpa using W3
           have e:WC=false:=by rw[<-AX.out];simp[Y6,W3,EN.out,EY.out]
           exact agU
         ·have EX:(o.aC.code !=0)=true:=by simpa using UI
          have e:WC=true:=by rw[<-AX.out];simp[UI]
          clear UI;exact agi
       ·have Bk:(o.call.op !=7)=true:=by simpa using Vt
        have e:WC=true:=by rw[<-AX.out];simp[Vt]
        clear Vt;exact agi
     case rest=>
      obtain⟨rfl,U⟩:=hcut;clear q1 ae8 ae9 UL;cases UW:WC with
      |true=>
       go_wp2_with fail;go_roundw
       case rel=>exact⟨j+1,J,by go_num,U⟩
       case measure=>simp[intOf];omega
      |false=>
       have H:=AX.out;rw[UW]at H;simp only[Bool.or_eq_false_iff,Bool.not_eq_false',decide_eq_true_eq,decide_eq_false_iff_not]at H;obtain⟨Un,BW,YM,dU⟩:=H;obtain⟨sc,dQ,Bn,E1,AU,x0⟩:=E8.out o Ak.out Un J (by rw[BR.out];exact dU) YM;have fb:=QT.out.1.pl.s;have E2:sc<8:=J;have E3:=I (λw'=>E1▸aha (x:=o.aC.n) (by have:=dQ.UK Bn;unfold aR;omega) dQ w');have afj:IntKind.u64.wrap o.aC.n=o.aC.n:=by rw[IntKind.wrap_u64];have:=dQ.UK Bn;omega
       have Bo:=I x0;have hc:=I (And.intro dQ AU);have FL:=I Un;obtain⟨A,il⟩: ∃y,UP o.aC.n=y:=⟨_,rfl⟩
       obtain⟨Br,Bt⟩: ∃y,WR o.aC.n=y:=⟨_,rfl⟩
       rw[il,Bt]at E3 Bo;have Eb:=I (And.intro il Bt);have Rk:=I fb;clear il Bt Un BW YM dU dQ Bn E1 AU x0 fb UW AX;have Ec:=YT.out _ (vp qX.bC U (λ_ h=>h)) 12 _ rfl;go_upto_region 21 with(first|(refine VP U EQ ?_;clear U;intro gr w U Bq)|(refine Po U ?_;clear U;intro w U)|(go_at_call 18;refine Calls.mono (E3.out _) ?_;rintro e afj ⟨rfl,N⟩;replace U:=U.below N;clear N))
       obtain⟨An,adZ⟩: ∃y,(Wi (bI s.p (bX s) (e5 s.p) W t).V sc).T5=y:=⟨_,rfl⟩
       obtain⟨Aq,C0⟩: ∃y,(Wi (bI s.p (bX s) (e5 s.p) W t).V sc).st=y:=⟨_,rfl⟩
       have CA:WO (bI s.p (bX s) (e5 s.p) W t) s.p.s.toNat sc=Wi (bI s.p (bX s) (e5 s.p) W t).V sc:=by unfold WO;rw[Z (by have:=hc.out.2;omega)]
       have Tm:=U.cell (i:=55+sc*4+3) kw (by have h:=Ds.out sc 3 E2 am (.int .i64 An) (by rw[CA,<-adZ];rfl);rwa[show 54+(1+sc*4+3)=55+sc*4+3 by omega]at h);have lF:=U.cell (i:=55+sc*4) kw (by have h:=Ds.out sc 0 E2 am (.int .i64 Aq) (by rw[CA,<-C0];rfl);rwa[show 54+(1+sc*4+0)=55+sc*4 by omega]at h);have Ed:=U.cell (i:=0) cX rfl;have Ee:=U.cell (i:=1) cX rfl;have Ua:=U.cell (i:=0) Ru rfl;rw[adZ,C0]at Bo;have FM:(sc:Int)<8:=J;have E6:(0:Int)<=(sc:Int):=J;have Wg:decide ((sc:Int)≥s.p.s)=false:=by have:=hc.out.2;simpa using this
       obtain⟨hb,E7⟩: ∃y,(!decide (An=A)|| !decide (Aq=2))=y:=⟨_,rfl⟩
       have Ar:=I E7;clear E7 CA adZ C0;go_cut [157]from 126 to 156 (λz Ae=>z= .bool hb/\Bx w3 (bq none (⟨Bw,67,AK⟩::VD R M T P fk AH AI (.slice W9 (e5 s.p) WJ) (.slice G (e5 s.p) r) s v)) Ae none (⟨gr,75,[.int .i64 sc,.int .i64 A,.int .i64 Br]⟩::⟨Bw,67,AK⟩::VD R M T P fk AH AI (.slice W9 (e5 s.p) WJ) (.slice G (e5 s.p) r) s v))
       case first=>
        as_aux_lemma=>
         by_cases Vt:An=A
         ·have Bk:(An !=A)=false:=by simpa using Vt
          by_cases Y6:Aq=2
          ·have afq:(Aq !=2)=false:=by simpa using Y6
           have e:hb=false:=by rw[<-Ar.out];simp[Vt,Y6]
           clear Vt Y6;exact agi
          ·have afq:(Aq !=2)=true:=by simpa using Y6
           have e:hb=true:=by rw[<-Ar.out];simp[Y6]
           clear Vt Y6;exact agi
         ·have Bk:(An !=A)=true:=by simpa using Vt
          have e:hb=true:=by rw[<-Ar.out];simp[Vt]
          clear Vt;exact agi
       case rest=>
        obtain⟨rfl,U⟩:=hcut;clear Tm lF Ed Ee Ua;cases UW:hb with
        |true=>
         go_wp2_with fail;go_roundw
         case rel=>exact⟨j+1,J,by go_num,U.c6⟩
         case measure=>simp[intOf];omega
        |false=>
         have H:=Ar.out;rw[UW]at H;simp only[Bool.or_eq_false_iff,Bool.not_eq_false',decide_eq_true_eq]at H;obtain⟨b,ok,ba,CG,XI,vP,Xr,Zv,WP,Yv⟩:=Bo.out H.1 H.2;have il:0<=A/\A<=16777215:=by rw[<-Eb.out.1];have:=hc.out.1;unfold dr at this;exact⟨this.2.2.1,this.2.2.2.1⟩
         have CN:=I (show∀w',Below w3.heap.size w3 w'->_ from λw' hb=>CG▸XI▸ahu (EI.out.below hb) ok ⟨E6,J⟩ il ba.symm vP Xr Zv);have CO:=I (show∀w',Below w3.heap.size w3 w'->_ from λw' hb=>CG▸XI▸ahu (aa4.out.below hb) ok ⟨E6,J⟩ il ba.symm vP WP Yv);obtain⟨z,Ub⟩: ∃z:Int,(b.z:Int)=z:=⟨_,rfl⟩
         obtain⟨d,hd⟩: ∃d,b.d=d:=⟨_,rfl⟩
         rw[Ub,hd]at CN CO;clear H ok ba CG XI vP Xr Zv WP Yv il Ub hd UW Ar;go_upto_region 22 with fail
         go_cut [15,16]from 158 to 167 (λYX f Ae=> ∃L,YX= .pointer (some ⟨L,0,none⟩)/\f= .int .i64 0/\Bx w3 (bq none (⟨Bw,67,AK⟩::VD R M T P fk AH AI (.slice W9 (e5 s.p) WJ) (.slice G (e5 s.p) r) s v)) Ae none (⟨L,91,[.int .i64 z,.int .i64 o.call.a,.int .i64 o.call.c,.bool d,.int .i64 sc,.int .i64 A]⟩::⟨gr,75,[.int .i64 sc,.int .i64 A,.int .i64 Br]⟩::⟨Bw,67,AK⟩::VD R M T P fk AH AI (.slice W9 (e5 s.p) WJ) (.slice G (e5 s.p) r) s v))
         case first=>
          as_aux_lemma=>
           replace U:=U.drew;refine b0 ?_;intro X;refine az [[0,1,2]] ?_;refine RC 3 ?_ (hv:=ada.out);refine az [[4,5]] ?_;refine Zj [6,10] ?_;refine ea (λK Q=>?_) ?_
           ·go_simp
            (go_at_call 24;refine Calls.mono (CN.out _ (vp qX.bC U (λ_ h=>.tail _ h))) ?_;rintro e afj ⟨rfl,N⟩;replace U:=U.below N;clear N)
            go_wp2_with fail;refine WE Q ?_;clear Q K;intro X;refine az [[7,8,9],[10,11],[12]] ?_;clear U;intro L NP w U;go_wp2_with fail;go_meet;exact⟨L,rfl,rfl,U⟩
           ·refine ei (λK Q=>?_);refine ZZ U gW ?_;clear U;intro L w U NP;refine WE Q ?_;clear Q K;intro X;refine Yt (λK Q=>?_);go_simp
            (go_at_call 24;refine Calls.mono (CN.out _ (vp qX.bC U (λ_ h=>.tail _ (.tail _ h)))) ?_;rintro e afj ⟨rfl,N⟩;replace U:=U.below N;clear N)
            go_wp2_with fail;refine WE Q ?_;clear Q K;intro X;refine az [[7,8,9],[11],[12]] ?_;clear U;intro w U;go_wp2_with fail;go_meet;exact⟨L,rfl,rfl,U⟩
         case rest=>
          obtain⟨L,rfl,rfl,U⟩:=hcut;go_upto_region 23 with fail
          go_cut [17,18]from 168 to 177 (λYX f Ae=> ∃gc,YX= .pointer (some ⟨gc,0,none⟩)/\f= .int .i64 0/\Bx w3 (bq none (⟨Bw,67,AK⟩::VD R M T P fk AH AI (.slice W9 (e5 s.p) WJ) (.slice G (e5 s.p) r) s v)) Ae none (⟨gc,91,[.int .i64 z,.int .i64 o.call.a,.int .i64 o.call.c,.bool d,.int .i64 sc,.int .i64 A]⟩::⟨L,91,[.int .i64 z,.int .i64 o.call.a,.int .i64 o.call.c,.bool d,.int .i64 sc,.int .i64 A]⟩::⟨gr,75,[.int .i64 sc,.int .i64 A,.int .i64 Br]⟩::⟨Bw,67,AK⟩::VD R M T P fk AH AI (.slice W9 (e5 s.p) WJ) (.slice G (e5 s.p) r) s v))
          case first=>
           as_aux_lemma=>
            replace U:=U.drew;refine b0 ?_;intro X;refine az [[0,1,2]] ?_;refine RC 3 ?_ (hv:=Da.out);refine az [[4,5]] ?_;refine Zj [6,10] ?_;refine ea (λK Q=>?_) ?_
            ·go_simp
             (go_at_call 24;refine Calls.mono (CO.out _ (vp qX.bC U (λ_ h=>.tail _ (.tail _ h)))) ?_;rintro e afj ⟨rfl,N⟩;replace U:=U.below N;clear N)
             go_wp2_with fail;refine WE Q ?_;clear Q K;intro X;refine az [[7,8,9],[10,11],[12]] ?_;clear U;intro gc NP w U;go_wp2_with fail;go_meet;exact⟨gc,rfl,rfl,U⟩
            ·refine ei (λK Q=>?_);refine ZZ U gW ?_;clear U;intro gc w U NP;refine WE Q ?_;clear Q K;intro X;refine Yt (λK Q=>?_);go_simp
             (go_at_call 24;refine Calls.mono (CO.out _ (vp qX.bC U (λ_ h=>.tail _ (.tail _ (.tail _ h))))) ?_;rintro e afj ⟨rfl,N⟩;replace U:=U.below N;clear N)
             go_wp2_with fail;refine WE Q ?_;clear Q K;intro X;refine az [[7,8,9],[11],[12]] ?_;clear U;intro w U;go_wp2_with fail;go_meet;exact⟨gc,rfl,rfl,U⟩
          case rest=>
           obtain⟨gc,rfl,rfl,U⟩:=hcut;go_upto_region 26 with(first|(refine aq ?_)|(refine Po U ?_;clear U;intro w U))
           have VI:=U.cell (i:=0) cX rfl;have WJ:=U.cell (i:=1) cX rfl;have r:=U.cell (i:=2) cX rfl;have XO:=U.cell (i:=3) cX rfl;have tf:=U.cell (i:=4) cX rfl;have VU:=U.cell (i:=5) cX rfl;have X0:=U.cell (i:=0) kw rfl;have YN:=U.cell (i:=1) kw rfl;have XW:=U.cell (i:=2) kw rfl;have ZA:=U.cell (i:=3) kw rfl;have FR:=U.cell (i:=4) kw rfl;have XQ:=U.cell (i:=5) kw rfl;have V4:=U.cell (i:=0) r3 rfl;have Yd:=U.cell (i:=1) r3 rfl;have ZX:=YT.out _ (vp qX.bC U (λ_ h=>.tail _ (.tail _ (.tail _ h)))) 5 _ rfl;have Xw:=YT.out _ (vp qX.bC U (λ_ h=>.tail _ (.tail _ (.tail _ h)))) 7 _ rfl;clear Ec;cases d
           ·as_aux_lemma=>
             exact ahb
           ·as_aux_lemma=>
             exact ahb
    ·obtain rfl:m=j:=by omega
     have WU: ¬(m:Int)<(m:Int):=J;go_wp2_with fail;go_roundw
     case rel=>exact⟨k+1,B',_,O',dk,_,_,J,by go_num,EM.out,(qX.back U).c6,Bj.out.below (vp qX.bC U λ_ h=>h),yT.out⟩
     case measure=>simp[intOf];omega
end Go.Proofs.YtcimojgkeoecfaaGreat
