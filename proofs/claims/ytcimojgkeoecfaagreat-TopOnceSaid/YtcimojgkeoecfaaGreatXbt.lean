import Derived.Test.YtcimojgkeoecfaaGreatXbs
set_option linter.all false
set_option maxHeartbeats 16000000
set_option maxRecDepth 100000
namespace Go.Proofs.YtcimojgkeoecfaaGreat
open Go.RowKit Tryz
theorem qw{G:Prop}(h:G:=by
 clear mQ h0 dJ fb en hop gD hm iF p2 adH aal abF acL NE ek acA;go_wp2_with((go_at_call 26;refine Calls.mono (JY _ (fun b=>K<=b) _ (bX s) v.af9 (xo.out.CY.eF.below (vp ir.bC U fun _ h=>ao _ h)) c aer.out (by rw[gd];exact ai _)) ?_;rintro e aaM ⟨A9,ab4,rfl,rfl⟩;rw[aey.out]));exact ja):G:=h
theorem pC{G:Prop}(h:G:=by
 rw[acL,Int.natCast_zero,cI]at mQ;rw[acL]at h0;have YT:=I mQ;have zS:acP<=(k+1:Nat):=by omega
 have Zc:IntKind.i64.wrap (8*aei)=8*aei:=by rw[IntKind.wrap_i64];omega
 have Vt:decide (aei>acP)=false:=by simp;omega
 have Y6:decide (Wh>8*aei)=false:=by simp;omega
 have QK: ¬acP<aei:=by omega
 have QL: ¬8*aei<Wh:=by omega
 have QM:wrap64 (8*aei)=8*aei:=by unfold wrap64;omega
 clear mQ h0 dJ fb en hop gD hm iF p2 adH aal abF acL NE ek acA;clear aaX;go_wp2_with(fail);exact ja):G:=h
theorem ja{G:Prop}(h:G:=by
 go_roundw
 case rel=>exact⟨k+1,_,_,_,B',_,O',dk,by omega,rfl,rfl,rfl,by go_num,QN,(ir.back U).c6,xo.out.below (vp ir.bC U fun _ h=>ao _ h),YT.out,zS⟩
 case measure=>simp[intOf];omega):G:=h
theorem Eh{d1 d2:List Value}(h1:d1.length=54)(aaV:d2.length=54)(t:Int)(o:db)(u:Value)(j:Nat):(i9 d1 d2 t o u)[108+j]? =(Value.int .i64 t::(dN o u++ [.bool (decide (0<=o.e2))]))[j]? :=by
 unfold i9;rw[ay J,ay J];congr 1;omega
theorem zT{s:h9}(ok:hV s):tN (bX s):=by
 refine⟨by rw[gd];exact ai _,fun l YJ=>?_⟩;obtain⟨i,hi⟩:=bZ YJ;obtain⟨_,rfl⟩:=kT hi;refine⟨(ok.f i).1,fun o ZQ=>?_⟩;have h:=(ok.f i).2 o ZQ;have h1:=h.op;have aaV:=h.a;have ZV:=h.b;exact⟨h1,J,J⟩
theorem xP{s:h9}(ok:hV s): ∀l,l∈bX s->l.length<=8/\∀o,o∈l->lv o:=fun l YJ=>by
 obtain⟨i,hi⟩:=bZ YJ;obtain⟨_,rfl⟩:=kT hi;exact ok.f i
theorem Bu(aai: ∀w,Calls prog 8 #[] w fun e w'=>e= .returned (.bool true)/\Below w.heap.size w w')(w0:World)(ado:Nat->Prop)(aak:Value)(n:Nat)(f:Nat->Int)(hb:acr w0 ado aak n 1 fun i=> [.int .u8 (f i)])(acA:e0 f)(abi:n<=maxLen):
 Calls prog 7 #[aak] w0 fun e w'=>e= .returned (.bool true)/\Below w0.heap.size w0 w':=by
 obtain⟨s,YF⟩: ∃s,j9 f (min n 400)=s:=⟨_,rfl⟩
 have ok:=sN acA (min n 400);rw[YF]at ok;have aeM:=I (show∀w',Below w0.heap.size w0 w'->_ from fun w' kr=>J5 w' ado aak n f (hb.below (w':=w') kr) acA abi s YF);have acq:=I ok;have QO:=I aai;have U:=aah.a0 w0;clear hb acA abi YF ok aai;go_enter func7,ntmps7;go_wp2_with fail;refine Calls.mono (QO.out _) ?_;rintro e aaM ⟨rfl,N⟩;replace U:=U.below N;clear N;go_wp2_with fail;refine Calls.mono (aeM.out _ U.all) ?_;rintro e WW ⟨B,v,rfl,ae9,⟨K,Yg,Bv,QP,gS⟩,be⟩;have bz:=U.size;have fu:=U.below be;have c5:=fu.size;have Hf:=acr.one Yg.cF;have aav:=I (And.intro ae9 (And.intro Yg (And.intro Bv (And.intro (D bz QP) fun b hb=>And.intro (D bz (gS b hb).1) (gS b hb).2))));have ZL:=I (show∀w',Below WW.heap.size WW w'->_ from fun w' hb=>Bs w' (fun b=>K<=b) _ (bX s) v.af9 (Yg.below hb).eF (by rw[gd];exact ai _) (xP acq.out));clear U be ae9 Yg Bv QP gS bz c5;have U:=fu.base;simp only[gy];go_upto_region 5 with(first|(refine Hv U (ds:= [.int .i64 s.p.s,.int .i64 s.p.t,.int .i64 s.p.i,.int .i64 s.p.h,.slice (some ⟨v.aca,0,none⟩) 8 v.acR,.slice (some ⟨v.aff,0,none⟩) s.p.t.toNat v.VY,v.afa]) (m:=7) rfl (by simp[Hf];(repeat' constructor)) ?_;clear U;intro w U)|(go_at_call 25;refine Calls.mono (ZL.out _ (vp (L1:= []) (fun x h=>by cases h) U (fun x h=>by cases h))) ?_;rintro e WA ⟨rfl,N⟩;replace U:=U.below N;clear N)|(refine aq ?_)|(refine VP U jj ?_;clear U;intro fk w U lb))
 have aaH:=fu.back U;have fC:=vp (L1:= []) (fun x h=>by cases h) U (fun x h=>by cases h);obtain⟨ae9,Yg,Bv,Ei,gS⟩:=aav.out;have QQ:=(aaH.b (g:=fk) cX).lt;have aaR:=I (show K<=WA.heap.size/\w0.heap.size<=K/\K<=fk/\fk<WA.heap.size from⟨D Bv fC.size,Ei,D Bv lb,QQ⟩);have YQ:=I (show aeS w0 WA WA K B v s (l2 s.p s.bj) (fun _=> []) (fun _=>none) 0 from⟨ae9.below fC,Inv.init acq.out.p (zT acq.out) (rU acq.out.p) (fun t _ c XP=>(acq.out.c t).2 c XP),vK.init,rr.init,lJ.init,rfl,fun i=>by show(s.bj i).length<=_;have:=(acq.out.c i).1;omega,fun b hb=>⟨(gS b hb).1,aj (gS b hb).2 (D Bv fC.size)⟩,fun b h1 _ hm=>by have:=(gS b hm).2;omega,Yg.below fC,Z1.refl _ _,⟨0,0,0,vL.init,J⟩⟩);have acf:=I aaH;clear fu U ae9 Yg Bv Ei gS QQ fC aav ZL aeM QO aaH;obtain⟨aeh,mb⟩: ∃x,B.aeh=x:=⟨_,rfl⟩
 have NF:=I mb;rw[mb];clear mb;go_wp2_with fail;go_loopw [6,7,8,9] (fun a b c i wr=> ∃(k:Nat) (aei acP Wh:Int) (B:WB) (W:Wd) (O:Nat->List Zr) (VM:Nat->Option Nat),k<=240/\a= .int .i64 Wh/\b= .int .i64 aei/\c= .int .i64 acP/\i= .int .i64 k/\B.aeh=aeh/\aah w0 (fun _=>True) wr none [⟨fk,32,[.int .i64 s.p.s,.int .i64 s.p.t,.int .i64 s.p.i,.int .i64 s.p.h,.slice (some ⟨v.aca,0,none⟩) 8 v.acR,.slice (some ⟨v.aff,0,none⟩) s.p.t.toNat v.VY,v.afa]⟩]/\aeS w0 WA wr K B v s W O VM k/\vL s.p (bX s) W O aei acP Wh/\acP<=k) (fun a b c i _=>241-(intOf i).toNat)
 case atStart=>exact⟨0,0,0,0,B,_,_,_,J,rfl,rfl,rfl,rfl,NF.out,acf.out,YQ.out,vL.init,J⟩
 case round=>
  obtain⟨k,aei,acP,Wh,B,W,O,VM,ae3,rfl,rfl,rfl,rfl,mb,aaH,aen,VG,ek⟩:=hrel;have U:=aaH.base;rw[<-mb];clear acf YQ NF;cases V1:xM W s.p.t.toNat s.cp k with
  |true=>
   have Xn:=I (show∀w',Below wr.heap.size wr w'->Calls prog 14 #[.pointer (some ⟨B.aeh,0,none⟩),.agg ([.int .i64 s.p.s,.int .i64 s.p.t,.int .i64 s.p.i,.int .i64 s.p.h,.slice (some ⟨v.aca,0,none⟩) 8 v.acR,.slice (some ⟨v.aff,0,none⟩) s.p.t.toNat v.VY,v.afa]).toArray,.int .i64 k] w' fun e du=>e= .returned (.bool true)/\Below w'.heap.size w' du from fun w' hb=>V1▸B2 w' B s.p _ _ W (aen.wd.below hb) (fun i _=>aen.ZS i) v s K (aen.CY.below hb) acq.out rfl k J);clear V1 aen VG ek ae3 mb;go_wp2_with(first|(go_at_call 14;refine a6 U (Xn.out _ (vp aaH.bC U (fun _ h=>h))) ?_;clear U;intro aaM U)|(refine aq ?_)|(refine VP U jj ?_;clear U;intro fk w U lb)|(refine VP U yf ?_;clear U;intro Bw w U QR)|(refine ac2 U ?_;clear U;intro w U));go_ret;exact⟨rfl,(aaH.back U).all⟩
  |false=>
   have Xn:=I (show∀w',Below wr.heap.size wr w'->Calls prog 14 #[.pointer (some ⟨B.aeh,0,none⟩),.agg ([.int .i64 s.p.s,.int .i64 s.p.t,.int .i64 s.p.i,.int .i64 s.p.h,.slice (some ⟨v.aca,0,none⟩) 8 v.acR,.slice (some ⟨v.aff,0,none⟩) s.p.t.toNat v.VY,v.afa]).toArray,.int .i64 k] w' fun e du=>e= .returned (.bool false)/\Below w'.heap.size w' du from fun w' hb=>V1▸B2 w' B s.p _ _ W (aen.wd.below hb) (fun i _=>aen.ZS i) v s K (aen.CY.below hb) acq.out rfl k J);have NG:=V1;unfold xM at NG;simp only[Bool.or_eq_false_iff,decide_eq_false_iff_not]at NG;obtain⟨t,afq⟩: ∃t:Nat,iv W s.p.t.toNat s.cp k=t:=⟨(iv W s.p.t.toNat s.cp k).toNat,J⟩
   have jN:k<240:=J;obtain⟨QS,Ei,dP,qS⟩:=aaR.out;have ST:=I (show∀w',Below wr.heap.size wr w'->_ from fun w' hb=>((aen.below hb).step acq.out jN t afq QS Ei (D aen.Wu.size hb.size)).2.2);simp only[gy]at ST;obtain⟨h7,gf,-⟩:=aen.step acq.out jN t afq QS Ei aen.Wu.size;have QT:=I (And.intro aen.inv gf);have NF:=I mb;clear V1 NG afq aen ae3 mb;go_upto_region 11 with(first|(go_at_call 14;refine a6 U (Xn.out _ (vp aaH.bC U (fun _ h=>h))) ?_;clear U;intro aaM U)|(refine aq ?_))
   go_wp2_with(first|(refine aq ?_));refine Calls.mono (ST.out _ (vp aaH.bC U (fun _ h=>h))) ?_;rintro e aaM ⟨B',d1,d2,o,u,O',dk,rfl,HL,fx,hu,mY,en,zU,Aw,adu,QU,QN,aX⟩;have J7:=aaH.back U;have ir:aah w0 (fun _=>True) aaM none [⟨fk,32,[.int .i64 s.p.s,.int .i64 s.p.t,.int .i64 s.p.i,.int .i64 s.p.h,.slice (some ⟨v.aca,0,none⟩) 8 v.acR,.slice (some ⟨v.aff,0,none⟩) s.p.t.toNat v.VY,v.afa]⟩]:=J7.after aX (fun b hb=>.inl hb) (fun x Wy=>by
    rw[List.mem_singleton]at Wy;subst Wy;exact⟨(aX.block _ (J7.b cX).lt (.inr ⟨dP,qS⟩)).trans (J7.b cX),D Ei dP⟩) aN
   have xo:=I QU;have L1:=I HL.len;have L2:=I fx.len;have one:=vo (d1:=d1) (d2:=d2) HL.one fx.one t o (acr.one hu);obtain⟨aaA,afc,rfl,-,-,-⟩:=id hu;clear U aaH J7 aX QU HL fx Xn ST mY;have U:=ir.base;go_upto_region 12 with(first|(refine Hv U (ds:=i9 d1 d2 t o (.slice aaA o.aC.said.length afc)) (m:=124) (qW L1.out L2.out t o _) one ?_;clear U;intro w U)|(refine VP U yf ?_;clear U;intro Bw w U QR))
   have q:=Eh L1.out L2.out t o (.slice aaA o.aC.said.length afc);obtain⟨fZ,gf⟩:=QT.out;have mQ:=VG.bI fZ h7 gf adu;have fc:cG o.call:=by
    have S:=fZ.h4 h7 gf;have aew:=S.inv.acg t h7 S.busy;rw[em]at aew;rw[en,(fZ.p9 h7 gf).call];exact aew.call
   obtain⟨c,gD⟩: ∃c:Nat,o.call.c=c:=⟨o.call.c.toNat,by have:=fc.c;omega⟩
   have TI:c<8:=by have:=fc.c;omega
   have aer:=I (show c<(bX s).length by rw[gd];exact TI);obtain⟨m,hm⟩: ∃m,(bY (bX s) c).length=m:=⟨_,rfl⟩
   have aey:=I hm;rw[en]at gD;have K9:w.cell? ⟨Bw,123,none⟩=some (.bool (decide (0<=o.e2))):=U.cell cX (q 15);have La:w.cell? ⟨Bw,110,none⟩=some (.int .u8 o.call.op):=U.cell cX (q 2);have Lb:w.cell? ⟨Bw,116,none⟩=some (.int .i64 o.call.c):=U.cell cX (q 8);have QV:w.cell? ⟨Bw,120,none⟩=some (.int .i64 o.aC.code):=U.cell cX (q 12);have QW:w.cell? ⟨Bw,121,none⟩=some (.int .i64 o.aC.n):=U.cell cX (q 13);have QX:w.cell? ⟨Bw,122,none⟩=some (.slice aaA o.aC.said.length afc):=U.cell cX (q 14);have ab8:w.cell? ⟨fk,4,none⟩=some (.slice (some ⟨v.aca,0,none⟩) 8 v.acR):=U.cell kw rfl;rw[en]at La Lb;rw[gD]at Lb;clear q fZ VG adu h7 gf L1 L2 one hu fc QT;generalize abk:bh s.p (bX s) (e5 s.p) W t=r at*;clear abk;obtain⟨op,hop⟩: ∃x,r.call.op=x:=⟨_,rfl⟩
   rw[hop]at La;have NE:ez (bX s) r<=1:=by unfold ez;split<;>omega
   have h0:=mQ.le;have dJ:=mQ.Wh;have fb:=mQ.pos;cases acA:r.fin with
   |false=>
    have aal:gT r=0:=by unfold gT;rw[acA];rfl
    have abF:hz r=0:=by unfold hz;rw[acA];rfl
    have acL:ez (bX s) r=0:=by unfold ez;rw[acA];rfl
    rw[aal,abF,acL,cI,cI,Int.natCast_zero,cI]at mQ;have YT:=I mQ;have zS:acP<=(k+1:Nat):=J;have afS:decide (0<=o.e2)=false:=by rw[(Aw acA).1];rfl
    rw[afS]at K9;clear afS mQ h0 dJ fb Aw zU en hop gD;go_wp2_with(fail);exact ja
   |true=>
    obtain⟨h1,aaV,ZV⟩:=zU acA;have afS:decide (0<=o.e2)=true:=by rw[h1];simp
    rw[afS]at K9;rw[ZV]at QV QW QX;clear afS h1 aaV ZV zU Aw;by_cases adH:op=7
    ·have WQ:(op==7)=true:=by simpa using adH
     have WT:(op==5)=false:=by rw[adH];rfl
     have aal:gT r=0:=by unfold gT;rw[Y (fun h=>by rw[hop,adH]at h;omega)]
     have abF:hz r=0:=by unfold hz;rw[Y (fun h=>by rw[hop,adH]at h;omega)]
     rw[aal,abF,cI,cI]at mQ;rw[aal]at h0 dJ fb;rw[abF]at dJ fb;by_cases iF:r.aC.code=0
     ·have bc:(r.aC.code==0)=true:=by simpa using iF
      by_cases p2:m=0
      ·have aaX: ¬0<m:=by omega
       have acL:ez (bX s) r=0:=by unfold ez;rw[Y (fun h=>h.2.2.2 (dn (by rw[gD,bL,hm];exact p2)))]
       rw[acL,Int.natCast_zero,cI]at mQ;rw[acL]at h0;have YT:=I mQ;have zS:acP<=(k+1:Nat):=J;have Zc:IntKind.i64.wrap (8*aei)=8*aei:=by rw[IntKind.wrap_i64];omega
       have Vt:decide (aei>acP)=false:=by simp;omega
       have Y6:decide (Wh>8*aei)=false:=by simp;omega
       have QK: ¬acP<aei:=J;have QL: ¬8*aei<Wh:=J;have QM:wrap64 (8*aei)=8*aei:=by unfold wrap64;omega
       exact qw
      ·have aaX:0<m:=by omega
       have U4:wrap64 (acP+1)=acP+1:=by unfold wrap64;omega
       have QK: ¬acP+1<aei:=J;have QL: ¬8*aei<Wh:=J;have QM:wrap64 (8*aei)=8*aei:=by unfold wrap64;omega
       have acL:ez (bX s) r=1:=by unfold ez;rw[Z ⟨acA,by rw[hop];exact adH,iF,fun e=>p2 (by rw[<-hm,<-bL c,<-gD,e];rfl)⟩]
       rw[acL]at mQ h0;have YT:=I (show vL s.p (bX s) (bI s.p (bX s) (e5 s.p) W t) O' aei (acP+1) Wh from mQ);have zS:acP+1<=(k+1:Nat):=J;have wp:IntKind.i64.wrap (acP+1)=acP+1:=by rw[IntKind.wrap_i64];omega
       have Zc:IntKind.i64.wrap (8*aei)=8*aei:=by rw[IntKind.wrap_i64];omega
       have Vt:decide (aei>acP+1)=false:=by simp;omega
       have Y6:decide (Wh>8*aei)=false:=by simp;omega
       exact qw
     ·have bc:(r.aC.code==0)=false:=by simpa using iF
      have acL:ez (bX s) r=0:=by unfold ez;rw[Y (fun h=>iF h.2.2.1)]
      have p2:=iF;have aaX:=iF;exact pC
    ·have WQ:(op==7)=false:=by simpa using adH
     have acL:ez (bX s) r=0:=by unfold ez;rw[Y (fun h=>adH (by rw[<-hop];exact h.2.1))]
     by_cases afY:op=5
     ·have WT:(op==5)=true:=by simpa using afY
      have aal:gT r=r.aC.n:=by unfold gT;rw[Z ⟨acA,by rw[hop];exact afY⟩]
      have abF:hz r=r.aC.said.length:=by unfold hz;rw[Z ⟨acA,by rw[hop];exact afY⟩]
      rw[aal,abF,acL,Int.natCast_zero,cI]at mQ;rw[aal,acL]at h0;rw[aal,abF]at dJ fb;have YT:=I mQ;have zS:acP<=(k+1:Nat):=J;have TJ:IntKind.i64.wrap (aei+r.aC.n)=aei+r.aC.n:=by rw[IntKind.wrap_i64];omega
      have TK:IntKind.i64.wrap (Wh+r.aC.said.length)=Wh+r.aC.said.length:=by rw[IntKind.wrap_i64];omega
      have Zc:IntKind.i64.wrap (8*(aei+r.aC.n))=8*(aei+r.aC.n):=by rw[IntKind.wrap_i64];omega
      have Vt:decide (aei+r.aC.n>acP)=false:=by simp;omega
      have Y6:decide (Wh+(r.aC.said.length:Int)>8*(aei+r.aC.n))=false:=by simp;omega
      clear mQ h0 dJ fb en hop gD hm adH afY aal abF acL NE ek acA;go_wp2_with(fail);exact ja
     ·have WT:(op==5)=false:=by simpa using afY
      have aal:gT r=0:=by unfold gT;rw[Y (fun h=>afY (by rw[<-hop];exact h.2))]
      have abF:hz r=0:=by unfold hz;rw[Y (fun h=>afY (by rw[<-hop];exact h.2))]
      rw[aal,abF,cI,cI]at mQ;rw[aal]at h0 dJ fb;rw[abF]at dJ fb;have p2:=afY;have iF:=afY;have aaX:=afY;exact pC
end Go.Proofs.YtcimojgkeoecfaaGreat
