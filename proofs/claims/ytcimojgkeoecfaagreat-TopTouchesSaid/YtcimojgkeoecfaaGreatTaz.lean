import Derived.Deep.CutBlock
import Derived.Test.YtcimojgkeoecfaaGreatTas
import Derived.Test.YtcimojgkeoecfaaGreatTay
set_option linter.all false
set_option maxHeartbeats 16000000
set_option maxRecDepth 100000
namespace Go.Proofs.YtcimojgkeoecfaaGreat
open Go.RowKit Tryz
theorem agN{G:Prop}(h:G:=by
 go_wp2_with(first|(refine aq ?_));go_roundw
 case rel=>exact⟨j+1,by omega,by go_num,U⟩
 case measure=>simp[intOf];omega):G:=h
theorem agB{G:Prop}(h:G:=by
 clear VU;have Zh:=U.cell kw agS.out;have q1:=U.cell kw QR9.out;go_wp2_with(first|(go_at_call 17;refine Calls.mono (agH _ _ _ _ ((My.out).below (vp ir.bC U λ_ h=>.tail _ (.tail _ h))) HEL.out) ?_;rintro e XM ⟨rfl,rfl⟩)|(refine aaO U ?_));go_meet;exact⟨by rw[kk1.out],U⟩):G:=h
abbrev l39(a b c:Nat)(o:db)(tn9:List Value)(s:h9)(v:abM):List abN:= [⟨a,42,[.int .u8 o.call.op,.int .u8 o.call.r,.int .u8 o.call.h,.int .u8 o.call.v,.int .i64 o.call.a,.int .i64 o.call.b,.int .i64 o.call.c]⟩,⟨b,67,tn9⟩,⟨c,32,gy s.p v⟩]
theorem xMG{w:World}{P:Program}{o:Oper}{a a':Act}{Q:Exit->Act->World->Prop}{ops:Array Oper}{rest:List Oper}{Yn:TypeId}{x:Operand}{g off n:Nat}{ds:List Value}(XP: ∀j v,ds[j]? =some v->w.cell? ⟨g,off+j,none⟩=some v)(Z7:wpList P ops Q rest a' w)(abi:ds.length=n)
 (afl:Region.wanted o (yielded ops a.tmps)=true:=by rfl)(ZQ:o.op= .load Yn x:=by exact rfl)(abk:ye P Yn n:=by exact Im)(Wy:a.eval x= .pointer (some ⟨g,off,none⟩):=by exact rfl)
 (Xg:a.put o.dst (.agg ds.toArray)=a':=by exact fa):wpList P ops Q (o::rest) a w:=by
 obtain⟨⟨d,hu,hd⟩,YF⟩:=abk;exact wpList_step λK k=>by rw[Z afl];exact wp_load_mid Yn x ZQ g off Wy ds d XP hu hd (by rw[YF,abi]) (k _ _ (Xg▸Z7))
section
variable{d1 d2:List Value}(h1:d1.length=54)
include d1 d2 h1
section
variable(aaV:d2.length=54)(t:Int)(o:db)(u:Value)(j:Nat)
include aaV t o u j
theorem agt:(i9 d1 d2 t o u)[108+j]? =(Value.int .i64 t::(dN o u++ [.bool (decide (0<=o.e2))]))[j]? :=by
 unfold i9;rw[ay J,ay J];congr 1;omega
theorem agK(v:Value)(hv: [Value.int .u8 o.call.op,.int .u8 o.call.r,.int .u8 o.call.h,.int .u8 o.call.v,.int .i64 o.call.a,.int .i64 o.call.b,.int .i64 o.call.c][j]? =some v):(i9 d1 d2 t o u)[110+j]? =some v:=by
 have q:=agt h1 aaV t o u (2+j);rw[show 108+(2+j)=110+j by omega]at q;rw[q];have aeD:j<7:=(List.getElem?_eq_some_iff.1 hv).1;rcases j with _|_|_|_|_|_|_|j<;>first|exact hv|omega
end
theorem agm{t:Int}{o:db}{u v:Value}{i:Nat}(h:d1[i]? =some v):(i9 d1 d2 t o u)[i]? =some v:=by
 unfold i9;rw[aA (List.getElem?_eq_some_iff.1 h).1];exact h
theorem agL(aaV:d2.length=54){t:Int}{o:db}{u v:Value}{i:Nat}(h:d2[i]? =some v):(i9 d1 d2 t o u)[54+i]? =some v:=by
 unfold i9;rw[ay J,h1,Nat.add_sub_cancel_left,aA (List.getElem?_eq_some_iff.1 h).1];exact h
end
theorem agD{aee Y8:Value}{f:Nat->g7}{g:Nat->Int}{aaz:Nat->Value}{t k:Nat}(afq:t<4)(ae3:k<4):(cR aee f Y8 g aaz)[34+t*4+k]? =some (.int .u64 (g (4*t+k))):=by
 rcases t with _|_|_|_|t<;>first|omega|(rcases k with _|_|_|_|k<;>first|rfl|omega)
theorem agw(x:Int)(w:World)(Wy:aR x):Calls prog 18 #[.int .u64 x] w λe w'=> ∃a b c:Int,e= .returned (.tuple #[.agg #[.int .i64 (if dr x then VA x else 0),.int .i64 a,.int .i64 b],.int .i64 c])/\Below w.heap.size w w':=by
 by_cases h:dr x
 ·rw[Z h];exact(agr x w Wy (by unfold dr VA afT WR at h;unfold jB Y5 adx VH;omega)).mono λe w' g=>⟨_,_,_,g⟩
 ·rw[Y h];exact(ags x w Wy (by unfold dr VA afT WR at h;unfold jB Y5 adx VH;omega)).mono λe w' g=>⟨_,_,_,g⟩
theorem agn(Av: ∀w,Calls prog 8 #[] w λe w'=>e= .returned (.bool true)/\Below w.heap.size w w')(w0:World)(B0:Nat->Prop)(aak:Value)(n:Nat)(f:Nat->Int)(hb:acr w0 B0 aak n 1 λi=> [.int .u8 (f i)])(acA:e0 f)(abi:n<=maxLen):
 Calls prog 5 #[aak] w0 λe w'=>e= .returned (.bool true)/\Below w0.heap.size w0 w':=by
 obtain⟨s,YF⟩: ∃s,j9 f (min n 400)=s:=⟨_,rfl⟩
 have ok:=sN acA (min n 400);rw[YF]at ok;have B3:=I (show∀w',Below w0.heap.size w0 w'->_ from λw' kr=>J5 w' B0 aak n f (hb.below (w':=w') kr) acA abi s YF);have acq:=I ok;have QO:=I Av;have U:=aah.a0 w0;clear hb acA abi YF ok Av;go_enter func5,ntmps5;go_wp2_with fail;refine Calls.mono (QO.out _) ?_;rintro e aaM ⟨rfl,N⟩;replace U:=U.below N;clear N;go_wp2_with fail;refine Calls.mono (B3.out _ U.all) ?_;rintro e WW ⟨B,v,rfl,ae9,⟨K,Yg,Bv,QP,gS⟩,be⟩;have bz:=U.size;have fu:=U.below be;have c5:=fu.size;have Hf:=acr.one Yg.cF;have aav:=I (And.intro ae9 (And.intro Yg (And.intro Bv (And.intro (D bz QP) λb hb=>And.intro (D bz (gS b hb).1) (gS b hb).2))));clear U be ae9 Yg Bv QP gS bz c5;have U:=fu.base;simp only[gy];go_upto_region 5 with(first|(refine Hv U (ds:= [.int .i64 s.p.s,.int .i64 s.p.t,.int .i64 s.p.i,.int .i64 s.p.h,.slice (some ⟨v.aca,0,none⟩) 8 v.acR,.slice (some ⟨v.aff,0,none⟩) s.p.t.toNat v.VY,v.afa]) (m:=7) rfl (by simp[Hf];(repeat' constructor)) ?_;clear U;intro w U)|(refine aq ?_)|(refine VP U jj ?_;clear U;intro fk w U lb))
 have aaH:=fu.back U;have fC:=vp (L1:= []) (λx h=>by cases h) U (λx h=>by cases h);obtain⟨ae9,Yg,Bv,Ei,gS⟩:=aav.out;have QQ:=(aaH.b (g:=fk) cX).lt;have aaR:=I (show K<=w.heap.size/\w0.heap.size<=K/\K<=fk/\fk<w.heap.size from⟨D Bv fC.size,Ei,D Bv lb,QQ⟩);have YQ:=I (show aeS w0 w w K B v s (l2 s.p s.bj) (λ_=> []) (λ_=>none) 0 from⟨ae9.below fC,Inv.init acq.out.p (zT acq.out) (rU acq.out.p) (λt _ c XP=>(acq.out.c t).2 c XP),vK.init,rr.init,lJ.init,rfl,λi=>by show(s.bj i).length<=_;have:=(acq.out.c i).1;omega,λb hb=>⟨(gS b hb).1,aj (gS b hb).2 (D Bv fC.size)⟩,λb h1 _ hm=>by have:=(gS b hm).2;omega,Yg.below fC,Z1.refl _ _,⟨0,0,0,vL.init,J⟩⟩);have B5:=I aaH;clear fu U ae9 Yg Bv Ei gS QQ fC aav B3 QO aaH;obtain⟨aeh,mb⟩: ∃x,B.aeh=x:=⟨_,rfl⟩
 have NF:=I mb;rw[mb];clear mb;generalize w=WA at*;go_wp2_with fail;go_loopw [6] (λi wr=> ∃(k:Nat) (B:WB) (W:Wd) (O:Nat->List Zr) (VM:Nat->Option Nat),k<=240/\i= .int .i64 k/\B.aeh=aeh/\aah w0 (λ_=>True) wr none [⟨fk,32,[.int .i64 s.p.s,.int .i64 s.p.t,.int .i64 s.p.i,.int .i64 s.p.h,.slice (some ⟨v.aca,0,none⟩) 8 v.acR,.slice (some ⟨v.aff,0,none⟩) s.p.t.toNat v.VY,v.afa]⟩]/\aeS w0 WA wr K B v s W O VM k) (λi _=>241-(intOf i).toNat)
 case atStart=>exact⟨0,B,_,_,_,J,rfl,NF.out,B5.out,YQ.out⟩
 case round=>
  obtain⟨k,B,W,O,VM,ae3,rfl,mb,aaH,aen⟩:=hrel;have U:=aaH.base;rw[<-mb];clear B5 YQ NF;cases V1:xM W s.p.t.toNat s.cp k with
  |true=>
   have Xn:=I (show∀w',Below wr.heap.size wr w'->Calls prog 14 #[.pointer (some ⟨B.aeh,0,none⟩),.agg ([.int .i64 s.p.s,.int .i64 s.p.t,.int .i64 s.p.i,.int .i64 s.p.h,.slice (some ⟨v.aca,0,none⟩) 8 v.acR,.slice (some ⟨v.aff,0,none⟩) s.p.t.toNat v.VY,v.afa]).toArray,.int .i64 k] w' λe du=>e= .returned (.bool true)/\Below w'.heap.size w' du from λw' hb=>V1▸B2 w' B s.p _ _ W (aen.wd.below hb) (λi _=>aen.ZS i) v s K (aen.CY.below hb) acq.out rfl k J);clear V1 aen ae3 mb;go_wp2_with(first|(go_at_call 14;refine a6 U (Xn.out _ (vp aaH.bC U (λ_ h=>h))) ?_;clear U;intro aaM U)|(refine aq ?_)|(refine VP U jj ?_;clear U;intro fk w U lb)|(refine VP U yf ?_;clear U;intro Bw w U QR)|(refine VP U gg ?_;clear U;intro gb w U ef)|(refine aT ?_;clear U;intro X8 w U aay));go_ret;exact⟨rfl,(aaH.back U).all⟩
  |false=>
   have Xn:=I (show∀w',Below wr.heap.size wr w'->Calls prog 14 #[.pointer (some ⟨B.aeh,0,none⟩),.agg ([.int .i64 s.p.s,.int .i64 s.p.t,.int .i64 s.p.i,.int .i64 s.p.h,.slice (some ⟨v.aca,0,none⟩) 8 v.acR,.slice (some ⟨v.aff,0,none⟩) s.p.t.toNat v.VY,v.afa]).toArray,.int .i64 k] w' λe du=>e= .returned (.bool false)/\Below w'.heap.size w' du from λw' hb=>V1▸B2 w' B s.p _ _ W (aen.wd.below hb) (λi _=>aen.ZS i) v s K (aen.CY.below hb) acq.out rfl k J);have NG:=V1;unfold xM at NG;simp only[Bool.or_eq_false_iff,decide_eq_false_iff_not]at NG;obtain⟨t,afq⟩: ∃t:Nat,iv W s.p.t.toNat s.cp k=t:=⟨(iv W s.p.t.toNat s.cp k).toNat,J⟩
   have jN:k<240:=J;obtain⟨QS,Ei,dP,qS⟩:=aaR.out;have ST:=I (show∀w',Below wr.heap.size wr w'->_ from λw' hb=>((aen.below hb).step acq.out jN t afq QS Ei (D aen.Wu.size hb.size)).2.2);simp only[gy]at ST;obtain⟨h7,gf,-⟩:=aen.step acq.out jN t afq QS Ei aen.Wu.size;have QT:=I (And.intro aen.inv gf);have AH:=I h7;have NF:=I mb;clear V1 NG afq aen ae3 mb h7 gf;go_upto_region 8 with(first|(go_at_call 14;refine a6 U (Xn.out _ (vp aaH.bC U (λ_ h=>h))) ?_;clear U;intro aaM U)|(refine aq ?_))
   go_wp2_with(first|(refine aq ?_));refine Calls.mono (ST.out _ (vp aaH.bC U (λ_ h=>h))) ?_;rintro e aaM ⟨B',d1,d2,o,u,O',dk,rfl,HL,fx,hu,mY,en,zU,Aw,adu,QU,QN,aX⟩;have J7:=aaH.back U;have ir:aah w0 (λ_=>True) aaM none [⟨fk,32,[.int .i64 s.p.s,.int .i64 s.p.t,.int .i64 s.p.i,.int .i64 s.p.h,.slice (some ⟨v.aca,0,none⟩) 8 v.acR,.slice (some ⟨v.aff,0,none⟩) s.p.t.toNat v.VY,v.afa]⟩]:=J7.after aX (λb hb=>.inl hb) (λx Wy=>by
    rw[List.mem_singleton]at Wy;subst Wy;exact⟨(aX.block _ (J7.b cX).lt (.inr ⟨dP,qS⟩)).trans (J7.b cX),D Ei dP⟩) aN
   have xo:=I QU;have L1:=I HL.len;have L2:=I fx.len;have one:=vo (d1:=d1) (d2:=d2) HL.one fx.one t o (acr.one hu);obtain⟨aaA,afc,rfl,-,-,-⟩:=id hu;obtain⟨AE,An,AL,aal,X3⟩:=id HL;obtain⟨AQ,Da,Db,abF,aaZ⟩:=fx;obtain⟨t1,f1⟩: ∃t1,d1=AE::t1:=⟨_,aal⟩
   obtain⟨t2,f2⟩: ∃t2,d2=AQ::t2:=⟨_,abF⟩
   have AX:=I (And.intro f1 f2);have Bt:=I (show∃Y8 aaz,d1=cR AE (afo W s.p.s.toNat) Y8 (W5 W (4*s.p.t.toNat)) aaz/\gl aaM _ AE Y8 aaz (e5 s.p) s.p.t.toNat W from⟨An,AL,aal,X3⟩);have Bx:=I (show acr aaM _ AQ (e5 s.p) 1 (λi=> [.int .u64 ((bI s.p (bX s) (e5 s.p) W t).V i)])from aaZ.ws);have rj:((hK s.p W t).XT t).aD=(W.XT t).aD:=by rw[em];unfold bd;(repeat' split)<;>rfl
   have BG:=I (agI QT.out.1 AH.out QT.out.2 (rj▸adu.Un) o en λh=>(zU h).2.2);have YT:=I en;clear U aaH J7 aX QU HL Xn ST mY en zU Aw adu hu rj An AL aal X3 abF aaZ f1 f2;have U:=ir.base;go_upto_region 9 with(first|(refine Hv U (ds:=(i9 d1 d2 t o (.slice aaA o.aC.said.length afc))) (m:=124) (qW L1.out L2.out t o _) one ?_;clear U;intro w U)|(refine VP U yf ?_;clear U;intro Bw w U QR))
   obtain⟨fZ,gf⟩:=QT.out;have t4:t<4:=by have:=fZ.pl.t;have:=AH.out;omega
   have t5:(t:Int)<4:=J;have t6:(0:Int)<=(t:Int):=J;have fc:cG o.call:=by
    have S:=fZ.h4 AH.out gf;have BJ:=S.inv.acg t AH.out S.busy;rw[em]at BJ;rw[YT.out,(fZ.p9 AH.out gf).call];exact BJ.call
   obtain⟨acu,BK⟩: ∃acu:Nat,o.call.h=acu:=⟨o.call.h.toNat,by have:=fc.h;omega⟩
   have C0:acu<4:=by have:=fc.h;omega
   have Dc:(acu:Int)<4:=J;have De:(0:Int)<=(acu:Int):=J;obtain⟨An,AL,aal,X3⟩:=Bt.out;obtain⟨x,Wy⟩: ∃x,(W.XT t).regs o.call.h.toNat=x:=⟨_,rfl⟩
   have VN:=I Wy;have CA:=I (show aR x by rw[<-Wy];have:=fZ.rg t AH.out o.call.h.toNat;omega);have My:=I (show de aaM _ (AL t) (W.XT t).aD from X3.r t (by have:=AH.out;omega));have HEL:=I (show(W.XT t).aD.length<=65536 by have:=(fZ.aaY t AH.out).len;omega);have BR:=I (show acr aaM _ AE (e5 s.p) 1 (λi=> [.int .u64 (W.V i)])from X3.ws);have ZG:=I (show e5 s.p<=65536/\s.p.s<=8 by have:=fZ.abf;have:=fZ.pl.s;have:=fZ.pl.i;have:=fZ.pl.h;omega);have q:=agt L1.out L2.out t o (.slice aaA o.aC.said.length afc);have QW:=I (show(i9 d1 d2 t o (.slice aaA o.aC.said.length afc))[121]? =some (.int .i64 o.aC.n)from q 13);have agS:=I (show(i9 d1 d2 t o (.slice aaA o.aC.said.length afc))[108]? =some (.int .i64 t)from q 0);have QR9:=I (show(i9 d1 d2 t o (.slice aaA o.aC.said.length afc))[50+t]? =some (AL t)from agm L1.out (by rw[aal];exact D8 t4));have CG:=I (show(i9 d1 d2 t o (.slice aaA o.aC.said.length afc))[34+t*4+acu]? =some (.int .u64 x)from agm L1.out (by rw[aal,agD t4 C0];unfold W5;have:=AH.out;rw[m3,show(4*t+acu)/4=t by omega,show(4*t+acu)%4=acu by omega,<-Wy,BK,bL]));have CN:=I (agK L1.out L2.out t o (.slice aaA o.aC.said.length afc));have Ae:=I (show(AE::t1).length=54 from AX.out.1▸L1.out);have CO:=I (show(AQ::t2).length=54 from AX.out.2▸L2.out);have Ak:=I (show∀j v,(AE::t1)[j]? =some v->(i9 d1 d2 t o (.slice aaA o.aC.said.length afc))[0+j]? =some v from λj v h=>by rw[ax];exact agm L1.out (by rw[AX.out.1];exact h));have CX:=I (show∀j v,(AQ::t2)[j]? =some v->(i9 d1 d2 t o (.slice aaA o.aC.said.length afc))[54+j]? =some v from λj v h=>agL L1.out L2.out (by rw[AX.out.2];exact h));obtain⟨YB,S2⟩: ∃y,kOf o.call o.aC.n (W.XT t).aD ((W.XT t).regs o.call.h.toNat)=y:=⟨_,rfl⟩
   have AI:=I S2;have Df:bits .and .u8 o.call.h 3=(acu:Int):=by rw[uA _ (by have:=fc.h;omega)];omega
   clear q fZ gf fc Wy X3 aal S2 one BK;generalize i9 d1 d2 t o (.slice aaA o.aC.said.length afc)=tn9 at*;generalize Qw:(bI s.p (bX s) (e5 s.p) W t).V=V19 at*;have Ck:=I Qw;clear Qw;go_upto_block 2 with(first|(refine adD (λj v h=>U.cell cX (CN.out j v h)) ?_ rfl)|(refine aq ?_)|(refine VP U gg ?_;clear U;intro gb w U ef)|(refine ac2 U ?_;clear U;intro w U))
   go_cut [10,11,12]from 53 to 92 (λz y e ZT=>z= .int .i64 YB/\aah aaM (bq none [⟨fk,32,gy s.p v⟩]) ZT none (l39 gb Bw fk o tn9 s v))
   case first=>
    by_cases adr:o.call.op=2
    ·have AK:(o.call.op==2)=true:=by simpa using adr
     have kk1:=I (show YB=o.aC.n by rw[<-AI.out];unfold kOf;rw[Z adr]);clear adr;have Zh:=U.cell kw QW.out;go_wp2_with((refine aaO U ?_));go_meet;exact⟨by rw[kk1.out],U⟩
    ·have AK:(o.call.op==2)=false:=by simpa using adr
     by_cases XO:o.call.op=3\/o.call.op=4\/o.call.op=11
     ·have kk1:=I (show YB=o.call.a by rw[<-AI.out];unfold kOf;rw[Y adr,Z XO]);rcases XO with XO|XO|XO
      ·have YR:(o.call.op==3)=true:=by simpa using XO
       clear XO;go_wp2_with((refine aaO U ?_));go_meet;exact⟨by rw[kk1.out],U⟩
      ·have YR:(o.call.op==3)=false:=by rw[XO];rfl
       have BW:(o.call.op==4)=true:=by simpa using XO
       clear XO;go_wp2_with((refine aaO U ?_));go_meet;exact⟨by rw[kk1.out],U⟩
      ·have YR:(o.call.op==3)=false:=by rw[XO];rfl
       have BW:(o.call.op==4)=false:=by rw[XO];rfl
       have WT:(o.call.op==11)=true:=by simpa using XO
       clear XO;go_wp2_with((refine aaO U ?_));go_meet;exact⟨by rw[kk1.out],U⟩
     ·have YR:(o.call.op==3)=false:=by simp;omega
      have BW:(o.call.op==4)=false:=by simp;omega
      have WT:(o.call.op==11)=false:=by simp;omega
      by_cases VU:o.call.op=5\/o.call.op=7
      ·have kk1:=I (show YB=da (W.XT t).aD by rw[<-AI.out];unfold kOf;rw[Y adr,Y XO,Z VU]);rcases VU with VU|VU
       ·have Bh:(o.call.op==5)=true:=by simpa using VU
        exact agB
       ·have Bh:(o.call.op==5)=false:=by rw[VU];rfl
        have WQ:(o.call.op==7)=true:=by simpa using VU
        exact agB
      ·have Bh:(o.call.op==5)=false:=by simp;omega
       have WQ:(o.call.op==7)=false:=by simp;omega
       by_cases ab4:o.call.op=9
       ·have Cp:(o.call.op==9)=true:=by simpa using ab4
        have kk1:=I (show YB=if dr x then VA x else 0 by rw[<-AI.out,<-VN.out];unfold kOf;rw[Y adr,Y XO,Y VU,Z ab4]);have Aq:=I (show∀w',_ from λw'=>agw x w' CA.out);rw[<-kk1.out]at Aq;clear ab4;go_upto_region 24 with(refine aaO U ?_)
        replace U:=U.drew;refine b0 ?_;intro X;refine az [[0]] ?_;refine RC 1 ?_ (hv:=agS.out);refine az [[2,3,4,5,6,7,8]] ?_;refine RC 9 ?_ (hv:=CG.out);refine Zj [10,14] ?_;refine ea (λK Z7=>?_) ?_
        ·go_simp
         (go_at_call 18;refine Calls.mono (Aq.out _) ?_;rintro e XM ⟨YN,XW,ZA,rfl,N⟩;replace U:=U.below N;clear N)
         go_wp2_with fail;refine WE Z7 ?_;clear Z7 K;intro X;refine az [[11,12,13],[14,15],[16]] ?_;clear U;intro gr Bq w U;go_wp2_with((refine aaO U ?_));go_meet;exact⟨rfl,U.c6⟩
        ·refine ei (λK Z7=>?_);refine ZZ U EQ ?_;clear U;intro gr w U Bq;refine WE Z7 ?_;clear Z7 K;intro X;refine Yt (λK Z7=>?_);go_simp
         (go_at_call 18;refine Calls.mono (Aq.out _) ?_;rintro e XM ⟨YN,XW,ZA,rfl,N⟩;replace U:=U.below N;clear N)
         go_wp2_with fail;refine WE Z7 ?_;clear Z7 K;intro X;refine az [[11,12,13],[15],[16]] ?_;clear U;intro w U;go_wp2_with((refine aaO U ?_));go_meet;exact⟨rfl,U.c6⟩
       ·have Cp:(o.call.op==9)=false:=by simpa using ab4
        have kk1:=I (show YB= -1 by rw[<-AI.out];unfold kOf;rw[Y adr,Y XO,Y VU,Y ab4]);go_wp2_with((refine aaO U ?_));go_meet;exact⟨by rw[kk1.out],U⟩
   case rest=>
    obtain⟨rfl,U⟩:=hcut;obtain⟨m,hm⟩: ∃m,(agF W.V V19 (e5 s.p)).length=m:=⟨_,rfl⟩
    have aey:=I hm;have UF:m<=65536:=by rw[<-hm];exact D (ago _ _ _) ZG.out.1
    clear hm;go_upto_region 27 with(first|(refine adD (λj v h=>U.cell kw (Ak.out j v h)) ?_ Ae.out)|(refine adD (λj v h=>U.cell kw (CX.out j v h)) ?_ CO.out)|(go_at_call 19;refine Calls.mono (agu _ _ _ _ _ AE AQ t1 t2 (BR.out.below (vp ir.bC U λ_ h=>.tail _ (.tail _ h))) (Bx.out.below (vp ir.bC U λ_ h=>.tail _ (.tail _ h))) ZG.out.1) ?_;rintro e WW ⟨Dh,rfl,vd,N⟩;obtain⟨A9,ab4,rfl,-,-,Ar⟩:=vd;rw[aey.out]at Ar⊢;replace U:=U.below N;clear N))
    have fu:=U;have Cu:=I Ar;have Bi:=I (BR.out.below (vp ir.bC fu λ_ h=>.tail _ (.tail _ h)));clear Ar U;have U:=fu.base;go_cut [111]from 98 to 110 (λz ZT=>z= .bool false/\aah WW (bq none (l39 gb Bw fk o tn9 s v)) ZT none (l39 gb Bw fk o tn9 s v))
    case first=>
     rcases aQ m with YM|YM
     ·have XN:decide ((m:Int)>0)=false:=by simp;omega
      go_wp2_with fail;go_meet;exact⟨rfl,U⟩
     ·have XN:decide ((m:Int)>0)=true:=by simp;omega
      have Dk:0<=YB/\YB<s.p.s:=by
       obtain⟨i,-,-,bo⟩:=agp (pU (l:=agF W.V V19 (e5 s.p)) (i:=0) (by rw[aey.out];exact YM));obtain⟨k',UB,TH,-⟩:=BG.out i (Ne.symm bo);rw[AI.out]at UB;omega
      have AU:decide (YB<0)=false:=by simp;omega
      have Yk:decide (YB≥s.p.s)=false:=by simp;omega
      go_wp2_with(refine afV U ?_);go_meet;exact⟨rfl,U⟩
    case rest=>
     obtain⟨rfl,U⟩:=hcut;have Bj:=I U;clear U;go_wp2_with fail;go_loopw [14] (λi wr=> ∃j:Nat,j<=m/\i= .int .i64 j/\aah WW (bq none (l39 gb Bw fk o tn9 s v)) wr none (l39 gb Bw fk o tn9 s v)) (λi _=>m-(intOf i).toNat)
     case atStart=>exact⟨0,J,rfl,Bj.out⟩
     case round=>
      obtain⟨j,aeD,rfl,qX⟩:=hrel;clear Bj;by_cases bV:j<m
      ·have X0:(j:Int)<(m:Int):=by omega
       have YN:(0:Int)<=(j:Int):=J;obtain⟨x,Wy⟩: ∃x,(agF W.V V19 (e5 s.p)).getD j 0=x:=⟨_,rfl⟩
       have IG:x∈agF W.V V19 (e5 s.p):=by rw[<-Wy];exact pU (by rw[aey.out];exact bV)
       obtain⟨Bk,lo,rfl,-,mm,UR⟩:=Cu.out J;have c3:=UR j 0 _ bV rfl;rw[Wy]at c3;obtain⟨i,hi,rfl,bo⟩:=agp IG;have y1:=I (show WW.cell? ⟨Bk,lo+j,none⟩=some (.int .i64 i) by simpa using c3);have Cv:=I mm;obtain⟨k',UB,TH,aeN⟩:=BG.out i (Ne.symm bo);rw[AI.out]at UB;subst UB;obtain⟨UM,D9⟩:=ZG.out;have iR:=QT.out.1.abf;have LA:=QT.out.1.pl.i;have LB:=QT.out.1.pl.h;have bv:=QT.out.1.jd (8*k'+1);have rd:=QT.out.1.jd (8*k'+2);obtain⟨AA,N⟩: ∃y,agj (W.V (8*k'+1))=y:=⟨_,rfl⟩
       obtain⟨AK,be⟩: ∃y,agj (W.V (8*k'+2))=y:=⟨_,rfl⟩
       have DC:=agy bv.1;have Mv:=agy rd.1;rw[N]at DC;rw[be]at Mv;have DI:=I (show∀w',Below WW.heap.size WW w'->Calls prog 20 #[.agg (AE::t1).toArray,.int .i64 1,.int .i64 k'] w' λe du=>e= .returned (.int .i64 AA)/\Below w'.heap.size w' du from λw' hb=>N▸agz w' _ _ _ AE t1 (Bi.out.below hb) UM 1 k' J J J bv.1);have Bn:=I (show∀w',Below WW.heap.size WW w'->Calls prog 20 #[.agg (AE::t1).toArray,.int .i64 2,.int .i64 k'] w' λe du=>e= .returned (.int .i64 AK)/\Below w'.heap.size w' du from λw' hb=>be▸agz w' _ _ _ AE t1 (Bi.out.below hb) UM 2 k' J J J rd.1);have zU:(8*k'<=i/\i<8*k'+5)/\o.call.op≠9\/¬(8*k'<=i/\i<8*k'+5)/\(o.call.op=5\/o.call.op=7\/o.call.op=9)/\AA<=8*(i:Int)/\8*(i:Int)<AA+AK:=by
        rcases aeN with aeN|⟨AU,Yk,adc,Zf⟩
        ·exact .inl aeN
        ·have Wy:=agJ QT.out.1 AH.out QT.out.2 YT.out Yk AI.out TH (λe=>bo (by rw[<-Ck.out,e]));unfold bs agh at*;rw[<-N,<-be];unfold agj;rw[Z Wy.2.1,Z Wy.2.2.2];exact .inr ⟨AU,Yk,adc,Zf⟩
       have WX:=I zU;have i16:(i:Int)<65536:=J;have Zo:(k':Int)<8:=J;obtain⟨At,Pf⟩: ∃y,(decide (64*(k':Int)<=8*(i:Int))&&decide (8*(i:Int)<64*(k':Int)+40))=y:=⟨_,rfl⟩
       obtain⟨Bo,Th⟩: ∃y,(decide (AA<=8*(i:Int))&&decide (8*(i:Int)<AA+AK))=y:=⟨_,rfl⟩
       have Jf:=I Pf;have Al:=I Th;clear Wy IG bo aeN c3 UM D9 iR LA LB bv rd N be zU hi TH Pf Th UR mm;have U:=qX;have Zh:=((vp fu.bC U λ_ h=>h).cell (p:=⟨Bk,lo+j,none⟩) Cv.out).trans y1.out;go_upto_region 34 with(first|(refine adD (λj v h=>U.cell kw (Ak.out j v h)) ?_ Ae.out)|(go_at_call 20;refine Calls.mono (DI.out _ (vp fu.bC U λ_ h=>h)) ?_;rintro e wp ⟨rfl,N⟩;replace U:=U.below N;clear N)|(refine aaO U ?_))
       go_cut [17]from 127 to 137 (λz ZT=>z= .bool At/\aah WW (bq none (l39 gb Bw fk o tn9 s v)) ZT none (l39 gb Bw fk o tn9 s v))
       case first=>
        by_cases Vt:64*(k':Int)<=8*(i:Int)
        ·by_cases Y6:8*(i:Int)<64*(k':Int)+40
         ·have AD:decide (8*(i:Int)≥64*(k':Int))=true:=by simpa using Vt
          have YY:decide (8*(i:Int)<64*(k':Int)+40)=true:=by simpa using Y6
          go_wp2_with fail;go_meet;exact⟨by rw[<-Jf.out,show decide (64*(k':Int)<=8*(i:Int))=true from AD,YY];rfl,U⟩
         ·have AD:decide (8*(i:Int)≥64*(k':Int))=true:=by simpa using Vt
          have YY:decide (8*(i:Int)<64*(k':Int)+40)=false:=by simpa using Y6
          go_wp2_with fail;go_meet;exact⟨by rw[<-Jf.out,YY,Bool.and_false],U⟩
        ·have AD:decide (8*(i:Int)≥64*(k':Int))=false:=by simpa using Vt
         go_wp2_with fail;go_meet;exact⟨by rw[<-Jf.out,show decide (64*(k':Int)<=8*(i:Int))=false from AD];rfl,U⟩
       case rest=>
        obtain⟨rfl,U⟩:=hcut;go_upto_region 35 with fail
        go_cut [18]from 138 to 150 (λz ZT=>z= .bool Bo/\aah WW (bq none (l39 gb Bw fk o tn9 s v)) ZT none (l39 gb Bw fk o tn9 s v))
        case first=>
         by_cases Vt:AA<=8*(i:Int)
         ·have AD:decide (8*(i:Int)≥AA)=true:=by simpa using Vt
          by_cases Y6:8*(i:Int)<AA+AK
          ·have YY:decide (8*(i:Int)<AA+AK)=true:=by simpa using Y6
           go_wp2_with(first|(refine xMG (λj v h=>U.cell kw (Ak.out j v h)) ?_ Ae.out)|(go_at_call 20;refine Calls.mono (Bn.out _ (vp fu.bC U λ_ h=>h)) ?_;rintro e wp ⟨rfl,N⟩;replace U:=U.below N;clear N));go_meet;exact⟨by rw[<-Al.out,show decide (AA<=8*(i:Int))=true from AD,YY];rfl,U⟩
          ·have YY:decide (8*(i:Int)<AA+AK)=false:=by simpa using Y6
           go_wp2_with(first|(refine xMG (λj v h=>U.cell kw (Ak.out j v h)) ?_ Ae.out)|(go_at_call 20;refine Calls.mono (Bn.out _ (vp fu.bC U λ_ h=>h)) ?_;rintro e wp ⟨rfl,N⟩;replace U:=U.below N;clear N));go_meet;exact⟨by rw[<-Al.out,YY,Bool.and_false],U⟩
         ·have AD:decide (8*(i:Int)≥AA)=false:=by simpa using Vt
          go_wp2_with fail;go_meet;exact⟨by rw[<-Al.out,show decide (AA<=8*(i:Int))=false from AD];rfl,U⟩
        case rest=>
         obtain⟨rfl,U⟩:=hcut;go_upto_region 36 with fail
         go_cut [19]from 151 to 163 (λz ZT=>z= .bool (o.call.op==5||(o.call.op==7||o.call.op==9))/\aah WW (bq none (l39 gb Bw fk o tn9 s v)) ZT none (l39 gb Bw fk o tn9 s v))
         case first=>
          by_cases Vt:o.call.op=5
          ·have AD:(o.call.op==5)=true:=by simpa using Vt
           go_wp2_with(first|(refine aq ?_));go_meet;exact⟨by rw[AD];rfl,U⟩
          ·have AD:(o.call.op==5)=false:=by simpa using Vt
           by_cases Y6:o.call.op=7
           ·have YY:(o.call.op==7)=true:=by simpa using Y6
            go_wp2_with(first|(refine aq ?_));go_meet;exact⟨by rw[AD,YY];rfl,U⟩
           ·have YY:(o.call.op==7)=false:=by simpa using Y6
            go_wp2_with(first|(refine aq ?_));go_meet;exact⟨by rw[AD,YY];rfl,U⟩
         case rest=>
          obtain⟨rfl,U⟩:=hcut;rcases WX.out with⟨AU,Yk⟩|⟨AU,Yk,adc,Zf⟩
          ·obtain rfl:At=true:=by rw[<-Jf.out,decide_eq_true J,decide_eq_true J];rfl
           have Br:(o.call.op==9)=false:=by simpa using Yk
           exact agN
          ·obtain rfl:At=false:=by
            rw[<-Jf.out];cases h1:decide (64*(k':Int)<=8*(i:Int))with
            |false=>rfl
            |true=>exact decide_eq_false (λaaV=>AU ⟨by have:=of_decide_eq_true h1;omega,J⟩)
           obtain rfl:Bo=true:=by rw[<-Al.out,decide_eq_true adc,decide_eq_true Zf];rfl
           have Br:(o.call.op==5||(o.call.op==7||o.call.op==9))=true:=by rcases Yk with Yk|Yk|Yk<;>rw[Yk]<;>rfl
           rw[Br];exact agN
      ·obtain rfl:m=j:=by omega
       have X0: ¬(m:Int)<(m:Int):=J;go_wp2_with fail;go_roundw
       case rel=>exact⟨k+1,B',_,O',dk,J,by go_num,QN,(ir.back (fu.back qX)).c6.c6,xo.out.below (vp ir.bC (fu.back qX) λ_ h=>.tail _ (.tail _ h))⟩
       case measure=>simp[intOf];omega
end Go.Proofs.YtcimojgkeoecfaaGreat
