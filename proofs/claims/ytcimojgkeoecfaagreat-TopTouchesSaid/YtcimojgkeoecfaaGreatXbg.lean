import Derived.Test.YtcimojgkeoecfaaGreatXaq
import Derived.Test.YtcimojgkeoecfaaGreatXbc
set_option linter.all false
set_option maxHeartbeats 16000000
set_option maxRecDepth 100000
namespace Go.Proofs.YtcimojgkeoecfaaGreat
open Go.RowKit Tryz
theorem lM{G:Prop}(h:G:=by
 have c4:=aaH.back U;have adS:=aby.out.h4 hS c4.Wu;have hv:=(U.carry hv fun b _ h=>h.2).mono (S':=fun b=>(S b\/w0.heap.size<=b)/\b≠WC) fun b _ h=>⟨.inr h.1,h.2.2 _ rfl⟩
 exact⟨⟨.slice W9 r.chain.length adX,.slice aeQ r.list.length acN,.slice acG r.said.length aeb,.slice aeU r.said.length aaP⟩,rfl,c4.bB,⟨adS.ads,adS.ls,adS.Wh,hv⟩,c4.mW⟩):G:=h
theorem i0{G:Prop}(h:G:=by
 have adS:=aby.out.h4 hS U.Wu;exact⟨⟨.slice W9 r.chain.length adX,.slice aeQ r.list.length acN,.slice acG r.said.length aeb,.slice af3 r.aC.said.length ZM⟩,rfl,U.bB,⟨adS.ads,adS.ls,adS.Wh,adS.Y1⟩,U.mW⟩):G:=h
abbrev lB(p:afy)(ap:Nat)(r:aax)(x:Yr):List Value:= [.int .i64 p.s,.int .i64 p.t,.int .i64 p.i,.int .i64 p.h,.pointer (some ⟨ap,0,none⟩),
 .int .u8 r.call.op,.int .u8 r.call.r,.int .u8 r.call.h,.int .u8 r.call.v,.int .i64 r.call.a,.int .i64 r.call.b,.int .i64 r.call.c,
 .int .i64 r.Xj,.int .i64 r.af,.int .u64 r.hand,.int .u64 r.val,x.ads,.int .u64 r.word,.int .u64 r.next,.int .i64 r.at_,.int .i64 r.top,x.ls,.int .i64 r.op,x.Wh,.int .i64 r.n,.bool r.held,.bool r.fin,.bool r.bF,
 .int .i64 r.aC.code,.int .i64 r.aC.n,x.Y1]
section
variable(w0:World)(p:afy)(ap WC n Yc:Nat)(V:Nat->Int)(r:aax)(x:Yr)
include w0 p ap WC n Yc V r x
theorem zq(q v:Int)(hv:V (8*r.af.toNat+q.toNat)=v)(hb:ah w0 Yc 374 (lB p ap r x).toArray)(Xg:ar w0 ap WC n V)(aeJ:a9 p)(abi:8*p.s<=n)(ci:0<=r.af/\r.af<p.s)(VX:0<=q/\q<=4):
 Calls prog 320 #[.pointer (some ⟨Yc,0,none⟩),.int .i64 q] w0 fun e w'=>e= .returned (.int .u64 v)/\Below w0.heap.size w0 w':=by
 have U:=aah.g8 hb;have Zn:=I Xg;have aav:=I hb;have ip:8*r.af.toNat+q.toNat<n:=J;have VR:=I hv;clear Xg hb hv;go_enter func320,ntmps320;go_wp2_with(first|(refine aq ?_));replace U:=U.drew;refine b0 ?_;intro X;refine az [[0,1,2,3,4,5,6,7,8,9]] ?_;refine aF 10 fun K Z7=>?_;go_simp;go_at_call 155;refine a6 U (iX p _ _ _ aeJ VX ci) ?_;clear U;intro aaM U;go_wp2_with fail;refine abR Z7 fun X=>?_;refine az [[11,12,13,14,15]] ?_;go_wp2_with(first|(go_at_call 176;refine Calls.mono (eL _ _ _ n V _ (8*r.af.toNat+q.toNat) (U.EP aav.out ag Zn.out) J ip) ?_;rintro e aaM ⟨rfl,rfl⟩;rw[VR.out])|(refine aq ?_));go_ret;exact⟨rfl,U.ro aav.out ag⟩
section
variable(hb:ah w0 Yc 374 (lB p ap r x).toArray)(Xg:ar w0 ap WC n V)(h1:Yc≠ap)(aaV:Yc≠WC)(aeJ:a9 p)(abi:8*p.s<=n)(ci:0<=r.af/\r.af<p.s)
include hb Xg h1 aaV aeJ abi ci
theorem Jk
 (ok:okW (V (8*r.af.toNat))):
 Calls prog 266 #[.pointer (some ⟨Yc,0,none⟩)] w0 fun e w'=>e= .returned (.tuple #[])/\ah w' Yc 374 (lB p ap {r with next:=(Wi V r.af.toNat).afB,Xj:=2} x).toArray/\ar w' ap WC n V/\Z1 (fun b=>b≠Yc/\b≠WC) w0 w':=by
 have U:=aah.dp hb Xg h1 aaV;have acq:=I ok;have il:=ok.ok.afB;clear Xg hb ok;unfold Wi;obtain⟨c,Wj⟩: ∃c,Hid (up (V (8*r.af.toNat))=c):=⟨_,I rfl⟩
 rw[Wj.out]at il⊢;go_enter func266,ntmps266;go_wp2_with(first|(refine aq ?_)|(refine aT ?_;clear U;intro X8 w U aay));go_cut [2,3]from 4 to 20 (fun abq abb ZT=> ∃g,abq= .pointer (some ⟨g,0,none⟩)/\aah w0 (fun b=>b≠Yc/\b≠WC) ZT (some ⟨ap,WC,n,V⟩) [⟨g,56,[.int .i64 c.st,.int .i64 c.Xf,.int .i64 c.YX,.int .i64 c.afB]⟩,⟨Yc,374,lB p ap r x⟩])
 case first=>
  replace U:=U.drew;refine b0 ?_;intro X;refine az [[0,1,2,3,4,5,6,7,8,9,10,11,12]] ?_;refine Zj [13,17] ?_;refine ea (fun K Z7=>?_) ?_
  ·go_simp;go_at_call 154;refine a6 U (jF _ p ap WC n V _ U.bB aeJ ci abi acq.out) ?_;clear U;intro aaM U;unfold Wi;rw[Wj.out];go_wp2_with fail;refine abR Z7 fun X=>?_;refine az [[14,15,16],[17,18],[19]] ?_;clear U;intro Gh zr w U;go_wp2_with fail;go_meet;exact⟨_,rfl,U⟩
  refine ei (fun K Z7=>?_);refine ZZ U ny ?_;clear U;intro Gh w U zr;refine abR Z7 fun X=>?_;refine aF 13 fun K Z7=>?_;go_simp;go_at_call 154;refine a6 U (jF _ p ap WC n V _ U.bB aeJ ci abi acq.out) ?_;clear U;intro aaM U;unfold Wi;rw[Wj.out];go_wp2_with fail;refine abR Z7 fun X=>?_;refine az [[14,15,16],[18],[19]] ?_;clear U;intro w U;go_wp2_with fail;go_meet;exact⟨_,rfl,U⟩
 case rest=>
  obtain⟨g,rfl,U⟩:=hcut;go_wp2_with(first|(refine aq ?_)|(refine aT ?_;clear U;intro X8 w U aay));refine fY ?_;exact⟨rfl,U.b ag,U.bB,U.Wu⟩
theorem Gi(kg:0<=bs V r.af.toNat/\bs V r.af.toNat<=65536):
 Calls prog 267 #[.pointer (some ⟨Yc,0,none⟩)] w0 fun e w'=>e= .returned (.tuple #[])/\ah w' Yc 374 (lB p ap {r with at_:=bs V r.af.toNat,Xj:=3} x).toArray/\ar w' ap WC n V/\Z1 (fun b=>b≠Yc/\b≠WC) w0 w':=by
 have U:=aah.dp hb Xg h1 aaV;clear Xg hb;obtain⟨b,V7⟩: ∃b,Hid (bs V r.af.toNat=b):=⟨_,I rfl⟩
 rw[V7.out]at kg⊢;go_enter func267,ntmps267;go_wp2_with(first|(go_at_call 320;refine a6 U (zq _ p ap WC n Yc V r x 1 b V7.out (U.b ag) U.bB aeJ abi ci J) ?_;clear U;intro aaM U)|(refine ac2 U ?_;clear U;intro w U));refine fY ?_;exact⟨rfl,U.b ag,U.bB,U.Wu⟩
theorem A7(kg:0<=agh V r.af.toNat/\agh V r.af.toNat<=65536):
 Calls prog 268 #[.pointer (some ⟨Yc,0,none⟩)] w0 fun e w'=>e= .returned (.tuple #[])/\ah w' Yc 374 (lB p ap {r with word:=agh V r.af.toNat,Xj:=4} x).toArray/\ar w' ap WC n V/\Z1 (fun b=>b≠Yc/\b≠WC) w0 w':=by
 have U:=aah.dp hb Xg h1 aaV;clear Xg hb;obtain⟨b,V7⟩: ∃b,Hid (agh V r.af.toNat=b):=⟨_,I rfl⟩
 rw[V7.out]at kg⊢;go_enter func268,ntmps268;go_wp2_with(first|(go_at_call 320;refine a6 U (zq _ p ap WC n Yc V r x 2 b V7.out (U.b ag) U.bB aeJ abi ci J) ?_;clear U;intro aaM U)|(refine ac2 U ?_;clear U;intro w U));refine fY ?_;exact⟨rfl,U.b ag,U.bB,U.Wu⟩
theorem Dj(S:Nat->Prop)(abk:aW w0 S r x)(bE:dx r)(hS: ∀b,b<w0.heap.size->S b->b≠Yc/\b≠WC)(eR:0<=r.call.a/\r.call.a<=6)(c7:0<=r.call.b/\r.call.b<=512)(lk:0<=r.call.c/\r.call.c<=7)
 (fG:8<=r.at_/\r.at_ %8=0/\r.at_+r.word<=8*n)(jg:0<=r.next/\r.next<=16777215)(h7:0<=adh V r.af.toNat/\adh V r.af.toNat<=r.word/\adh V r.af.toNat %8=0)(ed: ¬(8*fN r.call.a r.call.b<=r.word-adh V r.af.toNat)):
 Calls prog 269 #[.pointer (some ⟨Yc,0,none⟩)] w0 fun e w'=> ∃v,e= .returned (.tuple #[])/\cF w' (fun b=>w0.heap.size<=b/\b≠Yc/\b≠WC) v r.said/\ah w' Yc 374 (lB p ap (tell r 17 0) {x with Y1:=v}).toArray/\ar w' ap WC n V/\Z1 (fun b=>b≠Yc/\b≠WC) w0 w':=by
 have U:=aah.dp hb Xg h1 aaV;have aby:=I abk;obtain⟨W9,adX,aal,_,_,_⟩:=id abk.ads;obtain⟨aeQ,acN,abF,_,_,_⟩:=id abk.ls;obtain⟨acG,aeb,acL,_,_,_⟩:=id abk.Wh;obtain⟨af3,ZM,acS,_,_,_⟩:=id abk.Y1;obtain⟨ads,ls,Wh,Y1⟩:=x;simp only at aal abF acL acS;subst aal abF acL acS;have hm:=Xg.cE;clear Xg hb abk;obtain⟨W,YI,SC,p6⟩: ∃W,Hid (2+r.call.a+(r.call.b+7)/8=W)/\2+r.call.a<=W/\W<=72:=⟨_,I rfl,J,J⟩
 obtain⟨T,YQ⟩: ∃T,Hid (adh V r.af.toNat=T):=⟨_,I rfl⟩
 have XE:fN r.call.a r.call.b=W:=YI.out;rw[YQ.out,XE]at ed;rw[YQ.out]at h7;have AX:IntKind.i64.wrap r.next=r.next:=by rw[IntKind.wrap_i64];omega
 have Dk:IntKind.i64.wrap (W*8)=W*8:=by rw[IntKind.wrap_i64];omega
 have SD:IntKind.u64.wrap (W*8)=W*8:=by rw[IntKind.wrap_u64];omega
 have SE:IntKind.i64.wrap T=T:=by rw[IntKind.wrap_i64];omega
 have SF:IntKind.i64.wrap (r.at_+T)=r.at_+T:=by rw[IntKind.wrap_i64];omega
 have Gj:aR (W*8):=by unfold aR;omega
 have MI:aR r.word:=by unfold aR;omega
 have fb:=aeJ.s;have MJ:=I (show gj W r.call.a r.call.c r.af r.next from by unfold gj;omega);go_enter func269,ntmps269;go_wp2_with(first|(refine aq ?_)|(refine aT ?_;clear U;intro X8 w U aay));replace U:=U.drew;refine b0 ?_;intro X;refine az [[0,1,2,3,4,5,6,7,8,9,10],[11,12],[13]] ?_;clear U;intro gb ef w U;go_wp2_with(first|(go_at_call 220;refine Calls.mono (qQ _ _ _ eR c7) ?_;rintro e aaM ⟨rfl,rfl⟩;rw[YI.out])|(refine aq ?_)|(refine aT ?_;clear U;intro X8 w U aay));replace U:=U.drew;refine b0 ?_;intro X;refine az [[0,1,2,3,4,5,6,7,8,9,10,11]] ?_;refine aF 12 fun K Z7=>?_;go_simp;go_at_call 242;refine a6 U (mc _ _ _ false _ _ _ MJ) ?_;clear U;intro aaM U;go_wp2_with fail;refine abR Z7 fun X=>?_;refine az [[13,14,15,16,17,18,19]] ?_;go_wp2_with(first|(refine aq ?_)|(refine aT ?_;clear U;intro X8 w U aay));replace U:=U.drew;refine b0 ?_;intro X;refine az [[0,1,2,3,4,5,6,7,8]] ?_;refine aF 9 fun K Z7=>?_;go_simp;go_at_call 155;refine a6 U (iX p _ _ _ aeJ J ci) ?_;clear U;intro aaM U;go_wp2_with fail;refine abR Z7 fun X=>?_;refine az [[10,11,12,13,14]] ?_;go_wp2_with(first|(refine aq ?_)|(refine aT ?_;clear U;intro X8 w U aay));replace U:=U.drew;refine b0 ?_;intro X;refine az [[0,1,2,3,4,5,6,7,8,9,10,11,12,13,14,15,16,17,18,19]] ?_;refine aF 20 fun K Z7=>?_;go_simp;go_at_call 321;refine Calls.mono (Ci _ _ _ n V _ (W*8) _ _ _ _ (8*r.af.toNat+3) U.bB J J Gj MI (by have:=YQ.out;unfold adh at this;omega)) ?_;rintro e aaM ⟨rfl,rfl⟩;go_wp2_with fail;refine abR Z7 fun X=>?_;refine az [[21,22,23,24,25,26,27]] ?_;go_wp2_with(first|(go_at_call 184;refine Calls.mono (hg _ _ r ⟨.slice W9 r.chain.length adX,.slice aeQ r.list.length acN,.slice acG r.said.length aeb,.slice af3 r.aC.said.length ZM⟩ _ _ (aby.out.Wu (U.Wu.mono hS)) bE) ?_;rintro e aaM ⟨v',rfl,bD,N⟩;obtain⟨aeU,aaP,rfl,-,-,-⟩:=id bD;have hv:=U.eh bD;clear bD;have aaH:=U.below N;clear U N;have U:=aaH.base)|(refine aq ?_)|(refine aT ?_;clear U;intro X8 w U aay));refine fY ?_;exact⟨_,rfl,(U.carry hv fun _ _ h=>h.2).mono (fun b _ h=>⟨h.1,fun e=>h.2.1 _ (In.mem ag) e.symm,h.2.2 _ rfl⟩),U.b ag,U.bB,(aaH.back U).Wu⟩
end
end
end Go.Proofs.YtcimojgkeoecfaaGreat
