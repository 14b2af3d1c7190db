import Derived.Test.YtcimojgkeoecfaaGreatVaq
import Derived.Test.YtcimojgkeoecfaaGreatVbc
set_option linter.all false
set_option maxHeartbeats 16000000
set_option maxRecDepth 100000
namespace Go.Proofs.YtcimojgkeoecfaaGreat
open Go.RowKit Tryz
theorem lM{G:Prop}(h:G:=by
 have c4:=DI.back U;have T9:=U3.out.h4 hS c4.Wu;have hv:=(U.carry hv fun b _ h=>h.2).mono (S':=fun b=>(S b\/w0.heap.size<=b)/\b≠WC) fun b _ h=>⟨.inr h.1,h.2.2 _ rfl⟩
 exact⟨⟨.slice W9 r.chain.length Tv,.slice Tz r.list.length Tt,.slice Tu r.said.length Tm,.slice Uu r.said.length Ug⟩,rfl,c4.bB,⟨T9.TQ,T9.ls,T9.Wh,hv⟩,c4.mW⟩):G:=h
theorem i0{G:Prop}(h:G:=by
 have T9:=U3.out.h4 hS U.Wu;exact⟨⟨.slice W9 r.chain.length Tv,.slice Tz r.list.length Tt,.slice Tu r.said.length Tm,.slice Tx r.aC.said.length ZM⟩,rfl,U.bB,⟨T9.TQ,T9.ls,T9.Wh,T9.Y1⟩,U.mW⟩):G:=h
abbrev lB(p:PO)(ap:Nat)(r:RJ)(x:Yr):List Value:= [.int .i64 p.s,.int .i64 p.t,.int .i64 p.i,.int .i64 p.h,.pointer (some ⟨ap,0,none⟩),
 .int .u8 r.call.op,.int .u8 r.call.r,.int .u8 r.call.h,.int .u8 r.call.v,.int .i64 r.call.a,.int .i64 r.call.b,.int .i64 r.call.c,
 .int .i64 r.Xj,.int .i64 r.af,.int .u64 r.hand,.int .u64 r.val,x.TQ,.int .u64 r.word,.int .u64 r.next,.int .i64 r.at_,.int .i64 r.top,x.ls,.int .i64 r.op,x.Wh,.int .i64 r.n,.bool r.held,.bool r.fin,.bool r.bF,
 .int .i64 r.aC.code,.int .i64 r.aC.n,x.Y1]
section
variable(w0:World)(p:PO)(ap f n d:Nat)(V:Nat->Int)(r:RJ)(x:Yr)
include w0 p ap f n d V r x
theorem zq(q v:Int)(hv:V (8*r.af.toNat+q.toNat)=v)(hb:ah w0 d 374 (lB p ap r x).toArray)(i:ar w0 ap f n V)(c:a9 p)(z:8*p.s<=n)(u:0<=r.af/\r.af<p.s)(l:0<=q/\q<=4):
 Calls prog 320 #[.pointer (some ⟨d,0,none⟩),.int .i64 q] w0 fun e w'=>e= .returned (.int .u64 v)/\Below w0.heap.size w0 w':=by
 have U:=Bx.g8 hb;have o:=I i;have a:=I hb;have y:8*r.af.toNat+q.toNat<n:=J;have j:=I hv;clear i hb hv;go_enter func320,ntmps320;go_wp2_with(first|(refine aq ?_));replace U:=U.drew;refine b0 ?_;intro X;refine az [[0,1,2,3,4,5,6,7,8,9]] ?_;refine aF 10 fun K m=>?_;go_simp;go_at_call 155;refine a6 U (iX p _ _ _ c l u) ?_;clear U;intro b U;go_wp2_with fail;refine PK m fun X=>?_;refine az [[11,12,13,14,15]] ?_;go_wp2_with(first|(go_at_call 176;refine Calls.mono (eL _ _ _ n V _ (8*r.af.toNat+q.toNat) (U.EP a.out ag o.out) J y) ?_;rintro e b ⟨rfl,rfl⟩;rw[j.out])|(refine aq ?_));go_ret;exact⟨rfl,U.ro a.out ag⟩
section
variable(hb:ah w0 d 374 (lB p ap r x).toArray)(m:ar w0 ap f n V)(h1:d≠ap)(j:d≠f)(i:a9 p)(l:8*p.s<=n)(o:0<=r.af/\r.af<p.s)
include hb m h1 j i l o
theorem Jk
 (ok:okW (V (8*r.af.toNat))):
 Calls prog 266 #[.pointer (some ⟨d,0,none⟩)] w0 fun e w'=>e= .returned (.tuple #[])/\ah w' d 374 (lB p ap {r with next:=(Wi V r.af.toNat).T5,Xj:=2} x).toArray/\ar w' ap f n V/\Z1 (fun b=>b≠d/\b≠f) w0 w':=by
 have U:=Bx.dp hb m h1 j;have q:=I ok;have F:=ok.ok.T5;clear m hb ok;unfold Wi;obtain⟨c,u⟩: ∃c,Hid (up (V (8*r.af.toNat))=c):=⟨_,I rfl⟩
 rw[u.out]at F⊢;go_enter func266,ntmps266;go_wp2_with(first|(refine aq ?_)|(refine aT ?_;clear U;intro B w U y));go_cut [2,3]from 4 to 20 (fun z H C=> ∃g,z= .pointer (some ⟨g,0,none⟩)/\Bx w0 (fun b=>b≠d/\b≠f) C (some ⟨ap,f,n,V⟩) [⟨g,56,[.int .i64 c.st,.int .i64 c.Xf,.int .i64 c.YX,.int .i64 c.T5]⟩,⟨d,374,lB p ap r x⟩])
 case first=>
  replace U:=U.drew;refine b0 ?_;intro X;refine az [[0,1,2,3,4,5,6,7,8,9,10,11,12]] ?_;refine Zj [13,17] ?_;refine ea (fun K a=>?_) ?_
  ·go_simp;go_at_call 154;refine a6 U (jF _ p ap f n V _ U.bB i o l q.out) ?_;clear U;intro v U;unfold Wi;rw[u.out];go_wp2_with fail;refine PK a fun X=>?_;refine az [[14,15,16],[17,18],[19]] ?_;clear U;intro A G w U;go_wp2_with fail;go_meet;exact⟨_,rfl,U⟩
  refine ei (fun K a=>?_);refine ZZ U ny ?_;clear U;intro A w U G;refine PK a fun X=>?_;refine aF 13 fun K a=>?_;go_simp;go_at_call 154;refine a6 U (jF _ p ap f n V _ U.bB i o l q.out) ?_;clear U;intro v U;unfold Wi;rw[u.out];go_wp2_with fail;refine PK a fun X=>?_;refine az [[14,15,16],[18],[19]] ?_;clear U;intro w U;go_wp2_with fail;go_meet;exact⟨_,rfl,U⟩
 case rest=>
  obtain⟨g,rfl,U⟩:=hcut;go_wp2_with(first|(refine aq ?_)|(refine aT ?_;clear U;intro B w U y));refine fY ?_;exact⟨rfl,U.b ag,U.bB,U.Wu⟩
theorem Gi(c:0<=bs V r.af.toNat/\bs V r.af.toNat<=65536):
 Calls prog 267 #[.pointer (some ⟨d,0,none⟩)] w0 fun e w'=>e= .returned (.tuple #[])/\ah w' d 374 (lB p ap {r with at_:=bs V r.af.toNat,Xj:=3} x).toArray/\ar w' ap f n V/\Z1 (fun b=>b≠d/\b≠f) w0 w':=by
 have U:=Bx.dp hb m h1 j;clear m hb;obtain⟨b,a⟩: ∃b,Hid (bs V r.af.toNat=b):=⟨_,I rfl⟩
 rw[a.out]at c⊢;go_enter func267,ntmps267;go_wp2_with(first|(go_at_call 320;refine a6 U (zq _ p ap f n d V r x 1 b a.out (U.b ag) U.bB i l o J) ?_;clear U;intro g U)|(refine Po U ?_;clear U;intro w U));refine fY ?_;exact⟨rfl,U.b ag,U.bB,U.Wu⟩
theorem A7(c:0<=Ts V r.af.toNat/\Ts V r.af.toNat<=65536):
 Calls prog 268 #[.pointer (some ⟨d,0,none⟩)] w0 fun e w'=>e= .returned (.tuple #[])/\ah w' d 374 (lB p ap {r with word:=Ts V r.af.toNat,Xj:=4} x).toArray/\ar w' ap f n V/\Z1 (fun b=>b≠d/\b≠f) w0 w':=by
 have U:=Bx.dp hb m h1 j;clear m hb;obtain⟨b,a⟩: ∃b,Hid (Ts V r.af.toNat=b):=⟨_,I rfl⟩
 rw[a.out]at c⊢;go_enter func268,ntmps268;go_wp2_with(first|(go_at_call 320;refine a6 U (zq _ p ap f n d V r x 2 b a.out (U.b ag) U.bB i l o J) ?_;clear U;intro g U)|(refine Po U ?_;clear U;intro w U));refine fY ?_;exact⟨rfl,U.b ag,U.bB,U.Wu⟩
theorem Dj(S:Nat->Prop)(q:aW w0 S r x)(bE:dx r)(hS: ∀b,b<w0.heap.size->S b->b≠d/\b≠f)(eR:0<=r.call.a/\r.call.a<=6)(c7:0<=r.call.b/\r.call.b<=512)(lk:0<=r.call.c/\r.call.c<=7)
 (fG:8<=r.at_/\r.at_ %8=0/\r.at_+r.word<=8*n)(jg:0<=r.next/\r.next<=16777215)(h7:0<=TJ V r.af.toNat/\TJ V r.af.toNat<=r.word/\TJ V r.af.toNat %8=0)(ed: ¬(8*fN r.call.a r.call.b<=r.word-TJ V r.af.toNat)):
 Calls prog 269 #[.pointer (some ⟨d,0,none⟩)] w0 fun e w'=> ∃v,e= .returned (.tuple #[])/\cF w' (fun b=>w0.heap.size<=b/\b≠d/\b≠f) v r.said/\ah w' d 374 (lB p ap (tell r 17 0) {x with Y1:=v}).toArray/\ar w' ap f n V/\Z1 (fun b=>b≠d/\b≠f) w0 w':=by
 have U:=Bx.dp hb m h1 j;have O:=I q;obtain⟨W9,R,B,_,_,_⟩:=id q.TQ;obtain⟨Tz,Q,C,_,_,_⟩:=id q.ls;obtain⟨P,Tm,F,_,_,_⟩:=id q.Wh;obtain⟨Tx,ZM,G,_,_,_⟩:=id q.Y1;obtain⟨TQ,ls,Wh,Y1⟩:=x;simp only at B C F G;subst B C F G;have hm:=m.cE;clear m hb q;obtain⟨W,YI,SC,p6⟩: ∃W,Hid (2+r.call.a+(r.call.b+7)/8=W)/\2+r.call.a<=W/\W<=72:=⟨_,I rfl,J,J⟩
 obtain⟨T,L⟩: ∃T,Hid (TJ V r.af.toNat=T):=⟨_,I rfl⟩
 have XE:fN r.call.a r.call.b=W:=YI.out;rw[L.out,XE]at ed;rw[L.out]at h7;have AX:IntKind.i64.wrap r.next=r.next:=by rw[IntKind.wrap_i64];omega
 have Dk:IntKind.i64.wrap (W*8)=W*8:=by rw[IntKind.wrap_i64];omega
 have SD:IntKind.u64.wrap (W*8)=W*8:=by rw[IntKind.wrap_u64];omega
 have SE:IntKind.i64.wrap T=T:=by rw[IntKind.wrap_i64];omega
 have SF:IntKind.i64.wrap (r.at_+T)=r.at_+T:=by rw[IntKind.wrap_i64];omega
 have Gj:aR (W*8):=by unfold aR;omega
 have MI:aR r.word:=by unfold aR;omega
 have fb:=i.s;have MJ:=I (show gj W r.call.a r.call.c r.af r.next from by unfold gj;omega);go_enter func269,ntmps269;go_wp2_with(first|(refine aq ?_)|(refine aT ?_;clear U;intro H w U y));replace U:=U.drew;refine b0 ?_;intro X;refine az [[0,1,2,3,4,5,6,7,8,9,10],[11,12],[13]] ?_;clear U;intro gb ef w U;go_wp2_with(first|(go_at_call 220;refine Calls.mono (qQ _ _ _ eR c7) ?_;rintro e u ⟨rfl,rfl⟩;rw[YI.out])|(refine aq ?_)|(refine aT ?_;clear U;intro H w U y));replace U:=U.drew;refine b0 ?_;intro X;refine az [[0,1,2,3,4,5,6,7,8,9,10,11]] ?_;refine aF 12 fun K z=>?_;go_simp;go_at_call 242;refine a6 U (mc _ _ _ false _ _ _ MJ) ?_;clear U;intro u U;go_wp2_with fail;refine PK z fun X=>?_;refine az [[13,14,15,16,17,18,19]] ?_;go_wp2_with(first|(refine aq ?_)|(refine aT ?_;clear U;intro H w U y));replace U:=U.drew;refine b0 ?_;intro X;refine az [[0,1,2,3,4,5,6,7,8]] ?_;refine aF 9 fun K z=>?_;go_simp;go_at_call 155;refine a6 U (iX p _ _ _ i J o) ?_;clear U;intro u U;go_wp2_with fail;refine PK z fun X=>?_;refine az [[10,11,12,13,14]] ?_;go_wp2_with(first|(refine aq ?_)|(refine aT ?_;clear U;intro H w U y));replace U:=U.drew;refine b0 ?_;intro X;refine az [[0,1,2,3,4,5,6,7,8,9,10,11,12,13,14,15,16,17,18,19]] ?_;refine aF 20 fun K z=>?_;go_simp;go_at_call 321;refine Calls.mono (Ci _ _ _ n V _ (W*8) _ _ _ _ (8*r.af.toNat+3) U.bB J J Gj MI (by have:=L.out;unfold TJ at this;omega)) ?_;rintro e u ⟨rfl,rfl⟩;go_wp2_with fail;refine PK z fun X=>?_;refine az [[21,22,23,24,25,26,27]] ?_;go_wp2_with(first|(go_at_call 184;refine Calls.mono (hg _ _ r ⟨.slice W9 r.chain.length R,.slice Tz r.list.length Q,.slice P r.said.length Tm,.slice Tx r.aC.said.length ZM⟩ _ _ (O.out.Wu (U.Wu.mono hS)) bE) ?_;rintro e u ⟨v',rfl,M,N⟩;obtain⟨Uu,Ug,rfl,-,-,-⟩:=id M;have hv:=U.eh M;clear M;have A:=U.below N;clear U N;have U:=A.base)|(refine aq ?_)|(refine aT ?_;clear U;intro H w U y));refine fY ?_;exact⟨_,rfl,(U.carry hv fun _ _ h=>h.2).mono (fun b _ h=>⟨h.1,fun e=>h.2.1 _ (In.mem ag) e.symm,h.2.2 _ rfl⟩),U.b ag,U.bB,(A.back U).Wu⟩
end
end
end Go.Proofs.YtcimojgkeoecfaaGreat
