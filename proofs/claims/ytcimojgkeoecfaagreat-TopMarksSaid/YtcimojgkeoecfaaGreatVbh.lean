import Derived.Test.YtcimojgkeoecfaaGreatVbg
set_option linter.all false
set_option maxHeartbeats 16000000
set_option maxRecDepth 100000
namespace Go.Proofs.YtcimojgkeoecfaaGreat
section
open Go.RowKit
theorem mL{G:Prop}(h:G:=by
 refine fY ?_;have Yq:=U.b (g:=Yc) ag;exact⟨_,rfl,(U.carry hv fun _ _ h=>h.2).mono (fun b _ h=>⟨h.1,fun e=>h.2.1 _ (In.mem ag) e.symm,h.2.2 _ rfl⟩),Yq,U.bB,(DI.back U).Wu⟩):G:=h
theorem gz{G:Prop}(h:G:=by
 go_wp2_with(first|(refine aq ?_)|(refine aT ?_;clear U;intro X8 w U T7));refine fY ?_;have Yq:=U.b (g:=Yc) ag;exact⟨rfl,Yq,U.bB,U.Wu⟩):G:=h
abbrev kY(ap:Nat)(d:Int)(r:RJ)(x:Yr):List Value:= [.pointer (some ⟨ap,0,none⟩),.int .i64 d,
 .int .u8 r.call.op,.int .u8 r.call.r,.int .u8 r.call.h,.int .u8 r.call.v,.int .i64 r.call.a,.int .i64 r.call.b,.int .i64 r.call.c,
 .int .i64 r.Xj,.int .i64 r.af,.int .u64 r.hand,.int .u64 r.val,x.TQ,.int .u64 r.word,.int .u64 r.next,.int .i64 r.at_,.int .i64 r.top,x.ls,.int .i64 r.op,x.Wh,.int .i64 r.n,.bool r.held,.bool r.fin,.bool r.bF,
 .int .i64 r.aC.code,.int .i64 r.aC.n,x.Y1]
abbrev cn(p:PO)(ap:Nat)(r:RJ)(x:Yr)(e:Int):List Value:= [.int .i64 p.s,.int .i64 p.t,.int .i64 p.i,.int .i64 p.h,.pointer (some ⟨ap,0,none⟩),
 .int .u8 r.call.op,.int .u8 r.call.r,.int .u8 r.call.h,.int .u8 r.call.v,.int .i64 r.call.a,.int .i64 r.call.b,.int .i64 r.call.c,
 .int .i64 r.Xj,.int .i64 r.af,.int .u64 r.hand,.int .u64 r.val,x.TQ,.int .u64 r.word,.int .u64 r.next,.int .i64 r.at_,.int .i64 r.top,x.ls,.int .i64 r.op,x.Wh,.int .i64 r.n,.bool r.held,.bool r.fin,.bool r.bF,
 .int .i64 r.aC.code,.int .i64 r.aC.n,x.Y1,.int .i64 e]
abbrev bp(p:PO)(d:Value)(ap:Nat)(r:RJ)(x:Yr):List Value:= [.int .i64 p.s,.int .i64 p.t,.int .i64 p.i,.int .i64 p.h,d,.pointer (some ⟨ap,0,none⟩),
 .int .u8 r.call.op,.int .u8 r.call.r,.int .u8 r.call.h,.int .u8 r.call.v,.int .i64 r.call.a,.int .i64 r.call.b,.int .i64 r.call.c,
 .int .i64 r.Xj,.int .i64 r.af,.int .u64 r.hand,.int .u64 r.val,x.TQ,.int .u64 r.word,.int .u64 r.next,.int .i64 r.at_,.int .i64 r.top,x.ls,.int .i64 r.op,x.Wh,.int .i64 r.n,.bool r.held,.bool r.fin,.bool r.bF,
 .int .i64 r.aC.code,.int .i64 r.aC.n,x.Y1]
end
section
open Go.RowKit Tryz
def rP(V:Nat->Int)(r:RJ):Nat->Int:=
 put (put (put V (8*r.af.toNat+3) (TJ V r.af.toNat+8*fN r.call.a r.call.b)) ((r.at_+TJ V r.af.toNat)/8).toNat (q5 (fN r.call.a r.call.b) r.call.a r.call.c 0)) (((r.at_+TJ V r.af.toNat)/8).toNat+1) (r.af+256*r.next)
theorem DD(w0:World)(p:PO)(ap z n l:Nat)(V:Nat->Int)(r:RJ)(x:Yr)(hb:ah w0 l 374 (lB p ap r x).toArray)(L:ar w0 ap z n V)(h1:l≠ap)(O:l≠z)(G:a9 p)(U4:8*p.s<=n)(ci:0<=r.af/\r.af<p.s)(S:Nat->Prop)(d:aW w0 S r x)(bE:dx r)(hS: ∀b,b<w0.heap.size->S b->b≠l/\b≠z)(eR:0<=r.call.a/\r.call.a<=6)(c7:0<=r.call.b/\r.call.b<=512)(lk:0<=r.call.c/\r.call.c<=7)
 (fG:8<=r.at_/\r.at_ %8=0/\r.at_+r.word<=8*n)(jg:0<=r.next/\r.next<=16777215)(h7:0<=TJ V r.af.toNat/\TJ V r.af.toNat<=r.word/\TJ V r.af.toNat %8=0)(ed:(8*fN r.call.a r.call.b<=r.word-TJ V r.af.toNat)):
 Calls prog 269 #[.pointer (some ⟨l,0,none⟩)] w0 fun e w'=> ∃v,e= .returned (.tuple #[])/\cF w' (fun b=>w0.heap.size<=b/\b≠l/\b≠z) v r.said/\ah w' l 374 (lB p ap (tell r 0 (Y3 r.af r.next (r.at_+TJ V r.af.toNat))) {x with Y1:=v}).toArray/\ar w' ap z n (rP V r)/\Z1 (fun b=>b≠l/\b≠z) w0 w':=by
 have U:=Bx.dp hb L h1 O;have P:=I d;obtain⟨W9,Tv,m,_,_,_⟩:=id d.TQ;obtain⟨Tz,R,o,_,_,_⟩:=id d.ls;obtain⟨Q,Tm,q,_,_,_⟩:=id d.Wh;obtain⟨Tx,ZM,F,_,_,_⟩:=id d.Y1;obtain⟨TQ,ls,Wh,Y1⟩:=x;simp only at m o q F;subst m o q F;have hm:=L.cE;clear L hb d;obtain⟨W,YI,SC,p6⟩: ∃W,Hid (2+r.call.a+(r.call.b+7)/8=W)/\2+r.call.a<=W/\W<=72:=⟨_,I rfl,J,J⟩
 obtain⟨T,H⟩: ∃T,Hid (TJ V r.af.toNat=T):=⟨_,I rfl⟩
 have XE:fN r.call.a r.call.b=W:=YI.out;rw[H.out,XE]at ed;rw[H.out]at h7⊢;have AX:IntKind.i64.wrap r.next=r.next:=by rw[IntKind.wrap_i64];omega
 have Dk:IntKind.i64.wrap (W*8)=W*8:=by rw[IntKind.wrap_i64];omega
 have SD:IntKind.u64.wrap (W*8)=W*8:=by rw[IntKind.wrap_u64];omega
 have SE:IntKind.i64.wrap T=T:=by rw[IntKind.wrap_i64];omega
 have SF:IntKind.i64.wrap (r.at_+T)=r.at_+T:=by rw[IntKind.wrap_i64];omega
 have Gj:aR (W*8):=by unfold aR;omega
 have MI:aR r.word:=by unfold aR;omega
 have fb:=G.s;have MJ:=I (show gj W r.call.a r.call.c r.af r.next from by unfold gj;omega);obtain⟨B,y⟩: ∃B:Nat,Hid (r.at_+T=8*B):=⟨((r.at_+T)/8).toNat,I J⟩
 have SH:B+2<=n:=by have:=y.out;omega
 have jb:aR (hF W r.call.a r.call.c (bi false)):=by rw[pN];unfold aR hF;omega
 have lV:aR (r.af+256*r.next):=by unfold aR;omega
 have SI:=I (show jB r.af r.next (r.at_+T)from by unfold jB;omega);go_enter func269,ntmps269;go_wp2_with(first|(refine aq ?_)|(refine aT ?_;clear U;intro A w U j));replace U:=U.drew;refine b0 ?_;intro X;refine az [[0,1,2,3,4,5,6,7,8,9,10],[11,12],[13]] ?_;clear U;intro gb ef w U;go_wp2_with(first|(go_at_call 220;refine Calls.mono (qQ _ _ _ eR c7) ?_;rintro e f ⟨rfl,rfl⟩;rw[YI.out])|(refine aq ?_)|(refine aT ?_;clear U;intro A w U j));replace U:=U.drew;refine b0 ?_;intro X;refine az [[0,1,2,3,4,5,6,7,8,9,10,11]] ?_;refine aF 12 fun K u=>?_;go_simp;go_at_call 242;refine a6 U (mc _ _ _ false _ _ _ MJ) ?_;clear U;intro f U;go_wp2_with fail;refine PK u fun X=>?_;refine az [[13,14,15,16,17,18,19]] ?_;go_wp2_with(first|(refine aq ?_)|(refine aT ?_;clear U;intro A w U j));replace U:=U.drew;refine b0 ?_;intro X;refine az [[0,1,2,3,4,5,6,7,8]] ?_;refine aF 9 fun K u=>?_;go_simp;go_at_call 155;refine a6 U (iX p _ _ _ G J ci) ?_;clear U;intro f U;go_wp2_with fail;refine PK u fun X=>?_;refine az [[10,11,12,13,14]] ?_;go_wp2_with(first|(refine aq ?_)|(refine aT ?_;clear U;intro A w U j));replace U:=U.drew;refine b0 ?_;intro X;refine az [[0,1,2,3,4,5,6,7,8,9,10,11,12,13,14,15,16,17,18,19]] ?_;refine aF 20 fun K u=>?_;go_simp;go_at_call 321;refine Calls.mono (Cj _ _ _ n V _ (W*8) _ _ _ _ T (8*r.af.toNat+3) B U.bB J J Gj MI H.out J J J J y.out SH jb lV) ?_;rintro e f ⟨rfl,aH,N⟩;replace U:=U.arena aH N;clear aH N;go_wp2_with fail;refine PK u fun X=>?_;refine az [[21,22,23,24,25,26,27]] ?_;go_wp2_with(first|(refine aq ?_)|(refine aT ?_;clear U;intro A w U j));replace U:=U.drew;refine b0 ?_;intro X;refine az [[0,1,2,3,4,5,6,7,8,9,10,11,12,13,14]] ?_;refine aF 15 fun K u=>?_;go_simp;go_at_call 161;refine a6 U (zb _ _ _ _ SI.out) ?_;clear U;intro f U;go_wp2_with fail;refine PK u fun X=>?_;refine az [[16,17,18,19,20]] ?_;go_wp2_with(first|(go_at_call 184;refine Calls.mono (hg _ _ r ⟨.slice W9 r.chain.length Tv,.slice Tz r.list.length R,.slice Q r.said.length Tm,.slice Tx r.aC.said.length ZM⟩ _ _ (P.out.Wu (U.Wu.mono hS)) bE) ?_;rintro e f ⟨v',rfl,M,N⟩;obtain⟨Uu,Ug,rfl,-,-,-⟩:=id M;have hv:=U.eh M;clear M;have C:=U.below N;clear U N;have U:=C.base)|(refine aq ?_)|(refine aT ?_;clear U;intro A w U j));refine fY ?_;have Yq:=U.b (g:=l) ag;refine⟨_,rfl,(U.carry hv fun _ _ h=>h.2).mono (fun b _ h=>⟨h.1,fun e=>h.2.1 _ (In.mem ag) e.symm,h.2.2 _ rfl⟩),Yq,U.bB.ext fun i _=>?_,(C.back U).Wu⟩;have m:((r.at_+T)/8).toNat=B:=by have:=y.out;omega
 rw[pN];unfold rP;have o:T+W*8=T+8*W:=J;have q:hF W r.call.a r.call.c 0=q5 W r.call.a r.call.c 0:=by unfold hF q5;omega
 rw[H.out,XE,m,o,q];rfl
end
section
open Go.RowKit Tryz
theorem o2{G:Prop}(h:G:=by
 replace U:=U.call cf N aH aX;clear bD N aH aX;have DI:=U;clear U;have U:=DI.base;go_wp2_with(first|(refine aq ?_)|(refine Ws U 374 ?_;clear U;intro gK w U o3)|(refine aT ?_;clear U;intro X8 w U T7));refine aZ results186 rfl rfl ⟨_,U.b ag,rfl⟩ underlying198 rfl (by kernel_rfl) ?_;exact lM):G:=h
theorem k3{G:Prop}(h:G:=by
 rintro e EH ⟨rfl,N,aH,aX⟩;replace U:=U.call cf N aH aX;clear N aH aX;go_wp2_with(first|(refine aq ?_)|(refine Ws U 374 ?_;clear U;intro gK w U o3)|(refine aT ?_;clear U;intro X8 w U T7));refine aZ results186 rfl rfl ⟨_,U.b ag,rfl⟩ underlying198 rfl (by kernel_rfl) ?_;exact i0):G:=h
section
variable(w0:World)(S:Nat->Prop)(p:PO)(ap WC n:Nat)(V:Nat->Int)(r:RJ)(x:Yr)(j:ar w0 ap WC n V)(i:a9 p)(f:8*p.s<=n)(l:0<=r.af/\r.af<p.s)(d:aW w0 S r x)(m:dx r)(hS: ∀b,b<w0.heap.size->S b->b≠WC)(hd:r.fin=false)
include w0 S p ap WC n V r x j i f l d m hS hd
theorem DE(o:r.Xj=5)(ok:okW (V (8*r.af.toNat))):
 Calls prog 186 #[ej p,.pointer (some ⟨ap,0,none⟩),.agg (aY r x)] w0 fun e w'=> ∃x',e= .returned (.tuple #[.agg (aY {r with next:=(Wi V r.af.toNat).T5,Xj:=2} x'),.int .i64 0])/\ar w' ap WC n V/\aW w' (fun b=>(S b\/w0.heap.size<=b)/\b≠WC) {r with next:=(Wi V r.af.toNat).T5,Xj:=2} x'/\ce w0.heap.size WC w0 w':=by
 have U:=Bx.start (A:=some ⟨ap,WC,n,V⟩) (fun b=>b≠WC) w0 j fun a e k=>(by cases e;exact k rfl)
 have U3:=I d;obtain⟨W9,Tv,Tz,Tt,Tu,Tm,Tx,ZM,rfl⟩:=eW d;have q:=I o;have h:=I hd;clear j d o hd;go_enter func186,ntmps186;go_wp2_with(first|(refine g1 h ?_)|(refine c1 U rfl 371 rfl ?_;clear U;intro b w c;have U:=c.st;refine cN ?_)|(refine ey c rfl 371 _ _ _ rfl _ _ underlying371 underlying3 rfl _ _ rfl rfl (by rfl) ?_;clear c U;intro w c;simp only[aU,au]at c;have U:=c.st;refine cN ?_)|(refine dH c.map rfl 371 _ _ rfl underlying371 underlying3 rfl _ _ rfl (by rw[q.out];rfl) ?_;refine cN ?_)|(refine aq ?_)|(refine Ws U 374 ?_;clear U;intro gK w U o3)|(refine aT ?_;clear U;intro X8 w U T7));go_at_call 266;have v:=U.b (g:=gK) ag;have t:gK≠ap:=(U.WN _ rfl).1 _ (In.mem ag);have u:gK≠WC:=(U.WN _ rfl).2.1 _ (In.mem ag);refine Calls.mono (Jk _ p ap WC n gK V r ⟨.slice W9 r.chain.length Tv,.slice Tz r.list.length Tt,.slice Tu r.said.length Tm,.slice Tx r.aC.said.length ZM⟩ v U.bB t u i f l ok) ?_;exact k3
theorem Bf(o:r.Xj=2)(v:0<=bs V r.af.toNat/\bs V r.af.toNat<=65536):
 Calls prog 186 #[ej p,.pointer (some ⟨ap,0,none⟩),.agg (aY r x)] w0 fun e w'=> ∃x',e= .returned (.tuple #[.agg (aY {r with at_:=bs V r.af.toNat,Xj:=3} x'),.int .i64 0])/\ar w' ap WC n V/\aW w' (fun b=>(S b\/w0.heap.size<=b)/\b≠WC) {r with at_:=bs V r.af.toNat,Xj:=3} x'/\ce w0.heap.size WC w0 w':=by
 have U:=Bx.start (A:=some ⟨ap,WC,n,V⟩) (fun b=>b≠WC) w0 j fun a e k=>(by cases e;exact k rfl)
 have U3:=I d;obtain⟨W9,Tv,Tz,Tt,Tu,Tm,Tx,ZM,rfl⟩:=eW d;have q:=I o;have h:=I hd;clear j d o hd;go_enter func186,ntmps186;go_wp2_with(first|(refine g1 h ?_)|(refine c1 U rfl 371 rfl ?_;clear U;intro b w c;have U:=c.st;refine cN ?_)|(refine ey c rfl 371 _ _ _ rfl _ _ underlying371 underlying3 rfl _ _ rfl rfl (by rfl) ?_;clear c U;intro w c;simp only[aU,au]at c;have U:=c.st;refine cN ?_)|(refine dH c.map rfl 371 _ _ rfl underlying371 underlying3 rfl _ _ rfl (by rw[q.out];rfl) ?_;refine cN ?_)|(refine aq ?_)|(refine Ws U 374 ?_;clear U;intro gK w U o3)|(refine aT ?_;clear U;intro X8 w U T7));go_at_call 267;have y:=U.b (g:=gK) ag;have t:gK≠ap:=(U.WN _ rfl).1 _ (In.mem ag);have u:gK≠WC:=(U.WN _ rfl).2.1 _ (In.mem ag);refine Calls.mono (Gi _ p ap WC n gK V r ⟨.slice W9 r.chain.length Tv,.slice Tz r.list.length Tt,.slice Tu r.said.length Tm,.slice Tx r.aC.said.length ZM⟩ y U.bB t u i f l v) ?_;exact k3
theorem acO(o:r.Xj=3)(v:0<=Ts V r.af.toNat/\Ts V r.af.toNat<=65536):
 Calls prog 186 #[ej p,.pointer (some ⟨ap,0,none⟩),.agg (aY r x)] w0 fun e w'=> ∃x',e= .returned (.tuple #[.agg (aY {r with word:=Ts V r.af.toNat,Xj:=4} x'),.int .i64 0])/\ar w' ap WC n V/\aW w' (fun b=>(S b\/w0.heap.size<=b)/\b≠WC) {r with word:=Ts V r.af.toNat,Xj:=4} x'/\ce w0.heap.size WC w0 w':=by
 have U:=Bx.start (A:=some ⟨ap,WC,n,V⟩) (fun b=>b≠WC) w0 j fun a e k=>(by cases e;exact k rfl)
 have U3:=I d;obtain⟨W9,Tv,Tz,Tt,Tu,Tm,Tx,ZM,rfl⟩:=eW d;have q:=I o;have h:=I hd;clear j d o hd;go_enter func186,ntmps186;go_wp2_with(first|(refine g1 h ?_)|(refine c1 U rfl 371 rfl ?_;clear U;intro b w c;have U:=c.st;refine cN ?_)|(refine ey c rfl 371 _ _ _ rfl _ _ underlying371 underlying3 rfl _ _ rfl rfl (by rfl) ?_;clear c U;intro w c;simp only[aU,au]at c;have U:=c.st;refine cN ?_)|(refine dH c.map rfl 371 _ _ rfl underlying371 underlying3 rfl _ _ rfl (by rw[q.out];rfl) ?_;refine cN ?_)|(refine aq ?_)|(refine Ws U 374 ?_;clear U;intro gK w U o3)|(refine aT ?_;clear U;intro X8 w U T7));go_at_call 268;have y:=U.b (g:=gK) ag;have t:gK≠ap:=(U.WN _ rfl).1 _ (In.mem ag);have u:gK≠WC:=(U.WN _ rfl).2.1 _ (In.mem ag);refine Calls.mono (A7 _ p ap WC n gK V r ⟨.slice W9 r.chain.length Tv,.slice Tz r.list.length Tt,.slice Tu r.said.length Tm,.slice Tx r.aC.said.length ZM⟩ y U.bB t u i f l v) ?_;exact k3
section
variable(o:r.Xj=4)(t:0<=r.call.a/\r.call.a<=6)(q:0<=r.call.b/\r.call.b<=512)(z:0<=r.call.c/\r.call.c<=7)(u:8<=r.at_/\r.at_ %8=0/\r.at_+r.word<=8*n)(y:0<=r.next/\r.next<=16777215)(v:0<=TJ V r.af.toNat/\TJ V r.af.toNat<=r.word/\TJ V r.af.toNat %8=0)
include o t q z u y v
theorem abs(H: ¬(8*fN r.call.a r.call.b<=r.word-TJ V r.af.toNat)):
 Calls prog 186 #[ej p,.pointer (some ⟨ap,0,none⟩),.agg (aY r x)] w0 fun e w'=> ∃x',e= .returned (.tuple #[.agg (aY (tell r 17 0) x'),.int .i64 0])/\ar w' ap WC n V/\aW w' (fun b=>(S b\/w0.heap.size<=b)/\b≠WC) (tell r 17 0) x'/\ce w0.heap.size WC w0 w':=by
 have U:=Bx.start (A:=some ⟨ap,WC,n,V⟩) (fun b=>b≠WC) w0 j fun a e k=>(by cases e;exact k rfl)
 have U3:=I d;obtain⟨W9,Tv,Tz,Tt,Tu,Tm,F,G,rfl⟩:=eW d;have K:=I o;have C:=I hd;clear j d o hd;go_enter func186,ntmps186;go_wp2_with(first|(refine g1 C ?_)|(refine c1 U rfl 371 rfl ?_;clear U;intro b w B;have U:=B.st;refine cN ?_)|(refine ey B rfl 371 _ _ _ rfl _ _ underlying371 underlying3 rfl _ _ rfl rfl (by rfl) ?_;clear B U;intro w B;simp only[aU,au]at B;have U:=B.st;refine cN ?_)|(refine dH B.map rfl 371 _ _ rfl underlying371 underlying3 rfl _ _ rfl (by rw[K.out];rfl) ?_;refine cN ?_)|(refine aq ?_)|(refine Ws U 374 ?_;clear U;intro gK w U o3)|(refine aT ?_;clear U;intro X8 w U T7));go_at_call 269;have O:=U.b (g:=gK) ag;have L:gK≠ap:=(U.WN _ rfl).1 _ (In.mem ag);have M:gK≠WC:=(U.WN _ rfl).2.1 _ (In.mem ag);refine Calls.mono (Dj _ p ap WC n gK V r ⟨.slice W9 r.chain.length Tv,.slice Tz r.list.length Tt,.slice Tu r.said.length Tm,.slice F r.aC.said.length G⟩ O U.bB L M i f l (fun b=>b<w0.heap.size/\S b) ((U3.out.mono fun b hb h=>⟨hb,h⟩).Wu (U.Wu.mono fun b _ h=>hS b h.1 h.2)) m (fun b _ h=>⟨fun e=>by have:=o3;omega,hS b h.1 h.2⟩) t q z u y v (by first|exact H|omega)) ?_;rintro e P ⟨v',rfl,bD,N,aH,aX⟩;obtain⟨Uu,Ug,rfl,-,-,-⟩:=id bD;have hv:=U.ra (cs':=lB p ap (tell r 17 0) ⟨.slice W9 r.chain.length Tv,.slice Tz r.list.length Tt,.slice Tu r.said.length Tm,.slice Uu r.said.length Ug⟩) (V':=V) cf bD;exact o2
theorem abt(H:(8*fN r.call.a r.call.b<=r.word-TJ V r.af.toNat)):
 Calls prog 186 #[ej p,.pointer (some ⟨ap,0,none⟩),.agg (aY r x)] w0 fun e w'=> ∃x',e= .returned (.tuple #[.agg (aY (tell r 0 (Y3 r.af r.next (r.at_+TJ V r.af.toNat))) x'),.int .i64 0])/\ar w' ap WC n (rP V r)/\aW w' (fun b=>(S b\/w0.heap.size<=b)/\b≠WC) (tell r 0 (Y3 r.af r.next (r.at_+TJ V r.af.toNat))) x'/\ce w0.heap.size WC w0 w':=by
 have U:=Bx.start (A:=some ⟨ap,WC,n,V⟩) (fun b=>b≠WC) w0 j fun a e k=>(by cases e;exact k rfl)
 have U3:=I d;obtain⟨W9,Tv,Tz,Tt,Tu,Tm,F,G,rfl⟩:=eW d;have K:=I o;have C:=I hd;clear j d o hd;go_enter func186,ntmps186;go_wp2_with(first|(refine g1 C ?_)|(refine c1 U rfl 371 rfl ?_;clear U;intro b w B;have U:=B.st;refine cN ?_)|(refine ey B rfl 371 _ _ _ rfl _ _ underlying371 underlying3 rfl _ _ rfl rfl (by rfl) ?_;clear B U;intro w B;simp only[aU,au]at B;have U:=B.st;refine cN ?_)|(refine dH B.map rfl 371 _ _ rfl underlying371 underlying3 rfl _ _ rfl (by rw[K.out];rfl) ?_;refine cN ?_)|(refine aq ?_)|(refine Ws U 374 ?_;clear U;intro gK w U o3)|(refine aT ?_;clear U;intro X8 w U T7));go_at_call 269;have O:=U.b (g:=gK) ag;have L:gK≠ap:=(U.WN _ rfl).1 _ (In.mem ag);have M:gK≠WC:=(U.WN _ rfl).2.1 _ (In.mem ag);refine Calls.mono (DD _ p ap WC n gK V r ⟨.slice W9 r.chain.length Tv,.slice Tz r.list.length Tt,.slice Tu r.said.length Tm,.slice F r.aC.said.length G⟩ O U.bB L M i f l (fun b=>b<w0.heap.size/\S b) ((U3.out.mono fun b hb h=>⟨hb,h⟩).Wu (U.Wu.mono fun b _ h=>hS b h.1 h.2)) m (fun b _ h=>⟨fun e=>by have:=o3;omega,hS b h.1 h.2⟩) t q z u y v (by first|exact H|omega)) ?_;rintro e P ⟨v',rfl,bD,N,aH,aX⟩;obtain⟨Uu,Ug,rfl,-,-,-⟩:=id bD;have hv:=U.ra (cs':=lB p ap (tell r 0 (Y3 r.af r.next (r.at_+TJ V r.af.toNat))) ⟨.slice W9 r.chain.length Tv,.slice Tz r.list.length Tt,.slice Tu r.said.length Tm,.slice Uu r.said.length Ug⟩) (V':=(rP V r)) cf bD;exact o2
end
theorem Ju(v:0<=r.call.a/\r.call.a<=6)(u:0<=r.call.b/\r.call.b<=512)(w:0<=r.call.c/\r.call.c<=7)
 (k:r.Xj=5\/r.next=(Wi V r.af.toNat).T5/\(r.Xj=2\/r.at_=bs V r.af.toNat/\(r.Xj=3\/r.Xj=4/\r.word=Ts V r.af.toNat)))
 (ok:okW (V (8*r.af.toNat)))(hb:8<=bs V r.af.toNat/\bs V r.af.toNat %8=0/\0<=Ts V r.af.toNat/\bs V r.af.toNat+Ts V r.af.toNat<=8*n)(B:0<=TJ V r.af.toNat/\TJ V r.af.toNat<=Ts V r.af.toNat/\TJ V r.af.toNat %8=0):
 Calls prog 186 #[ej p,.pointer (some ⟨ap,0,none⟩),.agg (aY r x)] w0 fun e w'=> ∃x',e= .returned (.tuple #[.agg (aY (e6 V r).2 x'),.int .i64 0])/\ar w' ap WC n (e6 V r).1/\aW w' (fun b=>(S b\/w0.heap.size<=b)/\b≠WC) (e6 V r).2 x'/\ce w0.heap.size WC w0 w':=by
 have hm:=j.cE;rcases k with o|⟨C,g|⟨A,t|⟨q,z⟩⟩⟩
 ·have e:e6 V r=(V,{r with next:=(Wi V r.af.toNat).T5,Xj:=2}):=by unfold e6;rw[Z o]
  rw[e];exact DE w0 S p ap WC n V r x j i f l d m hS hd o ok
 ·have e:e6 V r=(V,{r with at_:=bs V r.af.toNat,Xj:=3}):=by unfold e6;rw[aB,Z g]
  rw[e];exact Bf w0 S p ap WC n V r x j i f l d m hS hd g J
 ·have e:e6 V r=(V,{r with word:=Ts V r.af.toNat,Xj:=4}):=by unfold e6;rw[aB,aB,Z t]
  rw[e];exact acO w0 S p ap WC n V r x j i f l d m hS hd t J
 ·have y:=ok.ok.T5;have F:0<=(Wi V r.af.toNat).T5/\(Wi V r.af.toNat).T5<=16777215:=y;by_cases c:8*fN r.call.a r.call.b<=r.word-TJ V r.af.toNat
  ·have e:e6 V r=(rP V r,tell r 0 (Y3 r.af r.next (r.at_+TJ V r.af.toNat))):=by unfold e6;rw[aB,aB,aB,Z ⟨J,c⟩];rfl
   rw[e];exact abt w0 S p ap WC n V r x j i f l d m hS hd q v u w J J J c
  ·have e:e6 V r=(V,tell r 17 0):=by unfold e6;rw[aB,aB,aB,Y (fun h=>c h.2)]
   rw[e];exact abs w0 S p ap WC n V r x j i f l d m hS hd q v u w J J J c
end
end
section
open Go.RowKit Tryz
theorem k4{G:Prop}(h:G:=by
 replace U:=U.drew;refine b0 ?_;intro X;refine az [[0,1,2,3,4,5]] ?_;refine Zj [6,10] ?_;refine ea (fun K Z7=>?_) ?_
 ·go_simp;go_at_call 287;refine a6 U (v0 _) ?_;clear U;intro EH U;go_wp2_with fail;refine PK Z7 fun X=>?_;refine az [[7,8,9],[10,11],[12]] ?_;clear U;intro Gh zr w U;go_wp2_with fail;go_meet;exact⟨_,_,rfl,rfl,U⟩
 refine ei (fun K Z7=>?_);refine ZZ U ny ?_;clear U;intro Gh w U zr;refine PK Z7 fun X=>?_;refine aF 6 fun K Z7=>?_;go_simp;go_at_call 287;refine a6 U (v0 _) ?_;clear U;intro EH U;go_wp2_with fail;refine PK Z7 fun X=>?_;refine az [[7,8,9],[11],[12]] ?_;clear U;intro w U;go_wp2_with fail;go_meet;exact⟨_,_,rfl,rfl,U⟩):G:=h
section
variable(w0:World)(j:Int)(ap f n Yc:Nat)(V:Nat->Int)(r:RJ)(x:Yr)(hb:ah w0 Yc 377 (kY ap j r x).toArray)(i:ar w0 ap f n V)(h1:Yc≠ap)(l:Yc≠f)
include w0 j ap f n Yc V r x hb i h1 l
section
variable(q:j=64*r.call.a)(m:8*r.call.a.toNat<n)(p:0<=r.call.a)(o:0<=r.af/\r.af<=7)(ok:okW (V (8*r.call.a.toNat)))
include q m p o ok
theorem GM(v:(ca (Wi V r.call.a.toNat) r.af).2=0):
 Calls prog 270 #[.pointer (some ⟨Yc,0,none⟩)] w0 fun e w'=>e= .returned (.tuple #[])/\ah w' Yc 377 (kY ap j {r with word:=V (8*r.call.a.toNat),Xj:=14,next:=TK (ca (Wi V r.call.a.toNat) r.af).1} x).toArray/\ar w' ap f n V/\Z1 (fun b=>b≠Yc/\b≠f) w0 w':=by
 have U:=Bx.dp hb i h1 l;have hm:=i.cE;clear i hb;have N:=I ok;have L:aR (V (8*r.call.a.toNat)):=by have:=ok.ok.UK;have e:=ok.eq;unfold aR;omega
 have u:=I ok.ok;have s:=I (ok.ok.enter o v).1;unfold Wi at v⊢;clear ok;obtain⟨F,A⟩: ∃F,Hid (V (8*r.call.a.toNat)=F):=⟨_,I rfl⟩
 rw[A.out]at N L u v;rw[A.out];rw[A.out]at s;obtain⟨c,B⟩: ∃c,Hid (up F=c):=⟨_,I rfl⟩
 rw[B.out]at u v;rw[B.out];rw[B.out]at s;have v0:=fun w=>r7 c r.af w u.out o;obtain⟨d,z,C⟩: ∃d z,ca c r.af=(d,z):=⟨_,_,rfl⟩
 rw[C]at v v0;rw[C];rw[C]at s;clear C u;simp only at v v0;simp only;simp only at s;subst v;go_enter func270,ntmps270;go_wp2_with(first|(refine aq ?_)|(refine aT ?_;clear U;intro M w U y));replace U:=U.drew;refine b0 ?_;intro X;refine az [[0,1,2,3,4,5,6,7]] ?_;refine aF 8 fun K Z7=>?_;go_simp;go_at_call 176;refine Calls.mono (eL _ _ _ n V _ (8*r.call.a.toNat) U.bB J m) ?_;rintro e EH ⟨rfl,rfl⟩;rw[A.out];go_wp2_with fail;refine PK Z7 fun X=>?_;refine az [[9,10,11,12,13]] ?_;go_wp2_with(first|(go_at_call 239;refine a6 U (gQ _ _ N.out L) ?_;clear U;intro EH U;rw[B.out])|(refine aq ?_)|(refine aT ?_;clear U;intro M w U y));have R:True:=trivial;go_cut [6,7]from 8 to 34 (fun Q G P=> ∃g H,Q= .pointer (some ⟨g,0,none⟩)/\G= .int .i64 0/\Bx w0 (fun b=>b≠Yc/\b≠f) P (some ⟨ap,f,n,V⟩) [⟨g,56,[.int .i64 d.st,.int .i64 d.Xf,.int .i64 d.YX,.int .i64 d.T5]⟩,⟨H,56,[.int .i64 c.st,.int .i64 c.Xf,.int .i64 c.YX,.int .i64 c.T5]⟩,⟨Yc,377,kY ap j r x⟩])
 case first=>
  exact k4
 case rest=>
 obtain⟨g,H,rfl,rfl,U⟩:=hcut;go_wp2_with(first|(go_at_call 278;refine a6 U (nD d _ s.out) ?_;clear U;intro EH U)|(refine aq ?_)|(refine aT ?_;clear U;intro M w U y));refine fY ?_;have O:=U.b (g:=Yc) ag;exact⟨rfl,O,U.bB,U.Wu⟩
theorem DF(u:(ca (Wi V r.call.a.toNat) r.af).2=10):
 Calls prog 270 #[.pointer (some ⟨Yc,0,none⟩)] w0 fun e w'=>e= .returned (.tuple #[])/\ah w' Yc 377 (kY ap j r x).toArray/\ar w' ap f n V/\Z1 (fun b=>b≠Yc/\b≠f) w0 w':=by
 have U:=Bx.dp hb i h1 l;have hm:=i.cE;clear i hb;have G:=I ok;have F:aR (V (8*r.call.a.toNat)):=by have:=ok.ok.UK;have e:=ok.eq;unfold aR;omega
 have s:=I ok.ok;unfold Wi at u;clear ok;obtain⟨y,A⟩: ∃y,Hid (V (8*r.call.a.toNat)=y):=⟨_,I rfl⟩
 rw[A.out]at G F s u;obtain⟨c,C⟩: ∃c,Hid (up y=c):=⟨_,I rfl⟩
 rw[C.out]at s u;have v0:=fun w=>r7 c r.af w s.out o;obtain⟨d,v,H⟩: ∃d v,ca c r.af=(d,v):=⟨_,_,rfl⟩
 rw[H]at u v0;clear H s;simp only at u v0;subst u;go_enter func270,ntmps270;go_wp2_with(first|(refine aq ?_)|(refine aT ?_;clear U;intro X8 w U T7));replace U:=U.drew;refine b0 ?_;intro X;refine az [[0,1,2,3,4,5,6,7]] ?_;refine aF 8 fun K Z7=>?_;go_simp;go_at_call 176;refine Calls.mono (eL _ _ _ n V _ (8*r.call.a.toNat) U.bB J m) ?_;rintro e EH ⟨rfl,rfl⟩;rw[A.out];go_wp2_with fail;refine PK Z7 fun X=>?_;refine az [[9,10,11,12,13]] ?_;go_wp2_with(first|(go_at_call 239;refine a6 U (gQ _ _ G.out F) ?_;clear U;intro EH U;rw[C.out])|(refine aq ?_)|(refine aT ?_;clear U;intro X8 w U T7));have N:True:=trivial;go_cut [6,7]from 8 to 34 (fun M z L=> ∃g B,M= .pointer (some ⟨g,0,none⟩)/\z= .int .i64 10/\Bx w0 (fun b=>b≠Yc/\b≠f) L (some ⟨ap,f,n,V⟩) [⟨g,56,[.int .i64 d.st,.int .i64 d.Xf,.int .i64 d.YX,.int .i64 d.T5]⟩,⟨B,56,[.int .i64 c.st,.int .i64 c.Xf,.int .i64 c.YX,.int .i64 c.T5]⟩,⟨Yc,377,kY ap j r x⟩])
 case first=>
  exact k4
 case rest=>
 obtain⟨g,B,rfl,rfl,U⟩:=hcut;exact gz
end
section
variable(S:Nat->Prop)(m:aW w0 S r x)(p:dx r)(hS: ∀b,b<w0.heap.size->S b->b≠Yc/\b≠f)(s:j=64*r.call.a)(o:8*r.call.a.toNat<n)(q:0<=r.call.a)
include S m p hS s o q
theorem GN(ci:0<=r.af/\r.af<=7)(ok:okW (V (8*r.call.a.toNat)))(z:(ca (Wi V r.call.a.toNat) r.af).2≠0/\(ca (Wi V r.call.a.toNat) r.af).2≠10):
 Calls prog 270 #[.pointer (some ⟨Yc,0,none⟩)] w0 fun e w'=> ∃v,e= .returned (.tuple #[])/\cF w' (fun b=>w0.heap.size<=b/\b≠Yc/\b≠f) v r.said/\ah w' Yc 377 (kY ap j (tell r (ca (Wi V r.call.a.toNat) r.af).2 0) {x with Y1:=v}).toArray/\ar w' ap f n V/\Z1 (fun b=>b≠Yc/\b≠f) w0 w':=by
 have U:=Bx.dp hb i h1 l;have T:=I m;obtain⟨W9,F,G,C,B,H,L,ZM,rfl⟩:=eW m;have hm:=i.cE;clear i hb m;have ki:=I ok;have Wy:aR (V (8*r.call.a.toNat)):=by have:=ok.ok.UK;have e:=ok.eq;unfold aR;omega
 have y:=I ok.ok;unfold Wi at z⊢;clear ok;obtain⟨Q,M⟩: ∃Q,Hid (V (8*r.call.a.toNat)=Q):=⟨_,I rfl⟩
 rw[M.out]at ki Wy y z;rw[M.out];obtain⟨c,O⟩: ∃c,Hid (up Q=c):=⟨_,I rfl⟩
 rw[O.out]at y z;rw[O.out];have v0:=fun w=>r7 c r.af w y.out ci;obtain⟨d,u,R⟩: ∃d u,ca c r.af=(d,u):=⟨_,_,rfl⟩
 rw[R]at z v0;rw[R];clear R y;simp only at z v0;simp only;have d0:(u==0)=false:=by simp[z.1]
 have d10:(u==10)=false:=by simp[z.2]
 clear z;go_enter func270,ntmps270;go_wp2_with(first|(refine aq ?_)|(refine aT ?_;clear U;intro X8 w U A));replace U:=U.drew;refine b0 ?_;intro X;refine az [[0,1,2,3,4,5,6,7]] ?_;refine aF 8 fun K Z7=>?_;go_simp;go_at_call 176;refine Calls.mono (eL _ _ _ n V _ (8*r.call.a.toNat) U.bB J o) ?_;rintro e EH ⟨rfl,rfl⟩;rw[M.out];go_wp2_with fail;refine PK Z7 fun X=>?_;refine az [[9,10,11,12,13]] ?_;go_wp2_with(first|(go_at_call 239;refine a6 U (gQ _ _ ki.out Wy) ?_;clear U;intro EH U;rw[O.out])|(refine aq ?_)|(refine aT ?_;clear U;intro X8 w U A));have aev:True:=trivial;go_cut [6,7]from 8 to 34 (fun aai W ZT=> ∃g W3,aai= .pointer (some ⟨g,0,none⟩)/\W= .int .i64 u/\Bx w0 (fun b=>b≠Yc/\b≠f) ZT (some ⟨ap,f,n,V⟩) [⟨g,56,[.int .i64 d.st,.int .i64 d.Xf,.int .i64 d.YX,.int .i64 d.T5]⟩,⟨W3,56,[.int .i64 c.st,.int .i64 c.Xf,.int .i64 c.YX,.int .i64 c.T5]⟩,⟨Yc,377,kY ap j r ⟨.slice W9 r.chain.length F,.slice G r.list.length C,.slice B r.said.length H,.slice L r.aC.said.length ZM⟩⟩])
 case first=>
  exact k4
 case rest=>
 obtain⟨g,W3,rfl,rfl,U⟩:=hcut;go_wp2_with(first|(go_at_call 184;refine Calls.mono (hg _ _ r ⟨.slice W9 r.chain.length F,.slice G r.list.length C,.slice B r.said.length H,.slice L r.aC.said.length ZM⟩ _ _ (T.out.Wu (U.Wu.mono hS)) p) ?_;rintro e EH ⟨v',rfl,P,N⟩;obtain⟨Uu,Ug,rfl,-,-,-⟩:=id P;have hv:=U.eh P;clear P;have DI:=U.below N;clear U N;have U:=DI.base)|(refine aq ?_)|(refine aT ?_;clear U;intro X8 w U A));exact mL
theorem DG(M:aR r.next)(G:V (8*r.call.a.toNat)=r.word):
 Calls prog 271 #[.pointer (some ⟨Yc,0,none⟩)] w0 fun e w'=> ∃v,e= .returned (.tuple #[])/\cF w' (fun b=>w0.heap.size<=b/\b≠Yc/\b≠f) v r.said/\ah w' Yc 377 (kY ap j (tell r 0 0) {x with Y1:=v}).toArray/\ar w' ap f n (upd V (8*r.call.a.toNat) r.next)/\Z1 (fun b=>b≠Yc/\b≠f) w0 w':=by
 have U:=Bx.dp hb i h1 l;have u:=I m;obtain⟨L,A,B,z,y,C,F,Q,rfl⟩:=eW m;have hm:=i.cE;clear i hb m;have O:=I G;clear G;go_enter func271,ntmps271;go_wp2_with(first|(refine aq ?_)|(refine Po U ?_;clear U;intro w U));replace U:=U.drew;refine b0 ?_;intro X;refine az [[0,1,2,3,4,5,6,7,8,9,10,11,12,13,14,15,16,17]] ?_;refine aF 18 fun K P=>?_;go_simp;go_at_call 322;refine Calls.mono (q4 _ _ _ n V _ _ _ (8*r.call.a.toNat) U.bB J o M O.out) ?_;rintro e d ⟨rfl,H,N⟩;replace U:=U.arena H N;clear H N;go_wp2_with fail;refine PK P fun X=>?_;refine az [[19,20,21,22,23]] ?_;go_wp2_with(first|(go_at_call 184;refine Calls.mono (hg _ _ r ⟨.slice L r.chain.length A,.slice B r.list.length z,.slice y r.said.length C,.slice F r.aC.said.length Q⟩ _ _ (u.out.Wu (U.Wu.mono hS)) p) ?_;rintro e d ⟨v',rfl,c,N⟩;obtain⟨T,R,rfl,-,-,-⟩:=id c;have hv:=U.eh c;clear c;have DI:=U.below N;clear U N;have U:=DI.base)|(refine aq ?_)|(refine Po U ?_;clear U;intro w U));exact mL
end
theorem DH(v:j=64*r.call.a)(c:8*r.call.a.toNat<n)(u:0<=r.call.a)(s:aR r.next)(d:V (8*r.call.a.toNat)≠r.word):
 Calls prog 271 #[.pointer (some ⟨Yc,0,none⟩)] w0 fun e w'=>e= .returned (.tuple #[])/\ah w' Yc 377 (kY ap j {r with word:=0,next:=0,Xj:=13} x).toArray/\ar w' ap f n V/\Z1 (fun b=>b≠Yc/\b≠f) w0 w':=by
 have U:=Bx.dp hb i h1 l;have hm:=i.cE;clear i hb;have m:=I d;clear d;go_enter func271,ntmps271;go_wp2_with(first|(refine aq ?_)|(refine Po U ?_;clear U;intro w U));replace U:=U.drew;refine b0 ?_;intro X;refine az [[0,1,2,3,4,5,6,7,8,9,10,11,12,13,14,15,16,17]] ?_;refine aF 18 fun K p=>?_;go_simp;go_at_call 322;refine Calls.mono (w4 _ _ _ n V _ _ _ (8*r.call.a.toNat) U.bB J c m.out) ?_;rintro e q ⟨rfl,rfl⟩;go_wp2_with fail;refine PK p fun X=>?_;refine az [[19,20,21,22,23]] ?_;go_wp2_with(first|(refine aq ?_)|(refine Po U ?_;clear U;intro w U));refine fY ?_;have o:=U.b (g:=Yc) ag;exact⟨rfl,o,U.bB,U.Wu⟩
end
end
section
open Go.RowKit Tryz
theorem k5{G:Prop}(h:G:=by
 rintro e EH ⟨rfl,N,aH,aX⟩;replace U:=U.call cf N aH aX;clear N aH aX;go_wp2_with(first|(refine aq ?_)|(refine Ws U 377 ?_;clear U;intro gL w U o4)|(refine aT ?_;clear U;intro X8 w U T7));refine aZ results187 rfl rfl ⟨_,U.b ag,rfl⟩ underlying198 rfl (by kernel_rfl) ?_;exact i0):G:=h
theorem o5{G:Prop}(h:G:=by
 replace U:=U.call cf N aH aX;clear bD N aH aX;have DI:=U;clear U;have U:=DI.base;go_wp2_with(first|(refine aq ?_)|(refine Ws U 377 ?_;clear U;intro gL w U o4)|(refine aT ?_;clear U;intro X8 w U T7));refine aZ results187 rfl rfl ⟨_,U.b ag,rfl⟩ underlying198 rfl (by kernel_rfl) ?_;exact lM):G:=h
section
variable(w0:World)(S:Nat->Prop)(p:PO)(ap WC n:Nat)(V:Nat->Int)(r:RJ)(x:Yr)(i:ar w0 ap WC n V)(d:aW w0 S r x)(m:dx r)(hS: ∀b,b<w0.heap.size->S b->b≠WC)(hd:r.fin=false)(f:a9 p)(l:8*p.s<=n)(j:0<=r.call.a/\r.call.a<p.s)
include w0 S p ap WC n V r x i d m hS hd f l j
section
variable(o:0<=r.af/\r.af<=7)(ok:okW (V (8*r.call.a.toNat)))(c:r.Xj=13)
include o ok c
theorem MO(t:(ca (Wi V r.call.a.toNat) r.af).2=0):
 Calls prog 187 #[ej p,.pointer (some ⟨ap,0,none⟩),.agg (aY r x)] w0 fun e w'=> ∃x',e= .returned (.tuple #[.agg (aY {r with word:=V (8*r.call.a.toNat),Xj:=14,next:=TK (ca (Wi V r.call.a.toNat) r.af).1} x'),.int .i64 0])/\ar w' ap WC n V/\aW w' (fun b=>(S b\/w0.heap.size<=b)/\b≠WC) {r with word:=V (8*r.call.a.toNat),Xj:=14,next:=TK (ca (Wi V r.call.a.toNat) r.af).1} x'/\ce w0.heap.size WC w0 w':=by
 have U:=Bx.start (A:=some ⟨ap,WC,n,V⟩) (fun b=>b≠WC) w0 i fun a e k=>(by cases e;exact k rfl)
 have U3:=I d;obtain⟨W9,Tv,Tz,Tt,Tu,Tm,Tx,ZM,rfl⟩:=eW d;have q:=I hd;clear i d hd;have v:=I c;have u:=I t;clear c t;have B:8*r.call.a.toNat<n:=J;go_enter func187,ntmps187;go_wp2_with(first|(go_at_call 155;refine a6 U (iX p _ _ _ f J j) ?_;clear U;intro EH U)|(refine g1 q ?_)|(refine c1 U rfl 378 rfl ?_;clear U;intro b w h;have U:=h.st;refine cN ?_)|(refine ey h rfl 378 _ _ _ rfl _ _ underlying378 underlying3 rfl _ _ rfl rfl (by rfl) ?_;clear h U;intro w h;simp only[aU,au]at h;have U:=h.st;refine cN ?_)|(refine dH h.map rfl 378 _ _ rfl underlying378 underlying3 rfl _ _ rfl (by rw[v.out];rfl) ?_;refine cN ?_)|(refine aq ?_)|(refine Ws U 377 ?_;clear U;intro gL w U o4)|(refine aT ?_;clear U;intro X8 w U T7));go_at_call 270;have C:=U.b (g:=gL) ag;have y:gL≠ap:=(U.WN _ rfl).1 _ (In.mem ag);have z:gL≠WC:=(U.WN _ rfl).2.1 _ (In.mem ag);refine Calls.mono (GM _ _ ap WC n gL V r ⟨.slice W9 r.chain.length Tv,.slice Tz r.list.length Tt,.slice Tu r.said.length Tm,.slice Tx r.aC.said.length ZM⟩ C U.bB y z J B j.1 o ok u.out) ?_;exact k5
theorem Jv(t:(ca (Wi V r.call.a.toNat) r.af).2=10):
 Calls prog 187 #[ej p,.pointer (some ⟨ap,0,none⟩),.agg (aY r x)] w0 fun e w'=> ∃x',e= .returned (.tuple #[.agg (aY r x'),.int .i64 0])/\ar w' ap WC n V/\aW w' (fun b=>(S b\/w0.heap.size<=b)/\b≠WC) r x'/\ce w0.heap.size WC w0 w':=by
 have U:=Bx.start (A:=some ⟨ap,WC,n,V⟩) (fun b=>b≠WC) w0 i fun a e k=>(by cases e;exact k rfl)
 have U3:=I d;obtain⟨W9,Tv,Tz,Tt,Tu,Tm,Tx,ZM,rfl⟩:=eW d;have q:=I hd;clear i d hd;have v:=I c;have u:=I t;clear c t;have B:8*r.call.a.toNat<n:=J;go_enter func187,ntmps187;go_wp2_with(first|(go_at_call 155;refine a6 U (iX p _ _ _ f J j) ?_;clear U;intro EH U)|(refine g1 q ?_)|(refine c1 U rfl 378 rfl ?_;clear U;intro b w h;have U:=h.st;refine cN ?_)|(refine ey h rfl 378 _ _ _ rfl _ _ underlying378 underlying3 rfl _ _ rfl rfl (by rfl) ?_;clear h U;intro w h;simp only[aU,au]at h;have U:=h.st;refine cN ?_)|(refine dH h.map rfl 378 _ _ rfl underlying378 underlying3 rfl _ _ rfl (by rw[v.out];rfl) ?_;refine cN ?_)|(refine aq ?_)|(refine Ws U 377 ?_;clear U;intro gL w U o4)|(refine aT ?_;clear U;intro X8 w U T7));go_at_call 270;have C:=U.b (g:=gL) ag;have y:gL≠ap:=(U.WN _ rfl).1 _ (In.mem ag);have z:gL≠WC:=(U.WN _ rfl).2.1 _ (In.mem ag);refine Calls.mono (DF _ _ ap WC n gL V r ⟨.slice W9 r.chain.length Tv,.slice Tz r.list.length Tt,.slice Tu r.said.length Tm,.slice Tx r.aC.said.length ZM⟩ C U.bB y z J B j.1 o ok u.out) ?_;exact k5
theorem MP(y:(ca (Wi V r.call.a.toNat) r.af).2≠0/\(ca (Wi V r.call.a.toNat) r.af).2≠10):
 Calls prog 187 #[ej p,.pointer (some ⟨ap,0,none⟩),.agg (aY r x)] w0 fun e w'=> ∃x',e= .returned (.tuple #[.agg (aY (tell r (ca (Wi V r.call.a.toNat) r.af).2 0) x'),.int .i64 0])/\ar w' ap WC n V/\aW w' (fun b=>(S b\/w0.heap.size<=b)/\b≠WC) (tell r (ca (Wi V r.call.a.toNat) r.af).2 0) x'/\ce w0.heap.size WC w0 w':=by
 have U:=Bx.start (A:=some ⟨ap,WC,n,V⟩) (fun b=>b≠WC) w0 i fun a e k=>(by cases e;exact k rfl)
 have U3:=I d;obtain⟨W9,Tv,Tz,Tt,Tu,Tm,v,z,rfl⟩:=eW d;have u:=I hd;clear i d hd;have C:=I c;have B:=I y;clear c y;have H:8*r.call.a.toNat<n:=J;go_enter func187,ntmps187;go_wp2_with(first|(go_at_call 155;refine a6 U (iX p _ _ _ f J j) ?_;clear U;intro t U)|(refine g1 u ?_)|(refine c1 U rfl 378 rfl ?_;clear U;intro b w q;have U:=q.st;refine cN ?_)|(refine ey q rfl 378 _ _ _ rfl _ _ underlying378 underlying3 rfl _ _ rfl rfl (by rfl) ?_;clear q U;intro w q;simp only[aU,au]at q;have U:=q.st;refine cN ?_)|(refine dH q.map rfl 378 _ _ rfl underlying378 underlying3 rfl _ _ rfl (by rw[C.out];rfl) ?_;refine cN ?_)|(refine aq ?_)|(refine Ws U 377 ?_;clear U;intro gL w U o4)|(refine aT ?_;clear U;intro X8 w U T7));go_at_call 270;have K:=U.b (g:=gL) ag;have F:gL≠ap:=(U.WN _ rfl).1 _ (In.mem ag);have G:gL≠WC:=(U.WN _ rfl).2.1 _ (In.mem ag);refine Calls.mono (GN _ _ ap WC n gL V r ⟨.slice W9 r.chain.length Tv,.slice Tz r.list.length Tt,.slice Tu r.said.length Tm,.slice v r.aC.said.length z⟩ K U.bB F G (fun b=>b<w0.heap.size/\S b) ((U3.out.mono fun b hb h=>⟨hb,h⟩).Wu (U.Wu.mono fun b _ h=>hS b h.1 h.2)) m (fun b _ h=>⟨fun e=>by have:=o4;omega,hS b h.1 h.2⟩) J H j.1 o ok B.out) ?_;rintro e t ⟨v',rfl,bD,N,aH,aX⟩;obtain⟨Uu,Ug,rfl,-,-,-⟩:=id bD;have hv:=U.ra (cs':=kY ap (64*r.call.a) (tell r (ca (Wi V r.call.a.toNat) r.af).2 0) ⟨.slice W9 r.chain.length Tv,.slice Tz r.list.length Tt,.slice Tu r.said.length Tm,.slice Uu r.said.length Ug⟩) (V':=V) cf bD;exact o5
end
theorem MQ(v:r.Xj=14)(y:aR r.next)(u:V (8*r.call.a.toNat)=r.word):
 Calls prog 187 #[ej p,.pointer (some ⟨ap,0,none⟩),.agg (aY r x)] w0 fun e w'=> ∃x',e= .returned (.tuple #[.agg (aY (tell r 0 0) x'),.int .i64 0])/\ar w' ap WC n (upd V (8*r.call.a.toNat) r.next)/\aW w' (fun b=>(S b\/w0.heap.size<=b)/\b≠WC) (tell r 0 0) x'/\ce w0.heap.size WC w0 w':=by
 have U:=Bx.start (A:=some ⟨ap,WC,n,V⟩) (fun b=>b≠WC) w0 i fun a e k=>(by cases e;exact k rfl)
 have U3:=I d;obtain⟨W9,Tv,Tz,Tt,Tu,Tm,t,z,rfl⟩:=eW d;have q:=I hd;clear i d hd;have C:=I v;have B:=I u;clear v u;have H:8*r.call.a.toNat<n:=J;go_enter func187,ntmps187;go_wp2_with(first|(go_at_call 155;refine a6 U (iX p _ _ _ f J j) ?_;clear U;intro o U)|(refine g1 q ?_)|(refine c1 U rfl 378 rfl ?_;clear U;intro b w c;have U:=c.st;refine cN ?_)|(refine ey c rfl 378 _ _ _ rfl _ _ underlying378 underlying3 rfl _ _ rfl rfl (by rfl) ?_;clear c U;intro w c;simp only[aU,au]at c;have U:=c.st;refine cN ?_)|(refine dH c.map rfl 378 _ _ rfl underlying378 underlying3 rfl _ _ rfl (by rw[C.out];rfl) ?_;refine cN ?_)|(refine aq ?_)|(refine Ws U 377 ?_;clear U;intro gL w U o4)|(refine aT ?_;clear U;intro X8 w U T7));go_at_call 271;have K:=U.b (g:=gL) ag;have F:gL≠ap:=(U.WN _ rfl).1 _ (In.mem ag);have G:gL≠WC:=(U.WN _ rfl).2.1 _ (In.mem ag);refine Calls.mono (DG _ _ ap WC n gL V r ⟨.slice W9 r.chain.length Tv,.slice Tz r.list.length Tt,.slice Tu r.said.length Tm,.slice t r.aC.said.length z⟩ K U.bB F G (fun b=>b<w0.heap.size/\S b) ((U3.out.mono fun b hb h=>⟨hb,h⟩).Wu (U.Wu.mono fun b _ h=>hS b h.1 h.2)) m (fun b _ h=>⟨fun e=>by have:=o4;omega,hS b h.1 h.2⟩) J H j.1 y B.out) ?_;rintro e o ⟨v',rfl,bD,N,aH,aX⟩;obtain⟨Uu,Ug,rfl,-,-,-⟩:=id bD;have hv:=U.ra (cs':=kY ap (64*r.call.a) (tell r 0 0) ⟨.slice W9 r.chain.length Tv,.slice Tz r.list.length Tt,.slice Tu r.said.length Tm,.slice Uu r.said.length Ug⟩) (V':=(upd V (8*r.call.a.toNat) r.next)) cf bD;exact o5
theorem MR(q:r.Xj=14)(t:aR r.next)(o:V (8*r.call.a.toNat)≠r.word):
 Calls prog 187 #[ej p,.pointer (some ⟨ap,0,none⟩),.agg (aY r x)] w0 fun e w'=> ∃x',e= .returned (.tuple #[.agg (aY {r with word:=0,next:=0,Xj:=13} x'),.int .i64 0])/\ar w' ap WC n V/\aW w' (fun b=>(S b\/w0.heap.size<=b)/\b≠WC) {r with word:=0,next:=0,Xj:=13} x'/\ce w0.heap.size WC w0 w':=by
 have U:=Bx.start (A:=some ⟨ap,WC,n,V⟩) (fun b=>b≠WC) w0 i fun a e k=>(by cases e;exact k rfl)
 have U3:=I d;obtain⟨W9,Tv,Tz,Tt,Tu,Tm,Tx,ZM,rfl⟩:=eW d;have h:=I hd;clear i d hd;have v:=I q;have u:=I o;clear q o;have B:8*r.call.a.toNat<n:=J;go_enter func187,ntmps187;go_wp2_with(first|(go_at_call 155;refine a6 U (iX p _ _ _ f J j) ?_;clear U;intro EH U)|(refine g1 h ?_)|(refine c1 U rfl 378 rfl ?_;clear U;intro b w c;have U:=c.st;refine cN ?_)|(refine ey c rfl 378 _ _ _ rfl _ _ underlying378 underlying3 rfl _ _ rfl rfl (by rfl) ?_;clear c U;intro w c;simp only[aU,au]at c;have U:=c.st;refine cN ?_)|(refine dH c.map rfl 378 _ _ rfl underlying378 underlying3 rfl _ _ rfl (by rw[v.out];rfl) ?_;refine cN ?_)|(refine aq ?_)|(refine Ws U 377 ?_;clear U;intro gL w U o4)|(refine aT ?_;clear U;intro X8 w U T7));go_at_call 271;have C:=U.b (g:=gL) ag;have y:gL≠ap:=(U.WN _ rfl).1 _ (In.mem ag);have z:gL≠WC:=(U.WN _ rfl).2.1 _ (In.mem ag);refine Calls.mono (DH _ _ ap WC n gL V r ⟨.slice W9 r.chain.length Tv,.slice Tz r.list.length Tt,.slice Tu r.said.length Tm,.slice Tx r.aC.said.length ZM⟩ C U.bB y z J B j.1 t u.out) ?_;exact k5
theorem GO(q:0<=r.af/\r.af<=7)(ok:okW (V (8*r.call.a.toNat)))(k:r.Xj=13\/r.Xj=14/\aR r.next):
 Calls prog 187 #[ej p,.pointer (some ⟨ap,0,none⟩),.agg (aY r x)] w0 fun e w'=> ∃x',e= .returned (.tuple #[.agg (aY (dR V r).2 x'),.int .i64 0])/\ar w' ap WC n (dR V r).1/\aW w' (fun b=>(S b\/w0.heap.size<=b)/\b≠WC) (dR V r).2 x'/\ce w0.heap.size WC w0 w':=by
 rcases k with g|⟨u,t⟩
 ·by_cases h:(ca (Wi V r.call.a.toNat) r.af).2=10
  ·have e:dR V r=(V,r):=by unfold dR;rw[Z g,Z h]
   rw[e];exact Jv w0 S p ap WC n V r x i d m hS hd f l j q ok g h
  ·by_cases o:(ca (Wi V r.call.a.toNat) r.af).2=0
   ·have e:dR V r=(V,{r with word:=V (8*r.call.a.toNat),Xj:=14,next:=TK (ca (Wi V r.call.a.toNat) r.af).1}):=by unfold dR;rw[Z g,Y h,Z o]
    rw[e];exact MO w0 S p ap WC n V r x i d m hS hd f l j q ok g o
   ·have e:dR V r=(V,tell r (ca (Wi V r.call.a.toNat) r.af).2 0):=by unfold dR;rw[Z g,Y h,Y o]
    rw[e];exact MP w0 S p ap WC n V r x i d m hS hd f l j q ok g ⟨o,h⟩
 ·by_cases c:V (8*r.call.a.toNat)=r.word
  ·have e:dR V r=(upd V (8*r.call.a.toNat) r.next,tell r 0 0):=by unfold dR;rw[aB,Z c];rfl
   rw[e];exact MQ w0 S p ap WC n V r x i d m hS hd f l j u t c
  ·have e:dR V r=(V,{r with word:=0,next:=0,Xj:=13}):=by unfold dR;rw[aB,Y c]
   rw[e];exact MR w0 S p ap WC n V r x i d m hS hd f l j u t c
end
end
end Go.Proofs.YtcimojgkeoecfaaGreat
