import Derived.Test.YtcimojgkeoecfaaGreatXbg
set_option linter.all false
set_option maxHeartbeats 16000000
set_option maxRecDepth 100000
namespace Go.Proofs.YtcimojgkeoecfaaGreat
section
open Go.RowKit
theorem mL{G:Prop}(h:G:=by
 refine fY ?_;have Yq:=U.b (g:=Yc) ag;exact⟨_,rfl,(U.carry hv fun _ _ h=>h.2).mono (fun b _ h=>⟨h.1,fun e=>h.2.1 _ (In.mem ag) e.symm,h.2.2 _ rfl⟩),Yq,U.bB,(aaH.back U).Wu⟩):G:=h
theorem gz{G:Prop}(h:G:=by
 go_wp2_with(first|(refine aq ?_)|(refine aT ?_;clear U;intro X8 w U aay));refine fY ?_;have Yq:=U.b (g:=Yc) ag;exact⟨rfl,Yq,U.bB,U.Wu⟩):G:=h
abbrev kY(ap:Nat)(aK:Int)(r:aax)(x:Yr):List Value:= [.pointer (some ⟨ap,0,none⟩),.int .i64 aK,
 .int .u8 r.call.op,.int .u8 r.call.r,.int .u8 r.call.h,.int .u8 r.call.v,.int .i64 r.call.a,.int .i64 r.call.b,.int .i64 r.call.c,
 .int .i64 r.Xj,.int .i64 r.af,.int .u64 r.hand,.int .u64 r.val,x.ads,.int .u64 r.word,.int .u64 r.next,.int .i64 r.at_,.int .i64 r.top,x.ls,.int .i64 r.op,x.Wh,.int .i64 r.n,.bool r.held,.bool r.fin,.bool r.bF,
 .int .i64 r.aC.code,.int .i64 r.aC.n,x.Y1]
abbrev cn(p:afy)(ap:Nat)(r:aax)(x:Yr)(e:Int):List Value:= [.int .i64 p.s,.int .i64 p.t,.int .i64 p.i,.int .i64 p.h,.pointer (some ⟨ap,0,none⟩),
 .int .u8 r.call.op,.int .u8 r.call.r,.int .u8 r.call.h,.int .u8 r.call.v,.int .i64 r.call.a,.int .i64 r.call.b,.int .i64 r.call.c,
 .int .i64 r.Xj,.int .i64 r.af,.int .u64 r.hand,.int .u64 r.val,x.ads,.int .u64 r.word,.int .u64 r.next,.int .i64 r.at_,.int .i64 r.top,x.ls,.int .i64 r.op,x.Wh,.int .i64 r.n,.bool r.held,.bool r.fin,.bool r.bF,
 .int .i64 r.aC.code,.int .i64 r.aC.n,x.Y1,.int .i64 e]
abbrev bp(p:afy)(Y8:Value)(ap:Nat)(r:aax)(x:Yr):List Value:= [.int .i64 p.s,.int .i64 p.t,.int .i64 p.i,.int .i64 p.h,Y8,.pointer (some ⟨ap,0,none⟩),
 .int .u8 r.call.op,.int .u8 r.call.r,.int .u8 r.call.h,.int .u8 r.call.v,.int .i64 r.call.a,.int .i64 r.call.b,.int .i64 r.call.c,
 .int .i64 r.Xj,.int .i64 r.af,.int .u64 r.hand,.int .u64 r.val,x.ads,.int .u64 r.word,.int .u64 r.next,.int .i64 r.at_,.int .i64 r.top,x.ls,.int .i64 r.op,x.Wh,.int .i64 r.n,.bool r.held,.bool r.fin,.bool r.bF,
 .int .i64 r.aC.code,.int .i64 r.aC.n,x.Y1]
end
section
open Go.RowKit Tryz
def rP(V:Nat->Int)(r:aax):Nat->Int:=
 put (put (put V (8*r.af.toNat+3) (adh V r.af.toNat+8*fN r.call.a r.call.b)) ((r.at_+adh V r.af.toNat)/8).toNat (q5 (fN r.call.a r.call.b) r.call.a r.call.c 0)) (((r.at_+adh V r.af.toNat)/8).toNat+1) (r.af+256*r.next)
theorem DD(w0:World)(p:afy)(ap WC n Yc:Nat)(V:Nat->Int)(r:aax)(x:Yr)(hb:ah w0 Yc 374 (lB p ap r x).toArray)(Xg:ar w0 ap WC n V)(h1:Yc≠ap)(aaV:Yc≠WC)(aeJ:a9 p)(abi:8*p.s<=n)(ci:0<=r.af/\r.af<p.s)(S:Nat->Prop)(abk:aW w0 S r x)(bE:dx r)(hS: ∀b,b<w0.heap.size->S b->b≠Yc/\b≠WC)(eR:0<=r.call.a/\r.call.a<=6)(c7:0<=r.call.b/\r.call.b<=512)(lk:0<=r.call.c/\r.call.c<=7)
 (fG:8<=r.at_/\r.at_ %8=0/\r.at_+r.word<=8*n)(jg:0<=r.next/\r.next<=16777215)(h7:0<=adh V r.af.toNat/\adh V r.af.toNat<=r.word/\adh V r.af.toNat %8=0)(ed:(8*fN r.call.a r.call.b<=r.word-adh V r.af.toNat)):
 Calls prog 269 #[.pointer (some ⟨Yc,0,none⟩)] w0 fun e w'=> ∃v,e= .returned (.tuple #[])/\cF w' (fun b=>w0.heap.size<=b/\b≠Yc/\b≠WC) v r.said/\ah w' Yc 374 (lB p ap (tell r 0 (ac4 r.af r.next (r.at_+adh V r.af.toNat))) {x with Y1:=v}).toArray/\ar w' ap WC n (rP V r)/\Z1 (fun b=>b≠Yc/\b≠WC) w0 w':=by
 have U:=aah.dp hb Xg h1 aaV;have aby:=I abk;obtain⟨W9,adX,aal,_,_,_⟩:=id abk.ads;obtain⟨aeQ,acN,abF,_,_,_⟩:=id abk.ls;obtain⟨acG,aeb,acL,_,_,_⟩:=id abk.Wh;obtain⟨af3,ZM,acS,_,_,_⟩:=id abk.Y1;obtain⟨ads,ls,Wh,Y1⟩:=x;simp only at aal abF acL acS;subst aal abF acL acS;have hm:=Xg.cE;clear Xg hb abk;obtain⟨W,YI,SC,p6⟩: ∃W,Hid (2+r.call.a+(r.call.b+7)/8=W)/\2+r.call.a<=W/\W<=72:=⟨_,I rfl,J,J⟩
 obtain⟨T,YQ⟩: ∃T,Hid (adh V r.af.toNat=T):=⟨_,I rfl⟩
 have XE:fN r.call.a r.call.b=W:=YI.out;rw[YQ.out,XE]at ed;rw[YQ.out]at h7⊢;have AX:IntKind.i64.wrap r.next=r.next:=by rw[IntKind.wrap_i64];omega
 have Dk:IntKind.i64.wrap (W*8)=W*8:=by rw[IntKind.wrap_i64];omega
 have SD:IntKind.u64.wrap (W*8)=W*8:=by rw[IntKind.wrap_u64];omega
 have SE:IntKind.i64.wrap T=T:=by rw[IntKind.wrap_i64];omega
 have SF:IntKind.i64.wrap (r.at_+T)=r.at_+T:=by rw[IntKind.wrap_i64];omega
 have Gj:aR (W*8):=by unfold aR;omega
 have MI:aR r.word:=by unfold aR;omega
 have fb:=aeJ.s;have MJ:=I (show gj W r.call.a r.call.c r.af r.next from by unfold gj;omega);obtain⟨v6,ac8⟩: ∃v6:Nat,Hid (r.at_+T=8*v6):=⟨((r.at_+T)/8).toNat,I J⟩
 have SH:v6+2<=n:=by have:=ac8.out;omega
 have jb:aR (hF W r.call.a r.call.c (bi false)):=by rw[pN];unfold aR hF;omega
 have lV:aR (r.af+256*r.next):=by unfold aR;omega
 have SI:=I (show jB r.af r.next (r.at_+T)from by unfold jB;omega);go_enter func269,ntmps269;go_wp2_with(first|(refine aq ?_)|(refine aT ?_;clear U;intro X8 w U aay));replace U:=U.drew;refine b0 ?_;intro X;refine az [[0,1,2,3,4,5,6,7,8,9,10],[11,12],[13]] ?_;clear U;intro gb ef w U;go_wp2_with(first|(go_at_call 220;refine Calls.mono (qQ _ _ _ eR c7) ?_;rintro e aaM ⟨rfl,rfl⟩;rw[YI.out])|(refine aq ?_)|(refine aT ?_;clear U;intro X8 w U aay));replace U:=U.drew;refine b0 ?_;intro X;refine az [[0,1,2,3,4,5,6,7,8,9,10,11]] ?_;refine aF 12 fun K Z7=>?_;go_simp;go_at_call 242;refine a6 U (mc _ _ _ false _ _ _ MJ) ?_;clear U;intro aaM U;go_wp2_with fail;refine abR Z7 fun X=>?_;refine az [[13,14,15,16,17,18,19]] ?_;go_wp2_with(first|(refine aq ?_)|(refine aT ?_;clear U;intro X8 w U aay));replace U:=U.drew;refine b0 ?_;intro X;refine az [[0,1,2,3,4,5,6,7,8]] ?_;refine aF 9 fun K Z7=>?_;go_simp;go_at_call 155;refine a6 U (iX p _ _ _ aeJ J ci) ?_;clear U;intro aaM U;go_wp2_with fail;refine abR Z7 fun X=>?_;refine az [[10,11,12,13,14]] ?_;go_wp2_with(first|(refine aq ?_)|(refine aT ?_;clear U;intro X8 w U aay));replace U:=U.drew;refine b0 ?_;intro X;refine az [[0,1,2,3,4,5,6,7,8,9,10,11,12,13,14,15,16,17,18,19]] ?_;refine aF 20 fun K Z7=>?_;go_simp;go_at_call 321;refine Calls.mono (Cj _ _ _ n V _ (W*8) _ _ _ _ T (8*r.af.toNat+3) v6 U.bB J J Gj MI YQ.out J J J J ac8.out SH jb lV) ?_;rintro e aaM ⟨rfl,aH,N⟩;replace U:=U.arena aH N;clear aH N;go_wp2_with fail;refine abR Z7 fun X=>?_;refine az [[21,22,23,24,25,26,27]] ?_;go_wp2_with(first|(refine aq ?_)|(refine aT ?_;clear U;intro X8 w U aay));replace U:=U.drew;refine b0 ?_;intro X;refine az [[0,1,2,3,4,5,6,7,8,9,10,11,12,13,14]] ?_;refine aF 15 fun K Z7=>?_;go_simp;go_at_call 161;refine a6 U (zb _ _ _ _ SI.out) ?_;clear U;intro aaM U;go_wp2_with fail;refine abR Z7 fun X=>?_;refine az [[16,17,18,19,20]] ?_;go_wp2_with(first|(go_at_call 184;refine Calls.mono (hg _ _ r ⟨.slice W9 r.chain.length adX,.slice aeQ r.list.length acN,.slice acG r.said.length aeb,.slice af3 r.aC.said.length ZM⟩ _ _ (aby.out.Wu (U.Wu.mono hS)) bE) ?_;rintro e aaM ⟨v',rfl,bD,N⟩;obtain⟨aeU,aaP,rfl,-,-,-⟩:=id bD;have hv:=U.eh bD;clear bD;have aaH:=U.below N;clear U N;have U:=aaH.base)|(refine aq ?_)|(refine aT ?_;clear U;intro X8 w U aay));refine fY ?_;have Yq:=U.b (g:=Yc) ag;refine⟨_,rfl,(U.carry hv fun _ _ h=>h.2).mono (fun b _ h=>⟨h.1,fun e=>h.2.1 _ (In.mem ag) e.symm,h.2.2 _ rfl⟩),Yq,U.bB.ext fun i _=>?_,(aaH.back U).Wu⟩;have aal:((r.at_+T)/8).toNat=v6:=by have:=ac8.out;omega
 rw[pN];unfold rP;have abF:T+W*8=T+8*W:=J;have acL:hF W r.call.a r.call.c 0=q5 W r.call.a r.call.c 0:=by unfold hF q5;omega
 rw[YQ.out,XE,aal,abF,acL];rfl
end
section
open Go.RowKit Tryz
theorem o2{G:Prop}(h:G:=by
 replace U:=U.call cf N aH aX;clear bD N aH aX;have aaH:=U;clear U;have U:=aaH.base;go_wp2_with(first|(refine aq ?_)|(refine Ws U 374 ?_;clear U;intro gK w U o3)|(refine aT ?_;clear U;intro X8 w U aay));refine aZ results186 rfl rfl ⟨_,U.b ag,rfl⟩ underlying198 rfl (by kernel_rfl) ?_;exact lM):G:=h
theorem k3{G:Prop}(h:G:=by
 rintro e aaM ⟨rfl,N,aH,aX⟩;replace U:=U.call cf N aH aX;clear N aH aX;go_wp2_with(first|(refine aq ?_)|(refine Ws U 374 ?_;clear U;intro gK w U o3)|(refine aT ?_;clear U;intro X8 w U aay));refine aZ results186 rfl rfl ⟨_,U.b ag,rfl⟩ underlying198 rfl (by kernel_rfl) ?_;exact i0):G:=h
section
variable(w0:World)(S:Nat->Prop)(p:afy)(ap WC n:Nat)(V:Nat->Int)(r:aax)(x:Yr)(Xg:ar w0 ap WC n V)(aeJ:a9 p)(abi:8*p.s<=n)(ci:0<=r.af/\r.af<p.s)(abk:aW w0 S r x)(bE:dx r)(hS: ∀b,b<w0.heap.size->S b->b≠WC)(hd:r.fin=false)
include w0 S p ap WC n V r x Xg aeJ abi ci abk bE hS hd
theorem DE(a5:r.Xj=5)(ok:okW (V (8*r.af.toNat))):
 Calls prog 186 #[ej p,.pointer (some ⟨ap,0,none⟩),.agg (aY r x)] w0 fun e w'=> ∃x',e= .returned (.tuple #[.agg (aY {r with next:=(Wi V r.af.toNat).afB,Xj:=2} x'),.int .i64 0])/\ar w' ap WC n V/\aW w' (fun b=>(S b\/w0.heap.size<=b)/\b≠WC) {r with next:=(Wi V r.af.toNat).afB,Xj:=2} x'/\ce w0.heap.size WC w0 w':=by
 have U:=aah.start (A:=some ⟨ap,WC,n,V⟩) (fun b=>b≠WC) w0 Xg fun a e k=>(by cases e;exact k rfl)
 have aby:=I abk;obtain⟨W9,adX,aeQ,acN,acG,aeb,af3,ZM,rfl⟩:=eW abk;have fE:=I a5;have ach:=I hd;clear Xg abk a5 hd;go_enter func186,ntmps186;go_wp2_with(first|(refine g1 ach ?_)|(refine c1 U rfl 371 rfl ?_;clear U;intro b w af7;have U:=af7.st;refine cN ?_)|(refine ey af7 rfl 371 _ _ _ rfl _ _ underlying371 underlying3 rfl _ _ rfl rfl (by rfl) ?_;clear af7 U;intro w af7;simp only[aU,au]at af7;have U:=af7.st;refine cN ?_)|(refine dH af7.map rfl 371 _ _ rfl underlying371 underlying3 rfl _ _ rfl (by rw[fE.out];rfl) ?_;refine cN ?_)|(refine aq ?_)|(refine Ws U 374 ?_;clear U;intro gK w U o3)|(refine aT ?_;clear U;intro X8 w U aay));go_at_call 266;have mM:=U.b (g:=gK) ag;have i3:gK≠ap:=(U.WN _ rfl).1 _ (In.mem ag);have i4:gK≠WC:=(U.WN _ rfl).2.1 _ (In.mem ag);refine Calls.mono (Jk _ p ap WC n gK V r ⟨.slice W9 r.chain.length adX,.slice aeQ r.list.length acN,.slice acG r.said.length aeb,.slice af3 r.aC.said.length ZM⟩ mM U.bB i3 i4 aeJ abi ci ok) ?_;exact k3
theorem Bf(a5:r.Xj=2)(kg:0<=bs V r.af.toNat/\bs V r.af.toNat<=65536):
 Calls prog 186 #[ej p,.pointer (some ⟨ap,0,none⟩),.agg (aY r x)] w0 fun e w'=> ∃x',e= .returned (.tuple #[.agg (aY {r with at_:=bs V r.af.toNat,Xj:=3} x'),.int .i64 0])/\ar w' ap WC n V/\aW w' (fun b=>(S b\/w0.heap.size<=b)/\b≠WC) {r with at_:=bs V r.af.toNat,Xj:=3} x'/\ce w0.heap.size WC w0 w':=by
 have U:=aah.start (A:=some ⟨ap,WC,n,V⟩) (fun b=>b≠WC) w0 Xg fun a e k=>(by cases e;exact k rfl)
 have aby:=I abk;obtain⟨W9,adX,aeQ,acN,acG,aeb,af3,ZM,rfl⟩:=eW abk;have fE:=I a5;have ach:=I hd;clear Xg abk a5 hd;go_enter func186,ntmps186;go_wp2_with(first|(refine g1 ach ?_)|(refine c1 U rfl 371 rfl ?_;clear U;intro b w af7;have U:=af7.st;refine cN ?_)|(refine ey af7 rfl 371 _ _ _ rfl _ _ underlying371 underlying3 rfl _ _ rfl rfl (by rfl) ?_;clear af7 U;intro w af7;simp only[aU,au]at af7;have U:=af7.st;refine cN ?_)|(refine dH af7.map rfl 371 _ _ rfl underlying371 underlying3 rfl _ _ rfl (by rw[fE.out];rfl) ?_;refine cN ?_)|(refine aq ?_)|(refine Ws U 374 ?_;clear U;intro gK w U o3)|(refine aT ?_;clear U;intro X8 w U aay));go_at_call 267;have mM:=U.b (g:=gK) ag;have i3:gK≠ap:=(U.WN _ rfl).1 _ (In.mem ag);have i4:gK≠WC:=(U.WN _ rfl).2.1 _ (In.mem ag);refine Calls.mono (Gi _ p ap WC n gK V r ⟨.slice W9 r.chain.length adX,.slice aeQ r.list.length acN,.slice acG r.said.length aeb,.slice af3 r.aC.said.length ZM⟩ mM U.bB i3 i4 aeJ abi ci kg) ?_;exact k3
theorem xF(a5:r.Xj=3)(kg:0<=agh V r.af.toNat/\agh V r.af.toNat<=65536):
 Calls prog 186 #[ej p,.pointer (some ⟨ap,0,none⟩),.agg (aY r x)] w0 fun e w'=> ∃x',e= .returned (.tuple #[.agg (aY {r with word:=agh V r.af.toNat,Xj:=4} x'),.int .i64 0])/\ar w' ap WC n V/\aW w' (fun b=>(S b\/w0.heap.size<=b)/\b≠WC) {r with word:=agh V r.af.toNat,Xj:=4} x'/\ce w0.heap.size WC w0 w':=by
 have U:=aah.start (A:=some ⟨ap,WC,n,V⟩) (fun b=>b≠WC) w0 Xg fun a e k=>(by cases e;exact k rfl)
 have aby:=I abk;obtain⟨W9,adX,aeQ,acN,acG,aeb,af3,ZM,rfl⟩:=eW abk;have fE:=I a5;have ach:=I hd;clear Xg abk a5 hd;go_enter func186,ntmps186;go_wp2_with(first|(refine g1 ach ?_)|(refine c1 U rfl 371 rfl ?_;clear U;intro b w af7;have U:=af7.st;refine cN ?_)|(refine ey af7 rfl 371 _ _ _ rfl _ _ underlying371 underlying3 rfl _ _ rfl rfl (by rfl) ?_;clear af7 U;intro w af7;simp only[aU,au]at af7;have U:=af7.st;refine cN ?_)|(refine dH af7.map rfl 371 _ _ rfl underlying371 underlying3 rfl _ _ rfl (by rw[fE.out];rfl) ?_;refine cN ?_)|(refine aq ?_)|(refine Ws U 374 ?_;clear U;intro gK w U o3)|(refine aT ?_;clear U;intro X8 w U aay));go_at_call 268;have mM:=U.b (g:=gK) ag;have i3:gK≠ap:=(U.WN _ rfl).1 _ (In.mem ag);have i4:gK≠WC:=(U.WN _ rfl).2.1 _ (In.mem ag);refine Calls.mono (A7 _ p ap WC n gK V r ⟨.slice W9 r.chain.length adX,.slice aeQ r.list.length acN,.slice acG r.said.length aeb,.slice af3 r.aC.said.length ZM⟩ mM U.bB i3 i4 aeJ abi ci kg) ?_;exact k3
section
variable(a5:r.Xj=4)(eR:0<=r.call.a/\r.call.a<=6)(c7:0<=r.call.b/\r.call.b<=512)(lk:0<=r.call.c/\r.call.c<=7)(fG:8<=r.at_/\r.at_ %8=0/\r.at_+r.word<=8*n)(jg:0<=r.next/\r.next<=16777215)(h7:0<=adh V r.af.toNat/\adh V r.af.toNat<=r.word/\adh V r.af.toNat %8=0)
include a5 eR c7 lk fG jg h7
theorem vY(ed: ¬(8*fN r.call.a r.call.b<=r.word-adh V r.af.toNat)):
 Calls prog 186 #[ej p,.pointer (some ⟨ap,0,none⟩),.agg (aY r x)] w0 fun e w'=> ∃x',e= .returned (.tuple #[.agg (aY (tell r 17 0) x'),.int .i64 0])/\ar w' ap WC n V/\aW w' (fun b=>(S b\/w0.heap.size<=b)/\b≠WC) (tell r 17 0) x'/\ce w0.heap.size WC w0 w':=by
 have U:=aah.start (A:=some ⟨ap,WC,n,V⟩) (fun b=>b≠WC) w0 Xg fun a e k=>(by cases e;exact k rfl)
 have aby:=I abk;obtain⟨W9,adX,aeQ,acN,acG,aeb,af3,ZM,rfl⟩:=eW abk;have fE:=I a5;have ach:=I hd;clear Xg abk a5 hd;go_enter func186,ntmps186;go_wp2_with(first|(refine g1 ach ?_)|(refine c1 U rfl 371 rfl ?_;clear U;intro b w af7;have U:=af7.st;refine cN ?_)|(refine ey af7 rfl 371 _ _ _ rfl _ _ underlying371 underlying3 rfl _ _ rfl rfl (by rfl) ?_;clear af7 U;intro w af7;simp only[aU,au]at af7;have U:=af7.st;refine cN ?_)|(refine dH af7.map rfl 371 _ _ rfl underlying371 underlying3 rfl _ _ rfl (by rw[fE.out];rfl) ?_;refine cN ?_)|(refine aq ?_)|(refine Ws U 374 ?_;clear U;intro gK w U o3)|(refine aT ?_;clear U;intro X8 w U aay));go_at_call 269;have mM:=U.b (g:=gK) ag;have i3:gK≠ap:=(U.WN _ rfl).1 _ (In.mem ag);have i4:gK≠WC:=(U.WN _ rfl).2.1 _ (In.mem ag);refine Calls.mono (Dj _ p ap WC n gK V r ⟨.slice W9 r.chain.length adX,.slice aeQ r.list.length acN,.slice acG r.said.length aeb,.slice af3 r.aC.said.length ZM⟩ mM U.bB i3 i4 aeJ abi ci (fun b=>b<w0.heap.size/\S b) ((aby.out.mono fun b hb h=>⟨hb,h⟩).Wu (U.Wu.mono fun b _ h=>hS b h.1 h.2)) bE (fun b _ h=>⟨fun e=>by have:=o3;omega,hS b h.1 h.2⟩) eR c7 lk fG jg h7 (by first|exact ed|omega)) ?_;rintro e aaM ⟨v',rfl,bD,N,aH,aX⟩;obtain⟨aeU,aaP,rfl,-,-,-⟩:=id bD;have hv:=U.ra (cs':=lB p ap (tell r 17 0) ⟨.slice W9 r.chain.length adX,.slice aeQ r.list.length acN,.slice acG r.said.length aeb,.slice aeU r.said.length aaP⟩) (V':=V) cf bD;exact o2
theorem vZ(ed:(8*fN r.call.a r.call.b<=r.word-adh V r.af.toNat)):
 Calls prog 186 #[ej p,.pointer (some ⟨ap,0,none⟩),.agg (aY r x)] w0 fun e w'=> ∃x',e= .returned (.tuple #[.agg (aY (tell r 0 (ac4 r.af r.next (r.at_+adh V r.af.toNat))) x'),.int .i64 0])/\ar w' ap WC n (rP V r)/\aW w' (fun b=>(S b\/w0.heap.size<=b)/\b≠WC) (tell r 0 (ac4 r.af r.next (r.at_+adh V r.af.toNat))) x'/\ce w0.heap.size WC w0 w':=by
 have U:=aah.start (A:=some ⟨ap,WC,n,V⟩) (fun b=>b≠WC) w0 Xg fun a e k=>(by cases e;exact k rfl)
 have aby:=I abk;obtain⟨W9,adX,aeQ,acN,acG,aeb,af3,ZM,rfl⟩:=eW abk;have fE:=I a5;have ach:=I hd;clear Xg abk a5 hd;go_enter func186,ntmps186;go_wp2_with(first|(refine g1 ach ?_)|(refine c1 U rfl 371 rfl ?_;clear U;intro b w af7;have U:=af7.st;refine cN ?_)|(refine ey af7 rfl 371 _ _ _ rfl _ _ underlying371 underlying3 rfl _ _ rfl rfl (by rfl) ?_;clear af7 U;intro w af7;simp only[aU,au]at af7;have U:=af7.st;refine cN ?_)|(refine dH af7.map rfl 371 _ _ rfl underlying371 underlying3 rfl _ _ rfl (by rw[fE.out];rfl) ?_;refine cN ?_)|(refine aq ?_)|(refine Ws U 374 ?_;clear U;intro gK w U o3)|(refine aT ?_;clear U;intro X8 w U aay));go_at_call 269;have mM:=U.b (g:=gK) ag;have i3:gK≠ap:=(U.WN _ rfl).1 _ (In.mem ag);have i4:gK≠WC:=(U.WN _ rfl).2.1 _ (In.mem ag);refine Calls.mono (DD _ p ap WC n gK V r ⟨.slice W9 r.chain.length adX,.slice aeQ r.list.length acN,.slice acG r.said.length aeb,.slice af3 r.aC.said.length ZM⟩ mM U.bB i3 i4 aeJ abi ci (fun b=>b<w0.heap.size/\S b) ((aby.out.mono fun b hb h=>⟨hb,h⟩).Wu (U.Wu.mono fun b _ h=>hS b h.1 h.2)) bE (fun b _ h=>⟨fun e=>by have:=o3;omega,hS b h.1 h.2⟩) eR c7 lk fG jg h7 (by first|exact ed|omega)) ?_;rintro e aaM ⟨v',rfl,bD,N,aH,aX⟩;obtain⟨aeU,aaP,rfl,-,-,-⟩:=id bD;have hv:=U.ra (cs':=lB p ap (tell r 0 (ac4 r.af r.next (r.at_+adh V r.af.toNat))) ⟨.slice W9 r.chain.length adX,.slice aeQ r.list.length acN,.slice acG r.said.length aeb,.slice aeU r.said.length aaP⟩) (V':=(rP V r)) cf bD;exact o2
end
theorem Ju(eR:0<=r.call.a/\r.call.a<=6)(c7:0<=r.call.b/\r.call.b<=512)(lk:0<=r.call.c/\r.call.c<=7)
 (k:r.Xj=5\/r.next=(Wi V r.af.toNat).afB/\(r.Xj=2\/r.at_=bs V r.af.toNat/\(r.Xj=3\/r.Xj=4/\r.word=agh V r.af.toNat)))
 (ok:okW (V (8*r.af.toNat)))(hb:8<=bs V r.af.toNat/\bs V r.af.toNat %8=0/\0<=agh V r.af.toNat/\bs V r.af.toNat+agh V r.af.toNat<=8*n)(h7:0<=adh V r.af.toNat/\adh V r.af.toNat<=agh V r.af.toNat/\adh V r.af.toNat %8=0):
 Calls prog 186 #[ej p,.pointer (some ⟨ap,0,none⟩),.agg (aY r x)] w0 fun e w'=> ∃x',e= .returned (.tuple #[.agg (aY (e6 V r).2 x'),.int .i64 0])/\ar w' ap WC n (e6 V r).1/\aW w' (fun b=>(S b\/w0.heap.size<=b)/\b≠WC) (e6 V r).2 x'/\ce w0.heap.size WC w0 w':=by
 have hm:=Xg.cE;rcases k with afY|⟨jg,aaV|⟨fG,ZV|⟨Ya,afl⟩⟩⟩
 ·have e:e6 V r=(V,{r with next:=(Wi V r.af.toNat).afB,Xj:=2}):=by unfold e6;rw[Z afY]
  rw[e];exact DE w0 S p ap WC n V r x Xg aeJ abi ci abk bE hS hd afY ok
 ·have e:e6 V r=(V,{r with at_:=bs V r.af.toNat,Xj:=3}):=by unfold e6;rw[aB,Z aaV]
  rw[e];exact Bf w0 S p ap WC n V r x Xg aeJ abi ci abk bE hS hd aaV J
 ·have e:e6 V r=(V,{r with word:=agh V r.af.toNat,Xj:=4}):=by unfold e6;rw[aB,aB,Z ZV]
  rw[e];exact xF w0 S p ap WC n V r x Xg aeJ abi ci abk bE hS hd ZV J
 ·have il:=ok.ok.afB;have ys:0<=(Wi V r.af.toNat).afB/\(Wi V r.af.toNat).afB<=16777215:=il;by_cases c:8*fN r.call.a r.call.b<=r.word-adh V r.af.toNat
  ·have e:e6 V r=(rP V r,tell r 0 (ac4 r.af r.next (r.at_+adh V r.af.toNat))):=by unfold e6;rw[aB,aB,aB,Z ⟨J,c⟩];rfl
   rw[e];exact vZ w0 S p ap WC n V r x Xg aeJ abi ci abk bE hS hd Ya eR c7 lk J J J c
  ·have e:e6 V r=(V,tell r 17 0):=by unfold e6;rw[aB,aB,aB,Y (fun h=>c h.2)]
   rw[e];exact vY w0 S p ap WC n V r x Xg aeJ abi ci abk bE hS hd Ya eR c7 lk J J J c
end
end
section
open Go.RowKit Tryz
theorem k4{G:Prop}(h:G:=by
 replace U:=U.drew;refine b0 ?_;intro X;refine az [[0,1,2,3,4,5]] ?_;refine Zj [6,10] ?_;refine ea (fun K Z7=>?_) ?_
 ·go_simp;go_at_call 287;refine a6 U (v0 _) ?_;clear U;intro aaM U;go_wp2_with fail;refine abR Z7 fun X=>?_;refine az [[7,8,9],[10,11],[12]] ?_;clear U;intro Gh zr w U;go_wp2_with fail;go_meet;exact⟨_,_,rfl,rfl,U⟩
 refine ei (fun K Z7=>?_);refine ZZ U ny ?_;clear U;intro Gh w U zr;refine abR Z7 fun X=>?_;refine aF 6 fun K Z7=>?_;go_simp;go_at_call 287;refine a6 U (v0 _) ?_;clear U;intro aaM U;go_wp2_with fail;refine abR Z7 fun X=>?_;refine az [[7,8,9],[11],[12]] ?_;clear U;intro w U;go_wp2_with fail;go_meet;exact⟨_,_,rfl,rfl,U⟩):G:=h
section
variable(w0:World)(aK:Int)(ap WC n Yc:Nat)(V:Nat->Int)(r:aax)(x:Yr)(hb:ah w0 Yc 377 (kY ap aK r x).toArray)(Xg:ar w0 ap WC n V)(h1:Yc≠ap)(aaV:Yc≠WC)
include w0 aK ap WC n Yc V r x hb Xg h1 aaV
section
variable(fG:aK=64*r.call.a)(abi:8*r.call.a.toNat<n)(dv:0<=r.call.a)(ci:0<=r.af/\r.af<=7)(ok:okW (V (8*r.call.a.toNat)))
include fG abi dv ci ok
theorem GM(V1:(ca (Wi V r.call.a.toNat) r.af).2=0):
 Calls prog 270 #[.pointer (some ⟨Yc,0,none⟩)] w0 fun e w'=>e= .returned (.tuple #[])/\ah w' Yc 377 (kY ap aK {r with word:=V (8*r.call.a.toNat),Xj:=14,next:=afa (ca (Wi V r.call.a.toNat) r.af).1} x).toArray/\ar w' ap WC n V/\Z1 (fun b=>b≠Yc/\b≠WC) w0 w':=by
 have U:=aah.dp hb Xg h1 aaV;have hm:=Xg.cE;clear Xg hb;have ki:=I ok;have Wy:aR (V (8*r.call.a.toNat)):=by have:=ok.ok.aas;have e:=ok.eq;unfold aR;omega
 have adZ:=I ok.ok;have ab3:=I (ok.ok.enter ci V1).1;unfold Wi at V1⊢;clear ok;obtain⟨dw,VN⟩: ∃dw,Hid (V (8*r.call.a.toNat)=dw):=⟨_,I rfl⟩
 rw[VN.out]at ki Wy adZ V1;rw[VN.out];rw[VN.out]at ab3;obtain⟨c,Wj⟩: ∃c,Hid (up dw=c):=⟨_,I rfl⟩
 rw[Wj.out]at adZ V1;rw[Wj.out];rw[Wj.out]at ab3;have v0:=fun w=>r7 c r.af w adZ.out ci;obtain⟨d,adg,u0⟩: ∃d adg,ca c r.af=(d,adg):=⟨_,_,rfl⟩
 rw[u0]at V1 v0;rw[u0];rw[u0]at ab3;clear u0 adZ;simp only at V1 v0;simp only;simp only at ab3;subst V1;go_enter func270,ntmps270;go_wp2_with(first|(refine aq ?_)|(refine aT ?_;clear U;intro X8 w U aay));replace U:=U.drew;refine b0 ?_;intro X;refine az [[0,1,2,3,4,5,6,7]] ?_;refine aF 8 fun K Z7=>?_;go_simp;go_at_call 176;refine Calls.mono (eL _ _ _ n V _ (8*r.call.a.toNat) U.bB J abi) ?_;rintro e aaM ⟨rfl,rfl⟩;rw[VN.out];go_wp2_with fail;refine abR Z7 fun X=>?_;refine az [[9,10,11,12,13]] ?_;go_wp2_with(first|(go_at_call 239;refine a6 U (gQ _ _ ki.out Wy) ?_;clear U;intro aaM U;rw[Wj.out])|(refine aq ?_)|(refine aT ?_;clear U;intro X8 w U aay));have aev:True:=trivial;go_cut [6,7]from 8 to 34 (fun ZY afU ZT=> ∃g W3,ZY= .pointer (some ⟨g,0,none⟩)/\afU= .int .i64 0/\aah w0 (fun b=>b≠Yc/\b≠WC) ZT (some ⟨ap,WC,n,V⟩) [⟨g,56,[.int .i64 d.st,.int .i64 d.Xf,.int .i64 d.YX,.int .i64 d.afB]⟩,⟨W3,56,[.int .i64 c.st,.int .i64 c.Xf,.int .i64 c.YX,.int .i64 c.afB]⟩,⟨Yc,377,kY ap aK r x⟩])
 case first=>
  exact k4
 case rest=>
 obtain⟨g,W3,rfl,rfl,U⟩:=hcut;go_wp2_with(first|(go_at_call 278;refine a6 U (nD d _ ab3.out) ?_;clear U;intro aaM U)|(refine aq ?_)|(refine aT ?_;clear U;intro X8 w U aay));refine fY ?_;have Yq:=U.b (g:=Yc) ag;exact⟨rfl,Yq,U.bB,U.Wu⟩
theorem DF(V1:(ca (Wi V r.call.a.toNat) r.af).2=10):
 Calls prog 270 #[.pointer (some ⟨Yc,0,none⟩)] w0 fun e w'=>e= .returned (.tuple #[])/\ah w' Yc 377 (kY ap aK r x).toArray/\ar w' ap WC n V/\Z1 (fun b=>b≠Yc/\b≠WC) w0 w':=by
 have U:=aah.dp hb Xg h1 aaV;have hm:=Xg.cE;clear Xg hb;have ki:=I ok;have Wy:aR (V (8*r.call.a.toNat)):=by have:=ok.ok.aas;have e:=ok.eq;unfold aR;omega
 have adZ:=I ok.ok;unfold Wi at V1;clear ok;obtain⟨dw,VN⟩: ∃dw,Hid (V (8*r.call.a.toNat)=dw):=⟨_,I rfl⟩
 rw[VN.out]at ki Wy adZ V1;obtain⟨c,Wj⟩: ∃c,Hid (up dw=c):=⟨_,I rfl⟩
 rw[Wj.out]at adZ V1;have v0:=fun w=>r7 c r.af w adZ.out ci;obtain⟨d,adg,u0⟩: ∃d adg,ca c r.af=(d,adg):=⟨_,_,rfl⟩
 rw[u0]at V1 v0;clear u0 adZ;simp only at V1 v0;subst V1;go_enter func270,ntmps270;go_wp2_with(first|(refine aq ?_)|(refine aT ?_;clear U;intro X8 w U aay));replace U:=U.drew;refine b0 ?_;intro X;refine az [[0,1,2,3,4,5,6,7]] ?_;refine aF 8 fun K Z7=>?_;go_simp;go_at_call 176;refine Calls.mono (eL _ _ _ n V _ (8*r.call.a.toNat) U.bB J abi) ?_;rintro e aaM ⟨rfl,rfl⟩;rw[VN.out];go_wp2_with fail;refine abR Z7 fun X=>?_;refine az [[9,10,11,12,13]] ?_;go_wp2_with(first|(go_at_call 239;refine a6 U (gQ _ _ ki.out Wy) ?_;clear U;intro aaM U;rw[Wj.out])|(refine aq ?_)|(refine aT ?_;clear U;intro X8 w U aay));have aev:True:=trivial;go_cut [6,7]from 8 to 34 (fun ZY afU ZT=> ∃g W3,ZY= .pointer (some ⟨g,0,none⟩)/\afU= .int .i64 10/\aah w0 (fun b=>b≠Yc/\b≠WC) ZT (some ⟨ap,WC,n,V⟩) [⟨g,56,[.int .i64 d.st,.int .i64 d.Xf,.int .i64 d.YX,.int .i64 d.afB]⟩,⟨W3,56,[.int .i64 c.st,.int .i64 c.Xf,.int .i64 c.YX,.int .i64 c.afB]⟩,⟨Yc,377,kY ap aK r x⟩])
 case first=>
  exact k4
 case rest=>
 obtain⟨g,W3,rfl,rfl,U⟩:=hcut;exact gz
end
section
variable(S:Nat->Prop)(abk:aW w0 S r x)(bE:dx r)(hS: ∀b,b<w0.heap.size->S b->b≠Yc/\b≠WC)(fG:aK=64*r.call.a)(abi:8*r.call.a.toNat<n)(dv:0<=r.call.a)
include S abk bE hS fG abi dv
theorem GN(ci:0<=r.af/\r.af<=7)(ok:okW (V (8*r.call.a.toNat)))(V1:(ca (Wi V r.call.a.toNat) r.af).2≠0/\(ca (Wi V r.call.a.toNat) r.af).2≠10):
 Calls prog 270 #[.pointer (some ⟨Yc,0,none⟩)] w0 fun e w'=> ∃v,e= .returned (.tuple #[])/\cF w' (fun b=>w0.heap.size<=b/\b≠Yc/\b≠WC) v r.said/\ah w' Yc 377 (kY ap aK (tell r (ca (Wi V r.call.a.toNat) r.af).2 0) {x with Y1:=v}).toArray/\ar w' ap WC n V/\Z1 (fun b=>b≠Yc/\b≠WC) w0 w':=by
 have U:=aah.dp hb Xg h1 aaV;have aby:=I abk;obtain⟨W9,adX,aeQ,acN,acG,aeb,af3,ZM,rfl⟩:=eW abk;have hm:=Xg.cE;clear Xg hb abk;have ki:=I ok;have Wy:aR (V (8*r.call.a.toNat)):=by have:=ok.ok.aas;have e:=ok.eq;unfold aR;omega
 have adZ:=I ok.ok;unfold Wi at V1⊢;clear ok;obtain⟨dw,VN⟩: ∃dw,Hid (V (8*r.call.a.toNat)=dw):=⟨_,I rfl⟩
 rw[VN.out]at ki Wy adZ V1;rw[VN.out];obtain⟨c,Wj⟩: ∃c,Hid (up dw=c):=⟨_,I rfl⟩
 rw[Wj.out]at adZ V1;rw[Wj.out];have v0:=fun w=>r7 c r.af w adZ.out ci;obtain⟨d,adg,u0⟩: ∃d adg,ca c r.af=(d,adg):=⟨_,_,rfl⟩
 rw[u0]at V1 v0;rw[u0];clear u0 adZ;simp only at V1 v0;simp only;have d0:(adg==0)=false:=by simp[V1.1]
 have d10:(adg==10)=false:=by simp[V1.2]
 clear V1;go_enter func270,ntmps270;go_wp2_with(first|(refine aq ?_)|(refine aT ?_;clear U;intro X8 w U aay));replace U:=U.drew;refine b0 ?_;intro X;refine az [[0,1,2,3,4,5,6,7]] ?_;refine aF 8 fun K Z7=>?_;go_simp;go_at_call 176;refine Calls.mono (eL _ _ _ n V _ (8*r.call.a.toNat) U.bB J abi) ?_;rintro e aaM ⟨rfl,rfl⟩;rw[VN.out];go_wp2_with fail;refine abR Z7 fun X=>?_;refine az [[9,10,11,12,13]] ?_;go_wp2_with(first|(go_at_call 239;refine a6 U (gQ _ _ ki.out Wy) ?_;clear U;intro aaM U;rw[Wj.out])|(refine aq ?_)|(refine aT ?_;clear U;intro X8 w U aay));have aev:True:=trivial;go_cut [6,7]from 8 to 34 (fun ZY afU ZT=> ∃g W3,ZY= .pointer (some ⟨g,0,none⟩)/\afU= .int .i64 adg/\aah w0 (fun b=>b≠Yc/\b≠WC) ZT (some ⟨ap,WC,n,V⟩) [⟨g,56,[.int .i64 d.st,.int .i64 d.Xf,.int .i64 d.YX,.int .i64 d.afB]⟩,⟨W3,56,[.int .i64 c.st,.int .i64 c.Xf,.int .i64 c.YX,.int .i64 c.afB]⟩,⟨Yc,377,kY ap aK r ⟨.slice W9 r.chain.length adX,.slice aeQ r.list.length acN,.slice acG r.said.length aeb,.slice af3 r.aC.said.length ZM⟩⟩])
 case first=>
  exact k4
 case rest=>
 obtain⟨g,W3,rfl,rfl,U⟩:=hcut;go_wp2_with(first|(go_at_call 184;refine Calls.mono (hg _ _ r ⟨.slice W9 r.chain.length adX,.slice aeQ r.list.length acN,.slice acG r.said.length aeb,.slice af3 r.aC.said.length ZM⟩ _ _ (aby.out.Wu (U.Wu.mono hS)) bE) ?_;rintro e aaM ⟨v',rfl,bD,N⟩;obtain⟨aeU,aaP,rfl,-,-,-⟩:=id bD;have hv:=U.eh bD;clear bD;have aaH:=U.below N;clear U N;have U:=aaH.base)|(refine aq ?_)|(refine aT ?_;clear U;intro X8 w U aay));exact mL
theorem DG(Wy:aR r.next)(V1:V (8*r.call.a.toNat)=r.word):
 Calls prog 271 #[.pointer (some ⟨Yc,0,none⟩)] w0 fun e w'=> ∃v,e= .returned (.tuple #[])/\cF w' (fun b=>w0.heap.size<=b/\b≠Yc/\b≠WC) v r.said/\ah w' Yc 377 (kY ap aK (tell r 0 0) {x with Y1:=v}).toArray/\ar w' ap WC n (upd V (8*r.call.a.toNat) r.next)/\Z1 (fun b=>b≠Yc/\b≠WC) w0 w':=by
 have U:=aah.dp hb Xg h1 aaV;have aby:=I abk;obtain⟨W9,adX,aeQ,acN,acG,aeb,af3,ZM,rfl⟩:=eW abk;have hm:=Xg.cE;clear Xg hb abk;have Yl:=I V1;clear V1;go_enter func271,ntmps271;go_wp2_with(first|(refine aq ?_)|(refine ac2 U ?_;clear U;intro w U));replace U:=U.drew;refine b0 ?_;intro X;refine az [[0,1,2,3,4,5,6,7,8,9,10,11,12,13,14,15,16,17]] ?_;refine aF 18 fun K Z7=>?_;go_simp;go_at_call 322;refine Calls.mono (q4 _ _ _ n V _ _ _ (8*r.call.a.toNat) U.bB J abi Wy Yl.out) ?_;rintro e aaM ⟨rfl,aH,N⟩;replace U:=U.arena aH N;clear aH N;go_wp2_with fail;refine abR Z7 fun X=>?_;refine az [[19,20,21,22,23]] ?_;go_wp2_with(first|(go_at_call 184;refine Calls.mono (hg _ _ r ⟨.slice W9 r.chain.length adX,.slice aeQ r.list.length acN,.slice acG r.said.length aeb,.slice af3 r.aC.said.length ZM⟩ _ _ (aby.out.Wu (U.Wu.mono hS)) bE) ?_;rintro e aaM ⟨v',rfl,bD,N⟩;obtain⟨aeU,aaP,rfl,-,-,-⟩:=id bD;have hv:=U.eh bD;clear bD;have aaH:=U.below N;clear U N;have U:=aaH.base)|(refine aq ?_)|(refine ac2 U ?_;clear U;intro w U));exact mL
end
theorem DH(fG:aK=64*r.call.a)(abi:8*r.call.a.toNat<n)(dv:0<=r.call.a)(Wy:aR r.next)(V1:V (8*r.call.a.toNat)≠r.word):
 Calls prog 271 #[.pointer (some ⟨Yc,0,none⟩)] w0 fun e w'=>e= .returned (.tuple #[])/\ah w' Yc 377 (kY ap aK {r with word:=0,next:=0,Xj:=13} x).toArray/\ar w' ap WC n V/\Z1 (fun b=>b≠Yc/\b≠WC) w0 w':=by
 have U:=aah.dp hb Xg h1 aaV;have hm:=Xg.cE;clear Xg hb;have Yl:=I V1;clear V1;go_enter func271,ntmps271;go_wp2_with(first|(refine aq ?_)|(refine ac2 U ?_;clear U;intro w U));replace U:=U.drew;refine b0 ?_;intro X;refine az [[0,1,2,3,4,5,6,7,8,9,10,11,12,13,14,15,16,17]] ?_;refine aF 18 fun K Z7=>?_;go_simp;go_at_call 322;refine Calls.mono (w4 _ _ _ n V _ _ _ (8*r.call.a.toNat) U.bB J abi Yl.out) ?_;rintro e aaM ⟨rfl,rfl⟩;go_wp2_with fail;refine abR Z7 fun X=>?_;refine az [[19,20,21,22,23]] ?_;go_wp2_with(first|(refine aq ?_)|(refine ac2 U ?_;clear U;intro w U));refine fY ?_;have Yq:=U.b (g:=Yc) ag;exact⟨rfl,Yq,U.bB,U.Wu⟩
end
end
section
open Go.RowKit Tryz
theorem k5{G:Prop}(h:G:=by
 rintro e aaM ⟨rfl,N,aH,aX⟩;replace U:=U.call cf N aH aX;clear N aH aX;go_wp2_with(first|(refine aq ?_)|(refine Ws U 377 ?_;clear U;intro gL w U o4)|(refine aT ?_;clear U;intro X8 w U aay));refine aZ results187 rfl rfl ⟨_,U.b ag,rfl⟩ underlying198 rfl (by kernel_rfl) ?_;exact i0):G:=h
theorem o5{G:Prop}(h:G:=by
 replace U:=U.call cf N aH aX;clear bD N aH aX;have aaH:=U;clear U;have U:=aaH.base;go_wp2_with(first|(refine aq ?_)|(refine Ws U 377 ?_;clear U;intro gL w U o4)|(refine aT ?_;clear U;intro X8 w U aay));refine aZ results187 rfl rfl ⟨_,U.b ag,rfl⟩ underlying198 rfl (by kernel_rfl) ?_;exact lM):G:=h
section
variable(w0:World)(S:Nat->Prop)(p:afy)(ap WC n:Nat)(V:Nat->Int)(r:aax)(x:Yr)(Xg:ar w0 ap WC n V)(abk:aW w0 S r x)(bE:dx r)(hS: ∀b,b<w0.heap.size->S b->b≠WC)(hd:r.fin=false)(aeJ:a9 p)(abi:8*p.s<=n)(dv:0<=r.call.a/\r.call.a<p.s)
include w0 S p ap WC n V r x Xg abk bE hS hd aeJ abi dv
section
variable(ci:0<=r.af/\r.af<=7)(ok:okW (V (8*r.call.a.toNat)))(a5:r.Xj=13)
include ci ok a5
theorem MO(V1:(ca (Wi V r.call.a.toNat) r.af).2=0):
 Calls prog 187 #[ej p,.pointer (some ⟨ap,0,none⟩),.agg (aY r x)] w0 fun e w'=> ∃x',e= .returned (.tuple #[.agg (aY {r with word:=V (8*r.call.a.toNat),Xj:=14,next:=afa (ca (Wi V r.call.a.toNat) r.af).1} x'),.int .i64 0])/\ar w' ap WC n V/\aW w' (fun b=>(S b\/w0.heap.size<=b)/\b≠WC) {r with word:=V (8*r.call.a.toNat),Xj:=14,next:=afa (ca (Wi V r.call.a.toNat) r.af).1} x'/\ce w0.heap.size WC w0 w':=by
 have U:=aah.start (A:=some ⟨ap,WC,n,V⟩) (fun b=>b≠WC) w0 Xg fun a e k=>(by cases e;exact k rfl)
 have aby:=I abk;obtain⟨W9,adX,aeQ,acN,acG,aeb,af3,ZM,rfl⟩:=eW abk;have ach:=I hd;clear Xg abk hd;have fE:=I a5;have ZO:=I V1;clear a5 V1;have ip:8*r.call.a.toNat<n:=J;go_enter func187,ntmps187;go_wp2_with(first|(go_at_call 155;refine a6 U (iX p _ _ _ aeJ J dv) ?_;clear U;intro aaM U)|(refine g1 ach ?_)|(refine c1 U rfl 378 rfl ?_;clear U;intro b w af7;have U:=af7.st;refine cN ?_)|(refine ey af7 rfl 378 _ _ _ rfl _ _ underlying378 underlying3 rfl _ _ rfl rfl (by rfl) ?_;clear af7 U;intro w af7;simp only[aU,au]at af7;have U:=af7.st;refine cN ?_)|(refine dH af7.map rfl 378 _ _ rfl underlying378 underlying3 rfl _ _ rfl (by rw[fE.out];rfl) ?_;refine cN ?_)|(refine aq ?_)|(refine Ws U 377 ?_;clear U;intro gL w U o4)|(refine aT ?_;clear U;intro X8 w U aay));go_at_call 270;have mM:=U.b (g:=gL) ag;have i3:gL≠ap:=(U.WN _ rfl).1 _ (In.mem ag);have i4:gL≠WC:=(U.WN _ rfl).2.1 _ (In.mem ag);refine Calls.mono (GM _ _ ap WC n gL V r ⟨.slice W9 r.chain.length adX,.slice aeQ r.list.length acN,.slice acG r.said.length aeb,.slice af3 r.aC.said.length ZM⟩ mM U.bB i3 i4 J ip dv.1 ci ok ZO.out) ?_;exact k5
theorem Jv(V1:(ca (Wi V r.call.a.toNat) r.af).2=10):
 Calls prog 187 #[ej p,.pointer (some ⟨ap,0,none⟩),.agg (aY r x)] w0 fun e w'=> ∃x',e= .returned (.tuple #[.agg (aY r x'),.int .i64 0])/\ar w' ap WC n V/\aW w' (fun b=>(S b\/w0.heap.size<=b)/\b≠WC) r x'/\ce w0.heap.size WC w0 w':=by
 have U:=aah.start (A:=some ⟨ap,WC,n,V⟩) (fun b=>b≠WC) w0 Xg fun a e k=>(by cases e;exact k rfl)
 have aby:=I abk;obtain⟨W9,adX,aeQ,acN,acG,aeb,af3,ZM,rfl⟩:=eW abk;have ach:=I hd;clear Xg abk hd;have fE:=I a5;have ZO:=I V1;clear a5 V1;have ip:8*r.call.a.toNat<n:=J;go_enter func187,ntmps187;go_wp2_with(first|(go_at_call 155;refine a6 U (iX p _ _ _ aeJ J dv) ?_;clear U;intro aaM U)|(refine g1 ach ?_)|(refine c1 U rfl 378 rfl ?_;clear U;intro b w af7;have U:=af7.st;refine cN ?_)|(refine ey af7 rfl 378 _ _ _ rfl _ _ underlying378 underlying3 rfl _ _ rfl rfl (by rfl) ?_;clear af7 U;intro w af7;simp only[aU,au]at af7;have U:=af7.st;refine cN ?_)|(refine dH af7.map rfl 378 _ _ rfl underlying378 underlying3 rfl _ _ rfl (by rw[fE.out];rfl) ?_;refine cN ?_)|(refine aq ?_)|(refine Ws U 377 ?_;clear U;intro gL w U o4)|(refine aT ?_;clear U;intro X8 w U aay));go_at_call 270;have mM:=U.b (g:=gL) ag;have i3:gL≠ap:=(U.WN _ rfl).1 _ (In.mem ag);have i4:gL≠WC:=(U.WN _ rfl).2.1 _ (In.mem ag);refine Calls.mono (DF _ _ ap WC n gL V r ⟨.slice W9 r.chain.length adX,.slice aeQ r.list.length acN,.slice acG r.said.length aeb,.slice af3 r.aC.said.length ZM⟩ mM U.bB i3 i4 J ip dv.1 ci ok ZO.out) ?_;exact k5
theorem MP(V1:(ca (Wi V r.call.a.toNat) r.af).2≠0/\(ca (Wi V r.call.a.toNat) r.af).2≠10):
 Calls prog 187 #[ej p,.pointer (some ⟨ap,0,none⟩),.agg (aY r x)] w0 fun e w'=> ∃x',e= .returned (.tuple #[.agg (aY (tell r (ca (Wi V r.call.a.toNat) r.af).2 0) x'),.int .i64 0])/\ar w' ap WC n V/\aW w' (fun b=>(S b\/w0.heap.size<=b)/\b≠WC) (tell r (ca (Wi V r.call.a.toNat) r.af).2 0) x'/\ce w0.heap.size WC w0 w':=by
 have U:=aah.start (A:=some ⟨ap,WC,n,V⟩) (fun b=>b≠WC) w0 Xg fun a e k=>(by cases e;exact k rfl)
 have aby:=I abk;obtain⟨W9,adX,aeQ,acN,acG,aeb,af3,ZM,rfl⟩:=eW abk;have ach:=I hd;clear Xg abk hd;have fE:=I a5;have ZO:=I V1;clear a5 V1;have ip:8*r.call.a.toNat<n:=J;go_enter func187,ntmps187;go_wp2_with(first|(go_at_call 155;refine a6 U (iX p _ _ _ aeJ J dv) ?_;clear U;intro aaM U)|(refine g1 ach ?_)|(refine c1 U rfl 378 rfl ?_;clear U;intro b w af7;have U:=af7.st;refine cN ?_)|(refine ey af7 rfl 378 _ _ _ rfl _ _ underlying378 underlying3 rfl _ _ rfl rfl (by rfl) ?_;clear af7 U;intro w af7;simp only[aU,au]at af7;have U:=af7.st;refine cN ?_)|(refine dH af7.map rfl 378 _ _ rfl underlying378 underlying3 rfl _ _ rfl (by rw[fE.out];rfl) ?_;refine cN ?_)|(refine aq ?_)|(refine Ws U 377 ?_;clear U;intro gL w U o4)|(refine aT ?_;clear U;intro X8 w U aay));go_at_call 270;have mM:=U.b (g:=gL) ag;have i3:gL≠ap:=(U.WN _ rfl).1 _ (In.mem ag);have i4:gL≠WC:=(U.WN _ rfl).2.1 _ (In.mem ag);refine Calls.mono (GN _ _ ap WC n gL V r ⟨.slice W9 r.chain.length adX,.slice aeQ r.list.length acN,.slice acG r.said.length aeb,.slice af3 r.aC.said.length ZM⟩ mM U.bB i3 i4 (fun b=>b<w0.heap.size/\S b) ((aby.out.mono fun b hb h=>⟨hb,h⟩).Wu (U.Wu.mono fun b _ h=>hS b h.1 h.2)) bE (fun b _ h=>⟨fun e=>by have:=o4;omega,hS b h.1 h.2⟩) J ip dv.1 ci ok ZO.out) ?_;rintro e aaM ⟨v',rfl,bD,N,aH,aX⟩;obtain⟨aeU,aaP,rfl,-,-,-⟩:=id bD;have hv:=U.ra (cs':=kY ap (64*r.call.a) (tell r (ca (Wi V r.call.a.toNat) r.af).2 0) ⟨.slice W9 r.chain.length adX,.slice aeQ r.list.length acN,.slice acG r.said.length aeb,.slice aeU r.said.length aaP⟩) (V':=V) cf bD;exact o5
end
theorem MQ(a5:r.Xj=14)(Wy:aR r.next)(V1:V (8*r.call.a.toNat)=r.word):
 Calls prog 187 #[ej p,.pointer (some ⟨ap,0,none⟩),.agg (aY r x)] w0 fun e w'=> ∃x',e= .returned (.tuple #[.agg (aY (tell r 0 0) x'),.int .i64 0])/\ar w' ap WC n (upd V (8*r.call.a.toNat) r.next)/\aW w' (fun b=>(S b\/w0.heap.size<=b)/\b≠WC) (tell r 0 0) x'/\ce w0.heap.size WC w0 w':=by
 have U:=aah.start (A:=some ⟨ap,WC,n,V⟩) (fun b=>b≠WC) w0 Xg fun a e k=>(by cases e;exact k rfl)
 have aby:=I abk;obtain⟨W9,adX,aeQ,acN,acG,aeb,af3,ZM,rfl⟩:=eW abk;have ach:=I hd;clear Xg abk hd;have fE:=I a5;have ZO:=I V1;clear a5 V1;have ip:8*r.call.a.toNat<n:=J;go_enter func187,ntmps187;go_wp2_with(first|(go_at_call 155;refine a6 U (iX p _ _ _ aeJ J dv) ?_;clear U;intro aaM U)|(refine g1 ach ?_)|(refine c1 U rfl 378 rfl ?_;clear U;intro b w af7;have U:=af7.st;refine cN ?_)|(refine ey af7 rfl 378 _ _ _ rfl _ _ underlying378 underlying3 rfl _ _ rfl rfl (by rfl) ?_;clear af7 U;intro w af7;simp only[aU,au]at af7;have U:=af7.st;refine cN ?_)|(refine dH af7.map rfl 378 _ _ rfl underlying378 underlying3 rfl _ _ rfl (by rw[fE.out];rfl) ?_;refine cN ?_)|(refine aq ?_)|(refine Ws U 377 ?_;clear U;intro gL w U o4)|(refine aT ?_;clear U;intro X8 w U aay));go_at_call 271;have mM:=U.b (g:=gL) ag;have i3:gL≠ap:=(U.WN _ rfl).1 _ (In.mem ag);have i4:gL≠WC:=(U.WN _ rfl).2.1 _ (In.mem ag);refine Calls.mono (DG _ _ ap WC n gL V r ⟨.slice W9 r.chain.length adX,.slice aeQ r.list.length acN,.slice acG r.said.length aeb,.slice af3 r.aC.said.length ZM⟩ mM U.bB i3 i4 (fun b=>b<w0.heap.size/\S b) ((aby.out.mono fun b hb h=>⟨hb,h⟩).Wu (U.Wu.mono fun b _ h=>hS b h.1 h.2)) bE (fun b _ h=>⟨fun e=>by have:=o4;omega,hS b h.1 h.2⟩) J ip dv.1 Wy ZO.out) ?_;rintro e aaM ⟨v',rfl,bD,N,aH,aX⟩;obtain⟨aeU,aaP,rfl,-,-,-⟩:=id bD;have hv:=U.ra (cs':=kY ap (64*r.call.a) (tell r 0 0) ⟨.slice W9 r.chain.length adX,.slice aeQ r.list.length acN,.slice acG r.said.length aeb,.slice aeU r.said.length aaP⟩) (V':=(upd V (8*r.call.a.toNat) r.next)) cf bD;exact o5
theorem MR(a5:r.Xj=14)(Wy:aR r.next)(V1:V (8*r.call.a.toNat)≠r.word):
 Calls prog 187 #[ej p,.pointer (some ⟨ap,0,none⟩),.agg (aY r x)] w0 fun e w'=> ∃x',e= .returned (.tuple #[.agg (aY {r with word:=0,next:=0,Xj:=13} x'),.int .i64 0])/\ar w' ap WC n V/\aW w' (fun b=>(S b\/w0.heap.size<=b)/\b≠WC) {r with word:=0,next:=0,Xj:=13} x'/\ce w0.heap.size WC w0 w':=by
 have U:=aah.start (A:=some ⟨ap,WC,n,V⟩) (fun b=>b≠WC) w0 Xg fun a e k=>(by cases e;exact k rfl)
 have aby:=I abk;obtain⟨W9,adX,aeQ,acN,acG,aeb,af3,ZM,rfl⟩:=eW abk;have ach:=I hd;clear Xg abk hd;have fE:=I a5;have ZO:=I V1;clear a5 V1;have ip:8*r.call.a.toNat<n:=J;go_enter func187,ntmps187;go_wp2_with(first|(go_at_call 155;refine a6 U (iX p _ _ _ aeJ J dv) ?_;clear U;intro aaM U)|(refine g1 ach ?_)|(refine c1 U rfl 378 rfl ?_;clear U;intro b w af7;have U:=af7.st;refine cN ?_)|(refine ey af7 rfl 378 _ _ _ rfl _ _ underlying378 underlying3 rfl _ _ rfl rfl (by rfl) ?_;clear af7 U;intro w af7;simp only[aU,au]at af7;have U:=af7.st;refine cN ?_)|(refine dH af7.map rfl 378 _ _ rfl underlying378 underlying3 rfl _ _ rfl (by rw[fE.out];rfl) ?_;refine cN ?_)|(refine aq ?_)|(refine Ws U 377 ?_;clear U;intro gL w U o4)|(refine aT ?_;clear U;intro X8 w U aay));go_at_call 271;have mM:=U.b (g:=gL) ag;have i3:gL≠ap:=(U.WN _ rfl).1 _ (In.mem ag);have i4:gL≠WC:=(U.WN _ rfl).2.1 _ (In.mem ag);refine Calls.mono (DH _ _ ap WC n gL V r ⟨.slice W9 r.chain.length adX,.slice aeQ r.list.length acN,.slice acG r.said.length aeb,.slice af3 r.aC.said.length ZM⟩ mM U.bB i3 i4 J ip dv.1 Wy ZO.out) ?_;exact k5
theorem GO(ci:0<=r.af/\r.af<=7)(ok:okW (V (8*r.call.a.toNat)))(k:r.Xj=13\/r.Xj=14/\aR r.next):
 Calls prog 187 #[ej p,.pointer (some ⟨ap,0,none⟩),.agg (aY r x)] w0 fun e w'=> ∃x',e= .returned (.tuple #[.agg (aY (dR V r).2 x'),.int .i64 0])/\ar w' ap WC n (dR V r).1/\aW w' (fun b=>(S b\/w0.heap.size<=b)/\b≠WC) (dR V r).2 x'/\ce w0.heap.size WC w0 w':=by
 rcases k with tf|⟨xg,Wy⟩
 ·by_cases DI:(ca (Wi V r.call.a.toNat) r.af).2=10
  ·have e:dR V r=(V,r):=by unfold dR;rw[Z tf,Z DI]
   rw[e];exact Jv w0 S p ap WC n V r x Xg abk bE hS hd aeJ abi dv ci ok tf DI
  ·by_cases VI:(ca (Wi V r.call.a.toNat) r.af).2=0
   ·have e:dR V r=(V,{r with word:=V (8*r.call.a.toNat),Xj:=14,next:=afa (ca (Wi V r.call.a.toNat) r.af).1}):=by unfold dR;rw[Z tf,Y DI,Z VI]
    rw[e];exact MO w0 S p ap WC n V r x Xg abk bE hS hd aeJ abi dv ci ok tf VI
   ·have e:dR V r=(V,tell r (ca (Wi V r.call.a.toNat) r.af).2 0):=by unfold dR;rw[Z tf,Y DI,Y VI]
    rw[e];exact MP w0 S p ap WC n V r x Xg abk bE hS hd aeJ abi dv ci ok tf ⟨VI,DI⟩
 ·by_cases c:V (8*r.call.a.toNat)=r.word
  ·have e:dR V r=(upd V (8*r.call.a.toNat) r.next,tell r 0 0):=by unfold dR;rw[aB,Z c];rfl
   rw[e];exact MQ w0 S p ap WC n V r x Xg abk bE hS hd aeJ abi dv xg Wy c
  ·have e:dR V r=(V,{r with word:=0,next:=0,Xj:=13}):=by unfold dR;rw[aB,Y c]
   rw[e];exact MR w0 S p ap WC n V r x Xg abk bE hS hd aeJ abi dv xg Wy c
end
end
end Go.Proofs.YtcimojgkeoecfaaGreat
