import Derived.Test.YtcimojgkeoecfaaGreatXbb
import Derived.Test.YtcimojgkeoecfaaGreatXbn
import Derived.Test.YtcimojgkeoecfaaGreatXbf
set_option linter.all false
set_option maxHeartbeats 16000000
set_option maxRecDepth 100000
namespace Go.Proofs.YtcimojgkeoecfaaGreat
section
theorem Be{M:Int}(l:List Ext): ∀b:Int,l.Pairwise (fun x y=>x.a+x.z<=y.a)->(∀x,x∈l->b<=x.a/\1<=x.z/\x.a+x.z<=M)->l= []\/(l.length:Int)+b<=M:=by
 induction l with
 |nil=>intro b _ _;exact .inl rfl
 |cons x l aes=>
  intro b aeJ hb;rw[b3]at aeJ;have Wy:=hb x aN;right;rw[aI];rcases aes (x.a+x.z) aeJ.2 (fun y hy=>⟨aeJ.1 y hy,(hb y (by simp[hy])).2⟩)with h|h
  ·rw[h];simp;omega
  ·push_cast;omega
section
variable{p:afy}{F:b1}{n:Nat}{W:Wd}{O:Nat->List Zr}{VM:Nat->Option Nat}{t:Nat}
section
variable(h:Inv p F n W O VM)
include h
theorem Inv.aR(k:Nat):aR (W.V k):=by have:=h.jd k;unfold Go.Proofs.YtcimojgkeoecfaaGreat.aR;omega
theorem GK{r:aax}(ae3:r.call.op=2/\1<=r.call.a/\r.call.a<=8192\/r.call.op=3/\1<=r.call.a/\r.call.a<p.s):zw p n W.V W.fr (64*p.s+p.i) (64*p.s+p.i+p.h) r:=by
 have YF:=h.pl.s;have hi:=h.pl.i;have acu:=h.pl.h;have abi:=h.abf;have m5:=h.fr;have YJ:=Be (M:=8*n) W.fr 0 h.fs fun x Wy=>by have:=m5 x Wy;omega
 refine⟨fun s YF=>(h.Zt s YF).ft,ae3,⟨J,J,?_⟩,fun x Wy=>by have:=m5 x Wy;omega,h.fs,fun ZV cx=>?_⟩
 ·rcases YJ with e|e
  ·rw[e];simp
  ·omega
 ·rcases ae3 with ae3|ae3
  ·omega
  ·have bW:(r.call.a.toNat:Int)<p.s:=by omega
   have g:=(h.Zt r.call.a.toNat bW).ex J J;exact⟨⟨g.1,g.2.1⟩,⟨J,g.2.2.2.1,J⟩,fun x Wy=>by have:=h.fd x Wy r.call.a.toNat J bW J;exact this⟩
theorem GL(afq:t<p.t)(hb:(W.XT t).busy=true)(YM:(W.XT t).run.Xj≠0)(h1:(W.XT t).run.Xj≠1)(ZQ:(W.XT t).run.call.op≠7/\(W.XT t).run.call.op≠4/\(W.XT t).run.call.op≠5):zu p n W.V (W.XT t).run:=by
 have R:=h.acg t afq hb;have afj:=h.rg t afq;have XJ:Go.Proofs.YtcimojgkeoecfaaGreat.aR (W.XT t).run.hand:=by rw[R.hand];have:=afj (W.XT t).run.call.h.toNat;unfold Go.Proofs.YtcimojgkeoecfaaGreat.aR;omega
 have ael:Go.Proofs.YtcimojgkeoecfaaGreat.aR (W.XT t).run.val:=by rw[R.val];have:=afj (W.XT t).run.call.v.toNat;unfold Go.Proofs.YtcimojgkeoecfaaGreat.aR;omega
 have gf: ∀s,¬gi (W.XT t) s:=fun s hd=>by
  unfold gi at hd;omega
 cases R.kind with
 |tell e _=>exact absurd e YM
 |make e _=>exact absurd e h1
 |take e=>exact absurd e ZQ.1
 |enter e=>exact absurd e ZQ.2.1
 |nn e=>exact absurd e ZQ.2.2
 |drain e=>exact absurd e ZQ.2.2
 |slot Vy nL hS abk ae3=>
  have o1:0<=VA (W.XT t).run.hand:=nL.1;rcases ae3 with ae3|⟨V1,ae3|⟨o,mE,fG,Ri,fC,T8,ae3⟩⟩
  ·exact⟨XJ,ael,J,fun _=>⟨nL,hS⟩,fun q=>J,fun q=>J,fun q=>J,fun q=>J,fun s YF=>(h.Zt s YF).ft,h.aR⟩
  ·exact⟨XJ,ael,J,fun _=>⟨nL,hS⟩,fun q=>J,fun q=>J,fun q=>J,fun q=>J,fun s YF=>(h.Zt s YF).ft,h.aR⟩
  ·have At:((VA (W.XT t).run.hand).toNat:Int)<p.s:=by omega
   have live:=h.live afq At (by rw[show(((VA (W.XT t).run.hand).toNat:Nat):Int)=VA (W.XT t).run.hand from J];exact abk) (gf _);have aeN:=(h.Zt _ At).no.2 live;have fZ:=h.ht At mE;have Is:=h.eb At fZ.1;have lh:=((h.Zt _ At).hd o mE).1;unfold Zr.ok at lh;have PO:=fZ.2.2.2.2 aeN;refine⟨XJ,ael,by rcases ae3 with q|q|q<;>omega,fun _=>⟨nL,hS⟩,fun q=>?_,fun q e=>nL,fun q=>⟨o.at_+2+(W.XT t).run.call.b.toNat,J,J⟩,fun q=>by rcases ae3 with q'|q'|q'<;>omega,fun s YF=>(h.Zt s YF).ft,h.aR⟩;rcases ae3 with q'|q'|⟨_,_,ZV,Ya,_⟩
   ·omega
   ·omega
   ·exact⟨ZV,Ya⟩
 |hI m4 a5 Xg abk=>exact⟨XJ,ael,J,fun q=>J,fun q=>J,fun q=>J,fun q=>J,fun q=>⟨J,Xg.2⟩,fun s YF=>(h.Zt s YF).ft,h.aR⟩
 |gate sb Xg abk ae3=>
  refine⟨XJ,ael,by rcases ae3 with q|q<;>omega,fun q=>by rcases ae3 with q'|q'<;>omega,fun q=>?_,fun q e=>J,fun q=>by rcases ae3 with q'|q'<;>omega,fun q=>⟨J,Xg.2⟩,fun s YF=>(h.Zt s YF).ft,h.aR⟩;rcases ae3 with q'|⟨_,ZV,Ya,_⟩
  ·omega
  ·exact⟨ZV,Ya⟩
end
end
end
section
section
variable{p:afy}{F:b1}{n:Nat}{W:Wd}{O:Nat->List Zr}{VM:Nat->Option Nat}{t:Nat}
section
variable(h:Inv p F n W O VM)(afq:t<p.t)(hb:(W.XT t).busy=true)
include h afq hb
theorem Inv.u1:0<=(W.XT t).run.af/\(W.XT t).run.af<p.s/\reach (W.XT t).aD (W.XT t).run.af:=by
 rw[(h.acg t afq hb).af];exact(h.aaY t afq).af h.pl
section
variable(YM:(W.XT t).run.Xj≠0)(h1:(W.XT t).run.Xj≠1)
include YM h1
theorem zx(ZQ:(W.XT t).run.call.op=7):
 (0<=(W.XT t).run.call.a/\(W.XT t).run.call.a<=6)/\(0<=(W.XT t).run.call.b/\(W.XT t).run.call.b<=512)/\(0<=(W.XT t).run.call.c/\(W.XT t).run.call.c<=7)/\
 ((W.XT t).run.Xj=5\/(W.XT t).run.next=(Wi W.V (W.XT t).run.af.toNat).afB/\((W.XT t).run.Xj=2\/(W.XT t).run.at_=bs W.V (W.XT t).run.af.toNat/\((W.XT t).run.Xj=3\/(W.XT t).run.Xj=4/\(W.XT t).run.word=agh W.V (W.XT t).run.af.toNat)))/\
 okW (W.V (8*(W.XT t).run.af.toNat))/\(8<=bs W.V (W.XT t).run.af.toNat/\bs W.V (W.XT t).run.af.toNat %8=0/\0<=agh W.V (W.XT t).run.af.toNat/\bs W.V (W.XT t).run.af.toNat+agh W.V (W.XT t).run.af.toNat<=8*n)/\(0<=adh W.V (W.XT t).run.af.toNat/\adh W.V (W.XT t).run.af.toNat<=agh W.V (W.XT t).run.af.toNat/\adh W.V (W.XT t).run.af.toNat %8=0):=by
 have R:=h.acg t afq hb;have Xg:=h.u1 afq hb;have fb:=h.pl.s;have bW:((W.XT t).run.af.toNat:Int)<p.s:=J;have live:=h.live afq bW (by rw[show(((W.XT t).run.af.toNat:Nat):Int)=(W.XT t).run.af from J];exact Xg.2.2) (fun hd=>by unfold gi at hd;omega);have Is:=h.eb bW J;cases R.kind with
 |tell e _=>exact absurd e YM
 |make e _=>exact absurd e h1
 |take e aaV ZV Ya afY=>exact⟨aaV,ZV,Ya,afY,(h.Zt _ bW).ft,J,J⟩
 |enter e=>omega
 |nn e=>omega
 |drain e=>omega
 |slot e=>rw[ZQ]at e;rcases e with e|e<;>exact absurd e am
 |hI e=>omega
 |gate e=>omega
theorem DJ(ZQ:(W.XT t).run.call.op=4):
 (0<=(W.XT t).run.call.a/\(W.XT t).run.call.a<p.s)/\(0<=(W.XT t).run.af/\(W.XT t).run.af<=7)/\okW (W.V (8*(W.XT t).run.call.a.toNat))/\((W.XT t).run.Xj=13\/(W.XT t).run.Xj=14/\aR (W.XT t).run.next):=by
 have R:=h.acg t afq hb;have Xg:=h.u1 afq hb;have fb:=h.pl.s;cases R.kind with
 |tell e _=>exact absurd e YM
 |make e _=>exact absurd e h1
 |take e aaV ZV Ya afY=>omega
 |enter e aaV ZV Ya=>
  refine⟨J,J,(h.Zt _ J).ft,?_⟩;rcases Ya with Ya|⟨Ya,afY,XX,adH⟩
  ·exact .inl Ya
  ·refine .inr ⟨Ya,?_⟩;have:=(afY.ok.enter J XX).1.aas;rw[adH];unfold aR;omega
 |nn e=>omega
 |drain e=>omega
 |slot e=>rw[ZQ]at e;rcases e with e|e<;>exact absurd e am
 |hI e=>omega
 |gate e=>omega
end
end
end
end
section
open Go.RowKit Tryz
theorem qr{G:Prop}(h:G:=by
 have l:=Yd.left aeB ae3;exact⟨⟨x.ads,x.ls,v,x.Y1⟩,V1,⟨l.ads,l.ls,hv.mono fun b _ h=>.inr h,l.Y1⟩,hb,afl,ae3⟩):G:=h
theorem pe{G:Prop}(h:G:=by
 go_wp2_with(go_at_call 357;refine Calls.mono XP ?_;rintro e aaM ⟨v,rfl,Wy⟩);refine fY ?_;exact⟨v,rfl,Wy⟩):G:=h
theorem aW.same{w:World}{S:Nat->Prop}{r XY:aax}{x:Yr}(h:aW w S r x)(aal:XY.chain=r.chain)(abF:XY.list=r.list)(acL:XY.said=r.said)(acS:XY.aC.said=r.aC.said):aW w S XY x:=
 ⟨by rw[aal];exact h.ads,by rw[abF];exact h.ls,by rw[acL];exact h.Wh,by rw[acS];exact h.Y1⟩
section
variable{w w':World}{X7:Nat->Prop}{Yc WC:Nat}{r XY:aax}{x:Yr}
section
variable(h:aW w X7 r x)(hS: ∀b,b<w.heap.size->X7 b->b≠Yc/\b≠WC)(ae3:Z1 (fun b=>b≠Yc/\b≠WC) w w')
include h hS ae3
theorem aW.left:aW w' (fun b=>X7 b\/w.heap.size<=b/\b≠Yc/\b≠WC) r x:=
 (h.Wu (ae3.mono hS)).mono fun b _ h=>.inl h
theorem aW.jH(aal:XY.chain=r.chain)(abF:XY.list=r.list)(acL:XY.said=r.said)(acS:XY.aC.said=r.aC.said):aW w' (fun b=>X7 b\/w.heap.size<=b/\b≠Yc/\b≠WC) XY x:=
 (h.left hS ae3).same aal abF acL acS
end
end
theorem aW.Bl{w w':World}{X7:Nat->Prop}{Yc WC:Nat}{r:aax}{x:Yr}{v:Value}(code m:Int)(h:aW w X7 r x)(hS: ∀b,b<w.heap.size->X7 b->b≠Yc/\b≠WC)(ae3:Z1 (fun b=>b≠Yc/\b≠WC) w w')(hv:cF w' (fun b=>w.heap.size<=b/\b≠Yc/\b≠WC) v r.said):
 aW w' (fun b=>X7 b\/w.heap.size<=b/\b≠Yc/\b≠WC) (tell r code m) {x with Y1:=v}:=by
 have l:=h.left hS ae3;exact⟨l.ads,l.ls,l.Wh,hv.mono fun b _ h=>.inr h⟩
theorem qs(r:aax):(bP r).chain=r.chain/\(bP r).list=r.list/\(bP r).said=r.said/\(bP r).aC=r.aC:=by
 unfold bP;(repeat' split)<;>exact⟨rfl,rfl,rfl,rfl⟩
theorem mN(r:aax):(ee r).chain=r.chain/\(ee r).list=r.list/\(ee r).said=r.said/\(ee r).aC=r.aC:=by
 unfold ee;split
 ·exact⟨rfl,rfl,rfl,rfl⟩
 ·exact qs r
theorem s8(r:aax):(dT r).chain=r.chain/\(dT r).list=r.list/\(dT r).said=r.said/\(dT r).aC=r.aC:=by
 unfold dT;split<;>exact⟨rfl,rfl,rfl,rfl⟩
structure BZ(p:afy)(F:b1)(n:Nat)(V:Nat->Int)(r:aax):Prop where
 Xj:15<=r.Xj/\r.Xj<=26
 jd: ∀k,aR (V k)
 SU:r.Xj=15->okW (V (8*r.af.toNat))/\(Wi V r.af.toNat).st=2
 M0:r.Xj=16\/r.Xj=22\/r.Xj=26->okW r.next
 PU:r.Xj=22\/r.Xj=26->(up r.next).st=3
 SV:r.Xj=17->0<=bs V r.af.toNat/\bs V r.af.toNat<=65536
 SW:r.Xj=18->(0<=adh V r.af.toNat/\adh V r.af.toNat<=65536)/\0<=r.at_/\r.at_<=65536
 SX:r.Xj=19->∃k:Nat,r.at_=8*k/\k+1<n/\rG (V k) (V (k+1))
 PV:r.Xj=20\/r.Xj=21->∃(pre:List Int) (k:Nat),r.list=pre++ [8*(k:Int)]/\k+2+(fl V k).l<=n/\rG (V k) (V (k+1))
 SY:r.Xj=20->0<=r.op/\r.op<(bY F (fl V (iK r.list/8).toNat).t).length
 SZ:r.Xj=21->0<=r.n/\r.n<=65536
 S0:r.Xj=23->0<=r.word/\r.word<=65536
 S1:r.Xj=24->0<=r.at_/\r.at_<8*n/\r.at_ %8=0
theorem G9(w0:World)(p:afy)(Y8:Value)(ap WC n Yc:Nat)(V:Nat->Int)(r:aax)(x:Yr)(hb:ah w0 Yc 386 (bp p Y8 ap r x).toArray)(Xg:ar w0 ap WC n V)(h1:Yc≠ap)(aaV:Yc≠WC)(S:Nat->Prop)(abk:aW w0 S r x)(bE:dx r)(hS: ∀b,b<w0.heap.size->S b->b≠Yc/\b≠WC)(aeJ:a9 p)(abi:8*p.s<=n)(ci:0<=r.af/\r.af<p.s)(ok:okW r.next)(cx:(up r.next).st=3):
 Calls prog 330 #[.pointer (some ⟨Yc,0,none⟩)] w0 fun e w'=> ∃v,e= .returned (.tuple #[])/\cF w' (fun b=>w0.heap.size<=b/\b≠Yc/\b≠WC) v r.said/\ah w' Yc 386 (bp p Y8 ap (tell r 25 r.n) {x with Y1:=v}).toArray/\ar w' ap WC n (upd V (8*r.af.toNat) (afa (mp (up r.next))))/\Z1 (fun b=>b≠Yc/\b≠WC) w0 w':=by
 have XP:=Jz w0 p Y8 ap WC n Yc V r x hb Xg h1 aaV S abk bE hS aeJ abi ci ok cx;clear hb Xg abk bE hS ok cx;go_enter func330,ntmps330;exact pe
theorem Ha(w0:World)(p:afy)(Y8:Value)(ap WC n Yc:Nat)(V:Nat->Int)(r:aax)(x:Yr)(hb:ah w0 Yc 386 (bp p Y8 ap r x).toArray)(Xg:ar w0 ap WC n V)(h1:Yc≠ap)(aaV:Yc≠WC)(S:Nat->Prop)(abk:aW w0 S r x)(bE:dx r)(hS: ∀b,b<w0.heap.size->S b->b≠Yc/\b≠WC)(aeJ:a9 p)(abi:8*p.s<=n)(ci:0<=r.af/\r.af<p.s)(ok:okW r.next)(cx:(up r.next).st=3):
 Calls prog 334 #[.pointer (some ⟨Yc,0,none⟩)] w0 fun e w'=> ∃v,e= .returned (.tuple #[])/\cF w' (fun b=>w0.heap.size<=b/\b≠Yc/\b≠WC) v r.said/\ah w' Yc 386 (bp p Y8 ap (tell r 0 r.n) {x with Y1:=v}).toArray/\ar w' ap WC n (upd V (8*r.af.toNat) (afa (jX (up r.next))))/\Z1 (fun b=>b≠Yc/\b≠WC) w0 w':=by
 have XP:=JA w0 p Y8 ap WC n Yc V r x hb Xg h1 aaV S abk bE hS aeJ abi ci ok cx;clear hb Xg abk bE hS ok cx;go_enter func334,ntmps334;exact pe
theorem M1(V:Nat->Int)(k:Nat):(fl V k).d=W4 (V k):=rfl
theorem vb{V:Nat->Int}{k:Nat}(ok:rG (V k) (V (k+1))):((fl V k).z:Int)=af4 (V k)/\((fl V k).l:Int)=aez (V k)/\(fl V k).t=(afM (V k)).toNat:=by
 obtain⟨⟨h1,aaV,ZV,_,_⟩,_,_⟩:=ok;refine⟨?_,?_,rfl⟩
 ·show(((af4 (V k)).toNat:Nat):Int)=_;omega
 ·show(((aez (V k)).toNat:Nat):Int)=_;omega
theorem Hb(w0:World)(S:Nat->Prop)(p:afy)(Y8:Value)(F:b1)(Vs:Nat->Value)(ap WC n:Nat)(V:Nat->Int)(r:aax)(x:Yr)(Xg:ar w0 ap WC n V)(abk:aW w0 S r x)(hF:eF w0 S Y8 F Vs)(m7:tN F)(bE:dx r)(hS: ∀b,b<w0.heap.size->S b->b≠WC)(hd:r.fin=false)(aeJ:a9 p)(abi:8*p.s<=n)(ci:0<=r.af/\r.af<p.s)(h:BZ p F n V r):
 Calls prog 188 #[ej p,Y8,.pointer (some ⟨ap,0,none⟩),.agg (aY r x)] w0 fun e w'=> ∃x',e= .returned (.tuple #[.agg (aY (bM F V r).2 x'),.int .i64 0])/\ar w' ap WC n (bM F V r).1/\aW w' (fun b=>(S b\/w0.heap.size<=b)/\b≠WC) (bM F V r).2 x'/\ce w0.heap.size WC w0 w':=by
 have fin: ∀V2 XY,bM F V r=(V2,XY)->(Calls prog 188 #[ej p,Y8,.pointer (some ⟨ap,0,none⟩),.agg (aY r x)] w0 fun e w'=> ∃x',e= .returned (.tuple #[.agg (aY XY x'),.int .i64 0])/\ar w' ap WC n V2/\aW w' (fun b=>(S b\/w0.heap.size<=b)/\b≠WC) XY x'/\ce w0.heap.size WC w0 w')->
  Calls prog 188 #[ej p,Y8,.pointer (some ⟨ap,0,none⟩),.agg (aY r x)] w0 fun e w'=> ∃x',e= .returned (.tuple #[.agg (aY (bM F V r).2 x'),.int .i64 0])/\ar w' ap WC n (bM F V r).1/\aW w' (fun b=>(S b\/w0.heap.size<=b)/\b≠WC) (bM F V r).2 x'/\ce w0.heap.size WC w0 w':=fun V2 XY e h=>by rw[e];exact h
 obtain⟨aeQ,acN,M2,-,-,-⟩:=id abk.ls;have a5:=h.Xj;rcases(by omega:r.Xj=15\/r.Xj=16\/r.Xj=17\/r.Xj=18\/r.Xj=19\/r.Xj=20\/r.Xj=21\/r.Xj=22\/r.Xj=23\/r.Xj=24\/r.Xj=25\/r.Xj=26)with q|q|q|q|q|q|q|q|q|q|q|q
 ·obtain⟨ok,cx⟩:=h.SU q;refine fin V _ (by unfold bM;rw[Z q]) ?_;exact DR w0 S p Y8 F Vs ap WC n V V r _ x Xg abk hF hS hd q (fun aaM Yc X7 acW YN abX V3 Yd f1 aeB=>(Jw aaM p Y8 ap WC n Yc V r x acW YN abX V3 aeJ abi ci ok cx).mono fun e w' h=>⟨x,h.1,Yd.jH aeB h.2.2.2 rfl rfl rfl rfl,h.2.1,h.2.2.1,h.2.2.2⟩)
 ·have ok:=h.M0 (.inl q);by_cases c:V (8*r.af.toNat)=r.word
  ·by_cases d:(up r.next).st=3
   ·refine fin (upd V (8*r.af.toNat) r.next) {r with Xj:=17} (by unfold bM;rw[aB,Z q,Z c,Z d];rfl) ?_;exact sK w0 S p Y8 F Vs ap WC n V _ r _ x Xg abk hF hS hd q (fun aaM Yc X7 acW YN abX V3 Yd f1 aeB=>(DL aaM p Y8 ap WC n Yc V r x acW YN abX V3 aeJ abi ci ok c d).mono fun e w' h=>⟨x,h.1,Yd.jH aeB h.2.2.2 rfl rfl rfl rfl,h.2.1,h.2.2.1,h.2.2.2⟩)
   ·refine fin (upd V (8*r.af.toNat) r.next) (tell r 0 0) (by unfold bM;rw[aB,Z q,Z c,Y d];rfl) ?_;exact sK w0 S p Y8 F Vs ap WC n V _ r _ x Xg abk hF hS hd q (fun aaM Yc X7 acW YN abX V3 Yd f1 aeB=>(DM aaM p Y8 ap WC n Yc V r x acW YN abX V3 X7 Yd bE aeB aeJ abi ci ok c d).mono fun e w' ⟨v,V1,hv,hb,afl,ae3⟩=>⟨{x with Y1:=v},V1,Yd.Bl 0 0 aeB ae3 hv,hb,afl,ae3⟩)
  ·refine fin V {r with word:=0,next:=0,Xj:=15} (by unfold bM;rw[aB,Z q,Y c]) ?_;exact sK w0 S p Y8 F Vs ap WC n V V r _ x Xg abk hF hS hd q (fun aaM Yc X7 acW YN abX V3 Yd f1 aeB=>(DK aaM p Y8 ap WC n Yc V r x acW YN abX V3 aeJ abi ci ok c).mono fun e w' h=>⟨x,h.1,Yd.jH aeB h.2.2.2 rfl rfl rfl rfl,h.2.1,h.2.2.1,h.2.2.2⟩)
 ·refine fin V _ (by unfold bM;rw[aB,aB,Z q]) ?_;exact DS w0 S p Y8 F Vs ap WC n V V r _ x Xg abk hF hS hd q (fun aaM Yc X7 acW YN abX V3 Yd f1 aeB=>(DN aaM p Y8 ap WC n Yc V r x acW YN abX V3 aeJ abi ci (h.SV q)).mono fun e w' h=>⟨x,h.1,Yd.jH aeB h.2.2.2 rfl rfl rfl rfl,h.2.1,h.2.2.1,h.2.2.2⟩)
 ·obtain⟨hb,fG⟩:=h.SW q;refine fin V _ (by unfold bM;rw[aB,aB,aB,Z q]) ?_;have g:=mN {r with top:=r.at_+adh V r.af.toNat};exact DT w0 S p Y8 F Vs ap WC n V V r _ x Xg abk hF hS hd q (fun aaM Yc X7 acW YN abX V3 Yd f1 aeB=>(Jx aaM p Y8 ap WC n Yc V r x aeQ acN M2 acW YN abX V3 aeJ abi ci hb fG).mono fun e w' h=>⟨x,h.1,Yd.jH aeB h.2.2.2 g.1 g.2.1 g.2.2.1 (by rw[g.2.2.2]),h.2.1,h.2.2.1,h.2.2.2⟩)
 ·obtain⟨k,XD,ae3,ok⟩:=h.SX q;have o:=isObj.of (h.jd k) ok;obtain⟨Xq,ZS,Xf⟩:=vb ok;have S2:(r.at_/8).toNat=k:=J;have acb:8*((fl V k).z:Int)=af4 (V k)*8:=by rw[Xq];omega
  have Wx:bM F V r=(V,ee {r with list:=if(fl V k).d=false/\bY F (fl V k).t≠ []then r.list++ [r.at_]else r.list,at_:=r.at_+af4 (V k)*8}):=by
   unfold bM;rw[aB,aB,aB,aB,Z q,S2,acb]
  rw[Xf,M1]at Wx;cases vc:W4 (V k)with
  |true=>
   rw[vc]at o Wx;rw[Y aN]at Wx;refine fin V _ Wx ?_;have g:=mN {r with list:=r.list,at_:=r.at_+af4 (V k)*8};exact sL w0 S p Y8 F Vs ap WC n V V r _ x Xg abk hF hS hd q (fun aaM Yc X7 acW YN abX V3 Yd f1 aeB=>(GR aaM p Y8 ap WC n Yc V r x aeQ acN M2 acW YN abX V3 aeJ abi ci F Vs X7 f1 m7.1 aeB k XD ae3 _ _ _ _ _ o).mono fun e w' h=>⟨x,h.1,Yd.jH aeB h.2.2.2 g.1 g.2.1 g.2.2.1 (by rw[g.2.2.2]),h.2.1,h.2.2.1,h.2.2.2⟩)
  |false=>
   rw[vc]at o Wx;by_cases n3:bY F (afM (V k)).toNat= []
   ·rw[Y (by simp[n3])]at Wx;refine fin V _ Wx ?_;have g:=mN {r with list:=r.list,at_:=r.at_+af4 (V k)*8};exact sL w0 S p Y8 F Vs ap WC n V V r _ x Xg abk hF hS hd q (fun aaM Yc X7 acW YN abX V3 Yd f1 aeB=>(GU aaM p Y8 ap WC n Yc V r x aeQ acN M2 acW YN abX V3 aeJ abi ci F Vs X7 f1 m7.1 aeB k XD ae3 _ _ _ _ _ o n3).mono fun e w' h=>⟨x,h.1,Yd.jH aeB h.2.2.2 g.1 g.2.1 g.2.2.1 (by rw[g.2.2.2]),h.2.1,h.2.2.1,h.2.2.2⟩)
   ·rw[Z ⟨rfl,n3⟩]at Wx;refine fin V _ Wx ?_;have g:=mN {r with list:=r.list++ [r.at_],at_:=r.at_+af4 (V k)*8};exact sL w0 S p Y8 F Vs ap WC n V V r _ x Xg abk hF hS hd q (fun aaM Yc X7 acW YN abX V3 Yd f1 aeB=>(GV aaM p Y8 ap WC n Yc V r x X7 Yd.ls bE.ls aeB acW YN abX V3 aeJ abi ci F Vs X7 f1 m7.1 aeB k XD ae3 _ _ _ _ _ o n3).mono fun e w' ⟨v,hv,V1,hb,afl,ae3⟩=>by
     have l:=Yd.left aeB ae3;exact⟨{x with ls:=v},V1,⟨by rw[g.1];exact l.ads,by rw[g.2.1];exact hv.mono fun b _ h=>.inr h,by rw[g.2.2.1];exact l.Wh,by rw[g.2.2.2];exact l.Y1⟩,hb,afl,ae3⟩)
 ·obtain⟨pre,k,el,ae3,ok⟩:=h.PV (.inl q);obtain⟨LH,vz⟩:=h.SY q;have o:=isObj.of (h.jd k) ok;obtain⟨Xq,ZS,Xf⟩:=vb ok;have jv:(iK r.list/8).toNat=k:=by rw[el];simp[iK]
  rw[jv]at vz;rw[<-ZS]at o;have ih:pre.length<=65536:=by have:=bE.ls;rw[el]at this;simp at this;omega
  obtain⟨⟨Zt,i7,iI,vc⟩,VX⟩: ∃ZW,dd ((bY F (fl V k).t).getD r.op.toNat ⟨0,0,0⟩) (eM V k (fl V k).l)=ZW:=⟨_,rfl⟩
  have Wx:bM F V r=(fW V k i7,{r with op:=r.op+1+Zt,said:=r.said++iI,held:=r.held||vc,Xj:=if((bY F (fl V k).t).length:Int)<=r.op+1+Zt then 21 else 20}):=by
   unfold bM;rw[aB,aB,aB,aB,aB,Z q,jv];simp only[VX]
  refine fin _ _ Wx ?_;rw[Xf]at vz VX⊢;have rl:((((bY F (afM (V k)).toNat).length:Int)<=r.op+1+Zt->(if((bY F (afM (V k)).toNat).length:Int)<=r.op+1+Zt then(21:Int)else 20)=21)/\(¬(((bY F (afM (V k)).toNat).length:Int)<=r.op+1+Zt)->(if((bY F (afM (V k)).toNat).length:Int)<=r.op+1+Zt then(21:Int)else 20)=r.Xj)):=⟨fun c=>Z c,fun c=>by rw[Y c,q]⟩
  generalize(if((bY F (afM (V k)).toNat).length:Int)<=r.op+1+Zt then(21:Int)else 20)=fD at rl⊢;refine DU w0 S p Y8 F Vs ap WC n V _ r _ x Xg abk hF hS hd q (fun aaM Yc X7 acW YN abX V3 Yd f1 aeB=>?_);have adM:cF aaM X7 x.ls (pre++ [8*(k:Int)]):=el▸Yd.ls;cases acu:r.held with
  |true=>
   refine(JG aaM p Y8 ap WC n Yc V r x X7 X7 F Vs f1 m7 aeB pre _ adM ih Yd.Wh bE.Wh aeB acW YN abX V3 k _ rfl ae3 _ _ _ _ _ o h.jd LH vz Zt i7 iI vc VX acu fD rl).mono fun e w' ⟨v,hv,V1,hb,afl,ae3⟩=>?_;exact qr
  |false=>
   refine(JH aaM p Y8 ap WC n Yc V r x X7 X7 F Vs f1 m7 aeB pre _ adM ih Yd.Wh bE.Wh aeB acW YN abX V3 k _ rfl ae3 _ _ _ _ _ o h.jd LH vz Zt i7 iI vc VX acu fD rl).mono fun e w' ⟨v,hv,V1,hb,afl,ae3⟩=>?_;exact qr
 ·obtain⟨pre,k,el,ae3,ok⟩:=h.PV (.inr q);have o:=isObj.of (h.jd k) ok;obtain⟨Xq,ZS,Xf⟩:=vb ok;have jv:(iK r.list/8).toNat=k:=by rw[el];simp[iK]
  have ih:pre.length<=65536:=by have:=bE.ls;rw[el]at this;simp at this;omega
  have Fp:r.list.dropLast=pre:=by rw[el];simp
  have S3:((fl V k).t:Int)=afM (V k):=by rw[Xf];have:=ok.1.2.2.1;omega
  have Wx:bM F V r=(upd V k (Go.Proofs.YtcimojgkeoecfaaGreat.hF (af4 (V k)) (aez (V k)) (afM (V k)) 1),bP {r with list:=pre,n:=r.n+1,op:=0}):=by
   unfold bM;rw[aB,aB,aB,aB,aB,aB,Z q,jv,Fp];simp only[Xq,ZS,S3];rw[show q5 (af4 (V k)) (aez (V k)) (afM (V k)) 1=Go.Proofs.YtcimojgkeoecfaaGreat.hF (af4 (V k)) (aez (V k)) (afM (V k)) 1 from by unfold q5 Go.Proofs.YtcimojgkeoecfaaGreat.hF;omega];rfl
  refine fin _ _ Wx ?_;have g:=qs {r with list:=pre,n:=r.n+1,op:=0};refine DV w0 S p Y8 F Vs ap WC n V _ r _ x Xg abk hF hS hd q (fun aaM Yc X7 acW YN abX V3 Yd f1 aeB=>?_);have adM:cF aaM X7 x.ls (pre++ [8*(k:Int)]):=el▸Yd.ls;refine(GX aaM p Y8 ap WC n Yc V r x X7 pre _ adM ih aeB acW YN abX V3 (h.SZ q) k rfl J _ _ _ _ _ _ o).mono fun e w' ⟨v,hv,V1,hb,afl,ae3⟩=>?_;have l:=Yd.left aeB ae3;exact⟨{x with ls:=v},V1,⟨by rw[g.1];exact l.ads,by rw[g.2.1];exact hv.mono fun b _ h=>.inr h,by rw[g.2.2.1];exact l.Wh,by rw[g.2.2.2];exact l.Y1⟩,hb,afl,ae3⟩
 ·have ok:=h.M0 (.inr (.inl q));have cx:=h.PU (.inl q);refine fin (upd V (8*r.af.toNat) (afa (mp (up r.next)))) (tell r 25 r.n) (by unfold bM;rw[aB,aB,aB,aB,aB,aB,aB,Z q];rfl) ?_;exact DW w0 S p Y8 F Vs ap WC n V _ r _ x Xg abk hF hS hd q (fun aaM Yc X7 acW YN abX V3 Yd f1 aeB=>(G9 aaM p Y8 ap WC n Yc V r x acW YN abX V3 X7 Yd bE aeB aeJ abi ci ok cx).mono fun e w' ⟨v,V1,hv,hb,afl,ae3⟩=>⟨{x with Y1:=v},V1,Yd.Bl _ _ aeB ae3 hv,hb,afl,ae3⟩)
 ·refine fin (upd V (8*r.af.toNat+4) 0) (dT {r with at_:=r.word}) (by unfold bM;rw[aB,aB,aB,aB,aB,aB,aB,aB,Z q];rfl) ?_;have g:=s8 {r with at_:=r.word};exact DX w0 S p Y8 F Vs ap WC n V _ r _ x Xg abk hF hS hd q (fun aaM Yc X7 acW YN abX V3 Yd f1 aeB=>(DP aaM p Y8 ap WC n Yc V r x acW YN abX V3 aeJ abi ci (h.S0 q)).mono fun e w' h=>⟨x,h.1,Yd.jH aeB h.2.2.2 g.1 g.2.1 g.2.2.1 (by rw[g.2.2.2]),h.2.1,h.2.2.1,h.2.2.2⟩)
 ·refine fin (upd V (r.at_/8).toNat 0) (dT {r with at_:=r.at_+8}) (by unfold bM;rw[aB,aB,aB,aB,aB,aB,aB,aB,aB,Z q];rfl) ?_;have g:=s8 {r with at_:=r.at_+8};exact DY w0 S p Y8 F Vs ap WC n V _ r _ x Xg abk hF hS hd q (fun aaM Yc X7 acW YN abX V3 Yd f1 aeB=>(GQ aaM p Y8 ap WC n Yc V r x acW YN abX V3 (h.S1 q)).mono fun e w' h=>⟨x,h.1,Yd.jH aeB h.2.2.2 g.1 g.2.1 g.2.2.1 (by rw[g.2.2.2]),h.2.1,h.2.2.1,h.2.2.2⟩)
 ·refine fin (upd V (8*r.af.toNat+3) 0) {r with Xj:=26} (by unfold bM;rw[aB,aB,aB,aB,aB,aB,aB,aB,aB,aB,Z q];rfl) ?_;exact DZ w0 S p Y8 F Vs ap WC n V _ r _ x Xg abk hF hS hd q (fun aaM Yc X7 acW YN abX V3 Yd f1 aeB=>(DO aaM p Y8 ap WC n Yc V r x acW YN abX V3 aeJ abi ci).mono fun e w' h=>⟨x,h.1,Yd.jH aeB h.2.2.2 rfl rfl rfl rfl,h.2.1,h.2.2.1,h.2.2.2⟩)
 ·have ok:=h.M0 (.inr (.inr q));have cx:=h.PU (.inr q);refine fin (upd V (8*r.af.toNat) (afa (jX (up r.next)))) (tell r 0 r.n) (by unfold bM;rw[aB,aB,aB,aB,aB,aB,aB,aB,aB,aB,aB];rfl) ?_;exact D1 w0 S p Y8 F Vs ap WC n V _ r _ x Xg abk hF hS hd q (fun aaM Yc X7 acW YN abX V3 Yd f1 aeB=>(Ha aaM p Y8 ap WC n Yc V r x acW YN abX V3 X7 Yd bE aeB aeJ abi ci ok cx).mono fun e w' ⟨v,V1,hv,hb,afl,ae3⟩=>⟨{x with Y1:=v},V1,Yd.Bl _ _ aeB ae3 hv,hb,afl,ae3⟩)
end
section
section
variable{p:afy}{F:b1}{n:Nat}{W:Wd}{O:Nat->List Zr}{VM:Nat->Option Nat}{t:Nat}
theorem JI{f t:Int}(h:x3 f t)(YM:0<=f):rG f t:=by
 obtain⟨h1,aaV,ZV,Ya,afY,XX,adH⟩:=h;exact⟨⟨by unfold aez;omega,by unfold af4 aez;omega,by unfold afM;omega,by unfold m8;omega,by unfold m9;omega⟩,XX,adH⟩
theorem s9{pre post:List Zr}{o:Zr}(h:fX F o=true)(aaV:cO F post= []):cO F (pre++o::post)=cO F pre++ [8*(o.at_:Int)]:=by
 unfold cO at*;rw[List.filter_append,cP,List.filter_cons,Z h,aS,aaV]
theorem D2(h:Inv p F n W O VM)(afq:t<p.t)(hb:(W.XT t).busy=true)(YM:(W.XT t).run.Xj≠0)(h1:(W.XT t).run.Xj≠1)(ZQ:(W.XT t).run.call.op=5)(abi:(W.XT t).run.n<=65536):BZ p F n W.V (W.XT t).run:=by
 have R:=h.acg t afq hb;have Xg:=h.u1 afq hb;have fb:=h.pl.s;have LA:=h.pl.i;have LB:=h.pl.h;have iR:=h.abf;have bW:((W.XT t).run.af.toNat:Int)<p.s:=J;have abk:=Xg.2.2;have eN:=R.n.1;have S4:reach (W.XT t).aD (((W.XT t).run.af.toNat:Nat):Int):=by rw[show(((W.XT t).run.af.toNat:Nat):Int)=(W.XT t).run.af from J];exact abk
 have lh:=(h.Zt _ bW).ft;cases R.kind with
 |tell e _=>exact absurd e YM
 |make e _=>exact absurd e h1
 |take e=>rw[ZQ]at e;exact absurd e am
 |enter e=>rw[ZQ]at e;exact absurd e am
 |slot e=>rw[ZQ]at e;rcases e with e|e<;>exact absurd e am
 |hI e=>rw[ZQ]at e;exact absurd e am
 |gate e=>rw[ZQ]at e;exact absurd e am
 |nn e YJ li ae3=>
  have a5:(W.XT t).run.Xj=15\/(W.XT t).run.Xj=16:=by rcases ae3 with q|q;exact .inl q;exact .inr q.1
  have live:=h.live afq bW S4 (fun hd=>by unfold gi at hd;omega);refine⟨J,h.aR,fun q=>⟨lh,live⟩,fun q=>?_,fun q=>J,fun q=>J,fun q=>J,fun q=>J,fun q=>J,fun q=>J,fun q=>J,fun q=>J,fun q=>J⟩;rcases ae3 with q'|⟨q',afY,XX,adH⟩
  ·omega
  ·rw[adH];exact(afY.ok.leave XX).1.w
 |drain e YJ a5 Yg cx aG=>
  have Is:=h.eb bW J;have jg:okW (W.XT t).run.next:=Yg▸lh;have nJ:(up (W.XT t).run.next).st=3:=by rw[<-Yg];exact cx
  have M3: ∀o,o∈O (W.XT t).run.af.toNat->VM (W.XT t).run.af.toNat=none->o.at_+2+(fl W.V o.at_).l<=n/\o.at_+1<n/\rG (W.V o.at_) (W.V (o.at_+1))/\fl W.V o.at_=o:=fun o mE aeN=>by
   have fZ:=h.ht bW mE;have acu:=h.ri bW mE;have ok:=((h.Zt _ bW).hd o mE).1;unfold Zr.ok at ok;have PO:=fZ.2.2.2.2 aeN;have cT:=h.jd o.at_;rw[acu.2];exact⟨J,J,JI acu.1.2.1 cT.1,rfl⟩
  have e9: ∀ {P:Prop} {a b:Int},(W.XT t).run.Xj=a->(W.XT t).run.Xj=b->a≠b->P:=fun aal abF abi=>absurd (aal.symm.trans abF) abi;cases aG with
  |first q=>exact⟨J,h.aR,fun q'=>J,fun _=>jg,fun _=>nJ,fun _=>J,fun q'=>J,fun q'=>J,fun q'=>J,fun q'=>J,fun q'=>J,fun q'=>J,fun q'=>J⟩
  |top q h1 aaV ZV Ya=>exact⟨J,h.aR,fun q'=>J,fun _=>jg,fun _=>nJ,fun q'=>J,fun q'=>J,fun q'=>J,fun q'=>J,fun q'=>J,fun q'=>J,fun q'=>J,fun q'=>J⟩
  |walk pre o post q h1 aaV ZV Ya afY XX=>
   have acP:=M3 o (by rw[Ya];simp) h1;exact⟨J,h.aR,fun q'=>J,fun _=>jg,fun _=>nJ,fun q'=>J,fun q'=>J,fun _=>⟨o.at_,afY,acP.2.1,acP.2.2.1⟩,fun q'=>J,fun q'=>J,fun q'=>J,fun q'=>J,fun q'=>J⟩
  |fin pre o post q h1 aaV ZV Ya afY XX adH Vy adp=>
   have acP:=M3 o (by rw[Ya];simp) h1;have xI:(W.XT t).run.list=cO F pre++ [8*(o.at_:Int)]:=by rw[adH,Ya];exact s9 afY XX
   have jv:(iK (W.XT t).run.list/8).toNat=o.at_:=by rw[xI];simp[iK]
   exact⟨J,h.aR,fun q'=>J,fun _=>jg,fun _=>nJ,fun q'=>J,fun q'=>J,fun q'=>J,fun _=>⟨cO F pre,o.at_,xI,acP.1,acP.2.2.1⟩,fun _=>⟨Vy,by rw[jv,acP.2.2.2];exact adp⟩,fun q'=>J,fun q'=>J,fun q'=>J⟩
  |mark pre o post q h1 aaV ZV Ya afY XX adH=>
   have acP:=M3 o (by rw[Ya];simp) h1;have xI:(W.XT t).run.list=cO F pre++ [8*(o.at_:Int)]:=by rw[adH,Ya];exact s9 afY XX
   exact⟨J,h.aR,fun q'=>J,fun _=>jg,fun _=>nJ,fun q'=>J,fun q'=>J,fun q'=>J,fun _=>⟨cO F pre,o.at_,xI,acP.1,acP.2.2.1⟩,fun q'=>J,fun _=>⟨eN,abi⟩,fun q'=>J,fun q'=>J⟩
  |rest q h1 aaV ZV Ya afY=>exact⟨J,h.aR,fun q'=>J,fun _=>jg,fun _=>nJ,fun q'=>J,fun q'=>J,fun q'=>J,fun q'=>J,fun q'=>J,fun q'=>J,fun q'=>J,fun q'=>J⟩
  |zero q h1 aaV ZV Ya afY=>exact⟨J,h.aR,fun q'=>J,fun _=>jg,fun _=>nJ,fun q'=>J,fun q'=>J,fun q'=>J,fun q'=>J,fun q'=>J,fun q'=>J,fun q'=>J,fun q'=>J⟩
  |last q' q h1 aaV ZV=>exact⟨J,h.aR,fun q'=>J,fun _=>jg,fun _=>nJ,fun q'=>J,fun q'=>J,fun q'=>J,fun q'=>J,fun q'=>J,fun q'=>J,fun q'=>J,fun q'=>J⟩
end
end
section
open Tryz
theorem xJ{aaM w':World}{S:Nat->Prop}{ap WC n aff rg:Nat}{V':Nat->Int}{a4 aaY:Int}{fr:List Ext}{r':aax}{e:Ending}{eV:Yr->Ending}(afj:cY aaM aff rg a4 aaY fr)(dK:WC≠aff/\WC≠rg)(lO: ∀b,S b->b≠WC/\b≠aff/\b≠rg)
 (h: ∃x',e=eV x'/\ar w' ap WC n V'/\aW w' (fun b=>(S b\/aaM.heap.size<=b)/\b≠WC) r' x'/\ce aaM.heap.size WC aaM w'):
 ∃x' aO,e=eV x'/\ar w' ap WC n V'/\cY w' aff aO a4 aaY fr/\(aO=rg\/aaM.heap.size<=aO)/\aW w' (fun b=>(S b\/aaM.heap.size<=b)/\b≠WC/\b≠aff/\b≠aO) r' x'/\Z1 (fun b=>b≠WC/\b≠aff/\b≠rg) aaM w':=by
 obtain⟨x',V1,afl,abk,Yq⟩:=h;have YJ:=afj.lt;have k:=Z1.w6 Yq;exact⟨x',rg,V1,afl,afj.Wu (k.block aff YJ.1 fun e=>dK.1 e.symm) (k.block rg YJ.2 fun e=>dK.2 e.symm),.inl rfl,abk.mono fun b _ hb=>⟨hb.1,hb.2,by rcases hb.1 with h|h;exact(lO b h).2.1;omega,by rcases hb.1 with h|h;exact(lO b h).2.2;omega⟩,k.mono fun b _ h=>h.1⟩
theorem M4(w0:World)(S:Nat->Prop)(p:afy)(F:b1)(W:Wd)(O:Nat->List Zr)(VM:Nat->Option Nat)(t:Nat)(aeh:Nat)(Y8 acc Z2:Value)(Vs:Nat->Value)(h4:Int)(ap WC n aff rg:Nat)(x:Yr)
 (h:Inv p F n W O VM)(afq:t<p.t)(ga:(W.XT t).busy=true)(bE:dx (W.XT t).run)(abi:(W.XT t).run.n<=65536)
 (hb:ah w0 aeh 142 (gh p Y8 ap aff acc Z2 h4).toArray)(Xg:ar w0 ap WC n W.V)(afj:cY w0 aff rg (64*p.s+p.i) (64*p.s+p.i+p.h) W.fr)(hF:eF w0 S Y8 F Vs)(abk:aW w0 S (W.XT t).run x)
 (hS: ∀b,S b->b<w0.heap.size/\b≠aeh)(lO: ∀b,S b->b≠WC/\b≠aff/\b≠rg)(afl:aeh≠ap/\aeh≠WC/\aeh≠aff/\aeh≠rg)(dK:ap≠aff/\ap≠rg/\WC≠aff/\WC≠rg):
 Calls prog 107 #[.pointer (some ⟨aeh,0,none⟩),.agg (aY (W.XT t).run x)] w0 fun e w'=> ∃x' aO,e= .returned (.agg (aY (one p F n W.V W.fr (W.XT t).run).2.2 x'))/\ar w' ap WC n (one p F n W.V W.fr (W.XT t).run).1/\cY w' aff aO (64*p.s+p.i) (64*p.s+p.i+p.h) (one p F n W.V W.fr (W.XT t).run).2.1/\(aO=rg\/w0.heap.size<=aO)/\aW w' (fun b=>(S b\/w0.heap.size<=b)/\b≠WC/\b≠aff/\b≠aO) (one p F n W.V W.fr (W.XT t).run).2.2 x'/\Z1 (fun b=>b≠WC/\b≠aff/\b≠rg) w0 w':=by
 have R:=h.acg t afq ga;have aeJ:=h.pl;have fb:=aeJ.s;have LA:=aeJ.i;have LB:=aeJ.h;have iR:=h.abf;have vH:8*p.s<=n:=J;have xK:=h.u1 afq ga;have JJ: ∀aaM:World,∀b,b<aaM.heap.size->S b->b≠WC:=fun aaM b _ hb=>(lO b hb).1;by_cases YM:(W.XT t).run.Xj=0
 ·have Wx:one p F n W.V W.fr (W.XT t).run=(W.V,W.fr,tell (W.XT t).run (W.XT t).run.aC.code 0):=by unfold one;rw[Z YM]
  rw[Wx];exact Mq w0 S p aeh Y8 acc Z2 h4 ap WC n W.V aff rg _ _ W.fr _ x hb Xg afj abk lO bE afl dK YM
 by_cases h1:(W.XT t).run.Xj=1
 ·have Wx:one p F n W.V W.fr (W.XT t).run=gO p W.V W.fr (W.XT t).run:=by unfold one;rw[Y YM,Z h1]
  rw[Wx];have ae3:(W.XT t).run.call.op=2/\1<=(W.XT t).run.call.a/\(W.XT t).run.call.a<=8192\/(W.XT t).run.call.op=3/\1<=(W.XT t).run.call.a/\(W.XT t).run.call.a<p.s:=by
   cases R.kind with
   |tell e _=>exact absurd e YM
   |make e ae3=>exact ae3
   |take e aaV ZV Ya afY=>rcases afY with q|⟨_,q|⟨_,q|⟨q,_⟩⟩⟩<;>omega
   |enter e aaV ZV Ya=>rcases Ya with q|⟨q,_⟩<;>omega
   |nn e YJ li ae3=>rcases ae3 with q|⟨q,_⟩<;>omega
   |drain e YJ a5=>omega
   |slot Vy nL hS abk ae3=>
    rcases ae3 with q|⟨_,q|⟨o,_,_,_,_,_,q⟩⟩
    ·omega
    ·omega
    ·rcases q with⟨_,q⟩|⟨_,q,_⟩|⟨_,q,_⟩<;>omega
   |hI m4 a5=>omega
   |gate sb Xg abk ae3=>rcases ae3 with⟨q,_⟩|⟨q,_⟩<;>omega
  exact Mp w0 S p aeh Y8 acc Z2 h4 ap WC n W.V aff rg _ _ W.fr _ x hb Xg afj abk hS afl dK _ _ _ h1 fun aaM YN Vt Yd _=>GJ aaM S p ap WC n W.V aff rg _ _ W.fr _ x YN Vt Yd bE (fun b _ hb=>lO b hb) dK R.fin h1 aeJ vH (GK h ae3)
 by_cases ae8:(W.XT t).run.call.op=7
 ·have Wx:one p F n W.V W.fr (W.XT t).run=((e6 W.V (W.XT t).run).1,W.fr,(e6 W.V (W.XT t).run).2):=by unfold one;rw[Y YM,Y h1,Z ae8]
  rw[Wx];obtain⟨aa1,agb,abj,afD,ZB,af0,Yu⟩:=zx h afq ga YM h1 ae8;exact Ml w0 S p aeh Y8 acc Z2 h4 ap WC n W.V aff rg _ _ W.fr _ x hb Xg afj abk hS afl dK _ _ _ YM h1 ae8 fun aaM YN Vt Yd _=>(Ju aaM S p ap WC n W.V _ x YN aeJ vH ⟨xK.1,xK.2.1⟩ Yd bE (JJ aaM) R.fin aa1 agb abj afD ZB af0 Yu).mono fun e w' acu=>xJ Vt ⟨dK.2.2.1,dK.2.2.2⟩ lO acu
 by_cases adl:(W.XT t).run.call.op=4
 ·have Wx:one p F n W.V W.fr (W.XT t).run=((dR W.V (W.XT t).run).1,W.fr,(dR W.V (W.XT t).run).2):=by unfold one;rw[Y YM,Y h1,Y ae8,Z adl]
  rw[Wx];obtain⟨aa1,agb,abj,afD⟩:=DJ h afq ga YM h1 adl;exact Mm w0 S p aeh Y8 acc Z2 h4 ap WC n W.V aff rg _ _ W.fr _ x hb Xg afj abk hS afl dK _ _ _ YM h1 adl fun aaM YN Vt Yd _=>(GO aaM S p ap WC n W.V _ x YN Yd bE (JJ aaM) R.fin aeJ vH aa1 agb abj afD).mono fun e w' acu=>xJ Vt ⟨dK.2.2.1,dK.2.2.2⟩ lO acu
 by_cases YZ:(W.XT t).run.call.op=5
 ·have Wx:one p F n W.V W.fr (W.XT t).run=((bM F W.V (W.XT t).run).1,W.fr,(bM F W.V (W.XT t).run).2):=by unfold one;rw[Y YM,Y h1,Y ae8,Y adl,Z YZ]
  rw[Wx];have pre:=D2 h afq ga YM h1 YZ abi;exact Mn w0 S p aeh Y8 acc Z2 h4 ap WC n W.V aff rg _ _ W.fr _ x hb Xg afj abk hS afl dK _ _ _ YM h1 YZ fun aaM YN Vt Yd Yq=>(Hb aaM S p Y8 F Vs ap WC n W.V _ x YN Yd (hF.Wu (Z1.cg Yq)) h.WK bE (JJ aaM) R.fin aeJ vH ⟨xK.1,xK.2.1⟩ pre).mono fun e w' acu=>xJ Vt ⟨dK.2.2.1,dK.2.2.2⟩ lO acu
 ·have Wx:one p F n W.V W.fr (W.XT t).run=((cK p n W.V (W.XT t).run).1,W.fr,(cK p n W.V (W.XT t).run).2):=by unfold one;rw[Y YM,Y h1,Y ae8,Y adl,Y YZ]
  rw[Wx];have pre:=GL h afq ga YM h1 ⟨ae8,adl,YZ⟩;exact Mo w0 S p aeh Y8 acc Z2 h4 ap WC n W.V aff rg _ _ W.fr _ x hb Xg afj abk hS afl dK _ _ _ YM h1 ⟨ae8,adl,YZ⟩ fun aaM YN Vt Yd _=>(Gu aaM S p ap WC n W.V _ x YN Yd bE (JJ aaM) R.fin aeJ vH pre).mono fun e w' acu=>xJ Vt ⟨dK.2.2.1,dK.2.2.2⟩ lO acu
end
section
variable{p:afy}{F:b1}{n:Nat}{W:Wd}{O:Nat->List Zr}{VM:Nat->Option Nat}{t:Nat}
abbrev iD(x:Int):Prop:= -9223372036854775808<=x/\x<9223372036854775808
theorem M5{x:Int}(h:0<=x/\x<18446744073709551616):iD (afK x):=by
 unfold afK iD;split<;>omega
section
variable(h:Inv p F n W O VM)(afq:t<p.t)
include h afq
theorem D3(hb:(W.XT t).busy=true)(abi:(W.XT t).run.n<=65536):iD (one p F n W.V W.fr (W.XT t).run).2.2.aC.n:=by
 have R:=h.acg t afq hb;have X0:=R.aC.1;have acT:=R.n.1;have z:iD 0:=by unfold iD;omega
 have aeP:iD (W.XT t).run.n:=by unfold iD;omega
 have aem:iD (W.XT t).run.aC.n:=by rw[X0];exact z
 have acA: ∀r,(bP r).aC=r.aC:=fun r=>by unfold bP;(repeat' split)<;>rfl
 have afj: ∀r,(ee r).aC=r.aC:=fun r=>by unfold ee;split;rfl;exact acA r
 have aeN: ∀r,(dT r).aC=r.aC:=fun r=>by unfold dT;split<;>rfl
 unfold one;split
 ·exact z
 rename_i YM;split
 ·unfold gO;split
  ·dsimp only
   (repeat' split)<;>exact z
  ·split
   ·exact z
   ·rename_i s YF;have lg:s<p.s.toNat:=by
     have:=List.mem_of_find?_eq_some YF;simpa using this
    have:=h.pl.s;split
    ·exact z
    ·show iD (s:Int);unfold iD;omega
 rename_i h1;split
 ·rename_i ZQ;obtain⟨-,-,-,afD,ZB,af0,Yu⟩:=zx h afq hb YM h1 ZQ;unfold e6;dsimp only;split
  ·exact aem
  split
  ·exact aem
  split
  ·exact aem
  split
  ·show iD (ac4 _ _ _);have Xg:=h.u1 afq hb;have YF:=h.pl.s;have e:=ZB.ok.afB;have EH:=h.abf;have hi:=h.pl.i;have acu:=h.pl.h;have PW:(W.XT t).run.next=(Wi W.V (W.XT t).run.af.toNat).afB/\(W.XT t).run.at_=bs W.V (W.XT t).run.af.toNat:=by
    rcases afD with q|⟨q1,q|⟨Xt,q⟩⟩
    ·omega
    ·omega
    ·exact⟨q1,Xt⟩
   have abF:(Wi W.V (W.XT t).run.af.toNat).afB=(up (W.V (8*(W.XT t).run.af.toNat))).afB:=rfl;unfold ac4 iD;rw[PW.1,PW.2,abF];omega
  ·exact z
 split
 ·unfold dR;dsimp only
  (repeat' split)<;>first|exact z|exact aem
 split
 ·show iD (bM F W.V (W.XT t).run).2.aC.n;unfold bM;by_cases yA:(W.XT t).run.Xj=15
  ·rw[Z yA];exact aem
  rw[Y yA];by_cases yB:(W.XT t).run.Xj=16
  ·rw[Z yB];by_cases d:W.V (8*(W.XT t).run.af.toNat)=(W.XT t).run.word
   ·rw[Z d];show iD (if _ then _ else _:aax).aC.n;by_cases e:(up (W.XT t).run.next).st=3
    ·rw[Z e];exact aem
    ·rw[Y e];exact z
   ·rw[Y d];exact aem
  rw[Y yB];by_cases yC:(W.XT t).run.Xj=17
  ·rw[Z yC];exact aem
  rw[Y yC];by_cases yD:(W.XT t).run.Xj=18
  ·rw[Z yD];show iD (ee _).aC.n;rw[afj];exact aem
  rw[Y yD];by_cases yE:(W.XT t).run.Xj=19
  ·rw[Z yE];show iD (ee _).aC.n;rw[afj];exact aem
  rw[Y yE];by_cases vI:(W.XT t).run.Xj=20
  ·rw[Z vI];exact aem
  rw[Y vI];by_cases vJ:(W.XT t).run.Xj=21
  ·rw[Z vJ];show iD (bP _).aC.n;rw[acA];exact aem
  rw[Y vJ];by_cases yF:(W.XT t).run.Xj=22
  ·rw[Z yF];exact aeP
  rw[Y yF];by_cases yG:(W.XT t).run.Xj=23
  ·rw[Z yG];show iD (dT _).aC.n;rw[aeN];exact aem
  rw[Y yG];by_cases yH:(W.XT t).run.Xj=24
  ·rw[Z yH];show iD (dT _).aC.n;rw[aeN];exact aem
  rw[Y yH];by_cases yI:(W.XT t).run.Xj=25
  ·rw[Z yI];exact aem
  rw[Y yI];exact aeP
 ·unfold cK ie qz lr;dsimp only
  (repeat' split)<;>first|exact z|exact aem|exact M5 (h.jd _)
section
variable(YJ:(W.XT t).ended=false)
include YJ
theorem D4:(bh p F n W t).call=(bd p (W.XT t) W.ops.length).run.call:=(h.p9 afq YJ).call
theorem JK(acA:(bh p F n W t).fin=true)(XP:(bh p F n W t).aC.code=0)(ZQ:(bh p F n W t).call.op=4\/(bh p F n W t).call.op=6):(bd p (W.XT t) W.ops.length).aD.length<6:=by
 obtain⟨O',dk,A⟩:=h.bI afq YJ;have e:=(A.inv.aaY t afq).len;rw[eZ]at e;unfold eY at e;rw[Z acA]at e;unfold bH at e;rw[Y (by simpa using XP)]at e;rcases ZQ with ZQ|ZQ
 ·simp[ZQ]at e;omega
 ·simp[ZQ]at e;omega
theorem JL(XP:(bh p F n W t).aC.code=0)(ZQ:(bh p F n W t).call.op=5):(bd p (W.XT t) W.ops.length).aD≠ []:=by
 have S:=h.h4 afq YJ;have R:=S.inv.acg t afq S.busy;rw[em]at R;rw[D4 h afq YJ]at ZQ;have ne: ∀ {pre:List bO} {e:bO},(bd p (W.XT t) W.ops.length).aD=pre++ [e]->(bd p (W.XT t) W.ops.length).aD≠ []:=fun aal abF=>by rw[abF]at aal;simp at aal
 cases R.kind with
 |tell e k=>
  have abF:(bh p F n W t).aC.code=(bd p (W.XT t) W.ops.length).run.aC.code:=by
   unfold bh one;rw[Z e];rfl
  rcases k (by rw[<-abF];exact XP)with q|q|⟨q,_⟩|⟨_,pre,s,q⟩
  ·omega
  ·omega
  ·omega
  ·exact ne q
 |make e ae3=>omega
 |take adH=>omega
 |enter Ya=>omega
 |nn e fx _ _=>obtain⟨pre,q⟩:=fx;exact ne q
 |drain e fx=>obtain⟨pre,q⟩:=fx;exact ne q
 |slot Vy=>omega
 |hI m4=>omega
 |gate sb=>omega
end
end
end
section
open Tryz
theorem cY.ne{w:World}{aff rg b:Nat}{a4 aaY:Int}{l:List Ext}{t:TypeId}{cs:Array Value}(h:cY w aff rg a4 aaY l)(hb:ah w b t cs)(h1:t≠363)(aaV:t≠130):b≠aff/\b≠rg:=by
 obtain⟨v,q1,Xt|⟨cap,rest,_,ada,_⟩⟩:=h.ex
 ·exact⟨hb.ne q1 h1,by rw[Xt.2.2.1];exact hb.ne q1 h1⟩
 ·exact⟨hb.ne q1 h1,hb.ne ada aaV⟩
theorem ar.PX{w:World}{ap WC n b:Nat}{V:Nat->Int}{t:TypeId}{cs:Array Value}(h:ar w ap WC n V)(hb:ah w b t cs)(h1:t≠5):b≠WC:=by
 obtain⟨f,Xg,_⟩:=h;have q:ah w WC 5 _:=Xg.row;exact hb.ne q h1
theorem FA.own{w:World}{S:Nat->Prop}{VS:Nat}{Z2:Value}{l:List db}(h:FA w S VS Z2 l): ∃acB:List (db×Value),acB.map Prod.fst=l/\(∀q,q∈acB->cF w S q.2 q.1.aC.said)/\w.ownsRow 0 46 14 Z2 acB.length (opsV acB)/\∀j,Z2.ownBlock=some j->j=VS:=by
 obtain⟨acB,h1,aaV,ZV⟩:=h.ex;have YJ:(opsV acB).length=acB.length*14:=l8 acB;refine⟨acB,h1,aaV,⟨YJ,?_⟩,fun j aeD=>?_⟩
 ·rcases ZV with⟨rfl,rfl⟩|⟨cap,rest,rfl,q1,Xt,ada,ab8⟩
  ·exact .inl ⟨rfl,rfl⟩
  ·exact .inr ⟨VS,cap,_,rfl,aL _,q1,Xt,ada,by simpa using ab8,by simp[YJ]⟩
 ·rcases ZV with⟨rfl,_⟩|⟨cap,rest,rfl,_⟩
  ·cases aeD
  ·cases aeD;rfl
theorem D5(W:Wd)(i:Nat)(acB:List (db×Value))(h:acB.map Prod.fst=W.ops):(kX (W.XT i) acB i W.n).map Prod.fst=fO W i:=by
 unfold kX fO;by_cases hb:(W.XT i).busy=true
 ·rw[Z hb,Z hb];exact h
 ·rw[Y hb,Y hb];cases(W.XT i).calls with
  |nil=>exact h
  |cons c l=>
   show(acB++_).map Prod.fst=W.ops++_;rw[cP,h];rfl
theorem wN{t:eD}{p:afy}{acB pre post:List (db×Value)}{i:Nat}{st:Int}{q q':db×Value}(h:kX t acB i st=pre++q::post)(Xg:pre.length=(bd p t acB.length).at_)(VX:q'∈pre\/q'∈post):q'∈acB:=by
 have all: ∀ {a b:List (db×Value)} {c:db×Value},q'∈a\/q'∈b->q'∈a++c::b:=fun acu=>by
  rcases acu with acu|acu
  ·exact cB _ acu
  ·exact List.mem_append_right _ (ao _ acu)
 unfold kX at h;unfold bd at Xg;by_cases hb:t.busy=true
 ·rw[Z hb]at h;rw[h];exact all VX
 ·rw[Y hb]at h Xg;cases XP:t.calls with
  |nil=>
   rw[XP]at h;have h:acB=_:=h;rw[h];exact all VX
  |cons c l=>
   rw[XP]at h Xg;have e:=List.append_inj h Xg.symm;rw[<-e.1]at VX;have abF:=e.2;injection abF with _ acL
   rw[<-acL]at VX;rcases VX with VX|VX
   ·exact VX
   ·cases VX
theorem zF(w0:World)(B:WB)(p:afy)(F:b1)(n:Nat)(W:Wd)(O:Nat->List Zr)(VM:Nat->Option Nat)(h:df w0 B p F n W)(H:Inv p F n W O VM)(Q:vK p W)(i:Nat)(hi:(i:Int)<p.t)(gf:(W.XT i).ended=false)
 (bE:dx (bd p (W.XT i) W.ops.length).run)(Bh:(bd p (W.XT i) W.ops.length).run.n<=65536)(fc:(W.XT i).calls.length<=65536)(cx:W.n<=60000)(S5: ∀b,w0.heap.size<=b->B.Yi b):
 Calls prog 42 #[.pointer (some ⟨B.aeh,0,none⟩),.int .i64 i] w0 fun e w'=> ∃B':WB,e= .returned (.tuple #[.bool ((bI p F n W i).XT i).ended,.int .i64 0])/\B'.aeh=B.aeh/\B'.Yi=B.Yi/\df w' B' p F n (bI p F n W i)/\Z1 (aaJ B p.t.toNat) w0 w'/\∀b,b<w0.heap.size->afi B' p.t.toNat b->afi B p.t.toNat b:=by
 have aeJ:=H.pl;obtain⟨T,aen⟩: ∃T,p.t.toNat=T:=⟨_,rfl⟩
 have mH:T<=4:=by have:=aeJ.t;omega
 have mj:i<T:=J;obtain⟨A,Xf,M6,WJ,adr,XO⟩:=id h.Wl;obtain⟨aak,off,rfl,oH,vd,MA⟩:=XO J;have cq:=h.XT;have K0:=h.CR;have K1:=h.CS;have se:=h.wd;have zv:=h.YV;obtain⟨acB,Dh,lK,bT,B0⟩:=h.op.own;rw[aen]at oH cq K0 K1 zv lK M6⊢;rw[M6]at se;have v2:acB.length=W.ops.length:=by rw[<-Dh,bJ]
 have PY:=cq i mj;have K2:=se.lt;have rT:=h.VB.c9;have ve:=h.gr.lt;have Hc: ∀j,j<T->B.aaF j<w0.heap.size/\B.YS j<w0.heap.size:=fun j aeD=>⟨(cq j aeD).bC.lt,(cq j aeD).reg.lt⟩
 have XI: ∀j,j<T->B.aaF j≠B.aeh/\B.aaF j≠B.WC/\(B.aaF j≠B.aff/\B.aaF j≠B.rg):=fun j aeD=>⟨(cq j aeD).bC.ne se am,h.VB.PX (cq j aeD).bC am,h.gr.ne (cq j aeD).bC am am⟩
 have YA: ∀j,j<T->B.YS j≠B.aeh/\B.YS j≠B.WC/\(B.YS j≠B.aff/\B.YS j≠B.rg):=fun j aeD=>⟨(cq j aeD).reg.ne se am,K1 j aeD,h.gr.ne (cq j aeD).reg am am⟩
 have PZ: ∀j k,j<T->k<T->B.aaF j≠B.YS k:=fun j k aeD ae3=>(cq j aeD).bC.ne (cq k ae3).reg am;have abn:B.aeh≠B.WC/\(B.aeh≠B.aff/\B.aeh≠B.rg):=⟨h.VB.PX se am,h.gr.ne se am am⟩
 obtain⟨YN,XW,ZA,afu,XQ⟩:=h.AO;obtain⟨adO,acl,VC,adl,YZ⟩:=h.FB;rw[aen]at XQ YZ;have S6:B.WC≠B.aff/\B.WC≠B.rg:=by
  obtain⟨f,Xg,_⟩:=h.VB;have q:ah w0 B.WC 5 _:=Xg.row;exact h.gr.ne q am am
 have Yo: ∀b,aaJ B T b->b≠B.aeh/\b≠B.ap/\b≠B.WC/\b≠B.aff/\b≠B.rg/\b≠B.VS/\∀j,j<T->b≠B.aaF j/\b≠B.YS j:=fun b hb=>
  ⟨fun e=>hb (.inl e),fun e=>hb (.inr (.inl e)),fun e=>hb (.inr (.inr (.inl e))),fun e=>hb (.inr (.inr (.inr (.inl e)))),fun e=>hb (.inr (.inr (.inr (.inr (.inl e))))),fun e=>hb (.inr (.inr (.inr (.inr (.inr (.inl e)))))),fun j aeD=>⟨fun e=>hb (.inr (.inr (.inr (.inr (.inr (.inr ⟨j,aeD,.inl e⟩)))))),fun e=>hb (.inr (.inr (.inr (.inr (.inr (.inr ⟨j,aeD,.inr e⟩))))))⟩⟩
 have M7:Inv p F n (hK p W i) O VM:=(H.h4 hi gf).inv;have h6:((hK p W i).XT i).busy=true:=(H.h4 hi gf).busy;have ke:cG (bd p (W.XT i) W.ops.length).run.call:=by have:=(M7.acg i hi h6).call;rwa[em]at this
 have xr:=(H.aaY i hi).len;have hj:w0.cell? ⟨aak,off+i,none⟩=some (.pointer (some ⟨B.aaF i,0,none⟩)):=by simpa using MA i 0 _ J rfl
 have bo: ∀b,b=B.aaF i\/b=B.aeh\/b=B.VS\/b=B.YS i->b≠B.WC/\b≠B.aff/\b≠B.rg:=fun b hb=>by
  rcases hb with rfl|rfl|rfl|rfl
  ·exact(XI i mj).2
  ·exact abn
  ·exact⟨acl,VC,adl⟩
  ·exact(YA i mj).2
 have cc: ∀b,aek B T b->b≠B.aaF i/\b≠B.aeh/\b≠B.VS/\b≠B.WC/\b≠B.aff/\b≠B.rg/\b≠B.YS i:=fun b hb=>by
  obtain⟨q1,-,ada,ab8,ZX,aeu,Xw⟩:=Yo b hb.1;exact⟨(Xw i mj).1,q1,aeu,ada,ab8,ZX,(Xw i mj).2⟩
 have fG:(W.XT i).busy=true->(W.XT i).at_<acB.length:=fun hb=>by
  obtain⟨o,ZQ,_⟩:=Q.agh i hi hb;rw[v2];exact(List.getElem?_eq_some_iff.1 ZQ).1
 have h2: ∀b,b≠B.VS->B.Z2.ownBlock≠some b:=fun b hb e=>hb (B0 b e);have P0:dx ((hK p W i).XT i).run:=by rw[em];exact bE
 have K3:((hK p W i).XT i).run.n<=65536:=by rw[em];exact Bh
 have lw: ∀(aaM:World) (XZ:Nat->Prop) (aaK:Yr) (sE:Value),Z1 (fun b=>b≠B.aaF i/\b≠B.aeh/\B.Z2.ownBlock≠some b) w0 aaM->ah aaM B.aeh 142 (gh p B.Y8 B.ap B.aff (.slice (some ⟨aak,off,none⟩) T Xf) sE W.n).toArray->aW aaM XZ (bd p (W.XT i) W.ops.length).run aaK->(∀b,b<w0.heap.size->aek B T b->XZ b)->(∀b,XZ b->b<aaM.heap.size/\b≠B.aeh)->(∀b,XZ b->b≠B.WC/\b≠B.aff/\b≠B.rg)->
  Calls prog 107 #[.pointer (some ⟨B.aeh,0,none⟩),.agg (aY (bd p (W.XT i) W.ops.length).run aaK)] aaM fun e w'=> ∃x' aO,e= .returned (.agg (aY (bh p F n W i) x'))/\ar w' B.ap B.WC n (bI p F n W i).V/\cY w' B.aff aO (64*p.s+p.i) (64*p.s+p.i+p.h) (bI p F n W i).fr/\(aO=B.rg\/aaM.heap.size<=aO)/\aW w' (fun b=>(XZ b\/aaM.heap.size<=b)/\b≠B.WC/\b≠B.aff/\b≠aO) (bh p F n W i) x'/\Z1 (fun b=>b≠B.WC/\b≠B.aff/\b≠B.rg) aaM w':=by
  intro aaM XZ aaK sE k hb abk h1 aaV ZV;have afW: ∀b,b<w0.heap.size->b≠B.aaF i->b≠B.aeh->b≠B.VS->aaM.heap[b]? =w0.heap[b]? :=fun b YJ q1 Xt ada=>k.block b YJ ⟨q1,Xt,h2 b ada⟩;have e:=M4 aaM XZ p F (hK p W i) O VM i B.aeh B.Y8 (.slice (some ⟨aak,off,none⟩) T Xf) sE B.Vs W.n B.ap B.WC n B.aff B.rg aaK M7 hi h6 P0 K3 hb (ar.j3 h.VB (afW _ rT.1 (XQ i mj).1 afu ZA) (afW _ rT.2.1 (fun e=>(XI i mj).2.1 e.symm) (fun e=>abn.1 e.symm) fun e=>acl e.symm)) (h.gr.Wu (afW _ ve.1 (fun e=>(XI i mj).2.2.1 e.symm) (fun e=>abn.2.1 e.symm) fun e=>VC e.symm) (afW _ ve.2 (fun e=>(XI i mj).2.2.2 e.symm) (fun e=>abn.2.2 e.symm) fun e=>adl e.symm)) (((zv.mono (S':=fun b=>b<w0.heap.size/\aek B T b) fun b hb YF=>⟨hb,YF⟩).Wu (k.mono fun b _ YF=>⟨(cc b YF.2).1,(cc b YF.2).2.1,h2 b (cc b YF.2).2.2.1⟩)).mono fun b _ YF=>h1 b YF.1 YF.2) (by rw[em];exact abk) aaV ZV ⟨fun e=>afu e.symm,abn⟩ ⟨YN,XW,S6⟩;rw[iz,em]at e;exact e
 have qT: ∀(e:Ending) (w':World) (aG:eD) (Yx:db->db),aG=(bI p F n W i).XT i->(∀o:db,Yx o= {o with pt:=if(bh p F n W i).bF then(W.n:Int)else o.pt,e2:=if(bh p F n W i).fin then(W.n:Int)else o.e2,aC:=if(bh p F n W i).fin then(bh p F n W i).aC else o.aC})->
  (∃w S VS e9 cap aK aa3 x pre post o s rest,VT w0 w (aek B T) p B.Y8 B.aeh B.ap B.WC B.aff B.rg n (B.aaF i) (B.YS i) B.VS aak off T Xf i (64*p.s+p.i) (64*p.s+p.i+p.h) (B.VZ i) W.n (bd p (W.XT i) W.ops.length) (bh p F n W i) (bI p F n W i).V (bI p F n W i).fr B.Z2 (kX (W.XT i) acB i W.n) S VS e9 cap aK aa3 x pre post o s rest/\∃aO x' ob s',e= .returned (.tuple #[.bool aG.ended,.int .i64 0])/\ah w' B.aeh 142 (gh p B.Y8 B.ap B.aff (.slice (some ⟨aak,off,none⟩) T Xf) (.slice (some ⟨VS,0,none⟩) e9 cap) ((W.n:Int)+1)).toArray/\fp w' (fun b=>(S b\/w.heap.size<=b)/\b≠B.WC/\b≠B.aff/\b≠aO/\b≠B.aaF i/\b≠B.YS i/\b≠B.aeh/\b≠VS) (B.aaF i) (B.YS i) aa3 ob x' aG/\ah w' VS 46 (opsV pre++(dN (Yx o) s'++(opsV post++rest))).toArray/\cF w' (fun b=>(S b\/w.heap.size<=b)/\b≠B.WC/\b≠B.aff/\b≠aO/\b≠B.aaF i/\b≠B.YS i/\b≠B.aeh/\b≠VS) s' (Yx o).aC.said/\ar w' B.ap B.WC n (bI p F n W i).V/\cY w' B.aff aO (64*p.s+p.i) (64*p.s+p.i+p.h) (bI p F n W i).fr/\(aO=B.rg\/w.heap.size<=aO)/\Z1 (fun b=>b≠B.aaF i/\b≠B.aeh/\b≠VS/\b≠B.WC/\b≠B.aff/\b≠B.rg/\b≠B.YS i) w w')->
  ∃B':WB,e= .returned (.tuple #[.bool ((bI p F n W i).XT i).ended,.int .i64 0])/\B'.aeh=B.aeh/\B'.Yi=B.Yi/\df w' B' p F n (bI p F n W i)/\Z1 (aaJ B T) w0 w'/\∀b,b<w0.heap.size->afi B' T b->afi B T b:=by
  rintro e w' aG Yx aet S7 ⟨w,S,VS,e9,cap,aK,aa3,x,pre,post,o,s,rest,kb,aO,x',ob,s',rfl,q1,Xt,ada,ab8,ZX,aeu,Xw,ZD⟩;have aeN:=kb.Wu.size;have c5:=ZD.size;have P1:VS=B.VS\/w0.heap.size<=VS:=kb.Sy.imp (B0 VS) id;have P2:aO=B.rg\/w0.heap.size<=aO:=Xw.imp id fun h=>D aeN h;have no: ∀b,b<w0.heap.size->b≠B.VS->b≠VS:=fun b hb abi e=>by
   rcases P1 with h|h
   ·exact abi (e.trans h)
   ·omega
  have XH: ∀b,b<w0.heap.size->b≠B.rg->b≠aO:=fun b hb abi=>rC P2 hb abi;have K:Z1 (fun b=>b≠B.aaF i/\b≠B.aeh/\b≠B.VS/\b≠B.WC/\b≠B.aff/\b≠B.rg/\b≠B.YS i) w0 w':=⟨ZD.os.trans kb.Wu.os,ZD.tape.trans kb.Wu.tape,ZD.output.trans kb.Wu.output,D aeN c5,fun b hb YF=>(ZD.block b J ⟨YF.1,YF.2.1,no b hb YF.2.2.1,YF.2.2.2⟩).trans (kb.Wu.block b hb ⟨YF.1,YF.2.1,h2 b YF.2.2.1⟩)⟩
  have afh:Z1 (aaJ B T) w0 w':=K.mono fun b _ hb=>by
   obtain⟨Vt,Y6,ad2,W3,adT,aeW,abe⟩:=Yo b hb;exact⟨(abe i mj).1,Vt,aeW,ad2,W3,adT,(abe i mj).2⟩
  let B':WB:={B with rg:=aO,VS:=VS,Z2:=.slice (some ⟨VS,0,none⟩) e9 cap,aa3:=put B.aa3 i aa3,VZ:=put B.VZ i ob,x:=put B.x i x'}
  have mu: ∀b,b<w0.heap.size->afi B' T b->afi B T b:=fun b hb hm=>by
   rcases hm with h|h|h|h|h|h|h
   ·exact .inl h
   ·exact .inr (.inl h)
   ·exact .inr (.inr (.inl h))
   ·exact .inr (.inr (.inr (.inl h)))
   ·rcases P2 with g|g
    ·exact .inr (.inr (.inr (.inr (.inl (h.trans g)))))
    ·have h:b=aO:=h;omega
   ·rcases P1 with g|g
    ·exact .inr (.inr (.inr (.inr (.inr (.inl (h.trans g))))))
    ·have h:b=VS:=h;omega
   ·exact .inr (.inr (.inr (.inr (.inr (.inr h)))))
  have Wl: ∀ {v:Value} {m sz:Nat} {G:Nat->List Value},acr w0 (aek B T) v m sz G->acr w' (aek B' T) v m sz G:=fun YF=>((YF.mono (S':=fun b=>b<w0.heap.size/\aek B T b) fun b hb YF=>⟨hb,YF⟩).Wu (afh.mono fun b _ YF=>YF.2.1)).mono fun b _ YF=>⟨fun hm=>YF.2.1 (mu b YF.1 hm),YF.2.2⟩
  have ad0: ∀b,((S b\/w.heap.size<=b)/\b≠B.WC/\b≠B.aff/\b≠aO/\b≠B.aaF i/\b≠B.YS i/\b≠B.aeh/\b≠VS)->aek B' T b:=fun b hb=>by
   obtain⟨acM,Vt,Y6,ad2,W3,adT,aeW,abe⟩:=hb;have old:(aek B T b\/w0.heap.size<=b):=by
    rcases acM with g|g
    ·exact(kb.aeK b g).1
    ·exact .inr (D aeN g)
   refine⟨fun hm=>?_,old.elim (fun h=>h.2) (S5 b)⟩;rcases hm with h|h|h|h|h|h|⟨j,aeD,h⟩
   ·exact aeW h
   ·have h:b=B.ap:=h;rcases old with g|g
    ·exact g.1 (.inr (.inl h))
    ·omega
   ·exact Vt h
   ·exact Y6 h
   ·exact ad2 h
   ·exact abe h
   ·rcases old with g|g
    ·exact g.1 (.inr (.inr (.inr (.inr (.inr (.inr ⟨j,aeD,h⟩))))))
    ·have:=Hc j aeD;have h:b=B.aaF j\/b=B.YS j:=h;omega
  subst aet;refine⟨B',rfl,rfl,rfl,?_,afh,mu⟩;subst aen;have abS:=kb.aaH.lt;refine⟨?_,ZX,aeu,⟨Wl h.YV.row,fun k l YJ=>Wl (h.YV.each k l YJ)⟩,Wl h.Wl,fun j aeD=>?_,⟨pre++(Yx o,s')::post,?_,fun q VX=>?_,.inr ⟨cap,rest,?_,?_,?_,kb.qC.2.1,?_⟩⟩,h.CR,h.CS,⟨YN,XH _ rT.1 XW,no _ rT.1 ZA,afu,XQ⟩,⟨fun e=>no _ K2 (fun e=>adO e.symm) e.symm,fun e=>no _ rT.2.1 (fun e=>acl e.symm) e.symm,fun e=>no _ ve.1 (fun e=>VC e.symm) e.symm,fun e=>?_,fun j aeD=>⟨fun e=>no _ (Hc j aeD).1 (fun e=>(YZ j aeD).1 e.symm) e.symm,fun e=>no _ (Hc j aeD).2 (fun e=>(YZ j aeD).2 e.symm) e.symm⟩⟩⟩
  ·show ah w' B.aeh _ (gh p B.Y8 B.ap B.aff B.acc _ ((W.n+1:Nat):Int)).toArray;rw[M6,Int.natCast_add];exact q1
  ·by_cases e:j=i
   ·subst e;show fp w' _ (B.aaF j) (B.YS j) (put B.aa3 j aa3 j) (put B.VZ j ob j) (put B.x j x' j) _;rw[aP,aP,aP];exact Xt.mono fun b _ hb=>ad0 b hb
   ·show fp w' _ (B.aaF j) (B.YS j) (put B.aa3 i aa3 j) (put B.VZ i ob j) (put B.x i x' j) _;rw[aw _ _ e,aw _ _ e,aw _ _ e,g2 e];have z:=cq j aeD;have d:=K0 j i aeD mj e;exact⟨(K.block _ z.bC.lt ⟨d.1,(XI j aeD).1,fun e=>(YZ j aeD).1 e.symm,(XI j aeD).2.1,(XI j aeD).2.2.1,(XI j aeD).2.2.2,PZ j i aeD mj⟩).trans z.bC,(K.block _ z.reg.lt ⟨fun e=>PZ i j mj aeD e.symm,(YA j aeD).1,fun e=>(YZ j aeD).2 e.symm,(YA j aeD).2.1,(YA j aeD).2.2.1,(YA j aeD).2.2.2,d.2⟩).trans z.reg,Wl z.sq,Wl z.m6,⟨Wl z.run.ads,Wl z.run.ls,Wl z.run.Wh,Wl z.run.Y1⟩⟩
  ·have aal:=D5 W i acB Dh;rw[kb.Mz]at aal;show _=(fO W i).modify (bd p (W.XT i) W.ops.length).at_ _;rw[<-aal,kb.at_,<-kb.ih,cP,cP];show _=(pre.map Prod.fst++o::post.map Prod.fst).modify pre.length _;have abF: ∀(f:db->db) (a c:List db) (b:db),(a++b::c).modify a.length f=a++f b::c:=fun f a c b=>by
    induction a with
    |nil=>rfl
    |cons x l aes=>simpa using aes
   have acL:=abF (fun o:db=>{o with pt:=if(bh p F n W i).bF then(W.n:Int)else o.pt,e2:=if(bh p F n W i).fin then(W.n:Int)else o.e2,aC:=if(bh p F n W i).fin then(bh p F n W i).aC else o.aC}) (pre.map Prod.fst) (post.map Prod.fst) o;rw[bJ]at acL;refine Eq.trans ?_ acL.symm;rw[<-S7 o];rfl
  ·rcases List.mem_append.1 VX with VX|VX
   ·exact Wl (lK q (wN (p:=p) kb.Mz (by rw[kb.ih,<-kb.at_,v2]) (.inl VX)))
   ·rcases List.mem_cons.1 VX with rfl|VX
    ·exact acr.mono ab8 fun b _ hb=>ad0 b hb
    ·exact Wl (lK q (wN (p:=p) kb.Mz (by rw[kb.ih,<-kb.at_,v2]) (.inr VX)))
  ·show Value.slice _ e9 cap=_;have e:e9=(pre++(Yx o,s')::post).length:=by have:=kb.aaG;simp;omega
   rw[<-e]
  ·rw[l9,kM,aJ,aJ];exact ada
  ·have:=kb.qC.1;have:=kb.aaG;simp;omega
  ·have:=kb.qC.2.2;rw[l9,kM,aJ,aJ,<-this];simp[kK]
  ·rcases Xw with g|g
   ·exact no _ ve.2 (fun e=>adl e.symm) (g.symm.trans e.symm)
   ·have e:VS=aO:=e;omega
 have uD:=H.p9 hi gf;have bV:B.aaF i<w0.heap.size/\B.aeh<w0.heap.size/\B.YS i<w0.heap.size/\B.rg<w0.heap.size:=⟨(Hc i mj).1,K2,(Hc i mj).2,ve.2⟩
 have vU:acB.length<=65536:=by have:=Q.len;omega
 have rm:B.ap≠B.aaF i/\B.ap≠B.aeh/\B.ap≠B.VS/\B.ap≠B.YS i:=⟨(XQ i mj).1,afu,ZA,(XQ i mj).2⟩
 have cT: ∀j,aR ((W.XT i).regs j):=fun j=>by have:=H.rg i hi j;unfold aR;omega
 have S8:iD (bh p F n W i).aC.n:=by have:=D3 M7 hi h6 K3;rw[iz]at this;exact this
 cases acA:(bh p F n W i).fin with
 |true=>
  have uT:(bh p F n W i).bF=true:=(uD.fin acA).2.2.2.2.2.1;refine Calls.mono (Jh w0 (aek B T) p B.Y8 B.Z2 B.aeh B.ap B.WC B.aff B.rg n (B.aaF i) (B.YS i) B.VS aak off T Xf i _ _ (B.aa3 i) (B.VZ i) (B.x i) (W.XT i) (bd p (W.XT i) W.ops.length) (bh p F n W i) _ _ W.n acB PY gf (by rw[v2]) fc se hj vd oH mj mH bT B0 lK fG J rm ⟨rT.2.1,ve.1,rT.1⟩ bV bo cc aeJ ke cT xr vU lw (JK H hi gf acA) (JL H hi gf) uD.call (.inr S8) acA uT) fun e w' acu=>qT e w' _ (fun o=>{o with pt:=W.n,e2:=W.n,aC:=(bh p F n W i).aC}) (by rw[eZ];unfold eY;rw[Z acA]) (fun o=>by rw[acA,uT];rfl) acu
 |false=>
  have uT:(bh p F n W i).bF=false:=uD.Au acA;refine Calls.mono (Jj w0 (aek B T) p B.Y8 B.Z2 B.aeh B.ap B.WC B.aff B.rg n (B.aaF i) (B.YS i) B.VS aak off T Xf i _ _ (B.aa3 i) (B.VZ i) (B.x i) (W.XT i) (bd p (W.XT i) W.ops.length) (bh p F n W i) _ _ W.n acB PY gf (by rw[v2]) fc se hj vd oH mj mH bT B0 lK fG J rm ⟨rT.2.1,ve.1,rT.1⟩ bV bo cc aeJ ke cT xr vU lw uD.call acA uT) fun e w' acu=>qT e w' _ (fun o=>o) (by rw[eZ];unfold eY;rw[acA];rfl) (fun o=>by rw[acA,uT];rfl) acu
end
end Go.Proofs.YtcimojgkeoecfaaGreat
