import Derived.Test.YtcimojgkeoecfaaGreatVbb
import Derived.Test.YtcimojgkeoecfaaGreatVbn
import Derived.Test.YtcimojgkeoecfaaGreatVbf
set_option linter.all false
set_option maxHeartbeats 16000000
set_option maxRecDepth 100000
namespace Go.Proofs.YtcimojgkeoecfaaGreat
section
theorem Be{M:Int}(l:List Ext): ∀b:Int,l.Pairwise (fun x y=>x.a+x.z<=y.a)->(∀x,x∈l->b<=x.a/\1<=x.z/\x.a+x.z<=M)->l= []\/(l.length:Int)+b<=M:=by
 induction l with
 |nil=>intro b _ _;exact .inl rfl
 |cons x l d=>
  intro b c hb;rw[b3]at c;have e:=hb x aN;right;rw[aI];rcases d (x.a+x.z) c.2 (fun y hy=>⟨c.1 y hy,(hb y (by simp[hy])).2⟩)with h|h
  ·rw[h];simp;omega
  ·push_cast;omega
section
variable{p:PO}{F:b1}{n:Nat}{W:Wd}{O:Nat->List Zr}{c:Nat->Option Nat}{t:Nat}
section
variable(h:Inv p F n W O c)
include h
theorem Inv.aR(k:Nat):aR (W.V k):=by have:=h.jd k;unfold Go.Proofs.YtcimojgkeoecfaaGreat.aR;omega
theorem GK{r:RJ}(b:r.call.op=2/\1<=r.call.a/\r.call.a<=8192\/r.call.op=3/\1<=r.call.a/\r.call.a<p.s):zw p n W.V W.fr (64*p.s+p.i) (64*p.s+p.i+p.h) r:=by
 have f:=h.pl.s;have hi:=h.pl.i;have o:=h.pl.h;have m:=h.ZU;have k:=h.fr;have l:=Be (M:=8*n) W.fr 0 h.fs fun x d=>by have:=k x d;omega
 refine⟨fun s f=>(h.Zt s f).ft,b,⟨J,J,?_⟩,fun x d=>by have:=k x d;omega,h.fs,fun q u=>?_⟩
 ·rcases l with e|e
  ·rw[e];simp
  ·omega
 ·rcases b with b|b
  ·omega
  ·have j:(r.call.a.toNat:Int)<p.s:=by omega
   have g:=(h.Zt r.call.a.toNat j).ex J J;exact⟨⟨g.1,g.2.1⟩,⟨J,g.2.2.2.1,J⟩,fun x d=>by have:=h.fd x d r.call.a.toNat J j J;exact this⟩
theorem GL(i:t<p.t)(hb:(W.XT t).busy=true)(B:(W.XT t).run.Xj≠0)(h1:(W.XT t).run.Xj≠1)(r:(W.XT t).run.call.op≠7/\(W.XT t).run.call.op≠4/\(W.XT t).run.call.op≠5):zu p n W.V (W.XT t).run:=by
 have R:=h.UU t i hb;have m:=h.rg t i;have k:Go.Proofs.YtcimojgkeoecfaaGreat.aR (W.XT t).run.hand:=by rw[R.hand];have:=m (W.XT t).run.call.h.toNat;unfold Go.Proofs.YtcimojgkeoecfaaGreat.aR;omega
 have d:Go.Proofs.YtcimojgkeoecfaaGreat.aR (W.XT t).run.val:=by rw[R.val];have:=m (W.XT t).run.call.v.toNat;unfold Go.Proofs.YtcimojgkeoecfaaGreat.aR;omega
 have C: ∀s,¬gi (W.XT t) s:=fun s hd=>by
  unfold gi at hd;omega
 cases R.kind with
 |tell e _=>exact absurd e B
 |make e _=>exact absurd e h1
 |take e=>exact absurd e r.1
 |enter e=>exact absurd e r.2.1
 |nn e=>exact absurd e r.2.2
 |drain e=>exact absurd e r.2.2
 |slot P l hS g a=>
  have X:0<=VA (W.XT t).run.hand:=l.1;rcases a with a|⟨N,a|⟨o,A,T,L,S,M,a⟩⟩
  ·exact⟨k,d,J,fun _=>⟨l,hS⟩,fun q=>J,fun q=>J,fun q=>J,fun q=>J,fun s f=>(h.Zt s f).ft,h.aR⟩
  ·exact⟨k,d,J,fun _=>⟨l,hS⟩,fun q=>J,fun q=>J,fun q=>J,fun q=>J,fun s f=>(h.Zt s f).ft,h.aR⟩
  ·have j:((VA (W.XT t).run.hand).toNat:Int)<p.s:=by omega
   have live:=h.live i j (by rw[show(((VA (W.XT t).run.hand).toNat:Nat):Int)=VA (W.XT t).run.hand from J];exact g) (C _);have y:=(h.Zt _ j).no.2 live;have z:=h.ht j A;have H:=h.eb j z.1;have G:=((h.Zt _ j).hd o A).1;unfold Zr.ok at G;have K:=z.2.2.2.2 y;refine⟨k,d,by rcases a with q|q|q<;>omega,fun _=>⟨l,hS⟩,fun q=>?_,fun q e=>l,fun q=>⟨o.at_+2+(W.XT t).run.call.b.toNat,J,J⟩,fun q=>by rcases a with q'|q'|q'<;>omega,fun s f=>(h.Zt s f).ft,h.aR⟩;rcases a with q'|q'|⟨_,_,x,w,_⟩
   ·omega
   ·omega
   ·exact⟨x,w⟩
 |hI U Q u g=>exact⟨k,d,J,fun q=>J,fun q=>J,fun q=>J,fun q=>J,fun q=>⟨J,u.2⟩,fun s f=>(h.Zt s f).ft,h.aR⟩
 |gate sb u g a=>
  refine⟨k,d,by rcases a with q|q<;>omega,fun q=>by rcases a with q'|q'<;>omega,fun q=>?_,fun q e=>J,fun q=>by rcases a with q'|q'<;>omega,fun q=>⟨J,u.2⟩,fun s f=>(h.Zt s f).ft,h.aR⟩;rcases a with q'|⟨_,x,w,_⟩
  ·omega
  ·exact⟨x,w⟩
end
end
end
section
section
variable{p:PO}{F:b1}{n:Nat}{W:Wd}{O:Nat->List Zr}{d:Nat->Option Nat}{t:Nat}
section
variable(h:Inv p F n W O d)(f:t<p.t)(hb:(W.XT t).busy=true)
include h f hb
theorem Inv.u1:0<=(W.XT t).run.af/\(W.XT t).run.af<p.s/\reach (W.XT t).aD (W.XT t).run.af:=by
 rw[(h.UU t f hb).af];exact(h.U2 t f).af h.pl
section
variable(g:(W.XT t).run.Xj≠0)(h1:(W.XT t).run.Xj≠1)
include g h1
theorem zx(o:(W.XT t).run.call.op=7):
 (0<=(W.XT t).run.call.a/\(W.XT t).run.call.a<=6)/\(0<=(W.XT t).run.call.b/\(W.XT t).run.call.b<=512)/\(0<=(W.XT t).run.call.c/\(W.XT t).run.call.c<=7)/\
 ((W.XT t).run.Xj=5\/(W.XT t).run.next=(Wi W.V (W.XT t).run.af.toNat).T5/\((W.XT t).run.Xj=2\/(W.XT t).run.at_=bs W.V (W.XT t).run.af.toNat/\((W.XT t).run.Xj=3\/(W.XT t).run.Xj=4/\(W.XT t).run.word=Ts W.V (W.XT t).run.af.toNat)))/\
 okW (W.V (8*(W.XT t).run.af.toNat))/\(8<=bs W.V (W.XT t).run.af.toNat/\bs W.V (W.XT t).run.af.toNat %8=0/\0<=Ts W.V (W.XT t).run.af.toNat/\bs W.V (W.XT t).run.af.toNat+Ts W.V (W.XT t).run.af.toNat<=8*n)/\(0<=TJ W.V (W.XT t).run.af.toNat/\TJ W.V (W.XT t).run.af.toNat<=Ts W.V (W.XT t).run.af.toNat/\TJ W.V (W.XT t).run.af.toNat %8=0):=by
 have R:=h.UU t f hb;have l:=h.u1 f hb;have u:=h.pl.s;have i:((W.XT t).run.af.toNat:Int)<p.s:=J;have live:=h.live f i (by rw[show(((W.XT t).run.af.toNat:Nat):Int)=(W.XT t).run.af from J];exact l.2.2) (fun hd=>by unfold gi at hd;omega);have r:=h.eb i J;cases R.kind with
 |tell e _=>exact absurd e g
 |make e _=>exact absurd e h1
 |take e j q m k=>exact⟨j,q,m,k,(h.Zt _ i).ft,J,J⟩
 |enter e=>omega
 |nn e=>omega
 |drain e=>omega
 |slot e=>rw[o]at e;rcases e with e|e<;>exact absurd e am
 |hI e=>omega
 |gate e=>omega
theorem DJ(l:(W.XT t).run.call.op=4):
 (0<=(W.XT t).run.call.a/\(W.XT t).run.call.a<p.s)/\(0<=(W.XT t).run.af/\(W.XT t).run.af<=7)/\okW (W.V (8*(W.XT t).run.call.a.toNat))/\((W.XT t).run.Xj=13\/(W.XT t).run.Xj=14/\aR (W.XT t).run.next):=by
 have R:=h.UU t f hb;have o:=h.u1 f hb;have q:=h.pl.s;cases R.kind with
 |tell e _=>exact absurd e g
 |make e _=>exact absurd e h1
 |take e i m b c=>omega
 |enter e i m b=>
  refine⟨J,J,(h.Zt _ J).ft,?_⟩;rcases b with b|⟨b,c,k,j⟩
  ·exact .inl b
  ·refine .inr ⟨b,?_⟩;have:=(c.ok.enter J k).1.UK;rw[j];unfold aR;omega
 |nn e=>omega
 |drain e=>omega
 |slot e=>rw[l]at e;rcases e with e|e<;>exact absurd e am
 |hI e=>omega
 |gate e=>omega
end
end
end
end
section
open Go.RowKit Tryz
theorem qr{G:Prop}(h:G:=by
 have l:=Yd.left RV TS;exact⟨⟨x.TQ,x.ls,v,x.Y1⟩,V1,⟨l.TQ,l.ls,hv.mono fun b _ h=>.inr h,l.Y1⟩,hb,Vu,TS⟩):G:=h
theorem pe{G:Prop}(h:G:=by
 go_wp2_with(go_at_call 357;refine Calls.mono XP ?_;rintro e EH ⟨v,rfl,Wy⟩);refine fY ?_;exact⟨v,rfl,Wy⟩):G:=h
theorem aW.same{w:World}{S:Nat->Prop}{r a:RJ}{x:Yr}(h:aW w S r x)(b:a.chain=r.chain)(c:a.list=r.list)(d:a.said=r.said)(e:a.aC.said=r.aC.said):aW w S a x:=
 ⟨by rw[b];exact h.TQ,by rw[c];exact h.ls,by rw[d];exact h.Wh,by rw[e];exact h.Y1⟩
section
variable{w w':World}{d:Nat->Prop}{e c:Nat}{r a:RJ}{x:Yr}
section
variable(h:aW w d r x)(hS: ∀b,b<w.heap.size->d b->b≠e/\b≠c)(f:Z1 (fun b=>b≠e/\b≠c) w w')
include h hS f
theorem aW.left:aW w' (fun b=>d b\/w.heap.size<=b/\b≠e/\b≠c) r x:=
 (h.Wu (f.mono hS)).mono fun b _ h=>.inl h
theorem aW.jH(g:a.chain=r.chain)(i:a.list=r.list)(j:a.said=r.said)(k:a.aC.said=r.aC.said):aW w' (fun b=>d b\/w.heap.size<=b/\b≠e/\b≠c) a x:=
 (h.left hS f).same g i j k
end
end
theorem aW.Bl{w w':World}{d:Nat->Prop}{c a:Nat}{r:RJ}{x:Yr}{v:Value}(code m:Int)(h:aW w d r x)(hS: ∀b,b<w.heap.size->d b->b≠c/\b≠a)(e:Z1 (fun b=>b≠c/\b≠a) w w')(hv:cF w' (fun b=>w.heap.size<=b/\b≠c/\b≠a) v r.said):
 aW w' (fun b=>d b\/w.heap.size<=b/\b≠c/\b≠a) (tell r code m) {x with Y1:=v}:=by
 have l:=h.left hS e;exact⟨l.TQ,l.ls,l.Wh,hv.mono fun b _ h=>.inr h⟩
theorem qs(r:RJ):(bP r).chain=r.chain/\(bP r).list=r.list/\(bP r).said=r.said/\(bP r).aC=r.aC:=by
 unfold bP;(repeat' split)<;>exact⟨rfl,rfl,rfl,rfl⟩
theorem mN(r:RJ):(ee r).chain=r.chain/\(ee r).list=r.list/\(ee r).said=r.said/\(ee r).aC=r.aC:=by
 unfold ee;split
 ·exact⟨rfl,rfl,rfl,rfl⟩
 ·exact qs r
theorem s8(r:RJ):(dT r).chain=r.chain/\(dT r).list=r.list/\(dT r).said=r.said/\(dT r).aC=r.aC:=by
 unfold dT;split<;>exact⟨rfl,rfl,rfl,rfl⟩
structure BZ(p:PO)(F:b1)(n:Nat)(V:Nat->Int)(r:RJ):Prop where
 Xj:15<=r.Xj/\r.Xj<=26
 jd: ∀k,aR (V k)
 SU:r.Xj=15->okW (V (8*r.af.toNat))/\(Wi V r.af.toNat).st=2
 M0:r.Xj=16\/r.Xj=22\/r.Xj=26->okW r.next
 PU:r.Xj=22\/r.Xj=26->(up r.next).st=3
 SV:r.Xj=17->0<=bs V r.af.toNat/\bs V r.af.toNat<=65536
 SW:r.Xj=18->(0<=TJ V r.af.toNat/\TJ V r.af.toNat<=65536)/\0<=r.at_/\r.at_<=65536
 SX:r.Xj=19->∃k:Nat,r.at_=8*k/\k+1<n/\rG (V k) (V (k+1))
 PV:r.Xj=20\/r.Xj=21->∃(pre:List Int) (k:Nat),r.list=pre++ [8*(k:Int)]/\k+2+(fl V k).l<=n/\rG (V k) (V (k+1))
 SY:r.Xj=20->0<=r.op/\r.op<(bY F (fl V (iK r.list/8).toNat).t).length
 SZ:r.Xj=21->0<=r.n/\r.n<=65536
 S0:r.Xj=23->0<=r.word/\r.word<=65536
 S1:r.Xj=24->0<=r.at_/\r.at_<8*n/\r.at_ %8=0
theorem G9(w0:World)(p:PO)(f:Value)(ap c n a:Nat)(V:Nat->Int)(r:RJ)(x:Yr)(hb:ah w0 a 386 (bp p f ap r x).toArray)(j:ar w0 ap c n V)(h1:a≠ap)(g:a≠c)(S:Nat->Prop)(d:aW w0 S r x)(l:dx r)(hS: ∀b,b<w0.heap.size->S b->b≠a/\b≠c)(i:a9 p)(h:8*p.s<=n)(o:0<=r.af/\r.af<p.s)(ok:okW r.next)(m:(up r.next).st=3):
 Calls prog 330 #[.pointer (some ⟨a,0,none⟩)] w0 fun e w'=> ∃v,e= .returned (.tuple #[])/\cF w' (fun b=>w0.heap.size<=b/\b≠a/\b≠c) v r.said/\ah w' a 386 (bp p f ap (tell r 25 r.n) {x with Y1:=v}).toArray/\ar w' ap c n (upd V (8*r.af.toNat) (TK (mp (up r.next))))/\Z1 (fun b=>b≠a/\b≠c) w0 w':=by
 have XP:=Jz w0 p f ap c n a V r x hb j h1 g S d l hS i h o ok m;clear hb j d l hS ok m;go_enter func330,ntmps330;exact pe
theorem Ha(w0:World)(p:PO)(f:Value)(ap c n a:Nat)(V:Nat->Int)(r:RJ)(x:Yr)(hb:ah w0 a 386 (bp p f ap r x).toArray)(j:ar w0 ap c n V)(h1:a≠ap)(g:a≠c)(S:Nat->Prop)(d:aW w0 S r x)(l:dx r)(hS: ∀b,b<w0.heap.size->S b->b≠a/\b≠c)(i:a9 p)(h:8*p.s<=n)(o:0<=r.af/\r.af<p.s)(ok:okW r.next)(m:(up r.next).st=3):
 Calls prog 334 #[.pointer (some ⟨a,0,none⟩)] w0 fun e w'=> ∃v,e= .returned (.tuple #[])/\cF w' (fun b=>w0.heap.size<=b/\b≠a/\b≠c) v r.said/\ah w' a 386 (bp p f ap (tell r 0 r.n) {x with Y1:=v}).toArray/\ar w' ap c n (upd V (8*r.af.toNat) (TK (jX (up r.next))))/\Z1 (fun b=>b≠a/\b≠c) w0 w':=by
 have XP:=JA w0 p f ap c n a V r x hb j h1 g S d l hS i h o ok m;clear hb j d l hS ok m;go_enter func334,ntmps334;exact pe
theorem M1(V:Nat->Int)(k:Nat):(fl V k).d=W4 (V k):=rfl
theorem vb{V:Nat->Int}{k:Nat}(ok:rG (V k) (V (k+1))):((fl V k).z:Int)=Uq (V k)/\((fl V k).l:Int)=Uv (V k)/\(fl V k).t=(Up (V k)).toNat:=by
 obtain⟨⟨h1,a,b,_,_⟩,_,_⟩:=ok;refine⟨?_,?_,rfl⟩
 ·show(((Uq (V k)).toNat:Nat):Int)=_;omega
 ·show(((Uv (V k)).toNat:Nat):Int)=_;omega
theorem Hb(w0:World)(S:Nat->Prop)(p:PO)(j:Value)(F:b1)(Vs:Nat->Value)(ap i n:Nat)(V:Nat->Int)(r:RJ)(x:Yr)(G:ar w0 ap i n V)(m:aW w0 S r x)(hF:eF w0 S j F Vs)(U:tN F)(N:dx r)(hS: ∀b,b<w0.heap.size->S b->b≠i)(hd:r.fin=false)(C:a9 p)(B:8*p.s<=n)(K:0<=r.af/\r.af<p.s)(h:BZ p F n V r):
 Calls prog 188 #[ej p,j,.pointer (some ⟨ap,0,none⟩),.agg (aY r x)] w0 fun e w'=> ∃x',e= .returned (.tuple #[.agg (aY (bM F V r).2 x'),.int .i64 0])/\ar w' ap i n (bM F V r).1/\aW w' (fun b=>(S b\/w0.heap.size<=b)/\b≠i) (bM F V r).2 x'/\ce w0.heap.size i w0 w':=by
 have fin: ∀V2 XY,bM F V r=(V2,XY)->(Calls prog 188 #[ej p,j,.pointer (some ⟨ap,0,none⟩),.agg (aY r x)] w0 fun e w'=> ∃x',e= .returned (.tuple #[.agg (aY XY x'),.int .i64 0])/\ar w' ap i n V2/\aW w' (fun b=>(S b\/w0.heap.size<=b)/\b≠i) XY x'/\ce w0.heap.size i w0 w')->
  Calls prog 188 #[ej p,j,.pointer (some ⟨ap,0,none⟩),.agg (aY r x)] w0 fun e w'=> ∃x',e= .returned (.tuple #[.agg (aY (bM F V r).2 x'),.int .i64 0])/\ar w' ap i n (bM F V r).1/\aW w' (fun b=>(S b\/w0.heap.size<=b)/\b≠i) (bM F V r).2 x'/\ce w0.heap.size i w0 w':=fun V2 XY e h=>by rw[e];exact h
 obtain⟨P,O,M2,-,-,-⟩:=id m.ls;have a5:=h.Xj;rcases(by omega:r.Xj=15\/r.Xj=16\/r.Xj=17\/r.Xj=18\/r.Xj=19\/r.Xj=20\/r.Xj=21\/r.Xj=22\/r.Xj=23\/r.Xj=24\/r.Xj=25\/r.Xj=26)with q|q|q|q|q|q|q|q|q|q|q|q
 ·obtain⟨ok,T⟩:=h.SU q;refine fin V _ (by unfold bM;rw[Z q]) ?_;exact DR w0 S p j F Vs ap i n V V r _ x G m hF hS hd q (fun a y A f w U7 u Yd f1 RV=>(Jw a p j ap i n y V r x f w U7 u C B K ok T).mono fun e w' h=>⟨x,h.1,Yd.jH RV h.2.2.2 rfl rfl rfl rfl,h.2.1,h.2.2.1,h.2.2.2⟩)
 ·have ok:=h.M0 (.inl q);by_cases c:V (8*r.af.toNat)=r.word
  ·by_cases d:(up r.next).st=3
   ·refine fin (upd V (8*r.af.toNat) r.next) {r with Xj:=17} (by unfold bM;rw[aB,Z q,Z c,Z d];rfl) ?_;exact sK w0 S p j F Vs ap i n V _ r _ x G m hF hS hd q (fun a y A f w U7 u Yd f1 RV=>(DL a p j ap i n y V r x f w U7 u C B K ok c d).mono fun e w' h=>⟨x,h.1,Yd.jH RV h.2.2.2 rfl rfl rfl rfl,h.2.1,h.2.2.1,h.2.2.2⟩)
   ·refine fin (upd V (8*r.af.toNat) r.next) (tell r 0 0) (by unfold bM;rw[aB,Z q,Z c,Y d];rfl) ?_;exact sK w0 S p j F Vs ap i n V _ r _ x G m hF hS hd q (fun a y A f w U7 u Yd f1 RV=>(DM a p j ap i n y V r x f w U7 u A Yd N RV C B K ok c d).mono fun e w' ⟨v,V1,hv,hb,Vu,TS⟩=>⟨{x with Y1:=v},V1,Yd.Bl 0 0 RV TS hv,hb,Vu,TS⟩)
  ·refine fin V {r with word:=0,next:=0,Xj:=15} (by unfold bM;rw[aB,Z q,Y c]) ?_;exact sK w0 S p j F Vs ap i n V V r _ x G m hF hS hd q (fun a y A f w U7 u Yd f1 RV=>(DK a p j ap i n y V r x f w U7 u C B K ok c).mono fun e w' h=>⟨x,h.1,Yd.jH RV h.2.2.2 rfl rfl rfl rfl,h.2.1,h.2.2.1,h.2.2.2⟩)
 ·refine fin V _ (by unfold bM;rw[aB,aB,Z q]) ?_;exact DS w0 S p j F Vs ap i n V V r _ x G m hF hS hd q (fun a y A f w U7 u Yd f1 RV=>(DN a p j ap i n y V r x f w U7 u C B K (h.SV q)).mono fun e w' h=>⟨x,h.1,Yd.jH RV h.2.2.2 rfl rfl rfl rfl,h.2.1,h.2.2.1,h.2.2.2⟩)
 ·obtain⟨hb,fG⟩:=h.SW q;refine fin V _ (by unfold bM;rw[aB,aB,aB,Z q]) ?_;have g:=mN {r with top:=r.at_+TJ V r.af.toNat};exact DT w0 S p j F Vs ap i n V V r _ x G m hF hS hd q (fun a y A f w U7 u Yd f1 RV=>(Jx a p j ap i n y V r x P O M2 f w U7 u C B K hb fG).mono fun e w' h=>⟨x,h.1,Yd.jH RV h.2.2.2 g.1 g.2.1 g.2.2.1 (by rw[g.2.2.2]),h.2.1,h.2.2.1,h.2.2.2⟩)
 ·obtain⟨k,XD,TS,ok⟩:=h.SX q;have o:=isObj.of (h.jd k) ok;obtain⟨Xq,ZS,R⟩:=vb ok;have S2:(r.at_/8).toNat=k:=J;have x1:8*((fl V k).z:Int)=Uq (V k)*8:=by rw[Xq];omega
  have H:bM F V r=(V,ee {r with list:=if(fl V k).d=false/\bY F (fl V k).t≠ []then r.list++ [r.at_]else r.list,at_:=r.at_+Uq (V k)*8}):=by
   unfold bM;rw[aB,aB,aB,aB,Z q,S2,x1]
  rw[R,M1]at H;cases Q:W4 (V k)with
  |true=>
   rw[Q]at o H;rw[Y aN]at H;refine fin V _ H ?_;have g:=mN {r with list:=r.list,at_:=r.at_+Uq (V k)*8};exact sL w0 S p j F Vs ap i n V V r _ x G m hF hS hd q (fun a y A f w U7 u Yd f1 RV=>(GR a p j ap i n y V r x P O M2 f w U7 u C B K F Vs A f1 U.1 RV k XD TS _ _ _ _ _ o).mono fun e w' h=>⟨x,h.1,Yd.jH RV h.2.2.2 g.1 g.2.1 g.2.2.1 (by rw[g.2.2.2]),h.2.1,h.2.2.1,h.2.2.2⟩)
  |false=>
   rw[Q]at o H;by_cases n3:bY F (Up (V k)).toNat= []
   ·rw[Y (by simp[n3])]at H;refine fin V _ H ?_;have g:=mN {r with list:=r.list,at_:=r.at_+Uq (V k)*8};exact sL w0 S p j F Vs ap i n V V r _ x G m hF hS hd q (fun a y A f w U7 u Yd f1 RV=>(GU a p j ap i n y V r x P O M2 f w U7 u C B K F Vs A f1 U.1 RV k XD TS _ _ _ _ _ o n3).mono fun e w' h=>⟨x,h.1,Yd.jH RV h.2.2.2 g.1 g.2.1 g.2.2.1 (by rw[g.2.2.2]),h.2.1,h.2.2.1,h.2.2.2⟩)
   ·rw[Z ⟨rfl,n3⟩]at H;refine fin V _ H ?_;have g:=mN {r with list:=r.list++ [r.at_],at_:=r.at_+Uq (V k)*8};exact sL w0 S p j F Vs ap i n V V r _ x G m hF hS hd q (fun a y A f w U7 u Yd f1 RV=>(GV a p j ap i n y V r x A Yd.ls N.ls RV f w U7 u C B K F Vs A f1 U.1 RV k XD TS _ _ _ _ _ o n3).mono fun e w' ⟨v,hv,V1,hb,Vu,TS⟩=>by
     have l:=Yd.left RV TS;exact⟨{x with ls:=v},V1,⟨by rw[g.1];exact l.TQ,by rw[g.2.1];exact hv.mono fun b _ h=>.inr h,by rw[g.2.2.1];exact l.Wh,by rw[g.2.2.2];exact l.Y1⟩,hb,Vu,TS⟩)
 ·obtain⟨pre,k,el,TS,ok⟩:=h.PV (.inl q);obtain⟨LH,vz⟩:=h.SY q;have o:=isObj.of (h.jd k) ok;obtain⟨Xq,ZS,R⟩:=vb ok;have jv:(iK r.list/8).toNat=k:=by rw[el];simp[iK]
  rw[jv]at vz;rw[<-ZS]at o;have ih:pre.length<=65536:=by have:=N.ls;rw[el]at this;simp at this;omega
  obtain⟨⟨L,i7,iI,Q⟩,X⟩: ∃aah,dd ((bY F (fl V k).t).getD r.op.toNat ⟨0,0,0⟩) (eM V k (fl V k).l)=aah:=⟨_,rfl⟩
  have H:bM F V r=(fW V k i7,{r with op:=r.op+1+L,said:=r.said++iI,held:=r.held||Q,Xj:=if((bY F (fl V k).t).length:Int)<=r.op+1+L then 21 else 20}):=by
   unfold bM;rw[aB,aB,aB,aB,aB,Z q,jv];simp only[X]
  refine fin _ _ H ?_;rw[R]at vz X⊢;have rl:((((bY F (Up (V k)).toNat).length:Int)<=r.op+1+L->(if((bY F (Up (V k)).toNat).length:Int)<=r.op+1+L then(21:Int)else 20)=21)/\(¬(((bY F (Up (V k)).toNat).length:Int)<=r.op+1+L)->(if((bY F (Up (V k)).toNat).length:Int)<=r.op+1+L then(21:Int)else 20)=r.Xj)):=⟨fun c=>Z c,fun c=>by rw[Y c,q]⟩
  generalize(if((bY F (Up (V k)).toNat).length:Int)<=r.op+1+L then(21:Int)else 20)=fD at rl⊢;refine DU w0 S p j F Vs ap i n V _ r _ x G m hF hS hd q (fun a y A f w U7 u Yd f1 RV=>?_);have M:cF a A x.ls (pre++ [8*(k:Int)]):=el▸Yd.ls;cases W:r.held with
  |true=>
   refine(JG a p j ap i n y V r x A A F Vs f1 U RV pre _ M ih Yd.Wh N.Wh RV f w U7 u k _ rfl TS _ _ _ _ _ o h.jd LH vz L i7 iI Q X W fD rl).mono fun e w' ⟨v,hv,V1,hb,Vu,TS⟩=>?_;exact qr
  |false=>
   refine(JH a p j ap i n y V r x A A F Vs f1 U RV pre _ M ih Yd.Wh N.Wh RV f w U7 u k _ rfl TS _ _ _ _ _ o h.jd LH vz L i7 iI Q X W fD rl).mono fun e w' ⟨v,hv,V1,hb,Vu,TS⟩=>?_;exact qr
 ·obtain⟨pre,k,el,TS,ok⟩:=h.PV (.inr q);have o:=isObj.of (h.jd k) ok;obtain⟨Xq,ZS,R⟩:=vb ok;have jv:(iK r.list/8).toNat=k:=by rw[el];simp[iK]
  have ih:pre.length<=65536:=by have:=N.ls;rw[el]at this;simp at this;omega
  have Fp:r.list.dropLast=pre:=by rw[el];simp
  have S3:((fl V k).t:Int)=Up (V k):=by rw[R];have:=ok.1.2.2.1;omega
  have H:bM F V r=(upd V k (Go.Proofs.YtcimojgkeoecfaaGreat.hF (Uq (V k)) (Uv (V k)) (Up (V k)) 1),bP {r with list:=pre,n:=r.n+1,op:=0}):=by
   unfold bM;rw[aB,aB,aB,aB,aB,aB,Z q,jv,Fp];simp only[Xq,ZS,S3];rw[show q5 (Uq (V k)) (Uv (V k)) (Up (V k)) 1=Go.Proofs.YtcimojgkeoecfaaGreat.hF (Uq (V k)) (Uv (V k)) (Up (V k)) 1 from by unfold q5 Go.Proofs.YtcimojgkeoecfaaGreat.hF;omega];rfl
  refine fin _ _ H ?_;have g:=qs {r with list:=pre,n:=r.n+1,op:=0};refine DV w0 S p j F Vs ap i n V _ r _ x G m hF hS hd q (fun a y A f w U7 u Yd f1 RV=>?_);have M:cF a A x.ls (pre++ [8*(k:Int)]):=el▸Yd.ls;refine(GX a p j ap i n y V r x A pre _ M ih RV f w U7 u (h.SZ q) k rfl J _ _ _ _ _ _ o).mono fun e w' ⟨v,hv,V1,hb,Vu,TS⟩=>?_;have l:=Yd.left RV TS;exact⟨{x with ls:=v},V1,⟨by rw[g.1];exact l.TQ,by rw[g.2.1];exact hv.mono fun b _ h=>.inr h,by rw[g.2.2.1];exact l.Wh,by rw[g.2.2.2];exact l.Y1⟩,hb,Vu,TS⟩
 ·have ok:=h.M0 (.inr (.inl q));have T:=h.PU (.inl q);refine fin (upd V (8*r.af.toNat) (TK (mp (up r.next)))) (tell r 25 r.n) (by unfold bM;rw[aB,aB,aB,aB,aB,aB,aB,Z q];rfl) ?_;exact DW w0 S p j F Vs ap i n V _ r _ x G m hF hS hd q (fun a y A f w U7 u Yd f1 RV=>(G9 a p j ap i n y V r x f w U7 u A Yd N RV C B K ok T).mono fun e w' ⟨v,V1,hv,hb,Vu,TS⟩=>⟨{x with Y1:=v},V1,Yd.Bl _ _ RV TS hv,hb,Vu,TS⟩)
 ·refine fin (upd V (8*r.af.toNat+4) 0) (dT {r with at_:=r.word}) (by unfold bM;rw[aB,aB,aB,aB,aB,aB,aB,aB,Z q];rfl) ?_;have g:=s8 {r with at_:=r.word};exact DX w0 S p j F Vs ap i n V _ r _ x G m hF hS hd q (fun a y A f w U7 u Yd f1 RV=>(DP a p j ap i n y V r x f w U7 u C B K (h.S0 q)).mono fun e w' h=>⟨x,h.1,Yd.jH RV h.2.2.2 g.1 g.2.1 g.2.2.1 (by rw[g.2.2.2]),h.2.1,h.2.2.1,h.2.2.2⟩)
 ·refine fin (upd V (r.at_/8).toNat 0) (dT {r with at_:=r.at_+8}) (by unfold bM;rw[aB,aB,aB,aB,aB,aB,aB,aB,aB,Z q];rfl) ?_;have g:=s8 {r with at_:=r.at_+8};exact DY w0 S p j F Vs ap i n V _ r _ x G m hF hS hd q (fun a y A f w U7 u Yd f1 RV=>(GQ a p j ap i n y V r x f w U7 u (h.S1 q)).mono fun e w' h=>⟨x,h.1,Yd.jH RV h.2.2.2 g.1 g.2.1 g.2.2.1 (by rw[g.2.2.2]),h.2.1,h.2.2.1,h.2.2.2⟩)
 ·refine fin (upd V (8*r.af.toNat+3) 0) {r with Xj:=26} (by unfold bM;rw[aB,aB,aB,aB,aB,aB,aB,aB,aB,aB,Z q];rfl) ?_;exact DZ w0 S p j F Vs ap i n V _ r _ x G m hF hS hd q (fun a y A f w U7 u Yd f1 RV=>(DO a p j ap i n y V r x f w U7 u C B K).mono fun e w' h=>⟨x,h.1,Yd.jH RV h.2.2.2 rfl rfl rfl rfl,h.2.1,h.2.2.1,h.2.2.2⟩)
 ·have ok:=h.M0 (.inr (.inr q));have T:=h.PU (.inr q);refine fin (upd V (8*r.af.toNat) (TK (jX (up r.next)))) (tell r 0 r.n) (by unfold bM;rw[aB,aB,aB,aB,aB,aB,aB,aB,aB,aB,aB];rfl) ?_;exact D1 w0 S p j F Vs ap i n V _ r _ x G m hF hS hd q (fun a y A f w U7 u Yd f1 RV=>(Ha a p j ap i n y V r x f w U7 u A Yd N RV C B K ok T).mono fun e w' ⟨v,V1,hv,hb,Vu,TS⟩=>⟨{x with Y1:=v},V1,Yd.Bl _ _ RV TS hv,hb,Vu,TS⟩)
end
section
section
variable{p:PO}{F:b1}{n:Nat}{W:Wd}{O:Nat->List Zr}{c:Nat->Option Nat}{t:Nat}
theorem JI{f t:Int}(h:x3 f t)(g:0<=f):rG f t:=by
 obtain⟨h1,d,j,i,e,b,a⟩:=h;exact⟨⟨by unfold Uv;omega,by unfold Uq Uv;omega,by unfold Up;omega,by unfold m8;omega,by unfold m9;omega⟩,b,a⟩
theorem s9{pre post:List Zr}{o:Zr}(h:fX F o=true)(a:cO F post= []):cO F (pre++o::post)=cO F pre++ [8*(o.at_:Int)]:=by
 unfold cO at*;rw[List.filter_append,cP,List.filter_cons,Z h,aS,a]
theorem D2(h:Inv p F n W O c)(v:t<p.t)(hb:(W.XT t).busy=true)(YM:(W.XT t).run.Xj≠0)(h1:(W.XT t).run.Xj≠1)(A:(W.XT t).run.call.op=5)(u:(W.XT t).run.n<=65536):BZ p F n W.V (W.XT t).run:=by
 have R:=h.UU t v hb;have Xg:=h.u1 v hb;have fb:=h.pl.s;have LA:=h.pl.i;have LB:=h.pl.h;have iR:=h.ZU;have z:((W.XT t).run.af.toNat:Int)<p.s:=J;have N:=Xg.2.2;have eN:=R.n.1;have X:reach (W.XT t).aD (((W.XT t).run.af.toNat:Nat):Int):=by rw[show(((W.XT t).run.af.toNat:Nat):Int)=(W.XT t).run.af from J];exact N
 have U:=(h.Zt _ z).ft;cases R.kind with
 |tell e _=>exact absurd e YM
 |make e _=>exact absurd e h1
 |take e=>rw[A]at e;exact absurd e am
 |enter e=>rw[A]at e;exact absurd e am
 |slot e=>rw[A]at e;rcases e with e|e<;>exact absurd e am
 |hI e=>rw[A]at e;exact absurd e am
 |gate e=>rw[A]at e;exact absurd e am
 |nn e YJ li C=>
  have a5:(W.XT t).run.Xj=15\/(W.XT t).run.Xj=16:=by rcases C with q|q;exact .inl q;exact .inr q.1
  have live:=h.live v z X (fun hd=>by unfold gi at hd;omega);refine⟨J,h.aR,fun q=>⟨U,live⟩,fun q=>?_,fun q=>J,fun q=>J,fun q=>J,fun q=>J,fun q=>J,fun q=>J,fun q=>J,fun q=>J,fun q=>J⟩;rcases C with q'|⟨q',f,x,j⟩
  ·omega
  ·rw[j];exact(f.ok.leave x).1.w
 |drain e YJ a5 T cx aG=>
  have Is:=h.eb z J;have m:okW (W.XT t).run.next:=T▸U;have r:(up (W.XT t).run.next).st=3:=by rw[<-T];exact cx
  have H: ∀o,o∈O (W.XT t).run.af.toNat->c (W.XT t).run.af.toNat=none->o.at_+2+(fl W.V o.at_).l<=n/\o.at_+1<n/\rG (W.V o.at_) (W.V (o.at_+1))/\fl W.V o.at_=o:=fun o K S=>by
   have fZ:=h.ht z K;have B:=h.ri z K;have ok:=((h.Zt _ z).hd o K).1;unfold Zr.ok at ok;have adp:=fZ.2.2.2.2 S;have cT:=h.jd o.at_;rw[B.2];exact⟨J,J,JI B.1.2.1 cT.1,rfl⟩
  have e9: ∀ {P:Prop} {a b:Int},(W.XT t).run.Xj=a->(W.XT t).run.Xj=b->a≠b->P:=fun L M u=>absurd (L.symm.trans M) u;cases aG with
  |first q=>exact⟨J,h.aR,fun q'=>J,fun _=>m,fun _=>r,fun _=>J,fun q'=>J,fun q'=>J,fun q'=>J,fun q'=>J,fun q'=>J,fun q'=>J,fun q'=>J⟩
  |top q h1 g y k=>exact⟨J,h.aR,fun q'=>J,fun _=>m,fun _=>r,fun q'=>J,fun q'=>J,fun q'=>J,fun q'=>J,fun q'=>J,fun q'=>J,fun q'=>J,fun q'=>J⟩
  |walk pre o post q h1 g y k f x=>
   have d:=H o (by rw[k];simp) h1;exact⟨J,h.aR,fun q'=>J,fun _=>m,fun _=>r,fun q'=>J,fun q'=>J,fun _=>⟨o.at_,f,d.2.1,d.2.2.1⟩,fun q'=>J,fun q'=>J,fun q'=>J,fun q'=>J,fun q'=>J⟩
  |fin pre o post q h1 g y k f x j Vy Q=>
   have d:=H o (by rw[k];simp) h1;have G:(W.XT t).run.list=cO F pre++ [8*(o.at_:Int)]:=by rw[j,k];exact s9 f x
   have jv:(iK (W.XT t).run.list/8).toNat=o.at_:=by rw[G];simp[iK]
   exact⟨J,h.aR,fun q'=>J,fun _=>m,fun _=>r,fun q'=>J,fun q'=>J,fun q'=>J,fun _=>⟨cO F pre,o.at_,G,d.1,d.2.2.1⟩,fun _=>⟨Vy,by rw[jv,d.2.2.2];exact Q⟩,fun q'=>J,fun q'=>J,fun q'=>J⟩
  |mark pre o post q h1 g y k f x j=>
   have d:=H o (by rw[k];simp) h1;have G:(W.XT t).run.list=cO F pre++ [8*(o.at_:Int)]:=by rw[j,k];exact s9 f x
   exact⟨J,h.aR,fun q'=>J,fun _=>m,fun _=>r,fun q'=>J,fun q'=>J,fun q'=>J,fun _=>⟨cO F pre,o.at_,G,d.1,d.2.2.1⟩,fun q'=>J,fun _=>⟨eN,u⟩,fun q'=>J,fun q'=>J⟩
  |rest q h1 g y k f=>exact⟨J,h.aR,fun q'=>J,fun _=>m,fun _=>r,fun q'=>J,fun q'=>J,fun q'=>J,fun q'=>J,fun q'=>J,fun q'=>J,fun q'=>J,fun q'=>J⟩
  |zero q h1 g y k f=>exact⟨J,h.aR,fun q'=>J,fun _=>m,fun _=>r,fun q'=>J,fun q'=>J,fun q'=>J,fun q'=>J,fun q'=>J,fun q'=>J,fun q'=>J,fun q'=>J⟩
  |last q' q h1 g y=>exact⟨J,h.aR,fun q'=>J,fun _=>m,fun _=>r,fun q'=>J,fun q'=>J,fun q'=>J,fun q'=>J,fun q'=>J,fun q'=>J,fun q'=>J,fun q'=>J⟩
end
end
section
open Tryz
theorem xJ{a w':World}{S:Nat->Prop}{ap d n c rg:Nat}{V':Nat->Int}{o f:Int}{fr:List Ext}{r':RJ}{e:Ending}{q:Yr->Ending}(g:cY a c rg o f fr)(p:d≠c/\d≠rg)(r: ∀b,S b->b≠d/\b≠c/\b≠rg)
 (h: ∃x',e=q x'/\ar w' ap d n V'/\aW w' (fun b=>(S b\/a.heap.size<=b)/\b≠d) r' x'/\ce a.heap.size d a w'):
 ∃x' i,e=q x'/\ar w' ap d n V'/\cY w' c i o f fr/\(i=rg\/a.heap.size<=i)/\aW w' (fun b=>(S b\/a.heap.size<=b)/\b≠d/\b≠c/\b≠i) r' x'/\Z1 (fun b=>b≠d/\b≠c/\b≠rg) a w':=by
 obtain⟨x',s,l,j,t⟩:=h;have m:=g.lt;have k:=Z1.w6 t;exact⟨x',rg,s,l,g.Wu (k.block c m.1 fun e=>p.1 e.symm) (k.block rg m.2 fun e=>p.2 e.symm),.inl rfl,j.mono fun b _ hb=>⟨hb.1,hb.2,by rcases hb.1 with h|h;exact(r b h).2.1;omega,by rcases hb.1 with h|h;exact(r b h).2.2;omega⟩,k.mono fun b _ h=>h.1⟩
theorem M4(w0:World)(S:Nat->Prop)(p:PO)(F:b1)(W:Wd)(O:Nat->List Zr)(VM:Nat->Option Nat)(t:Nat)(f:Nat)(H v Z2:Value)(Vs:Nat->Value)(N:Int)(ap g n d rg:Nat)(x:Yr)
 (h:Inv p F n W O VM)(B:t<p.t)(ga:(W.XT t).busy=true)(bE:dx (W.XT t).run)(U4:(W.XT t).run.n<=65536)
 (hb:ah w0 f 142 (gh p H ap d v Z2 N).toArray)(M:ar w0 ap g n W.V)(z:cY w0 d rg (64*p.s+p.i) (64*p.s+p.i+p.h) W.fr)(hF:eF w0 S H F Vs)(k:aW w0 S (W.XT t).run x)
 (hS: ∀b,S b->b<w0.heap.size/\b≠f)(P: ∀b,S b->b≠g/\b≠d/\b≠rg)(A:f≠ap/\f≠g/\f≠d/\f≠rg)(u:ap≠d/\ap≠rg/\g≠d/\g≠rg):
 Calls prog 107 #[.pointer (some ⟨f,0,none⟩),.agg (aY (W.XT t).run x)] w0 fun e w'=> ∃x' aO,e= .returned (.agg (aY (one p F n W.V W.fr (W.XT t).run).2.2 x'))/\ar w' ap g n (one p F n W.V W.fr (W.XT t).run).1/\cY w' d aO (64*p.s+p.i) (64*p.s+p.i+p.h) (one p F n W.V W.fr (W.XT t).run).2.1/\(aO=rg\/w0.heap.size<=aO)/\aW w' (fun b=>(S b\/w0.heap.size<=b)/\b≠g/\b≠d/\b≠aO) (one p F n W.V W.fr (W.XT t).run).2.2 x'/\Z1 (fun b=>b≠g/\b≠d/\b≠rg) w0 w':=by
 have R:=h.UU t B ga;have m:=h.pl;have fb:=m.s;have LA:=m.i;have LB:=m.h;have iR:=h.ZU;have vH:8*p.s<=n:=J;have xK:=h.u1 B ga;have JJ: ∀c:World,∀b,b<c.heap.size->S b->b≠g:=fun c b _ hb=>(P b hb).1;by_cases r:(W.XT t).run.Xj=0
 ·have C:one p F n W.V W.fr (W.XT t).run=(W.V,W.fr,tell (W.XT t).run (W.XT t).run.aC.code 0):=by unfold one;rw[Z r]
  rw[C];exact Mq w0 S p f H v Z2 N ap g n W.V d rg _ _ W.fr _ x hb M z k P bE A u r
 by_cases h1:(W.XT t).run.Xj=1
 ·have C:one p F n W.V W.fr (W.XT t).run=gO p W.V W.fr (W.XT t).run:=by unfold one;rw[Y r,Z h1]
  rw[C];have j:(W.XT t).run.call.op=2/\1<=(W.XT t).run.call.a/\(W.XT t).run.call.a<=8192\/(W.XT t).run.call.op=3/\1<=(W.XT t).run.call.a/\(W.XT t).run.call.a<p.s:=by
   cases R.kind with
   |tell e _=>exact absurd e r
   |make e j=>exact j
   |take e Tw ZV Ya UJ=>rcases UJ with q|⟨_,q|⟨_,q|⟨q,_⟩⟩⟩<;>omega
   |enter e Tw ZV Ya=>rcases Ya with q|⟨q,_⟩<;>omega
   |nn e YJ li j=>rcases j with q|⟨q,_⟩<;>omega
   |drain e YJ a5=>omega
   |slot Vy afz hS k j=>
    rcases j with q|⟨_,q|⟨o,_,_,_,_,_,q⟩⟩
    ·omega
    ·omega
    ·rcases q with⟨_,q⟩|⟨_,q,_⟩|⟨_,q,_⟩<;>omega
   |hI m4 a5=>omega
   |gate sb M k j=>rcases j with⟨q,_⟩|⟨q,_⟩<;>omega
  exact Mp w0 S p f H v Z2 N ap g n W.V d rg _ _ W.fr _ x hb M z k hS A u _ _ _ h1 fun c K G L _=>GJ c S p ap g n W.V d rg _ _ W.fr _ x K G L bE (fun b _ hb=>P b hb) u R.fin h1 m vH (GK h j)
 by_cases l:(W.XT t).run.call.op=7
 ·have C:one p F n W.V W.fr (W.XT t).run=((e6 W.V (W.XT t).run).1,W.fr,(e6 W.V (W.XT t).run).2):=by unfold one;rw[Y r,Y h1,Z l]
  rw[C];obtain⟨Q,X,T,U,aad,zf,Yu⟩:=zx h B ga r h1 l;exact Ml w0 S p f H v Z2 N ap g n W.V d rg _ _ W.fr _ x hb M z k hS A u _ _ _ r h1 l fun c K G L _=>(Ju c S p ap g n W.V _ x K m vH ⟨xK.1,xK.2.1⟩ L bE (JJ c) R.fin Q X T U aad zf Yu).mono fun e w' w=>xJ G ⟨u.2.2.1,u.2.2.2⟩ P w
 by_cases y:(W.XT t).run.call.op=4
 ·have C:one p F n W.V W.fr (W.XT t).run=((dR W.V (W.XT t).run).1,W.fr,(dR W.V (W.XT t).run).2):=by unfold one;rw[Y r,Y h1,Y l,Z y]
  rw[C];obtain⟨Q,X,T,U⟩:=DJ h B ga r h1 y;exact Mm w0 S p f H v Z2 N ap g n W.V d rg _ _ W.fr _ x hb M z k hS A u _ _ _ r h1 y fun c K G L _=>(GO c S p ap g n W.V _ x K L bE (JJ c) R.fin m vH Q X T U).mono fun e w' w=>xJ G ⟨u.2.2.1,u.2.2.2⟩ P w
 by_cases YZ:(W.XT t).run.call.op=5
 ·have C:one p F n W.V W.fr (W.XT t).run=((bM F W.V (W.XT t).run).1,W.fr,(bM F W.V (W.XT t).run).2):=by unfold one;rw[Y r,Y h1,Y l,Y y,Z YZ]
  rw[C];have pre:=D2 h B ga r h1 YZ U4;exact Mn w0 S p f H v Z2 N ap g n W.V d rg _ _ W.fr _ x hb M z k hS A u _ _ _ r h1 YZ fun c K G L Yq=>(Hb c S p H F Vs ap g n W.V _ x K L (hF.Wu (Z1.cg Yq)) h.WK bE (JJ c) R.fin m vH ⟨xK.1,xK.2.1⟩ pre).mono fun e w' w=>xJ G ⟨u.2.2.1,u.2.2.2⟩ P w
 ·have C:one p F n W.V W.fr (W.XT t).run=((cK p n W.V (W.XT t).run).1,W.fr,(cK p n W.V (W.XT t).run).2):=by unfold one;rw[Y r,Y h1,Y l,Y y,Y YZ]
  rw[C];have pre:=GL h B ga r h1 ⟨l,y,YZ⟩;exact Mo w0 S p f H v Z2 N ap g n W.V d rg _ _ W.fr _ x hb M z k hS A u _ _ _ r h1 ⟨l,y,YZ⟩ fun c K G L _=>(Gu c S p ap g n W.V _ x K L bE (JJ c) R.fin m vH pre).mono fun e w' w=>xJ G ⟨u.2.2.1,u.2.2.2⟩ P w
end
section
variable{p:PO}{F:b1}{n:Nat}{W:Wd}{O:Nat->List Zr}{a:Nat->Option Nat}{t:Nat}
abbrev iD(x:Int):Prop:= -9223372036854775808<=x/\x<9223372036854775808
theorem M5{x:Int}(h:0<=x/\x<18446744073709551616):iD (Z6 x):=by
 unfold Z6 iD;split<;>omega
section
variable(h:Inv p F n W O a)(b:t<p.t)
include h b
theorem D3(hb:(W.XT t).busy=true)(T:(W.XT t).run.n<=65536):iD (one p F n W.V W.fr (W.XT t).run).2.2.aC.n:=by
 have R:=h.UU t b hb;have M:=R.aC.1;have U:=R.n.1;have z:iD 0:=by unfold iD;omega
 have j:iD (W.XT t).run.n:=by unfold iD;omega
 have c:iD (W.XT t).run.aC.n:=by rw[M];exact z
 have f: ∀r,(bP r).aC=r.aC:=fun r=>by unfold bP;(repeat' split)<;>rfl
 have k: ∀r,(ee r).aC=r.aC:=fun r=>by unfold ee;split;rfl;exact f r
 have g: ∀r,(dT r).aC=r.aC:=fun r=>by unfold dT;split<;>rfl
 unfold one;split
 ·exact z
 rename_i P;split
 ·unfold gO;split
  ·dsimp only
   (repeat' split)<;>exact z
  ·split
   ·exact z
   ·rename_i s u;have lg:s<p.s.toNat:=by
     have:=List.mem_of_find?_eq_some u;simpa using this
    have:=h.pl.s;split
    ·exact z
    ·show iD (s:Int);unfold iD;omega
 rename_i h1;split
 ·rename_i S;obtain⟨-,-,-,m,Q,zf,Yu⟩:=zx h b hb P h1 S;unfold e6;dsimp only;split
  ·exact c
  split
  ·exact c
  split
  ·exact c
  split
  ·show iD (Y3 _ _ _);have Xg:=h.u1 b hb;have u:=h.pl.s;have e:=Q.ok.T5;have adc:=h.ZU;have hi:=h.pl.i;have X:=h.pl.h;have o:(W.XT t).run.next=(Wi W.V (W.XT t).run.af.toNat).T5/\(W.XT t).run.at_=bs W.V (W.XT t).run.af.toNat:=by
    rcases m with q|⟨q1,q|⟨N,q⟩⟩
    ·omega
    ·omega
    ·exact⟨q1,N⟩
   have l:(Wi W.V (W.XT t).run.af.toNat).T5=(up (W.V (8*(W.XT t).run.af.toNat))).T5:=rfl;unfold Y3 iD;rw[o.1,o.2,l];omega
  ·exact z
 split
 ·unfold dR;dsimp only
  (repeat' split)<;>first|exact z|exact c
 split
 ·show iD (bM F W.V (W.XT t).run).2.aC.n;unfold bM;by_cases x:(W.XT t).run.Xj=15
  ·rw[Z x];exact c
  rw[Y x];by_cases y:(W.XT t).run.Xj=16
  ·rw[Z y];by_cases d:W.V (8*(W.XT t).run.af.toNat)=(W.XT t).run.word
   ·rw[Z d];show iD (if _ then _ else _:RJ).aC.n;by_cases e:(up (W.XT t).run.next).st=3
    ·rw[Z e];exact c
    ·rw[Y e];exact z
   ·rw[Y d];exact c
  rw[Y y];by_cases A:(W.XT t).run.Xj=17
  ·rw[Z A];exact c
  rw[Y A];by_cases B:(W.XT t).run.Xj=18
  ·rw[Z B];show iD (ee _).aC.n;rw[k];exact c
  rw[Y B];by_cases C:(W.XT t).run.Xj=19
  ·rw[Z C];show iD (ee _).aC.n;rw[k];exact c
  rw[Y C];by_cases v:(W.XT t).run.Xj=20
  ·rw[Z v];exact c
  rw[Y v];by_cases w:(W.XT t).run.Xj=21
  ·rw[Z w];show iD (bP _).aC.n;rw[f];exact c
  rw[Y w];by_cases G:(W.XT t).run.Xj=22
  ·rw[Z G];exact j
  rw[Y G];by_cases H:(W.XT t).run.Xj=23
  ·rw[Z H];show iD (dT _).aC.n;rw[g];exact c
  rw[Y H];by_cases K:(W.XT t).run.Xj=24
  ·rw[Z K];show iD (dT _).aC.n;rw[g];exact c
  rw[Y K];by_cases L:(W.XT t).run.Xj=25
  ·rw[Z L];exact c
  rw[Y L];exact j
 ·unfold cK ie qz lr;dsimp only
  (repeat' split)<;>first|exact z|exact c|exact M5 (h.jd _)
section
variable(c:(W.XT t).ended=false)
include c
theorem D4:(bh p F n W t).call=(bd p (W.XT t) W.ops.length).run.call:=(h.p9 b c).call
theorem JK(f:(bh p F n W t).fin=true)(g:(bh p F n W t).aC.code=0)(d:(bh p F n W t).call.op=4\/(bh p F n W t).call.op=6):(bd p (W.XT t) W.ops.length).aD.length<6:=by
 obtain⟨O',i,A⟩:=h.bI b c;have e:=(A.inv.U2 t b).len;rw[eZ]at e;unfold eY at e;rw[Z f]at e;unfold bH at e;rw[Y (by simpa using g)]at e;rcases d with d|d
 ·simp[d]at e;omega
 ·simp[d]at e;omega
theorem JL(i:(bh p F n W t).aC.code=0)(j:(bh p F n W t).call.op=5):(bd p (W.XT t) W.ops.length).aD≠ []:=by
 have S:=h.h4 b c;have R:=S.inv.UU t b S.busy;rw[em]at R;rw[D4 h b c]at j;have ne: ∀ {pre:List bO} {e:bO},(bd p (W.XT t) W.ops.length).aD=pre++ [e]->(bd p (W.XT t) W.ops.length).aD≠ []:=fun f d=>by rw[d]at f;simp at f
 cases R.kind with
 |tell e k=>
  have d:(bh p F n W t).aC.code=(bd p (W.XT t) W.ops.length).run.aC.code:=by
   unfold bh one;rw[Z e];rfl
  rcases k (by rw[<-d];exact i)with q|q|⟨q,_⟩|⟨_,pre,s,q⟩
  ·omega
  ·omega
  ·omega
  ·exact ne q
 |make e m=>omega
 |take l=>omega
 |enter r=>omega
 |nn e g _ _=>obtain⟨pre,q⟩:=g;exact ne q
 |drain e g=>obtain⟨pre,q⟩:=g;exact ne q
 |slot o=>omega
 |hI u=>omega
 |gate v=>omega
end
end
end
section
open Tryz
theorem cY.ne{w:World}{a rg b:Nat}{g d:Int}{l:List Ext}{t:TypeId}{cs:Array Value}(h:cY w a rg g d l)(hb:ah w b t cs)(h1:t≠363)(c:t≠130):b≠a/\b≠rg:=by
 obtain⟨v,q1,f|⟨cap,rest,_,e,_⟩⟩:=h.ex
 ·exact⟨hb.ne q1 h1,by rw[f.2.2.1];exact hb.ne q1 h1⟩
 ·exact⟨hb.ne q1 h1,hb.ne e c⟩
theorem ar.PX{w:World}{ap a n b:Nat}{V:Nat->Int}{t:TypeId}{cs:Array Value}(h:ar w ap a n V)(hb:ah w b t cs)(h1:t≠5):b≠a:=by
 obtain⟨f,c,_⟩:=h;have q:ah w a 5 _:=c.row;exact hb.ne q h1
theorem FA.own{w:World}{S:Nat->Prop}{VS:Nat}{Z2:Value}{l:List db}(h:FA w S VS Z2 l): ∃a:List (db×Value),a.map Prod.fst=l/\(∀q,q∈a->cF w S q.2 q.1.aC.said)/\w.ownsRow 0 46 14 Z2 a.length (opsV a)/\∀j,Z2.ownBlock=some j->j=VS:=by
 obtain⟨a,h1,c,g⟩:=h.ex;have f:(opsV a).length=a.length*14:=l8 a;refine⟨a,h1,c,⟨f,?_⟩,fun j b=>?_⟩
 ·rcases g with⟨rfl,rfl⟩|⟨cap,rest,rfl,q1,i,e,d⟩
  ·exact .inl ⟨rfl,rfl⟩
  ·exact .inr ⟨VS,cap,_,rfl,aL _,q1,i,e,by simpa using d,by simp[f]⟩
 ·rcases g with⟨rfl,_⟩|⟨cap,rest,rfl,_⟩
  ·cases b
  ·cases b;rfl
theorem D5(W:Wd)(i:Nat)(a:List (db×Value))(h:a.map Prod.fst=W.ops):(kX (W.XT i) a i W.n).map Prod.fst=fO W i:=by
 unfold kX fO;by_cases hb:(W.XT i).busy=true
 ·rw[Z hb,Z hb];exact h
 ·rw[Y hb,Y hb];cases(W.XT i).calls with
  |nil=>exact h
  |cons c l=>
   show(a++_).map Prod.fst=W.ops++_;rw[cP,h];rfl
theorem wN{t:eD}{p:PO}{g pre post:List (db×Value)}{i:Nat}{st:Int}{q q':db×Value}(h:kX t g i st=pre++q::post)(j:pre.length=(bd p t g.length).at_)(f:q'∈pre\/q'∈post):q'∈g:=by
 have all: ∀ {a b:List (db×Value)} {c:db×Value},q'∈a\/q'∈b->q'∈a++c::b:=fun d=>by
  rcases d with d|d
  ·exact cB _ d
  ·exact List.mem_append_right _ (ao _ d)
 unfold kX at h;unfold bd at j;by_cases hb:t.busy=true
 ·rw[Z hb]at h;rw[h];exact all f
 ·rw[Y hb]at h j;cases n:t.calls with
  |nil=>
   rw[n]at h;have h:g=_:=h;rw[h];exact all f
  |cons c l=>
   rw[n]at h j;have e:=List.append_inj h j.symm;rw[<-e.1]at f;have k:=e.2;injection k with _ m
   rw[<-m]at f;rcases f with f|f
   ·exact f
   ·cases f
theorem zF(w0:World)(B:WB)(p:PO)(F:b1)(n:Nat)(W:Wd)(O:Nat->List Zr)(VM:Nat->Option Nat)(h:df w0 B p F n W)(H:Inv p F n W O VM)(Q:vK p W)(i:Nat)(hi:(i:Int)<p.t)(gf:(W.XT i).ended=false)
 (bE:dx (bd p (W.XT i) W.ops.length).run)(Bh:(bd p (W.XT i) W.ops.length).run.n<=65536)(fc:(W.XT i).calls.length<=65536)(cx:W.n<=60000)(S5: ∀b,w0.heap.size<=b->B.Yi b):
 Calls prog 42 #[.pointer (some ⟨B.O3,0,none⟩),.int .i64 i] w0 fun e w'=> ∃B':WB,e= .returned (.tuple #[.bool ((bI p F n W i).XT i).ended,.int .i64 0])/\B'.O3=B.O3/\B'.Yi=B.Yi/\df w' B' p F n (bI p F n W i)/\Z1 (ZB B p.t.toNat) w0 w'/\∀b,b<w0.heap.size->Ur B' p.t.toNat b->Ur B p.t.toNat b:=by
 have UG:=H.pl;obtain⟨T,Uo⟩: ∃T,p.t.toNat=T:=⟨_,rfl⟩
 have mH:T<=4:=by have:=UG.t;omega
 have L:i<T:=J;obtain⟨A,Xf,M6,WJ,tM,XO⟩:=id h.Wl;obtain⟨P,off,rfl,oH,vd,MA⟩:=XO J;have U:=h.XT;have K0:=h.CR;have K1:=h.CS;have se:=h.wd;have zv:=h.YV;obtain⟨R,Dh,lK,bT,B0⟩:=h.op.own;rw[Uo]at oH U K0 K1 zv lK M6⊢;rw[M6]at se;have v2:R.length=W.ops.length:=by rw[<-Dh,bJ]
 have PY:=U i L;have K2:=se.lt;have rT:=h.VB.c9;have ve:=h.gr.lt;have Hc: ∀j,j<T->B.O4 j<w0.heap.size/\B.YS j<w0.heap.size:=fun j r=>⟨(U j r).bC.lt,(U j r).reg.lt⟩
 have XI: ∀j,j<T->B.O4 j≠B.O3/\B.O4 j≠B.WC/\(B.O4 j≠B.L8/\B.O4 j≠B.rg):=fun j r=>⟨(U j r).bC.ne se am,h.VB.PX (U j r).bC am,h.gr.ne (U j r).bC am am⟩
 have YA: ∀j,j<T->B.YS j≠B.O3/\B.YS j≠B.WC/\(B.YS j≠B.L8/\B.YS j≠B.rg):=fun j r=>⟨(U j r).reg.ne se am,K1 j r,h.gr.ne (U j r).reg am am⟩
 have PZ: ∀j k,j<T->k<T->B.O4 j≠B.YS k:=fun j k r TS=>(U j r).bC.ne (U k TS).reg am;have vF:B.O3≠B.WC/\(B.O3≠B.L8/\B.O3≠B.rg):=⟨h.VB.PX se am,h.gr.ne se am am⟩
 obtain⟨YN,XW,ZA,vs,XQ⟩:=h.AO;obtain⟨us,xd,VC,mb,YZ⟩:=h.FB;rw[Uo]at XQ YZ;have S6:B.WC≠B.L8/\B.WC≠B.rg:=by
  obtain⟨f,Xg,_⟩:=h.VB;have q:ah w0 B.WC 5 _:=Xg.row;exact h.gr.ne q am am
 have Yo: ∀b,ZB B T b->b≠B.O3/\b≠B.ap/\b≠B.WC/\b≠B.L8/\b≠B.rg/\b≠B.VS/\∀j,j<T->b≠B.O4 j/\b≠B.YS j:=fun b hb=>
  ⟨fun e=>hb (.inl e),fun e=>hb (.inr (.inl e)),fun e=>hb (.inr (.inr (.inl e))),fun e=>hb (.inr (.inr (.inr (.inl e)))),fun e=>hb (.inr (.inr (.inr (.inr (.inl e))))),fun e=>hb (.inr (.inr (.inr (.inr (.inr (.inl e)))))),fun j r=>⟨fun e=>hb (.inr (.inr (.inr (.inr (.inr (.inr ⟨j,r,.inl e⟩)))))),fun e=>hb (.inr (.inr (.inr (.inr (.inr (.inr ⟨j,r,.inr e⟩))))))⟩⟩
 have M7:Inv p F n (hK p W i) O VM:=(H.h4 hi gf).inv;have h6:((hK p W i).XT i).busy=true:=(H.h4 hi gf).busy;have ke:cG (bd p (W.XT i) W.ops.length).run.call:=by have:=(M7.UU i hi h6).call;rwa[em]at this
 have xr:=(H.U2 i hi).len;have hj:w0.cell? ⟨P,off+i,none⟩=some (.pointer (some ⟨B.O4 i,0,none⟩)):=by simpa using MA i 0 _ J rfl
 have bo: ∀b,b=B.O4 i\/b=B.O3\/b=B.VS\/b=B.YS i->b≠B.WC/\b≠B.L8/\b≠B.rg:=fun b hb=>by
  rcases hb with rfl|rfl|rfl|rfl
  ·exact(XI i L).2
  ·exact vF
  ·exact⟨xd,VC,mb⟩
  ·exact(YA i L).2
 have cc: ∀b,Ve B T b->b≠B.O4 i/\b≠B.O3/\b≠B.VS/\b≠B.WC/\b≠B.L8/\b≠B.rg/\b≠B.YS i:=fun b hb=>by
  obtain⟨q1,-,lj,th,ZX,xz,Xw⟩:=Yo b hb.1;exact⟨(Xw i L).1,q1,xz,lj,th,ZX,(Xw i L).2⟩
 have fG:(W.XT i).busy=true->(W.XT i).at_<R.length:=fun hb=>by
  obtain⟨o,ZQ,_⟩:=Q.Ts i hi hb;rw[v2];exact(List.getElem?_eq_some_iff.1 ZQ).1
 have h2: ∀b,b≠B.VS->B.Z2.ownBlock≠some b:=fun b hb e=>hb (B0 b e);have P0:dx ((hK p W i).XT i).run:=by rw[em];exact bE
 have K3:((hK p W i).XT i).run.n<=65536:=by rw[em];exact Bh
 have lw: ∀(y:World) (XZ:Nat->Prop) (Zl:Yr) (sE:Value),Z1 (fun b=>b≠B.O4 i/\b≠B.O3/\B.Z2.ownBlock≠some b) w0 y->ah y B.O3 142 (gh p B.Y8 B.ap B.L8 (.slice (some ⟨P,off,none⟩) T Xf) sE W.n).toArray->aW y XZ (bd p (W.XT i) W.ops.length).run Zl->(∀b,b<w0.heap.size->Ve B T b->XZ b)->(∀b,XZ b->b<y.heap.size/\b≠B.O3)->(∀b,XZ b->b≠B.WC/\b≠B.L8/\b≠B.rg)->
  Calls prog 107 #[.pointer (some ⟨B.O3,0,none⟩),.agg (aY (bd p (W.XT i) W.ops.length).run Zl)] y fun e w'=> ∃x' N,e= .returned (.agg (aY (bh p F n W i) x'))/\ar w' B.ap B.WC n (bI p F n W i).V/\cY w' B.L8 N (64*p.s+p.i) (64*p.s+p.i+p.h) (bI p F n W i).fr/\(N=B.rg\/y.heap.size<=N)/\aW w' (fun b=>(XZ b\/y.heap.size<=b)/\b≠B.WC/\b≠B.L8/\b≠N) (bh p F n W i) x'/\Z1 (fun b=>b≠B.WC/\b≠B.L8/\b≠B.rg) y w':=by
  intro y XZ Zl sE k hb UD h1 Tw ZV;have xA: ∀b,b<w0.heap.size->b≠B.O4 i->b≠B.O3->b≠B.VS->y.heap[b]? =w0.heap[b]? :=fun b YJ q1 Xt lj=>k.block b YJ ⟨q1,Xt,h2 b lj⟩;have e:=M4 y XZ p F (hK p W i) O VM i B.O3 B.Y8 (.slice (some ⟨P,off,none⟩) T Xf) sE B.Vs W.n B.ap B.WC n B.L8 B.rg Zl M7 hi h6 P0 K3 hb (ar.j3 h.VB (xA _ rT.1 (XQ i L).1 vs ZA) (xA _ rT.2.1 (fun e=>(XI i L).2.1 e.symm) (fun e=>vF.1 e.symm) fun e=>xd e.symm)) (h.gr.Wu (xA _ ve.1 (fun e=>(XI i L).2.2.1 e.symm) (fun e=>vF.2.1 e.symm) fun e=>VC e.symm) (xA _ ve.2 (fun e=>(XI i L).2.2.2 e.symm) (fun e=>vF.2.2 e.symm) fun e=>mb e.symm)) (((zv.mono (S':=fun b=>b<w0.heap.size/\Ve B T b) fun b hb u=>⟨hb,u⟩).Wu (k.mono fun b _ u=>⟨(cc b u.2).1,(cc b u.2).2.1,h2 b (cc b u.2).2.2.1⟩)).mono fun b _ u=>h1 b u.1 u.2) (by rw[em];exact UD) Tw ZV ⟨fun e=>vs e.symm,vF⟩ ⟨YN,XW,S6⟩;rw[iz,em]at e;exact e
 have qT: ∀(e:Ending) (w':World) (aG:eD) (Yx:db->db),aG=(bI p F n W i).XT i->(∀o:db,Yx o= {o with pt:=if(bh p F n W i).bF then(W.n:Int)else o.pt,e2:=if(bh p F n W i).fin then(W.n:Int)else o.e2,aC:=if(bh p F n W i).fin then(bh p F n W i).aC else o.aC})->
  (∃w S VS e9 cap aK T6 x pre post o s rest,VT w0 w (Ve B T) p B.Y8 B.O3 B.ap B.WC B.L8 B.rg n (B.O4 i) (B.YS i) B.VS P off T Xf i (64*p.s+p.i) (64*p.s+p.i+p.h) (B.VZ i) W.n (bd p (W.XT i) W.ops.length) (bh p F n W i) (bI p F n W i).V (bI p F n W i).fr B.Z2 (kX (W.XT i) R i W.n) S VS e9 cap aK T6 x pre post o s rest/\∃N x' ob s',e= .returned (.tuple #[.bool aG.ended,.int .i64 0])/\ah w' B.O3 142 (gh p B.Y8 B.ap B.L8 (.slice (some ⟨P,off,none⟩) T Xf) (.slice (some ⟨VS,0,none⟩) e9 cap) ((W.n:Int)+1)).toArray/\fp w' (fun b=>(S b\/w.heap.size<=b)/\b≠B.WC/\b≠B.L8/\b≠N/\b≠B.O4 i/\b≠B.YS i/\b≠B.O3/\b≠VS) (B.O4 i) (B.YS i) T6 ob x' aG/\ah w' VS 46 (opsV pre++(dN (Yx o) s'++(opsV post++rest))).toArray/\cF w' (fun b=>(S b\/w.heap.size<=b)/\b≠B.WC/\b≠B.L8/\b≠N/\b≠B.O4 i/\b≠B.YS i/\b≠B.O3/\b≠VS) s' (Yx o).aC.said/\ar w' B.ap B.WC n (bI p F n W i).V/\cY w' B.L8 N (64*p.s+p.i) (64*p.s+p.i+p.h) (bI p F n W i).fr/\(N=B.rg\/w.heap.size<=N)/\Z1 (fun b=>b≠B.O4 i/\b≠B.O3/\b≠VS/\b≠B.WC/\b≠B.L8/\b≠B.rg/\b≠B.YS i) w w')->
  ∃B':WB,e= .returned (.tuple #[.bool ((bI p F n W i).XT i).ended,.int .i64 0])/\B'.O3=B.O3/\B'.Yi=B.Yi/\df w' B' p F n (bI p F n W i)/\Z1 (ZB B T) w0 w'/\∀b,b<w0.heap.size->Ur B' T b->Ur B T b:=by
  rintro e w' aG Yx aet S7 ⟨w,S,VS,e9,cap,aK,T6,x,pre,post,o,s,rest,C,N,x',ob,s',rfl,q1,Xt,lj,th,ZX,xz,Xw,ZD⟩;have Ub:=C.Wu.size;have c5:=ZD.size;have P1:VS=B.VS\/w0.heap.size<=VS:=C.Sy.imp (B0 VS) id;have P2:N=B.rg\/w0.heap.size<=N:=Xw.imp id fun h=>D Ub h;have no: ∀b,b<w0.heap.size->b≠B.VS->b≠VS:=fun b hb U4 e=>by
   rcases P1 with h|h
   ·exact U4 (e.trans h)
   ·omega
  have aaP: ∀b,b<w0.heap.size->b≠B.rg->b≠N:=fun b hb U4=>rC P2 hb U4;have K:Z1 (fun b=>b≠B.O4 i/\b≠B.O3/\b≠B.VS/\b≠B.WC/\b≠B.L8/\b≠B.rg/\b≠B.YS i) w0 w':=⟨ZD.os.trans C.Wu.os,ZD.tape.trans C.Wu.tape,ZD.output.trans C.Wu.output,D Ub c5,fun b hb u=>(ZD.block b J ⟨u.1,u.2.1,no b hb u.2.2.1,u.2.2.2⟩).trans (C.Wu.block b hb ⟨u.1,u.2.1,h2 b u.2.2.1⟩)⟩
  have xD:Z1 (ZB B T) w0 w':=K.mono fun b _ hb=>by
   obtain⟨Vt,Y6,UI,W3,XN,Vz,wY⟩:=Yo b hb;exact⟨(wY i L).1,Vt,Vz,UI,W3,XN,(wY i L).2⟩
  let B':WB:={B with rg:=N,VS:=VS,Z2:=.slice (some ⟨VS,0,none⟩) e9 cap,T6:=put B.T6 i T6,VZ:=put B.VZ i ob,x:=put B.x i x'}
  have mu: ∀b,b<w0.heap.size->Ur B' T b->Ur B T b:=fun b hb hm=>by
   rcases hm with h|h|h|h|h|h|h
   ·exact .inl h
   ·exact .inr (.inl h)
   ·exact .inr (.inr (.inl h))
   ·exact .inr (.inr (.inr (.inl h)))
   ·rcases P2 with g|g
    ·exact .inr (.inr (.inr (.inr (.inl (h.trans g)))))
    ·have h:b=N:=h;omega
   ·rcases P1 with g|g
    ·exact .inr (.inr (.inr (.inr (.inr (.inl (h.trans g))))))
    ·have h:b=VS:=h;omega
   ·exact .inr (.inr (.inr (.inr (.inr (.inr h)))))
  have X: ∀ {v:Value} {m sz:Nat} {G:Nat->List Value},KC w0 (Ve B T) v m sz G->KC w' (Ve B' T) v m sz G:=fun u=>((u.mono (S':=fun b=>b<w0.heap.size/\Ve B T b) fun b hb u=>⟨hb,u⟩).Wu (xD.mono fun b _ u=>u.2.1)).mono fun b _ u=>⟨fun hm=>u.2.1 (mu b u.1 hm),u.2.2⟩
  have z1: ∀b,((S b\/w.heap.size<=b)/\b≠B.WC/\b≠B.L8/\b≠N/\b≠B.O4 i/\b≠B.YS i/\b≠B.O3/\b≠VS)->Ve B' T b:=fun b hb=>by
   obtain⟨tm,Vt,Y6,UI,W3,XN,Vz,wY⟩:=hb;have old:(Ve B T b\/w0.heap.size<=b):=by
    rcases tm with g|g
    ·exact(C.aeK b g).1
    ·exact .inr (D Ub g)
   refine⟨fun hm=>?_,old.elim (fun h=>h.2) (S5 b)⟩;rcases hm with h|h|h|h|h|h|⟨j,r,h⟩
   ·exact Vz h
   ·have h:b=B.ap:=h;rcases old with g|g
    ·exact g.1 (.inr (.inl h))
    ·omega
   ·exact Vt h
   ·exact Y6 h
   ·exact UI h
   ·exact wY h
   ·rcases old with g|g
    ·exact g.1 (.inr (.inr (.inr (.inr (.inr (.inr ⟨j,r,h⟩))))))
    ·have:=Hc j r;have h:b=B.O4 j\/b=B.YS j:=h;omega
  subst aet;refine⟨B',rfl,rfl,rfl,?_,xD,mu⟩;subst Uo;have abS:=C.DI.lt;refine⟨?_,ZX,xz,⟨X h.YV.row,fun k l YJ=>X (h.YV.each k l YJ)⟩,X h.Wl,fun j r=>?_,⟨pre++(Yx o,s')::post,?_,fun q VX=>?_,.inr ⟨cap,rest,?_,?_,?_,C.qC.2.1,?_⟩⟩,h.CR,h.CS,⟨YN,aaP _ rT.1 XW,no _ rT.1 ZA,vs,XQ⟩,⟨fun e=>no _ K2 (fun e=>us e.symm) e.symm,fun e=>no _ rT.2.1 (fun e=>xd e.symm) e.symm,fun e=>no _ ve.1 (fun e=>VC e.symm) e.symm,fun e=>?_,fun j r=>⟨fun e=>no _ (Hc j r).1 (fun e=>(YZ j r).1 e.symm) e.symm,fun e=>no _ (Hc j r).2 (fun e=>(YZ j r).2 e.symm) e.symm⟩⟩⟩
  ·show ah w' B.O3 _ (gh p B.Y8 B.ap B.L8 B.uf _ ((W.n+1:Nat):Int)).toArray;rw[M6,Int.natCast_add];exact q1
  ·by_cases e:j=i
   ·subst e;show fp w' _ (B.O4 j) (B.YS j) (put B.T6 j T6 j) (put B.VZ j ob j) (put B.x j x' j) _;rw[aP,aP,aP];exact Xt.mono fun b _ hb=>z1 b hb
   ·show fp w' _ (B.O4 j) (B.YS j) (put B.T6 i T6 j) (put B.VZ i ob j) (put B.x i x' j) _;rw[aw _ _ e,aw _ _ e,aw _ _ e,g2 e];have z:=U j r;have d:=K0 j i r L e;exact⟨(K.block _ z.bC.lt ⟨d.1,(XI j r).1,fun e=>(YZ j r).1 e.symm,(XI j r).2.1,(XI j r).2.2.1,(XI j r).2.2.2,PZ j i r L⟩).trans z.bC,(K.block _ z.reg.lt ⟨fun e=>PZ i j L r e.symm,(YA j r).1,fun e=>(YZ j r).2 e.symm,(YA j r).2.1,(YA j r).2.2.1,(YA j r).2.2.2,d.2⟩).trans z.reg,X z.sq,X z.m6,⟨X z.run.TQ,X z.run.ls,X z.run.Wh,X z.run.Y1⟩⟩
  ·have UR:=D5 W i R Dh;rw[C.Mz]at UR;show _=(fO W i).modify (bd p (W.XT i) W.ops.length).at_ _;rw[<-UR,C.at_,<-C.ih,cP,cP];show _=(pre.map Prod.fst++o::post.map Prod.fst).modify pre.length _;have UN: ∀(f:db->db) (a c:List db) (b:db),(a++b::c).modify a.length f=a++f b::c:=fun f a c b=>by
    induction a with
    |nil=>rfl
    |cons x l aes=>simpa using aes
   have UZ:=UN (fun o:db=>{o with pt:=if(bh p F n W i).bF then(W.n:Int)else o.pt,e2:=if(bh p F n W i).fin then(W.n:Int)else o.e2,aC:=if(bh p F n W i).fin then(bh p F n W i).aC else o.aC}) (pre.map Prod.fst) (post.map Prod.fst) o;rw[bJ]at UZ;refine Eq.trans ?_ UZ.symm;rw[<-S7 o];rfl
  ·rcases List.mem_append.1 VX with VX|VX
   ·exact X (lK q (wN (p:=p) C.Mz (by rw[C.ih,<-C.at_,v2]) (.inl VX)))
   ·rcases List.mem_cons.1 VX with rfl|VX
    ·exact KC.mono th fun b _ hb=>z1 b hb
    ·exact X (lK q (wN (p:=p) C.Mz (by rw[C.ih,<-C.at_,v2]) (.inr VX)))
  ·show Value.slice _ e9 cap=_;have e:e9=(pre++(Yx o,s')::post).length:=by have:=C.ud;simp;omega
   rw[<-e]
  ·rw[l9,kM,aJ,aJ];exact lj
  ·have:=C.qC.1;have:=C.ud;simp;omega
  ·have:=C.qC.2.2;rw[l9,kM,aJ,aJ,<-this];simp[kK]
  ·rcases Xw with g|g
   ·exact no _ ve.2 (fun e=>mb e.symm) (g.symm.trans e.symm)
   ·have e:VS=N:=e;omega
 have uD:=H.p9 hi gf;have bV:B.O4 i<w0.heap.size/\B.O3<w0.heap.size/\B.YS i<w0.heap.size/\B.rg<w0.heap.size:=⟨(Hc i L).1,K2,(Hc i L).2,ve.2⟩
 have vU:R.length<=65536:=by have:=Q.len;omega
 have rm:B.ap≠B.O4 i/\B.ap≠B.O3/\B.ap≠B.VS/\B.ap≠B.YS i:=⟨(XQ i L).1,vs,ZA,(XQ i L).2⟩
 have cT: ∀j,aR ((W.XT i).regs j):=fun j=>by have:=H.rg i hi j;unfold aR;omega
 have S8:iD (bh p F n W i).aC.n:=by have:=D3 M7 hi h6 K3;rw[iz]at this;exact this
 cases M:(bh p F n W i).fin with
 |true=>
  have uT:(bh p F n W i).bF=true:=(uD.fin M).2.2.2.2.2.1;refine Calls.mono (Jh w0 (Ve B T) p B.Y8 B.Z2 B.O3 B.ap B.WC B.L8 B.rg n (B.O4 i) (B.YS i) B.VS P off T Xf i _ _ (B.T6 i) (B.VZ i) (B.x i) (W.XT i) (bd p (W.XT i) W.ops.length) (bh p F n W i) _ _ W.n R PY gf (by rw[v2]) fc se hj vd oH L mH bT B0 lK fG J rm ⟨rT.2.1,ve.1,rT.1⟩ bV bo cc UG ke cT xr vU lw (JK H hi gf M) (JL H hi gf) uD.call (.inr S8) M uT) fun e w' Vi=>qT e w' _ (fun o=>{o with pt:=W.n,e2:=W.n,aC:=(bh p F n W i).aC}) (by rw[eZ];unfold eY;rw[Z M]) (fun o=>by rw[M,uT];rfl) Vi
 |false=>
  have uT:(bh p F n W i).bF=false:=uD.Au M;refine Calls.mono (Jj w0 (Ve B T) p B.Y8 B.Z2 B.O3 B.ap B.WC B.L8 B.rg n (B.O4 i) (B.YS i) B.VS P off T Xf i _ _ (B.T6 i) (B.VZ i) (B.x i) (W.XT i) (bd p (W.XT i) W.ops.length) (bh p F n W i) _ _ W.n R PY gf (by rw[v2]) fc se hj vd oH L mH bT B0 lK fG J rm ⟨rT.2.1,ve.1,rT.1⟩ bV bo cc UG ke cT xr vU lw uD.call M uT) fun e w' Vi=>qT e w' _ (fun o=>o) (by rw[eZ];unfold eY;rw[M];rfl) (fun o=>by rw[M,uT];rfl) Vi
end
end Go.Proofs.YtcimojgkeoecfaaGreat
