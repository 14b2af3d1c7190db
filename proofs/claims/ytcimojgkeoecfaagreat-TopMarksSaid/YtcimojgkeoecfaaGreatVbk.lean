import Derived.Test.YtcimojgkeoecfaaGreatVbh
import Derived.Test.YtcimojgkeoecfaaGreatVbd
import Derived.Test.YtcimojgkeoecfaaGreatVbj
set_option linter.all false
set_option maxHeartbeats 16000000
set_option maxRecDepth 100000
namespace Go.Proofs.YtcimojgkeoecfaaGreat
open Go.RowKit Tryz
section
theorem oT{G:Prop}(h:G:=by
 clear V1;go_enter func273,ntmps273;go_wp2_with(first|(go_at_call 157;refine a6 U (hu _) ?_;clear U;intro EH U)|(refine aq ?_)|(refine VP U EQ ?_;clear U;intro vX w U wF)|(refine aT ?_;clear U;intro X8 w U T7));go_cut [8,9]from 10 to 28 (fun aba afs ZT=> ∃g Y6,aba= .pointer (some ⟨g,0,none⟩)/\afs= .int .i64 0/\Bx w0 (fun b=>b≠Yc/\b≠WC) ZT (some ⟨ap,WC,n,V⟩) [⟨g,56,[.int .i64 c.st,.int .i64 c.Xf,.int .i64 c.YX,.int .i64 c.T5]⟩,⟨vX,75,[.int .i64 X0,.int .i64 YN,.int .i64 XW]⟩,⟨Yc,389,cn p ap r x 0⟩]/\Y6=g)
 case first=>
  replace U:=U.drew;refine b0 ?_;intro X;refine az [[0,1,2,3,4,5,6,7,8,9]] ?_;refine Zj [10,14] ?_;refine ea (fun K Z7=>?_) ?_
  ·go_simp;go_at_call 154;refine a6 U (XP _ U.bB) ?_;clear U;intro EH U;go_wp2_with fail;refine PK Z7 fun X=>?_;refine az [[11,12,13],[14,15],[16]] ?_;clear U;intro Gh zr w U;go_wp2_with fail;go_meet;exact⟨_,_,rfl,rfl,U,rfl⟩
  refine ei (fun K Z7=>?_);refine ZZ U ny ?_;clear U;intro Gh w U zr;refine PK Z7 fun X=>?_;refine aF 10 fun K Z7=>?_;go_simp;go_at_call 154;refine a6 U (XP _ U.bB) ?_;clear U;intro EH U;go_wp2_with fail;refine PK Z7 fun X=>?_;refine az [[11,12,13],[15],[16]] ?_;clear U;intro w U;go_wp2_with fail;go_meet;exact⟨_,_,rfl,rfl,U,rfl⟩
 case rest=>
 obtain⟨g,_,rfl,rfl,U,_⟩:=hcut;go_wp2_with(first|(refine aq ?_)|(refine VP U EQ ?_;clear U;intro vX w U wF)|(refine aT ?_;clear U;intro X8 w U T7));refine fY ?_;have Yq:=U.b (g:=Yc) ag;exact⟨rfl,Yq,U.bB,U.Wu⟩):G:=h
theorem k1{G:Prop}(h:G:=by
 go_wp2_with(first|(refine aq ?_)|(refine Ws U 75 ?_;clear U;intro vX w U wF)|(refine VP U gW ?_;clear U;intro g3 w U gJ)|(refine Po U ?_;clear U;intro w U));refine cw results335 rfl rfl ⟨_,U.b ag,rfl⟩ underlying91 rfl (by kernel_rfl) ?_;have Yq:=U.b (g:=Yc) ag;exact⟨⟨_,_,_,_,_,_,rfl⟩,Yq,U.bB,U.Wu⟩):G:=h
theorem oU{G:Prop}(h:G:=by
 replace U:=U.drew;refine b0 ?_;intro X;refine az [[0,1,2,3,4,5]] ?_;refine Zj [6,10] ?_;refine ea (fun K Z7=>?_) ?_
 ·go_simp;go_at_call 353;refine a6 U (oS _ _ _ n V _ k _ _ _ _ _ _ U.bB Vd.out TS O.out) ?_;clear U;intro EH U;go_wp2_with fail;refine PK Z7 fun X=>?_;refine az [[7,8,9],[10,11],[12]] ?_;clear U;intro g3 gJ w U;go_wp2_with fail;go_meet;exact⟨_,rfl,rfl,U⟩
 refine ei (fun K Z7=>?_);refine ZZ U gW ?_;clear U;intro g3 w U gJ;refine PK Z7 fun X=>?_;refine aF 6 fun K Z7=>?_;go_simp;go_at_call 353;refine a6 U (oS _ _ _ n V _ k _ _ _ _ _ _ U.bB Vd.out TS O.out) ?_;clear U;intro EH U;go_wp2_with fail;refine PK Z7 fun X=>?_;refine az [[7,8,9],[11],[12]] ?_;clear U;intro w U;go_wp2_with fail;go_meet;exact⟨_,rfl,rfl,U⟩):G:=h
theorem s5(n:Nat)(V:Nat->Int)(k:Nat)(s e:Int)(r: ∀i,i<n->aR (V i)):
 (he n V k s e/\k+1<n/\isObj (V k) (V (k+1)) (Uq (V k)) (V k/4294967296 %256) (Up (V k)) (W4 (V k)) s e)\/
 (¬he n V k s e/\(sI V n (8*(k:Int))\/∃s' e',(s'≠s\/e'≠e)/\k+1<n/\isObj (V k) (V (k+1)) (Uq (V k)) (Uv (V k)) (Up (V k)) (W4 (V k)) s' e')):=by
 by_cases c:he n V k s e
 ·obtain⟨h1,⟨a,m,l,f,j,b,h⟩,p,u⟩:=id c;have o:=isObj.of (r k J) (t:=V (k+1)) ⟨⟨by simpa [Uv]using a,by simpa [Uv,Uq]using m,by simpa [Up]using l,by simpa [m8]using f,by simpa [m9]using j⟩,b,h⟩;simp only[m8,m9]at o;rw[p,u]at o;exact .inl ⟨c,h1,o⟩
 ·refine .inr ⟨c,?_⟩;by_cases d:k+1<n/\rG (V k) (V (k+1))
  ·have o:=isObj.of (r k J) d.2;refine .inr ⟨_,_,?_,d.1,o⟩;apply Classical.byContradiction;intro g;apply c;obtain⟨h1,⟨a,m,l,f,j⟩,b,h⟩:=id d;refine⟨h1,⟨a,m,l,f,j,b,h⟩,?_,?_⟩
   ·apply Classical.byContradiction;intro q;exact g (.inl q)
   ·apply Classical.byContradiction;intro q;exact g (.inr q)
  ·refine .inl fun k' v h'=>?_;obtain rfl:k=k':=J;intro ok;exact d ⟨h',ok⟩
section
variable(w0:World)(p:PO)(ap WC n Yc:Nat)(V:Nat->Int)(r:RJ)(x:Yr)(hb:ah w0 Yc 389 (cn p ap r x 0).toArray)(a:ar w0 ap WC n V)(h1:Yc≠ap)(f:Yc≠WC)(j:a9 p)(i:8*p.s<=n)
include w0 p ap WC n Yc V r x hb a h1 f j i
section
variable(h d:Int)(m:aR h)(l:dr h)(o:VA h<p.s)(ok:okW (V (8*(VA h).toNat)))
include h d m l o ok
theorem wG(V1:(Wi V (VA h).toNat).T5=UP h):
 Calls prog 273 #[.pointer (some ⟨Yc,0,none⟩),.int .u64 h,.int .i64 d] w0 fun e w'=>e= .returned (.tuple #[])/\ah w' Yc 389 (cn p ap {r with Xj:=d} x 0).toArray/\ar w' ap WC n V/\Z1 (fun b=>b≠Yc/\b≠WC) w0 w':=by
 have U:=Bx.dp hb a h1 f;have hm:=a.cE;clear a hb;have v:=I ok;have y:=I l;have q:0<=VA h:=by unfold dr at l;omega
 have hu:=fun w=>ff h w m l;clear ok l;unfold md at hu;have XP:=fun w (h':ar w ap WC n V)=>jF w p ap WC n V (VA h) h' j ⟨q,o⟩ i v.out;obtain⟨c,u⟩: ∃c,Hid (Wi V (VA h).toNat=c):=⟨_,I rfl⟩
 rw[u.out]at V1 XP;generalize VA h=X0 at*;generalize UP h=YN at*;generalize WR h=XW at*;have d1:(c.T5 !=YN)=false:=by simpa using V1
 exact oT
theorem wH(V1:(Wi V (VA h).toNat).T5≠UP h):
 Calls prog 273 #[.pointer (some ⟨Yc,0,none⟩),.int .u64 h,.int .i64 d] w0 fun e w'=>e= .returned (.tuple #[])/\ah w' Yc 389 (cn p ap {r with Xj:=d} x 19).toArray/\ar w' ap WC n V/\Z1 (fun b=>b≠Yc/\b≠WC) w0 w':=by
 have U:=Bx.dp hb a h1 f;have hm:=a.cE;clear a hb;have v:=I ok;have y:=I l;have q:0<=VA h:=by unfold dr at l;omega
 have hu:=fun w=>ff h w m l;clear ok l;unfold md at hu;have XP:=fun w (h':ar w ap WC n V)=>jF w p ap WC n V (VA h) h' j ⟨q,o⟩ i v.out;obtain⟨c,u⟩: ∃c,Hid (Wi V (VA h).toNat=c):=⟨_,I rfl⟩
 rw[u.out]at V1 XP;generalize VA h=X0 at*;generalize UP h=YN at*;generalize WR h=XW at*;have d1:(c.T5 !=YN)=true:=by simpa using V1
 exact oT
end
section
variable(h:Int)(c:dr h)(k:Nat)(m:WR h=8*k)
include h c k m
theorem oV(TS:k+1<n)(z l t:Int)(d:Bool)(o:isObj (V k) (V (k+1)) z l t d (VA h) (UP h)):
 Calls prog 335 #[.pointer (some ⟨Yc,0,none⟩),md h] w0 fun e w'=>e= .returned (.agg #[.int .i64 z,.int .i64 l,.int .i64 t,.bool d,.int .i64 (VA h),.int .i64 (UP h)])/\ah w' Yc 389 (cn p ap r x 0).toArray/\ar w' ap WC n V/\Z1 (fun b=>b≠Yc/\b≠WC) w0 w':=by
 have U:=Bx.dp hb a h1 f;have hm:=a.cE;clear a hb;have H:=I c;have L:jI (WR h):=by unfold dr at c;unfold jI;omega
 clear c;unfold md;generalize VA h=q at*;generalize UP h=u at*;generalize WR h=y at*;have Vd:=I m;clear m;have O:=I o;clear o;go_enter func335,ntmps335;go_wp2_with(first|(refine aq ?_)|(refine Ws U 75 ?_;clear U;intro v w U G)|(refine VP U gW ?_;clear U;intro g3 w U gJ)|(refine Po U ?_;clear U;intro w U));go_cut [5,6]from 7 to 16 (fun A F C=> ∃g,A= .pointer (some ⟨g,0,none⟩)/\F= .int .i64 0/\Bx w0 (fun b=>b≠Yc/\b≠WC) C (some ⟨ap,WC,n,V⟩) [⟨g,91,[.int .i64 z,.int .i64 l,.int .i64 t,.bool d,.int .i64 q,.int .i64 u]⟩,⟨g3,91,[.int .i64 0,.int .i64 0,.int .i64 0,.bool false,.int .i64 0,.int .i64 0]⟩,⟨v,75,[.int .i64 q,.int .i64 u,.int .i64 y]⟩,⟨Yc,389,cn p ap r x 0⟩])
 case first=>
  exact oU
 case rest=>
 obtain⟨g,rfl,rfl,U⟩:=hcut;have d1:(q !=q)=false:=aN;have d2:(u !=u)=false:=aN;go_wp2_with(first|(refine aq ?_)|(refine Ws U 75 ?_;clear U;intro v w U G)|(refine VP U gW ?_;clear U;intro g3 w U gJ)|(refine Po U ?_;clear U;intro w U));refine cw results335 rfl rfl ⟨_,U.b ag,rfl⟩ underlying91 rfl aM ?_;have B:=U.b (g:=Yc) ag;exact⟨rfl,B,U.bB,U.Wu⟩
theorem uX(TS:k+1<n)(z l t s' e':Int)(d:Bool)(o:isObj (V k) (V (k+1)) z l t d s' e')(A:s'≠VA h\/e'≠UP h):
 Calls prog 335 #[.pointer (some ⟨Yc,0,none⟩),md h] w0 fun e w'=>(∃z l t d s v,e= .returned (.agg #[.int .i64 z,.int .i64 l,.int .i64 t,.bool d,.int .i64 s,.int .i64 v]))/\ah w' Yc 389 (cn p ap r x 18).toArray/\ar w' ap WC n V/\Z1 (fun b=>b≠Yc/\b≠WC) w0 w':=by
 have U:=Bx.dp hb a h1 f;have hm:=a.cE;clear a hb;have H:=I c;have L:jI (WR h):=by unfold dr at c;unfold jI;omega
 clear c;unfold md;generalize VA h=u at*;generalize UP h=y at*;generalize WR h=B at*;have Vd:=I m;clear m;have O:=I o;clear o;go_enter func335,ntmps335;go_wp2_with(first|(refine aq ?_)|(refine Ws U 75 ?_;clear U;intro vX w U wF)|(refine VP U gW ?_;clear U;intro g3 w U gJ)|(refine Po U ?_;clear U;intro w U));go_cut [5,6]from 7 to 16 (fun C G F=> ∃g,C= .pointer (some ⟨g,0,none⟩)/\G= .int .i64 0/\Bx w0 (fun b=>b≠Yc/\b≠WC) F (some ⟨ap,WC,n,V⟩) [⟨g,91,[.int .i64 z,.int .i64 l,.int .i64 t,.bool d,.int .i64 s',.int .i64 e']⟩,⟨g3,91,[.int .i64 0,.int .i64 0,.int .i64 0,.bool false,.int .i64 0,.int .i64 0]⟩,⟨vX,75,[.int .i64 u,.int .i64 y,.int .i64 B]⟩,⟨Yc,389,cn p ap r x 0⟩])
 case first=>
  exact oU
 case rest=>
 obtain⟨g,rfl,rfl,U⟩:=hcut;by_cases q:s'=u
 ·have d1:(s' !=u)=false:=by simpa using q
  have d2:(e' !=y)=true:=by simp;omega
  clear q A;exact k1
 ·have d1:(s' !=u)=true:=by simpa using q
  clear q A;exact k1
theorem uY(no:sI V n (WR h)):
 Calls prog 335 #[.pointer (some ⟨Yc,0,none⟩),md h] w0 fun e w'=>(∃z l t d s u,e= .returned (.agg #[.int .i64 z,.int .i64 l,.int .i64 t,.bool d,.int .i64 s,.int .i64 u]))/\ah w' Yc 389 (cn p ap r x 18).toArray/\ar w' ap WC n V/\Z1 (fun b=>b≠Yc/\b≠WC) w0 w':=by
 have U:=Bx.dp hb a h1 f;have hm:=a.cE;clear a hb;have M:=I c;have y:jI (WR h):=by unfold dr at c;unfold jI;omega
 clear c;unfold md;generalize VA h=A at*;generalize UP h=F at*;generalize WR h=B at*;have L:=I m;clear m;have v:=I no;clear no;go_enter func335,ntmps335;go_wp2_with(first|(refine aq ?_)|(refine Ws U 75 ?_;clear U;intro vX w U wF)|(refine VP U gW ?_;clear U;intro g3 w U gJ)|(refine Po U ?_;clear U;intro w U));go_cut [5,6]from 7 to 16 (fun C H G=> ∃g,C= .pointer (some ⟨g,0,none⟩)/\H= .int .i64 18/\Bx w0 (fun b=>b≠Yc/\b≠WC) G (some ⟨ap,WC,n,V⟩) [⟨g,91,[.int .i64 0,.int .i64 0,.int .i64 0,.bool false,.int .i64 0,.int .i64 0]⟩,⟨g3,91,[.int .i64 0,.int .i64 0,.int .i64 0,.bool false,.int .i64 0,.int .i64 0]⟩,⟨vX,75,[.int .i64 A,.int .i64 F,.int .i64 B]⟩,⟨Yc,389,cn p ap r x 0⟩])
 case first=>
  replace U:=U.drew;refine b0 ?_;intro X;refine az [[0,1,2,3,4,5]] ?_;refine Zj [6,10] ?_;refine ea (fun K o=>?_) ?_
  ·go_simp;go_at_call 353;refine a6 U (Gm _ _ _ n V _ U.bB v.out y) ?_;clear U;intro q U;go_wp2_with fail;refine PK o fun X=>?_;refine az [[7,8,9],[10,11],[12]] ?_;clear U;intro g3 gJ w U;go_wp2_with fail;go_meet;exact⟨_,rfl,rfl,U⟩
  refine ei (fun K o=>?_);refine ZZ U gW ?_;clear U;intro g3 w U gJ;refine PK o fun X=>?_;refine aF 6 fun K o=>?_;go_simp;go_at_call 353;refine a6 U (Gm _ _ _ n V _ U.bB v.out y) ?_;clear U;intro q U;go_wp2_with fail;refine PK o fun X=>?_;refine az [[7,8,9],[11],[12]] ?_;clear U;intro w U;go_wp2_with fail;go_meet;exact⟨_,rfl,rfl,U⟩
 case rest=>
 obtain⟨g,rfl,rfl,U⟩:=hcut;exact k1
end
end
end
section
theorem oW{G:Prop}(h:G:=by
 have hc:=I dQ;have ru:jI (WR r.hand):=by unfold dr at dQ;unfold jI;omega
 have fG:8<=WR r.hand/\WR r.hand<=65528:=by unfold dr at dQ;omega
 have Vd:=I XD;clear XD dQ;go_enter func274,ntmps274;go_wp2_with(first|(go_at_call 157;refine a6 U (ff _ _ Vi hc.out) ?_;clear U;intro EH U)|(go_at_call 335;refine Calls.mono (oV _ p ap WC n Yc V r x (U.b ag) U.bB h1 Tw UG U4 r.hand hc.out k Vd.out TS _ _ _ _ O.out) ?_;rintro e EH ⟨rfl,N,aH,aX⟩;replace U:=U.call cf N aH aX;clear N aH aX)|(refine aq ?_)|(refine aT ?_;clear U;intro X8 w U T7));have adn:IntKind.i64.wrap (l-1)=l-1:=by rw[IntKind.wrap_i64];omega
 replace U:=U.drew;refine b0 ?_;intro X;refine az [[0,1,2,3,4,5,6,7,8]] ?_;refine aF 9 fun K Z7=>?_;go_simp;go_at_call 104;refine Calls.mono (bm _ _ _ _ (by omega) (by omega)) ?_;rintro e EH ⟨rfl,rfl⟩;go_wp2_with fail;refine PK Z7 fun X=>?_;refine az [[10,11]] ?_;go_wp2_with(first|(refine aq ?_)|(refine aT ?_;clear U;intro X8 w U T7));replace U:=U.drew;refine wp_region_held_drew (by kernel_rfl) (U.h5 (xs:= [19])) (fun X=>?_);refine az [[0,1,2,3]] ?_;refine td 4 ?_;refine Xh 5 ?_;refine td 6 ?_;refine az [[7,8,9,10,11]] ?_;refine td 12 ?_;refine aF 13 fun K Z7=>?_;go_simp;go_at_call 336;refine a6 U (uW _ _ _ n V _ _ k _ _ _ _ _ _ U.bB Vd.out TS O.out kr) ?_;clear U;intro EH U;go_wp2_with fail;refine PK Z7 (fun X=>?_) (by first|exact U.h5|exact U.j1|exact U.j2);refine az [[14,15,16,17,18,19]] ?_;refine aF 20 fun K Z7=>?_;refine uN U ?_;clear U;intro w U VG;refine PK Z7 (fun X=>?_) (by exact X.store VG (by rfl));refine UF ?_;go_wp2_with(first|(refine aq ?_)|(refine aT ?_;clear U;intro X8 w U T7));refine fY ?_;have Yq:=U.b (g:=Yc) ag;exact⟨rfl,Yq,U.bB,U.Wu⟩):G:=h
section
variable(w0:World)(p:PO)(ap WC n Yc:Nat)(V:Nat->Int)(r:RJ)(x:Yr)(hb:ah w0 Yc 389 (cn p ap r x 0).toArray)(a:ar w0 ap WC n V)(h1:Yc≠ap)(Tw:Yc≠WC)(UG:a9 p)(U4:8*p.s<=n)(Vi:aR r.hand)(dQ:dr r.hand)(k:Nat)(XD:WR r.hand=8*k)
include w0 p ap WC n Yc V r x hb a h1 Tw UG U4 Vi dQ k XD
theorem Gp(h:k+1<n)(z l t s' e':Int)(d:Bool)(o:isObj (V k) (V (k+1)) z l t d s' e')(u:s'≠VA r.hand\/e'≠UP r.hand):
 Calls prog 274 #[.pointer (some ⟨Yc,0,none⟩)] w0 fun e w'=>e= .returned (.tuple #[])/\ah w' Yc 389 (cn p ap r x 18).toArray/\ar w' ap WC n V/\Z1 (fun b=>b≠Yc/\b≠WC) w0 w':=by
 have U:=Bx.dp hb a h1 Tw;have hm:=a.cE;clear a hb;have O:=I o;clear o;have m:=I dQ;have F:jI (WR r.hand):=by unfold dr at dQ;unfold jI;omega
 have C:8<=WR r.hand/\WR r.hand<=65528:=by unfold dr at dQ;omega
 have f:=I XD;clear XD dQ;go_enter func274,ntmps274;go_wp2_with(first|(go_at_call 157;refine a6 U (ff _ _ Vi m.out) ?_;clear U;intro c U)|(go_at_call 335;refine Calls.mono (uX _ p ap WC n Yc V r x (U.b ag) U.bB h1 Tw UG U4 r.hand m.out k f.out h _ _ _ _ _ _ O.out u) ?_;rintro e c ⟨⟨z',l',t',d',A,y,rfl⟩,N,i,j⟩;replace U:=U.call cf N i j;clear N i j)|(refine aq ?_)|(refine aT ?_;clear U;intro B w U v));refine fY ?_;have q:=U.b (g:=Yc) ag;exact⟨rfl,q,U.bB,U.Wu⟩
theorem Gq(no:sI V n (WR r.hand)):
 Calls prog 274 #[.pointer (some ⟨Yc,0,none⟩)] w0 fun e w'=>e= .returned (.tuple #[])/\ah w' Yc 389 (cn p ap r x 18).toArray/\ar w' ap WC n V/\Z1 (fun b=>b≠Yc/\b≠WC) w0 w':=by
 have U:=Bx.dp hb a h1 Tw;have hm:=a.cE;clear a hb;have j:=I no;clear no;have i:=I dQ;have v:jI (WR r.hand):=by unfold dr at dQ;unfold jI;omega
 have u:8<=WR r.hand/\WR r.hand<=65528:=by unfold dr at dQ;omega
 have d:=I XD;clear XD dQ;go_enter func274,ntmps274;go_wp2_with(first|(go_at_call 157;refine a6 U (ff _ _ Vi i.out) ?_;clear U;intro c U)|(go_at_call 335;refine Calls.mono (uY _ p ap WC n Yc V r x (U.b ag) U.bB h1 Tw UG U4 r.hand i.out k d.out j.out) ?_;rintro e c ⟨⟨z',l',t',d',q,o,rfl⟩,N,f,h⟩;replace U:=U.call cf N f h;clear N f h)|(refine aq ?_)|(refine aT ?_;clear U;intro t w U m));refine fY ?_;have l:=U.b (g:=Yc) ag;exact⟨rfl,l,U.bB,U.Wu⟩
section
variable(TS:k+1<n)(z l t:Int)(d:Bool)(o:isObj (V k) (V (k+1)) z l t d (VA r.hand) (UP r.hand))
include TS z l t d o
theorem Gr(y:r.call.b<0\/l<=r.call.b):
 Calls prog 274 #[.pointer (some ⟨Yc,0,none⟩)] w0 fun e w'=>e= .returned (.tuple #[])/\ah w' Yc 389 (cn p ap r x 21).toArray/\ar w' ap WC n V/\Z1 (fun b=>b≠Yc/\b≠WC) w0 w':=by
 have U:=Bx.dp hb a h1 Tw;have hm:=a.cE;clear a hb;have B:0<=l/\l<=6:=o.ok.1;have O:=I o;clear o;have m:=I dQ;have A:jI (WR r.hand):=by unfold dr at dQ;unfold jI;omega
 have v:8<=WR r.hand/\WR r.hand<=65528:=by unfold dr at dQ;omega
 have f:=I XD;clear XD dQ;go_enter func274,ntmps274;go_wp2_with(first|(go_at_call 157;refine a6 U (ff _ _ Vi m.out) ?_;clear U;intro c U)|(go_at_call 335;refine Calls.mono (oV _ p ap WC n Yc V r x (U.b ag) U.bB h1 Tw UG U4 r.hand m.out k f.out TS _ _ _ _ O.out) ?_;rintro e c ⟨rfl,N,i,j⟩;replace U:=U.call cf N i j;clear N i j)|(refine aq ?_)|(refine aT ?_;clear U;intro X8 w U T7));have u:IntKind.i64.wrap (l-1)=l-1:=by rw[IntKind.wrap_i64];omega
 replace U:=U.drew;refine b0 ?_;intro X;refine az [[0,1,2,3,4,5,6,7,8]] ?_;refine aF 9 fun K q=>?_;go_simp;go_at_call 104;refine Calls.mono (fq _ _ _ _ J) ?_;rintro e c ⟨rfl,rfl⟩;go_wp2_with fail;refine PK q fun X=>?_;refine az [[10,11]] ?_;exact gz
section
variable(kr:0<=r.call.b/\r.call.b<l)
include kr
theorem Gs(c:r.call.op=8):
 Calls prog 274 #[.pointer (some ⟨Yc,0,none⟩)] w0 fun e w'=>e= .returned (.tuple #[])/\ah w' Yc 389 (cn p ap {r with at_:=WR r.hand+16+8*r.call.b,Xj:=9} x 0).toArray/\ar w' ap WC n V/\Z1 (fun b=>b≠Yc/\b≠WC) w0 w':=by
 have U:=Bx.dp hb a h1 Tw;have hm:=a.cE;clear a hb;have f:0<=l/\l<=6:=o.ok.1;have O:=I o;clear o;have d1:(r.call.op==8)=true:=by simpa using c
 clear c;exact oW
theorem Gt(c:r.call.op≠8)(hv:r.val=0):
 Calls prog 274 #[.pointer (some ⟨Yc,0,none⟩)] w0 fun e w'=>e= .returned (.tuple #[])/\ah w' Yc 389 (cn p ap {r with at_:=WR r.hand+16+8*r.call.b,Xj:=10} x 0).toArray/\ar w' ap WC n V/\Z1 (fun b=>b≠Yc/\b≠WC) w0 w':=by
 have U:=Bx.dp hb a h1 Tw;have hm:=a.cE;clear a hb;have f:0<=l/\l<=6:=o.ok.1;have O:=I o;clear o;have d1:(r.call.op==8)=false:=by simpa using c
 clear c;have d2:(r.val==0)=true:=by simpa using hv
 clear hv;exact oW
theorem zs(v:r.call.op≠8)(hv:r.val≠0)(C:aR r.val)(S:Nat->Prop)(i:de w0 S x.TQ r.chain)(R:r.chain.length<=6)(hS: ∀b,b<w0.heap.size->S b->b≠Yc/\b≠WC):
 Calls prog 274 #[.pointer (some ⟨Yc,0,none⟩)] w0 fun e w'=>e= .returned (.tuple #[])/\ah w' Yc 389 (cn p ap {r with at_:=WR r.hand+16+8*r.call.b,Xj:=7} x (check p r.chain r.val)).toArray/\ar w' ap WC n V/\Z1 (fun b=>b≠Yc/\b≠WC) w0 w':=by
 have U:=Bx.dp hb a h1 Tw;have hm:=a.cE;clear a hb;have ti:0<=l/\l<=6:=o.ok.1;have O:=I o;clear o;have d1:(r.call.op==8)=false:=by simpa using v
 clear v;have d2:(r.val==0)=false:=by simpa using hv
 clear hv;obtain⟨F,u,j,-,-,-⟩:=id i;have H:=I i;clear i;obtain⟨M,ls,G,Y1⟩:=x;simp only at j;subst j;have B:=I dQ;have W:jI (WR r.hand):=by unfold dr at dQ;unfold jI;omega
 have T:8<=WR r.hand/\WR r.hand<=65528:=by unfold dr at dQ;omega
 have m:=I XD;clear XD dQ;go_enter func274,ntmps274;go_wp2_with(first|(go_at_call 157;refine a6 U (ff _ _ Vi B.out) ?_;clear U;intro f U)|(go_at_call 335;refine Calls.mono (oV _ p ap WC n Yc V r ⟨.slice F r.chain.length u,ls,G,Y1⟩ (U.b ag) U.bB h1 Tw UG U4 r.hand B.out k m.out TS _ _ _ _ O.out) ?_;rintro e f ⟨rfl,N,y,A⟩;replace U:=U.call cf N y A;clear N y A)|(refine aq ?_)|(refine aT ?_;clear U;intro X8 w U T7));have P:IntKind.i64.wrap (l-1)=l-1:=by rw[IntKind.wrap_i64];omega
 replace U:=U.drew;refine b0 ?_;intro X;refine az [[0,1,2,3,4,5,6,7,8]] ?_;refine aF 9 fun K c=>?_;go_simp;go_at_call 104;refine Calls.mono (bm _ _ _ _ J J) ?_;rintro e f ⟨rfl,rfl⟩;go_wp2_with fail;refine PK c fun X=>?_;refine az [[10,11]] ?_;go_wp2_with(first|(refine aq ?_)|(refine aT ?_;clear U;intro X8 w U T7));replace U:=U.drew;refine wp_region_held_drew aM (U.h5 (xs:= [19])) (fun X=>?_);refine az [[0,1,2,3]] ?_;refine td 4 ?_;refine Xh 5 ?_;refine td 6 ?_;refine az [[7,8,9,10,11]] ?_;refine td 12 ?_;refine aF 13 fun K c=>?_;go_simp;go_at_call 336;refine a6 U (uW _ _ _ n V _ _ k _ _ _ _ _ _ U.bB m.out TS O.out kr) ?_;clear U;intro f U;go_wp2_with fail;refine PK c (fun X=>?_) (by first|exact U.h5|exact U.j1|exact U.j2);refine az [[14,15,16,17,18,19]] ?_;refine aF 20 fun K c=>?_;refine uN U ?_;clear U;intro w U q;refine PK c (fun X=>?_) (by exact X.store q (by rfl));refine UF ?_;go_wp2_with(first|(refine aq ?_)|(refine aT ?_;clear U;intro X8 w U T7));replace U:=U.drew;refine wp_region_held_drew aM (U.h5 (xs:= [31])) (fun X=>?_);refine az [[0,1,2,3]] ?_;refine Oj 4 4 ?_;refine az [[5,6,7,8]] ?_;refine td 9 ?_;refine az [[10,11,12,13]] ?_;refine td 14 ?_;refine aF 15 fun K c=>?_;go_simp;go_at_call 260;refine Calls.mono (zg _ _ _ p r.chain r.val C (H.out.Wu (U.Wu.mono hS)) J) ?_;rintro e f ⟨q1,Q,L,rfl,N⟩;replace U:=U.below N;clear N;go_wp2_with fail;refine PK c (fun X=>?_) (by first|exact U.h5|exact U.j1|exact U.j2);refine az [[16,17,18,19,20]] ?_;refine aF 21 fun K c=>?_;refine uN U ?_;clear U;intro w U q;refine PK c (fun X=>?_) (by exact X.store q (by rfl));refine UF ?_;exact gz
end
end
end
end
section
theorem ql{G:Prop}(h:G:=by
 have U:=Bx.dp hb Xg h1 Tw;have hm:=Xg.cE;clear Xg hb;have O:=I o;clear o;have d1:(r.call.op==9)=true:=by simpa using ZQ
 clear ZQ;obtain⟨W9,Tv,UR,-,-,-⟩:=id ZW;have Yl:=I ZW;have ML:=I xi;clear ZW xi;obtain⟨TQ,ls,Wh,Y1⟩:=x;simp only at UR;subst UR;have hc:=I dQ;have adT:=I rN;have Vd:=I XD;clear XD dQ rN;go_enter func275,ntmps275;go_wp2_with(first|(go_at_call 157;refine a6 U (ff _ _ (by first|exact Vi|exact Dt) (by first|exact hc.out|exact adT.out)) ?_;clear U;intro EH U)|(go_at_call 335;refine Calls.mono (oV _ p ap WC n Yc V r ⟨.slice W9 r.chain.length Tv,ls,Wh,Y1⟩ (U.b ag) U.bB h1 Tw UG U4 r.val hc.out k Vd.out TS _ _ _ _ O.out) ?_;rintro e EH ⟨rfl,N,aH,aX⟩;replace U:=U.call cf N aH aX;clear N aH aX)|(refine aq ?_)|(refine aT ?_;clear U;intro X8 w U T7));replace U:=U.drew;refine b0 ?_;intro X;refine az [[0,1,2,3,4,5,6,7,8,9,10,11,12,13]] ?_;refine aF 14 fun K Z7=>?_;go_simp
 (first|(go_at_call 296;refine a6 U (x9 _ _ _ _ _ _ (Yl.out.Wu (U.Wu.mono hS)) (by omega)) ?_;clear U;intro EH U;rw[ML.out])|skip)
 (try go_wp2_with fail)
 refine PK Z7 fun X=>?_;refine az [[15,16]] ?_;exact gz):G:=h
theorem oX{G:Prop}(h:G:=by
 have U:=Bx.dp hb Xg h1 Tw;have hm:=Xg.cE;clear Xg hb;have O:=I o;clear o;have d1:(r.call.op==9)=false:=by simpa using ZQ
 clear ZQ;obtain⟨W9,Tv,UR,-,-,-⟩:=id ZW;have Yl:=I ZW;have ML:=I xi;clear ZW xi;obtain⟨TQ,ls,Wh,Y1⟩:=x;simp only at UR;subst UR;have hc:=I dQ;have Vd:=I XD;clear XD dQ;go_enter func275,ntmps275;go_wp2_with(first|(go_at_call 157;refine a6 U (ff _ _ Vi hc.out) ?_;clear U;intro EH U)|(go_at_call 335;refine Calls.mono (oV _ p ap WC n Yc V r ⟨.slice W9 r.chain.length Tv,ls,Wh,Y1⟩ (U.b ag) U.bB h1 Tw UG U4 r.val hc.out k Vd.out TS _ _ _ _ O.out) ?_;rintro e EH ⟨rfl,N,aH,aX⟩;replace U:=U.call cf N aH aX;clear N aH aX)|(refine aq ?_)|(refine aT ?_;clear U;intro X8 w U T7));replace U:=U.drew;refine b0 ?_;intro X;refine az [[0,1,2,3,4,5,6,7,8,9,10,11,12,13]] ?_;refine aF 14 fun K Z7=>?_;go_simp
 (first|(go_at_call 296;refine a6 U (x9 _ _ _ _ _ _ (Yl.out.Wu (U.Wu.mono hS)) (by omega)) ?_;clear U;intro EH U;rw[ML.out])|skip)
 (try go_wp2_with fail)
 refine PK Z7 fun X=>?_;refine az [[15,16]] ?_;exact gz):G:=h
theorem i2{G:Prop}(h:G:=by
 replace U:=U.drew;refine b0 ?_;intro X;refine az [[0,1,2,3,4,5,6,7,8,9,10,11,12,13]] ?_;refine aF 14 fun K Z7=>?_;go_simp
 (first|fail|skip)
 (try go_wp2_with fail)
 refine PK Z7 fun X=>?_;refine az [[15,16]] ?_;exact gz):G:=h
section
variable(w0:World)(p:PO)(ap WC n Yc:Nat)(V:Nat->Int)(r:RJ)(x:Yr)(hb:ah w0 Yc 389 (cn p ap r x 0).toArray)(Xg:ar w0 ap WC n V)(h1:Yc≠ap)(Tw:Yc≠WC)(UG:a9 p)(U4:8*p.s<=n)(Vi:aR r.val)(dQ:dr r.val)(k:Nat)(XD:WR r.val=8*k)
include w0 p ap WC n Yc V r x hb Xg h1 Tw UG U4 Vi dQ k XD
theorem Du(f:k+1<n)(z l t s' e':Int)(d:Bool)(o:isObj (V k) (V (k+1)) z l t d s' e')(y:s'≠VA r.val\/e'≠UP r.val)(i:r.call.op=9)(v:aR r.hand)(u:dr r.hand):
 Calls prog 275 #[.pointer (some ⟨Yc,0,none⟩)] w0 fun e w'=>e= .returned (.tuple #[])/\ah w' Yc 389 (cn p ap {r with Xj:=10} x 18).toArray/\ar w' ap WC n V/\Z1 (fun b=>b≠Yc/\b≠WC) w0 w':=by
 have U:=Bx.dp hb Xg h1 Tw;have hm:=Xg.cE;clear Xg hb;have O:=I o;clear o;have d1:(r.call.op==9)=true:=by simpa using i
 clear i;have q:=I dQ;have A:=I u;have c:=I XD;clear XD dQ u;go_enter func275,ntmps275;go_wp2_with(first|(go_at_call 157;refine a6 U (ff _ _ (by first|exact Vi|exact v) (by first|exact q.out|exact A.out)) ?_;clear U;intro a U)|(go_at_call 335;refine Calls.mono (uX _ p ap WC n Yc V r x (U.b ag) U.bB h1 Tw UG U4 r.val q.out k c.out f _ _ _ _ _ _ O.out y) ?_;rintro e a ⟨⟨z',l',t',d',C,B,rfl⟩,N,j,m⟩;replace U:=U.call cf N j m;clear N j m)|(refine aq ?_)|(refine aT ?_;clear U;intro X8 w U T7));exact i2
theorem Dv(no:sI V n (WR r.val))(d:r.call.op=9)(m:aR r.hand)(l:dr r.hand):
 Calls prog 275 #[.pointer (some ⟨Yc,0,none⟩)] w0 fun e w'=>e= .returned (.tuple #[])/\ah w' Yc 389 (cn p ap {r with Xj:=10} x 18).toArray/\ar w' ap WC n V/\Z1 (fun b=>b≠Yc/\b≠WC) w0 w':=by
 have U:=Bx.dp hb Xg h1 Tw;have hm:=Xg.cE;clear Xg hb;have o:=I no;clear no;have d1:(r.call.op==9)=true:=by simpa using d
 clear d;have j:=I dQ;have q:=I l;have c:=I XD;clear XD dQ l;go_enter func275,ntmps275;go_wp2_with(first|(go_at_call 157;refine a6 U (ff _ _ (by first|exact Vi|exact m) (by first|exact j.out|exact q.out)) ?_;clear U;intro a U)|(go_at_call 335;refine Calls.mono (uY _ p ap WC n Yc V r x (U.b ag) U.bB h1 Tw UG U4 r.val j.out k c.out o.out) ?_;rintro e a ⟨⟨z',l',t',d',v,u,rfl⟩,N,f,i⟩;replace U:=U.call cf N f i;clear N f i)|(refine aq ?_)|(refine aT ?_;clear U;intro X8 w U T7));exact i2
section
variable(TS:k+1<n)(z l t:Int)(d:Bool)(o:isObj (V k) (V (k+1)) z l t d (VA r.val) (UP r.val))(ZQ:r.call.op=9)(Dt:aR r.hand)(rN:dr r.hand)(S:Nat->Prop)(ZW:de w0 S x.TQ r.chain)(a:r.chain.length<=6)(hS: ∀b,b<w0.heap.size->S b->b≠Yc/\b≠WC)
include TS z l t d o ZQ Dt rN S ZW a hS
theorem Dw(xi:kt r.chain (VA r.val) (VA r.hand)=true):
 Calls prog 275 #[.pointer (some ⟨Yc,0,none⟩)] w0 fun e w'=>e= .returned (.tuple #[])/\ah w' Yc 389 (cn p ap {r with Xj:=10} x 0).toArray/\ar w' ap WC n V/\Z1 (fun b=>b≠Yc/\b≠WC) w0 w':=by
 exact ql
theorem Dx(xi:kt r.chain (VA r.val) (VA r.hand)=false):
 Calls prog 275 #[.pointer (some ⟨Yc,0,none⟩)] w0 fun e w'=>e= .returned (.tuple #[])/\ah w' Yc 389 (cn p ap {r with Xj:=10} x 22).toArray/\ar w' ap WC n V/\Z1 (fun b=>b≠Yc/\b≠WC) w0 w':=by
 exact ql
end
theorem Ba(f:k+1<n)(z l t s' e':Int)(d:Bool)(o:isObj (V k) (V (k+1)) z l t d s' e')(u:s'≠VA r.val\/e'≠UP r.val)(i:r.call.op≠9):
 Calls prog 275 #[.pointer (some ⟨Yc,0,none⟩)] w0 fun e w'=>e= .returned (.tuple #[])/\ah w' Yc 389 (cn p ap {r with Xj:=12} x 18).toArray/\ar w' ap WC n V/\Z1 (fun b=>b≠Yc/\b≠WC) w0 w':=by
 have U:=Bx.dp hb Xg h1 Tw;have hm:=Xg.cE;clear Xg hb;have O:=I o;clear o;have d1:(r.call.op==9)=false:=by simpa using i
 clear i;have q:=I dQ;have c:=I XD;clear XD dQ;go_enter func275,ntmps275;go_wp2_with(first|(go_at_call 157;refine a6 U (ff _ _ Vi q.out) ?_;clear U;intro a U)|(go_at_call 335;refine Calls.mono (uX _ p ap WC n Yc V r x (U.b ag) U.bB h1 Tw UG U4 r.val q.out k c.out f _ _ _ _ _ _ O.out u) ?_;rintro e a ⟨⟨z',l',t',d',y,v,rfl⟩,N,j,m⟩;replace U:=U.call cf N j m;clear N j m)|(refine aq ?_)|(refine aT ?_;clear U;intro X8 w U T7));exact i2
theorem Bb(no:sI V n (WR r.val))(d:r.call.op≠9):
 Calls prog 275 #[.pointer (some ⟨Yc,0,none⟩)] w0 fun e w'=>e= .returned (.tuple #[])/\ah w' Yc 389 (cn p ap {r with Xj:=12} x 18).toArray/\ar w' ap WC n V/\Z1 (fun b=>b≠Yc/\b≠WC) w0 w':=by
 have U:=Bx.dp hb Xg h1 Tw;have hm:=Xg.cE;clear Xg hb;have l:=I no;clear no;have d1:(r.call.op==9)=false:=by simpa using d
 clear d;have j:=I dQ;have c:=I XD;clear XD dQ;go_enter func275,ntmps275;go_wp2_with(first|(go_at_call 157;refine a6 U (ff _ _ Vi j.out) ?_;clear U;intro a U)|(go_at_call 335;refine Calls.mono (uY _ p ap WC n Yc V r x (U.b ag) U.bB h1 Tw UG U4 r.val j.out k c.out l.out) ?_;rintro e a ⟨⟨z',l',t',d',o,m,rfl⟩,N,f,i⟩;replace U:=U.call cf N f i;clear N f i)|(refine aq ?_)|(refine aT ?_;clear U;intro X8 w U T7));exact i2
section
variable(TS:k+1<n)(z l t:Int)(d:Bool)(o:isObj (V k) (V (k+1)) z l t d (VA r.val) (UP r.val))(ZQ:r.call.op≠9)(S:Nat->Prop)(ZW:de w0 S x.TQ r.chain)(c:r.chain.length<=6)(hS: ∀b,b<w0.heap.size->S b->b≠Yc/\b≠WC)
include TS z l t d o ZQ S ZW c hS
theorem Bc(xi:kt r.chain (VA r.val) r.call.a=true):
 Calls prog 275 #[.pointer (some ⟨Yc,0,none⟩)] w0 fun e w'=>e= .returned (.tuple #[])/\ah w' Yc 389 (cn p ap {r with Xj:=12} x 0).toArray/\ar w' ap WC n V/\Z1 (fun b=>b≠Yc/\b≠WC) w0 w':=by
 exact oX
theorem Bd(xi:kt r.chain (VA r.val) r.call.a=false):
 Calls prog 275 #[.pointer (some ⟨Yc,0,none⟩)] w0 fun e w'=>e= .returned (.tuple #[])/\ah w' Yc 389 (cn p ap {r with Xj:=12} x 22).toArray/\ar w' ap WC n V/\Z1 (fun b=>b≠Yc/\b≠WC) w0 w':=by
 exact oX
end
end
end
section
theorem o6{G:Prop}(h:G:=by
 go_wp2_with fail;refine PK Z7 fun X=>?_;refine az [[17,18,19,20,21]] ?_;go_wp2_with(first|(go_at_call 239;refine a6 U (gQ _ _ ki.out Wy) ?_;clear U;intro EH U;rw[Wj.out])|(refine aq ?_)|(refine aT ?_;clear U;intro X8 w U T7));refine fY ?_;have Yq:=U.b (g:=Yc) ag;exact⟨rfl,Yq,U.bB,U.Wu⟩):G:=h
section
variable(w0:World)(p:PO)(a:Value)
include w0 p a
theorem g6(ap d:Nat)(r:RJ)(x:Yr)(q:Int)(hb:ah w0 d 386 (bp p a ap r x).toArray)(c:a9 p)(j:0<=r.af/\r.af<p.s)(f:0<=q/\q<=4):
 Calls prog 351 #[.pointer (some ⟨d,0,none⟩),.int .i64 q] w0 fun e w'=>e= .returned (.int .i64 (64*r.af+8*q))/\Below w0.heap.size w0 w':=by
 have U:=Bx.g8 hb;have b:=I hb;clear hb;go_enter func351,ntmps351;go_wp2_with(first|(refine aq ?_));replace U:=U.drew;refine b0 ?_;intro X;refine az [[0,1,2,3,4,5,6,7,8,9]] ?_;refine aF 10 fun K i=>?_;go_simp;go_at_call 155;refine a6 U (iX p _ _ _ c f j) ?_;clear U;intro l U;go_wp2_with fail;refine PK i fun X=>?_;refine az [[11,12,13,14,15]] ?_;go_wp2_with(first|(refine aq ?_));go_ret;exact⟨rfl,U.ro b.out ag⟩
section
variable(ap f n Yc:Nat)(V:Nat->Int)(r:RJ)(x:Yr)
include ap f n Yc V r x
theorem u2(q v:Int)(hv:V (8*r.af.toNat+q.toNat)=v)(hb:ah w0 Yc 386 (bp p a ap r x).toArray)(o:ar w0 ap f n V)(i:a9 p)(A:8*p.s<=n)(y:0<=r.af/\r.af<p.s)(m:0<=q/\q<=4):
 Calls prog 350 #[.pointer (some ⟨Yc,0,none⟩),.int .i64 q] w0 fun e w'=>e= .returned (.int .u64 v)/\Below w0.heap.size w0 w':=by
 have U:=Bx.g8 hb;have u:=I o;have d:=I hb;have z:8*r.af.toNat+q.toNat<n:=J;have l:=I hv;clear o hb hv;go_enter func350,ntmps350;go_wp2_with(first|(refine UQ U ?_));replace U:=U.drew;refine b0 ?_;intro X;refine az [[0,1,2,3,4,5]] ?_;refine aF 6 fun K j=>?_;go_simp
 (first|(go_at_call 351;refine a6 U (g6 _ p a ap Yc r x q (U.b ag) i y m) ?_;clear U;intro c U)|(go_at_call 176;refine Calls.mono (eL _ _ _ n V _ (8*r.af.toNat+q.toNat) (U.EP d.out ag u.out) J z) ?_;rintro e c ⟨rfl,rfl⟩;rw[l.out]))
 go_wp2_with fail;refine PK j fun X=>?_;refine aF 7 fun K j=>?_;go_simp
 (first|(go_at_call 351;refine a6 U (g6 _ p a ap Yc r x q (U.b ag) i y m) ?_;clear U;intro c U)|(go_at_call 176;refine Calls.mono (eL _ _ _ n V _ (8*r.af.toNat+q.toNat) (U.EP d.out ag u.out) J z) ?_;rintro e c ⟨rfl,rfl⟩;rw[l.out]))
 go_wp2_with fail;refine PK j fun X=>?_;refine az [[8,9,10,11,12]] ?_;go_wp2_with(first|(refine UQ U ?_));go_ret;exact⟨rfl,U.ro d.out ag⟩
theorem tA(q y:Int)(hb:ah w0 Yc 386 (bp p a ap r x).toArray)(o:ar w0 ap f n V)(h1:Yc≠ap)(l:Yc≠f)(i:a9 p)(v:8*p.s<=n)(u:0<=r.af/\r.af<p.s)(m:0<=q/\q<=4)(hy:aR y):
 Calls prog 360 #[.pointer (some ⟨Yc,0,none⟩),.int .i64 q,.int .u64 y] w0 fun e w'=>e= .returned (.tuple #[])/\ah w' Yc 386 (bp p a ap r x).toArray/\ar w' ap f n (upd V (8*r.af.toNat+q.toNat) y)/\Z1 (fun b=>b≠Yc/\b≠f) w0 w':=by
 have U:=Bx.dp hb o h1 l;clear o hb;go_enter func360,ntmps360;go_wp2_with(first|(refine UQ U ?_));replace U:=U.drew;refine b0 ?_;intro X;refine az [[0,1,2,3,4,5,7]] ?_;refine aF 6 fun K j=>?_;go_simp
 (first|(go_at_call 351;refine a6 U (g6 _ p a ap Yc r x q (U.b ag) i u m) ?_;clear U;intro c U)|(go_at_call 279;refine Calls.mono (iJ _ _ _ n V _ _ (8*r.af.toNat+q.toNat) U.bB J J hy) ?_;rintro e c ⟨rfl,d,N⟩;replace U:=U.arena d N;clear d N))
 go_wp2_with fail;refine PK j fun X=>?_;refine aF 8 fun K j=>?_;go_simp
 (first|(go_at_call 351;refine a6 U (g6 _ p a ap Yc r x q (U.b ag) i u m) ?_;clear U;intro c U)|(go_at_call 279;refine Calls.mono (iJ _ _ _ n V _ _ (8*r.af.toNat+q.toNat) U.bB J J hy) ?_;rintro e c ⟨rfl,d,N⟩;replace U:=U.arena d N;clear d N))
 go_wp2_with fail;refine PK j fun X=>?_;refine UF ?_;go_wp2_with(first|(refine UQ U ?_));refine fY ?_;exact⟨rfl,U.b (g:=Yc) ag,U.bB,U.Wu⟩
section
variable(hb:ah w0 Yc 386 (bp p a ap r x).toArray)(i:ar w0 ap f n V)(h1:Yc≠ap)(j:Yc≠f)
include hb i h1 j
section
variable(l:a9 p)(o:8*p.s<=n)(m:0<=r.af/\r.af<p.s)
include l o m
theorem Jw(ok:okW (V (8*r.af.toNat)))(u:(Wi V r.af.toNat).st=2):
 Calls prog 323 #[.pointer (some ⟨Yc,0,none⟩)] w0 fun e w'=>e= .returned (.tuple #[])/\ah w' Yc 386 (bp p a ap {r with word:=V (8*r.af.toNat),next:=TK (ic (Wi V r.af.toNat)),Xj:=16} x).toArray/\ar w' ap f n V/\Z1 (fun b=>b≠Yc/\b≠f) w0 w':=by
 have U:=Bx.dp hb i h1 j;have hm:=i.cE;clear i hb;have F:=I ok;have B:aR (V (8*r.af.toNat)):=by have:=ok.ok.UK;have e:=ok.eq;unfold aR;omega
 have t:=I ok.ok;have h:=I (ok.ok.leave u).1;unfold Wi at u⊢;clear ok;obtain⟨v,z⟩: ∃v,Hid (V (8*r.af.toNat)=v):=⟨_,I rfl⟩
 rw[z.out]at F B t h u⊢;obtain⟨c,A⟩: ∃c,Hid (up v=c):=⟨_,I rfl⟩
 rw[A.out]at t h u⊢;have C:=fun w=>Ct c w t.out u;obtain⟨d,y⟩: ∃d,Hid (ic c=d):=⟨_,I rfl⟩
 rw[y.out]at h C⊢;clear u;go_enter func323,ntmps323;go_wp2_with(first|(go_at_call 350;refine a6 U (u2 _ p a ap f n Yc V _ _ 0 v z.out (U.b ag) U.bB l o m J) ?_;clear U;intro q U)|(go_at_call 239;refine a6 U (gQ _ _ F.out B) ?_;clear U;intro q U;rw[A.out])|(go_at_call 291;refine a6 U (C _) ?_;clear U;intro q U)|(go_at_call 278;refine a6 U (nD _ _ h.out) ?_;clear U;intro q U)|(refine aq ?_)|(refine aT ?_;clear U;intro K w U H));refine fY ?_;have G:=U.b (g:=Yc) ag;exact⟨rfl,G,U.bB,U.Wu⟩
theorem DK(ok:okW r.next)(d:V (8*r.af.toNat)≠r.word):
 Calls prog 324 #[.pointer (some ⟨Yc,0,none⟩)] w0 fun e w'=>e= .returned (.tuple #[])/\ah w' Yc 386 (bp p a ap {r with word:=0,next:=0,Xj:=15} x).toArray/\ar w' ap f n V/\Z1 (fun b=>b≠Yc/\b≠f) w0 w':=by
 have U:=Bx.dp hb i h1 j;have hm:=i.cE;clear i hb;have ki:=I ok;have Wy:aR r.next:=by have:=ok.ok.UK;have e:=ok.eq;unfold aR;omega
 have q:=I d;obtain⟨c,Wj⟩: ∃c,Hid (up r.next=c):=⟨_,I rfl⟩
 clear ok d;go_enter func324,ntmps324;go_wp2_with(first|(refine aq ?_)|(refine aT ?_;clear U;intro X8 w U T7));replace U:=U.drew;refine b0 ?_;intro X;refine az [[0,1,2,3,4,6,7,8,9,10,11,12,13,14,15]] ?_;refine aF 5 fun K Z7=>?_;go_simp
 (first|(go_at_call 351;refine a6 U (g6 _ p a ap Yc r x 0 (U.b ag) l m J) ?_;clear U;intro EH U)|(go_at_call 322;refine Calls.mono (w4 _ _ _ n V _ _ _ (8*r.af.toNat) U.bB J J q.out) ?_;rintro e EH ⟨rfl,rfl⟩))
 go_wp2_with fail;refine PK Z7 fun X=>?_;refine aF 16 fun K Z7=>?_;go_simp
 (first|(go_at_call 351;refine a6 U (g6 _ p a ap Yc r x 0 (U.b ag) l m J) ?_;clear U;intro EH U)|(go_at_call 322;refine Calls.mono (w4 _ _ _ n V _ _ _ (8*r.af.toNat) U.bB J J q.out) ?_;rintro e EH ⟨rfl,rfl⟩))
 exact o6
theorem DL(ok:okW r.next)(u:V (8*r.af.toNat)=r.word)(q:(up r.next).st=3):
 Calls prog 324 #[.pointer (some ⟨Yc,0,none⟩)] w0 fun e w'=>e= .returned (.tuple #[])/\ah w' Yc 386 (bp p a ap {r with Xj:=17} x).toArray/\ar w' ap f n (upd V (8*r.af.toNat) r.next)/\Z1 (fun b=>b≠Yc/\b≠f) w0 w':=by
 have U:=Bx.dp hb i h1 j;have hm:=i.cE;clear i hb;have ki:=I ok;have Wy:aR r.next:=by have:=ok.ok.UK;have e:=ok.eq;unfold aR;omega
 have v:=I u;obtain⟨c,Wj⟩: ∃c,Hid (up r.next=c):=⟨_,I rfl⟩
 rw[Wj.out]at q;have d3:(c.st==3)=true:=by simpa using q
 clear q;clear ok u;go_enter func324,ntmps324;go_wp2_with(first|(refine aq ?_)|(refine aT ?_;clear U;intro X8 w U T7));replace U:=U.drew;refine b0 ?_;intro X;refine az [[0,1,2,3,4,6,7,8,9,10,11,12,13,14,15]] ?_;refine aF 5 fun K Z7=>?_;go_simp
 (first|(go_at_call 351;refine a6 U (g6 _ p a ap Yc r x 0 (U.b ag) l m J) ?_;clear U;intro EH U)|(go_at_call 322;refine Calls.mono (q4 _ _ _ n V _ _ _ (8*r.af.toNat) U.bB J J Wy v.out) ?_;rintro e EH ⟨rfl,d,N⟩;replace U:=U.arena d N;clear d N))
 go_wp2_with fail;refine PK Z7 fun X=>?_;refine aF 16 fun K Z7=>?_;go_simp
 (first|(go_at_call 351;refine a6 U (g6 _ p a ap Yc r x 0 (U.b ag) l m J) ?_;clear U;intro EH U)|(go_at_call 322;refine Calls.mono (q4 _ _ _ n V _ _ _ (8*r.af.toNat) U.bB J J Wy v.out) ?_;rintro e EH ⟨rfl,d,N⟩;replace U:=U.arena d N;clear d N))
 exact o6
end
theorem DM(S:Nat->Prop)(l:aW w0 S r x)(bE:dx r)(hS: ∀b,b<w0.heap.size->S b->b≠Yc/\b≠f)(B:a9 p)(U4:8*p.s<=n)(W:0<=r.af/\r.af<p.s)(ok:okW r.next)(Q:V (8*r.af.toNat)=r.word)(L:(up r.next).st≠3):
 Calls prog 324 #[.pointer (some ⟨Yc,0,none⟩)] w0 fun e w'=> ∃v,e= .returned (.tuple #[])/\cF w' (fun b=>w0.heap.size<=b/\b≠Yc/\b≠f) v r.said/\ah w' Yc 386 (bp p a ap (tell r 0 0) {x with Y1:=v}).toArray/\ar w' ap f n (upd V (8*r.af.toNat) r.next)/\Z1 (fun b=>b≠Yc/\b≠f) w0 w':=by
 have U:=Bx.dp hb i h1 j;have P:=I l;obtain⟨C,q,u,o,m,y,z,H,rfl⟩:=eW l;have hm:=i.cE;clear i hb l;have ki:=I ok;have F:aR r.next:=by have:=ok.ok.UK;have e:=ok.eq;unfold aR;omega
 have T:=I Q;obtain⟨c,R⟩: ∃c,Hid (up r.next=c):=⟨_,I rfl⟩
 rw[R.out]at L;have d3:(c.st==3)=false:=by simpa using L
 clear L;clear ok Q;go_enter func324,ntmps324;go_wp2_with(first|(refine aq ?_)|(refine aT ?_;clear U;intro X8 w U O));replace U:=U.drew;refine b0 ?_;intro X;refine az [[0,1,2,3,4,6,7,8,9,10,11,12,13,14,15]] ?_;refine aF 5 fun K G=>?_;go_simp
 (first|(go_at_call 351;refine a6 U (g6 _ p a ap Yc r ⟨.slice C r.chain.length q,.slice u r.list.length o,.slice m r.said.length y,.slice z r.aC.said.length H⟩ 0 (U.b ag) B W J) ?_;clear U;intro d U)|(go_at_call 322;refine Calls.mono (q4 _ _ _ n V _ _ _ (8*r.af.toNat) U.bB J J F T.out) ?_;rintro e d ⟨rfl,A,N⟩;replace U:=U.arena A N;clear A N))
 go_wp2_with fail;refine PK G fun X=>?_;refine aF 16 fun K G=>?_;go_simp
 (first|(go_at_call 351;refine a6 U (g6 _ p a ap Yc r ⟨.slice C r.chain.length q,.slice u r.list.length o,.slice m r.said.length y,.slice z r.aC.said.length H⟩ 0 (U.b ag) B W J) ?_;clear U;intro d U)|(go_at_call 322;refine Calls.mono (q4 _ _ _ n V _ _ _ (8*r.af.toNat) U.bB J J F T.out) ?_;rintro e d ⟨rfl,A,N⟩;replace U:=U.arena A N;clear A N))
 go_wp2_with fail;refine PK G fun X=>?_;refine az [[17,18,19,20,21]] ?_;go_wp2_with(first|(go_at_call 239;refine a6 U (gQ _ _ ki.out F) ?_;clear U;intro d U;rw[R.out])|(go_at_call 184;refine Calls.mono (hg _ _ r ⟨.slice C r.chain.length q,.slice u r.list.length o,.slice m r.said.length y,.slice z r.aC.said.length H⟩ _ _ (P.out.Wu (U.Wu.mono hS)) bE) ?_;rintro e d ⟨v',rfl,M,N⟩;obtain⟨Uu,Ug,rfl,-,-,-⟩:=id M;have hv:=U.eh M;clear M;have DI:=U.below N;clear U N;have U:=DI.base)|(refine aq ?_)|(refine aT ?_;clear U;intro X8 w U O));exact mL
section
variable(d:a9 p)(c:8*p.s<=n)(h:0<=r.af/\r.af<p.s)
include d c h
theorem DN(o:0<=bs V r.af.toNat/\bs V r.af.toNat<=65536):
 Calls prog 325 #[.pointer (some ⟨Yc,0,none⟩)] w0 fun e w'=>e= .returned (.tuple #[])/\ah w' Yc 386 (bp p a ap {r with word:=bs V r.af.toNat,at_:=bs V r.af.toNat,Xj:=18} x).toArray/\ar w' ap f n V/\Z1 (fun b=>b≠Yc/\b≠f) w0 w':=by
 have U:=Bx.dp hb i h1 j;have hm:=i.cE;clear i hb;obtain⟨b,l⟩: ∃b,Hid (bs V r.af.toNat=b):=⟨_,I rfl⟩
 rw[l.out]at o⊢;go_enter func325,ntmps325;go_wp2_with(first|(go_at_call 350;refine a6 U (u2 _ p a ap f n Yc V _ _ 1 b l.out (U.b ag) U.bB d c h J) ?_;clear U;intro q U)|(refine aq ?_)|(refine Po U ?_;clear U;intro w U));refine fY ?_;have m:=U.b (g:=Yc) ag;exact⟨rfl,m,U.bB,U.Wu⟩
theorem DO:
 Calls prog 333 #[.pointer (some ⟨Yc,0,none⟩)] w0 fun e w'=>e= .returned (.tuple #[])/\ah w' Yc 386 (bp p a ap {r with Xj:=26} x).toArray/\ar w' ap f n (upd V (8*r.af.toNat+3) 0)/\Z1 (fun b=>b≠Yc/\b≠f) w0 w':=by
 have U:=Bx.dp hb i h1 j;have hm:=i.cE;clear i hb;go_enter func333,ntmps333;go_wp2_with(first|(go_at_call 360;refine Calls.mono (tA _ p a ap f n Yc V r x 3 0 (U.b ag) U.bB h1 j d c h J am) ?_;rintro e q ⟨rfl,N,l,m⟩;replace U:=U.call cf N l m;clear N l m)|(refine Po U ?_;clear U;intro w U));refine fY ?_;have o:=U.b (g:=Yc) ag;exact⟨rfl,o,U.bB,U.Wu⟩
end
end
end
end
end
end Go.Proofs.YtcimojgkeoecfaaGreat
