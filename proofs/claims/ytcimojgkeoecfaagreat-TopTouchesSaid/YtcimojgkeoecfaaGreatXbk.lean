import Derived.Test.YtcimojgkeoecfaaGreatXbh
import Derived.Test.YtcimojgkeoecfaaGreatXbd
import Derived.Test.YtcimojgkeoecfaaGreatXbj
set_option linter.all false
set_option maxHeartbeats 16000000
set_option maxRecDepth 100000
namespace Go.Proofs.YtcimojgkeoecfaaGreat
open Go.RowKit Tryz
section
theorem oT{G:Prop}(h:G:=by
 clear V1;go_enter func273,ntmps273;go_wp2_with(first|(go_at_call 157;refine a6 U (hu _) ?_;clear U;intro aaM U)|(refine aq ?_)|(refine VP U EQ ?_;clear U;intro vX w U wF)|(refine aT ?_;clear U;intro X8 w U aay));go_cut [8,9]from 10 to 28 (fun aba afs ZT=> ∃g Y6,aba= .pointer (some ⟨g,0,none⟩)/\afs= .int .i64 0/\aah w0 (fun b=>b≠Yc/\b≠WC) ZT (some ⟨ap,WC,n,V⟩) [⟨g,56,[.int .i64 c.st,.int .i64 c.Xf,.int .i64 c.YX,.int .i64 c.afB]⟩,⟨vX,75,[.int .i64 X0,.int .i64 YN,.int .i64 XW]⟩,⟨Yc,389,cn p ap r x 0⟩]/\Y6=g)
 case first=>
  replace U:=U.drew;refine b0 ?_;intro X;refine az [[0,1,2,3,4,5,6,7,8,9]] ?_;refine Zj [10,14] ?_;refine ea (fun K Z7=>?_) ?_
  ·go_simp;go_at_call 154;refine a6 U (XP _ U.bB) ?_;clear U;intro aaM U;go_wp2_with fail;refine abR Z7 fun X=>?_;refine az [[11,12,13],[14,15],[16]] ?_;clear U;intro Gh zr w U;go_wp2_with fail;go_meet;exact⟨_,_,rfl,rfl,U,rfl⟩
  refine ei (fun K Z7=>?_);refine ZZ U ny ?_;clear U;intro Gh w U zr;refine abR Z7 fun X=>?_;refine aF 10 fun K Z7=>?_;go_simp;go_at_call 154;refine a6 U (XP _ U.bB) ?_;clear U;intro aaM U;go_wp2_with fail;refine abR Z7 fun X=>?_;refine az [[11,12,13],[15],[16]] ?_;clear U;intro w U;go_wp2_with fail;go_meet;exact⟨_,_,rfl,rfl,U,rfl⟩
 case rest=>
 obtain⟨g,_,rfl,rfl,U,_⟩:=hcut;go_wp2_with(first|(refine aq ?_)|(refine VP U EQ ?_;clear U;intro vX w U wF)|(refine aT ?_;clear U;intro X8 w U aay));refine fY ?_;have Yq:=U.b (g:=Yc) ag;exact⟨rfl,Yq,U.bB,U.Wu⟩):G:=h
theorem k1{G:Prop}(h:G:=by
 go_wp2_with(first|(refine aq ?_)|(refine Ws U 75 ?_;clear U;intro vX w U wF)|(refine VP U gW ?_;clear U;intro g3 w U gJ)|(refine ac2 U ?_;clear U;intro w U));refine cw results335 rfl rfl ⟨_,U.b ag,rfl⟩ underlying91 rfl (by kernel_rfl) ?_;have Yq:=U.b (g:=Yc) ag;exact⟨⟨_,_,_,_,_,_,rfl⟩,Yq,U.bB,U.Wu⟩):G:=h
theorem oU{G:Prop}(h:G:=by
 replace U:=U.drew;refine b0 ?_;intro X;refine az [[0,1,2,3,4,5]] ?_;refine Zj [6,10] ?_;refine ea (fun K Z7=>?_) ?_
 ·go_simp;go_at_call 353;refine a6 U (oS _ _ _ n V _ k _ _ _ _ _ _ U.bB abu.out ae3 O.out) ?_;clear U;intro aaM U;go_wp2_with fail;refine abR Z7 fun X=>?_;refine az [[7,8,9],[10,11],[12]] ?_;clear U;intro g3 gJ w U;go_wp2_with fail;go_meet;exact⟨_,rfl,rfl,U⟩
 refine ei (fun K Z7=>?_);refine ZZ U gW ?_;clear U;intro g3 w U gJ;refine abR Z7 fun X=>?_;refine aF 6 fun K Z7=>?_;go_simp;go_at_call 353;refine a6 U (oS _ _ _ n V _ k _ _ _ _ _ _ U.bB abu.out ae3 O.out) ?_;clear U;intro aaM U;go_wp2_with fail;refine abR Z7 fun X=>?_;refine az [[7,8,9],[11],[12]] ?_;clear U;intro w U;go_wp2_with fail;go_meet;exact⟨_,rfl,rfl,U⟩):G:=h
theorem s5(n:Nat)(V:Nat->Int)(k:Nat)(s e:Int)(Yg: ∀i,i<n->aR (V i)):
 (he n V k s e/\k+1<n/\isObj (V k) (V (k+1)) (af4 (V k)) (V k/4294967296 %256) (afM (V k)) (W4 (V k)) s e)\/
 (¬he n V k s e/\(sI V n (8*(k:Int))\/∃s' e',(s'≠s\/e'≠e)/\k+1<n/\isObj (V k) (V (k+1)) (af4 (V k)) (aez (V k)) (afM (V k)) (W4 (V k)) s' e')):=by
 by_cases c:he n V k s e
 ·obtain⟨h1,⟨aaV,ZV,Ya,afY,XX,adH,Vy⟩,adp,m4⟩:=id c;have o:=isObj.of (Yg k J) (t:=V (k+1)) ⟨⟨by simpa [aez]using aaV,by simpa [aez,af4]using ZV,by simpa [afM]using Ya,by simpa [m8]using afY,by simpa [m9]using XX⟩,adH,Vy⟩;simp only[m8,m9]at o;rw[adp,m4]at o;exact .inl ⟨c,h1,o⟩
 ·refine .inr ⟨c,?_⟩;by_cases d:k+1<n/\rG (V k) (V (k+1))
  ·have o:=isObj.of (Yg k J) d.2;refine .inr ⟨_,_,?_,d.1,o⟩;apply Classical.byContradiction;intro abi;apply c;obtain⟨h1,⟨aaV,ZV,Ya,afY,XX⟩,adH,Vy⟩:=id d;refine⟨h1,⟨aaV,ZV,Ya,afY,XX,adH,Vy⟩,?_,?_⟩
   ·apply Classical.byContradiction;intro q;exact abi (.inl q)
   ·apply Classical.byContradiction;intro q;exact abi (.inr q)
  ·refine .inl fun k' UB h'=>?_;obtain rfl:k=k':=J;intro ok;exact d ⟨h',ok⟩
section
variable(w0:World)(p:afy)(ap WC n Yc:Nat)(V:Nat->Int)(r:aax)(x:Yr)(hb:ah w0 Yc 389 (cn p ap r x 0).toArray)(Xg:ar w0 ap WC n V)(h1:Yc≠ap)(aaV:Yc≠WC)(aeJ:a9 p)(abi:8*p.s<=n)
include w0 p ap WC n Yc V r x hb Xg h1 aaV aeJ abi
section
variable(h acD:Int)(acu:aR h)(dQ:dr h)(YF:VA h<p.s)(ok:okW (V (8*(VA h).toNat)))
include h acD acu dQ YF ok
theorem wG(V1:(Wi V (VA h).toNat).afB=afT h):
 Calls prog 273 #[.pointer (some ⟨Yc,0,none⟩),.int .u64 h,.int .i64 acD] w0 fun e w'=>e= .returned (.tuple #[])/\ah w' Yc 389 (cn p ap {r with Xj:=acD} x 0).toArray/\ar w' ap WC n V/\Z1 (fun b=>b≠Yc/\b≠WC) w0 w':=by
 have U:=aah.dp hb Xg h1 aaV;have hm:=Xg.cE;clear Xg hb;have ki:=I ok;have hc:=I dQ;have Ds:0<=VA h:=by unfold dr at dQ;omega
 have hu:=fun w=>ff h w acu dQ;clear ok dQ;unfold md at hu;have XP:=fun w (h':ar w ap WC n V)=>jF w p ap WC n V (VA h) h' aeJ ⟨Ds,YF⟩ abi ki.out;obtain⟨c,Wj⟩: ∃c,Hid (Wi V (VA h).toNat=c):=⟨_,I rfl⟩
 rw[Wj.out]at V1 XP;generalize VA h=X0 at*;generalize afT h=YN at*;generalize WR h=XW at*;have d1:(c.afB !=YN)=false:=by simpa using V1
 exact oT
theorem wH(V1:(Wi V (VA h).toNat).afB≠afT h):
 Calls prog 273 #[.pointer (some ⟨Yc,0,none⟩),.int .u64 h,.int .i64 acD] w0 fun e w'=>e= .returned (.tuple #[])/\ah w' Yc 389 (cn p ap {r with Xj:=acD} x 19).toArray/\ar w' ap WC n V/\Z1 (fun b=>b≠Yc/\b≠WC) w0 w':=by
 have U:=aah.dp hb Xg h1 aaV;have hm:=Xg.cE;clear Xg hb;have ki:=I ok;have hc:=I dQ;have Ds:0<=VA h:=by unfold dr at dQ;omega
 have hu:=fun w=>ff h w acu dQ;clear ok dQ;unfold md at hu;have XP:=fun w (h':ar w ap WC n V)=>jF w p ap WC n V (VA h) h' aeJ ⟨Ds,YF⟩ abi ki.out;obtain⟨c,Wj⟩: ∃c,Hid (Wi V (VA h).toNat=c):=⟨_,I rfl⟩
 rw[Wj.out]at V1 XP;generalize VA h=X0 at*;generalize afT h=YN at*;generalize WR h=XW at*;have d1:(c.afB !=YN)=true:=by simpa using V1
 exact oT
end
section
variable(h:Int)(dQ:dr h)(k:Nat)(XD:WR h=8*k)
include h dQ k XD
theorem oV(ae3:k+1<n)(z l t:Int)(d:Bool)(o:isObj (V k) (V (k+1)) z l t d (VA h) (afT h)):
 Calls prog 335 #[.pointer (some ⟨Yc,0,none⟩),md h] w0 fun e w'=>e= .returned (.agg #[.int .i64 z,.int .i64 l,.int .i64 t,.bool d,.int .i64 (VA h),.int .i64 (afT h)])/\ah w' Yc 389 (cn p ap r x 0).toArray/\ar w' ap WC n V/\Z1 (fun b=>b≠Yc/\b≠WC) w0 w':=by
 have U:=aah.dp hb Xg h1 aaV;have hm:=Xg.cE;clear Xg hb;have hc:=I dQ;have ru:jI (WR h):=by unfold dr at dQ;unfold jI;omega
 clear dQ;unfold md;generalize VA h=X0 at*;generalize afT h=YN at*;generalize WR h=XW at*;have abu:=I XD;clear XD;have O:=I o;clear o;go_enter func335,ntmps335;go_wp2_with(first|(refine aq ?_)|(refine Ws U 75 ?_;clear U;intro vX w U wF)|(refine VP U gW ?_;clear U;intro g3 w U gJ)|(refine ac2 U ?_;clear U;intro w U));go_cut [5,6]from 7 to 16 (fun Y0 ZY ZT=> ∃g,Y0= .pointer (some ⟨g,0,none⟩)/\ZY= .int .i64 0/\aah w0 (fun b=>b≠Yc/\b≠WC) ZT (some ⟨ap,WC,n,V⟩) [⟨g,91,[.int .i64 z,.int .i64 l,.int .i64 t,.bool d,.int .i64 X0,.int .i64 YN]⟩,⟨g3,91,[.int .i64 0,.int .i64 0,.int .i64 0,.bool false,.int .i64 0,.int .i64 0]⟩,⟨vX,75,[.int .i64 X0,.int .i64 YN,.int .i64 XW]⟩,⟨Yc,389,cn p ap r x 0⟩])
 case first=>
  exact oU
 case rest=>
 obtain⟨g,rfl,rfl,U⟩:=hcut;have d1:(X0 !=X0)=false:=aN;have d2:(YN !=YN)=false:=aN;go_wp2_with(first|(refine aq ?_)|(refine Ws U 75 ?_;clear U;intro vX w U wF)|(refine VP U gW ?_;clear U;intro g3 w U gJ)|(refine ac2 U ?_;clear U;intro w U));refine cw results335 rfl rfl ⟨_,U.b ag,rfl⟩ underlying91 rfl aM ?_;have Yq:=U.b (g:=Yc) ag;exact⟨rfl,Yq,U.bB,U.Wu⟩
theorem uX(ae3:k+1<n)(z l t s' e':Int)(d:Bool)(o:isObj (V k) (V (k+1)) z l t d s' e')(bo:s'≠VA h\/e'≠afT h):
 Calls prog 335 #[.pointer (some ⟨Yc,0,none⟩),md h] w0 fun e w'=>(∃z l t d s aal,e= .returned (.agg #[.int .i64 z,.int .i64 l,.int .i64 t,.bool d,.int .i64 s,.int .i64 aal]))/\ah w' Yc 389 (cn p ap r x 18).toArray/\ar w' ap WC n V/\Z1 (fun b=>b≠Yc/\b≠WC) w0 w':=by
 have U:=aah.dp hb Xg h1 aaV;have hm:=Xg.cE;clear Xg hb;have hc:=I dQ;have ru:jI (WR h):=by unfold dr at dQ;unfold jI;omega
 clear dQ;unfold md;generalize VA h=X0 at*;generalize afT h=YN at*;generalize WR h=XW at*;have abu:=I XD;clear XD;have O:=I o;clear o;go_enter func335,ntmps335;go_wp2_with(first|(refine aq ?_)|(refine Ws U 75 ?_;clear U;intro vX w U wF)|(refine VP U gW ?_;clear U;intro g3 w U gJ)|(refine ac2 U ?_;clear U;intro w U));go_cut [5,6]from 7 to 16 (fun Y0 ZY ZT=> ∃g,Y0= .pointer (some ⟨g,0,none⟩)/\ZY= .int .i64 0/\aah w0 (fun b=>b≠Yc/\b≠WC) ZT (some ⟨ap,WC,n,V⟩) [⟨g,91,[.int .i64 z,.int .i64 l,.int .i64 t,.bool d,.int .i64 s',.int .i64 e']⟩,⟨g3,91,[.int .i64 0,.int .i64 0,.int .i64 0,.bool false,.int .i64 0,.int .i64 0]⟩,⟨vX,75,[.int .i64 X0,.int .i64 YN,.int .i64 XW]⟩,⟨Yc,389,cn p ap r x 0⟩])
 case first=>
  exact oU
 case rest=>
 obtain⟨g,rfl,rfl,U⟩:=hcut;by_cases WJ:s'=X0
 ·have d1:(s' !=X0)=false:=by simpa using WJ
  have d2:(e' !=YN)=true:=by simp;omega
  clear WJ bo;exact k1
 ·have d1:(s' !=X0)=true:=by simpa using WJ
  clear WJ bo;exact k1
theorem uY(no:sI V n (WR h)):
 Calls prog 335 #[.pointer (some ⟨Yc,0,none⟩),md h] w0 fun e w'=>(∃z l t d s aal,e= .returned (.agg #[.int .i64 z,.int .i64 l,.int .i64 t,.bool d,.int .i64 s,.int .i64 aal]))/\ah w' Yc 389 (cn p ap r x 18).toArray/\ar w' ap WC n V/\Z1 (fun b=>b≠Yc/\b≠WC) w0 w':=by
 have U:=aah.dp hb Xg h1 aaV;have hm:=Xg.cE;clear Xg hb;have hc:=I dQ;have ru:jI (WR h):=by unfold dr at dQ;unfold jI;omega
 clear dQ;unfold md;generalize VA h=X0 at*;generalize afT h=YN at*;generalize WR h=XW at*;have abu:=I XD;clear XD;have WM:=I no;clear no;go_enter func335,ntmps335;go_wp2_with(first|(refine aq ?_)|(refine Ws U 75 ?_;clear U;intro vX w U wF)|(refine VP U gW ?_;clear U;intro g3 w U gJ)|(refine ac2 U ?_;clear U;intro w U));go_cut [5,6]from 7 to 16 (fun Y0 ZY ZT=> ∃g,Y0= .pointer (some ⟨g,0,none⟩)/\ZY= .int .i64 18/\aah w0 (fun b=>b≠Yc/\b≠WC) ZT (some ⟨ap,WC,n,V⟩) [⟨g,91,[.int .i64 0,.int .i64 0,.int .i64 0,.bool false,.int .i64 0,.int .i64 0]⟩,⟨g3,91,[.int .i64 0,.int .i64 0,.int .i64 0,.bool false,.int .i64 0,.int .i64 0]⟩,⟨vX,75,[.int .i64 X0,.int .i64 YN,.int .i64 XW]⟩,⟨Yc,389,cn p ap r x 0⟩])
 case first=>
  replace U:=U.drew;refine b0 ?_;intro X;refine az [[0,1,2,3,4,5]] ?_;refine Zj [6,10] ?_;refine ea (fun K Z7=>?_) ?_
  ·go_simp;go_at_call 353;refine a6 U (Gm _ _ _ n V _ U.bB WM.out ru) ?_;clear U;intro aaM U;go_wp2_with fail;refine abR Z7 fun X=>?_;refine az [[7,8,9],[10,11],[12]] ?_;clear U;intro g3 gJ w U;go_wp2_with fail;go_meet;exact⟨_,rfl,rfl,U⟩
  refine ei (fun K Z7=>?_);refine ZZ U gW ?_;clear U;intro g3 w U gJ;refine abR Z7 fun X=>?_;refine aF 6 fun K Z7=>?_;go_simp;go_at_call 353;refine a6 U (Gm _ _ _ n V _ U.bB WM.out ru) ?_;clear U;intro aaM U;go_wp2_with fail;refine abR Z7 fun X=>?_;refine az [[7,8,9],[11],[12]] ?_;clear U;intro w U;go_wp2_with fail;go_meet;exact⟨_,rfl,rfl,U⟩
 case rest=>
 obtain⟨g,rfl,rfl,U⟩:=hcut;exact k1
end
end
end
section
theorem oW{G:Prop}(h:G:=by
 have hc:=I dQ;have ru:jI (WR r.hand):=by unfold dr at dQ;unfold jI;omega
 have fG:8<=WR r.hand/\WR r.hand<=65528:=by unfold dr at dQ;omega
 have abu:=I XD;clear XD dQ;go_enter func274,ntmps274;go_wp2_with(first|(go_at_call 157;refine a6 U (ff _ _ acu hc.out) ?_;clear U;intro aaM U)|(go_at_call 335;refine Calls.mono (oV _ p ap WC n Yc V r x (U.b ag) U.bB h1 aaV aeJ abi r.hand hc.out k abu.out ae3 _ _ _ _ O.out) ?_;rintro e aaM ⟨rfl,N,aH,aX⟩;replace U:=U.call cf N aH aX;clear N aH aX)|(refine aq ?_)|(refine aT ?_;clear U;intro X8 w U aay));have PK:IntKind.i64.wrap (l-1)=l-1:=by rw[IntKind.wrap_i64];omega
 replace U:=U.drew;refine b0 ?_;intro X;refine az [[0,1,2,3,4,5,6,7,8]] ?_;refine aF 9 fun K Z7=>?_;go_simp;go_at_call 104;refine Calls.mono (bm _ _ _ _ (by omega) (by omega)) ?_;rintro e aaM ⟨rfl,rfl⟩;go_wp2_with fail;refine abR Z7 fun X=>?_;refine az [[10,11]] ?_;go_wp2_with(first|(refine aq ?_)|(refine aT ?_;clear U;intro X8 w U aay));replace U:=U.drew;refine wp_region_held_drew (by kernel_rfl) (U.h5 (xs:= [19])) (fun X=>?_);refine az [[0,1,2,3]] ?_;refine td 4 ?_;refine Xh 5 ?_;refine td 6 ?_;refine az [[7,8,9,10,11]] ?_;refine td 12 ?_;refine aF 13 fun K Z7=>?_;go_simp;go_at_call 336;refine a6 U (uW _ _ _ n V _ _ k _ _ _ _ _ _ U.bB abu.out ae3 O.out kr) ?_;clear U;intro aaM U;go_wp2_with fail;refine abR Z7 (fun X=>?_) (by first|exact U.h5|exact U.j1|exact U.j2);refine az [[14,15,16,17,18,19]] ?_;refine aF 20 fun K Z7=>?_;refine adk U ?_;clear U;intro w U VG;refine abR Z7 (fun X=>?_) (by exact X.store VG (by rfl));refine adB ?_;go_wp2_with(first|(refine aq ?_)|(refine aT ?_;clear U;intro X8 w U aay));refine fY ?_;have Yq:=U.b (g:=Yc) ag;exact⟨rfl,Yq,U.bB,U.Wu⟩):G:=h
section
variable(w0:World)(p:afy)(ap WC n Yc:Nat)(V:Nat->Int)(r:aax)(x:Yr)(hb:ah w0 Yc 389 (cn p ap r x 0).toArray)(Xg:ar w0 ap WC n V)(h1:Yc≠ap)(aaV:Yc≠WC)(aeJ:a9 p)(abi:8*p.s<=n)(acu:aR r.hand)(dQ:dr r.hand)(k:Nat)(XD:WR r.hand=8*k)
include w0 p ap WC n Yc V r x hb Xg h1 aaV aeJ abi acu dQ k XD
theorem Gp(ae3:k+1<n)(z l t s' e':Int)(d:Bool)(o:isObj (V k) (V (k+1)) z l t d s' e')(bo:s'≠VA r.hand\/e'≠afT r.hand):
 Calls prog 274 #[.pointer (some ⟨Yc,0,none⟩)] w0 fun e w'=>e= .returned (.tuple #[])/\ah w' Yc 389 (cn p ap r x 18).toArray/\ar w' ap WC n V/\Z1 (fun b=>b≠Yc/\b≠WC) w0 w':=by
 have U:=aah.dp hb Xg h1 aaV;have hm:=Xg.cE;clear Xg hb;have O:=I o;clear o;have hc:=I dQ;have ru:jI (WR r.hand):=by unfold dr at dQ;unfold jI;omega
 have fG:8<=WR r.hand/\WR r.hand<=65528:=by unfold dr at dQ;omega
 have abu:=I XD;clear XD dQ;go_enter func274,ntmps274;go_wp2_with(first|(go_at_call 157;refine a6 U (ff _ _ acu hc.out) ?_;clear U;intro aaM U)|(go_at_call 335;refine Calls.mono (uX _ p ap WC n Yc V r x (U.b ag) U.bB h1 aaV aeJ abi r.hand hc.out k abu.out ae3 _ _ _ _ _ _ O.out bo) ?_;rintro e aaM ⟨⟨z',l',t',d',Wa,abF,rfl⟩,N,aH,aX⟩;replace U:=U.call cf N aH aX;clear N aH aX)|(refine aq ?_)|(refine aT ?_;clear U;intro X8 w U aay));refine fY ?_;have Yq:=U.b (g:=Yc) ag;exact⟨rfl,Yq,U.bB,U.Wu⟩
theorem Gq(no:sI V n (WR r.hand)):
 Calls prog 274 #[.pointer (some ⟨Yc,0,none⟩)] w0 fun e w'=>e= .returned (.tuple #[])/\ah w' Yc 389 (cn p ap r x 18).toArray/\ar w' ap WC n V/\Z1 (fun b=>b≠Yc/\b≠WC) w0 w':=by
 have U:=aah.dp hb Xg h1 aaV;have hm:=Xg.cE;clear Xg hb;have WM:=I no;clear no;have hc:=I dQ;have ru:jI (WR r.hand):=by unfold dr at dQ;unfold jI;omega
 have fG:8<=WR r.hand/\WR r.hand<=65528:=by unfold dr at dQ;omega
 have abu:=I XD;clear XD dQ;go_enter func274,ntmps274;go_wp2_with(first|(go_at_call 157;refine a6 U (ff _ _ acu hc.out) ?_;clear U;intro aaM U)|(go_at_call 335;refine Calls.mono (uY _ p ap WC n Yc V r x (U.b ag) U.bB h1 aaV aeJ abi r.hand hc.out k abu.out WM.out) ?_;rintro e aaM ⟨⟨z',l',t',d',Wa,abF,rfl⟩,N,aH,aX⟩;replace U:=U.call cf N aH aX;clear N aH aX)|(refine aq ?_)|(refine aT ?_;clear U;intro X8 w U aay));refine fY ?_;have Yq:=U.b (g:=Yc) ag;exact⟨rfl,Yq,U.bB,U.Wu⟩
section
variable(ae3:k+1<n)(z l t:Int)(d:Bool)(o:isObj (V k) (V (k+1)) z l t d (VA r.hand) (afT r.hand))
include ae3 z l t d o
theorem Gr(kr:r.call.b<0\/l<=r.call.b):
 Calls prog 274 #[.pointer (some ⟨Yc,0,none⟩)] w0 fun e w'=>e= .returned (.tuple #[])/\ah w' Yc 389 (cn p ap r x 21).toArray/\ar w' ap WC n V/\Z1 (fun b=>b≠Yc/\b≠WC) w0 w':=by
 have U:=aah.dp hb Xg h1 aaV;have hm:=Xg.cE;clear Xg hb;have ti:0<=l/\l<=6:=o.ok.1;have O:=I o;clear o;have hc:=I dQ;have ru:jI (WR r.hand):=by unfold dr at dQ;unfold jI;omega
 have fG:8<=WR r.hand/\WR r.hand<=65528:=by unfold dr at dQ;omega
 have abu:=I XD;clear XD dQ;go_enter func274,ntmps274;go_wp2_with(first|(go_at_call 157;refine a6 U (ff _ _ acu hc.out) ?_;clear U;intro aaM U)|(go_at_call 335;refine Calls.mono (oV _ p ap WC n Yc V r x (U.b ag) U.bB h1 aaV aeJ abi r.hand hc.out k abu.out ae3 _ _ _ _ O.out) ?_;rintro e aaM ⟨rfl,N,aH,aX⟩;replace U:=U.call cf N aH aX;clear N aH aX)|(refine aq ?_)|(refine aT ?_;clear U;intro X8 w U aay));have PK:IntKind.i64.wrap (l-1)=l-1:=by rw[IntKind.wrap_i64];omega
 replace U:=U.drew;refine b0 ?_;intro X;refine az [[0,1,2,3,4,5,6,7,8]] ?_;refine aF 9 fun K Z7=>?_;go_simp;go_at_call 104;refine Calls.mono (fq _ _ _ _ J) ?_;rintro e aaM ⟨rfl,rfl⟩;go_wp2_with fail;refine abR Z7 fun X=>?_;refine az [[10,11]] ?_;exact gz
section
variable(kr:0<=r.call.b/\r.call.b<l)
include kr
theorem Gs(ZQ:r.call.op=8):
 Calls prog 274 #[.pointer (some ⟨Yc,0,none⟩)] w0 fun e w'=>e= .returned (.tuple #[])/\ah w' Yc 389 (cn p ap {r with at_:=WR r.hand+16+8*r.call.b,Xj:=9} x 0).toArray/\ar w' ap WC n V/\Z1 (fun b=>b≠Yc/\b≠WC) w0 w':=by
 have U:=aah.dp hb Xg h1 aaV;have hm:=Xg.cE;clear Xg hb;have ti:0<=l/\l<=6:=o.ok.1;have O:=I o;clear o;have d1:(r.call.op==8)=true:=by simpa using ZQ
 clear ZQ;exact oW
theorem Gt(ZQ:r.call.op≠8)(hv:r.val=0):
 Calls prog 274 #[.pointer (some ⟨Yc,0,none⟩)] w0 fun e w'=>e= .returned (.tuple #[])/\ah w' Yc 389 (cn p ap {r with at_:=WR r.hand+16+8*r.call.b,Xj:=10} x 0).toArray/\ar w' ap WC n V/\Z1 (fun b=>b≠Yc/\b≠WC) w0 w':=by
 have U:=aah.dp hb Xg h1 aaV;have hm:=Xg.cE;clear Xg hb;have ti:0<=l/\l<=6:=o.ok.1;have O:=I o;clear o;have d1:(r.call.op==8)=false:=by simpa using ZQ
 clear ZQ;have d2:(r.val==0)=true:=by simpa using hv
 clear hv;exact oW
theorem zs(ZQ:r.call.op≠8)(hv:r.val≠0)(SG:aR r.val)(S:Nat->Prop)(abo:de w0 S x.ads r.chain)(YJ:r.chain.length<=6)(hS: ∀b,b<w0.heap.size->S b->b≠Yc/\b≠WC):
 Calls prog 274 #[.pointer (some ⟨Yc,0,none⟩)] w0 fun e w'=>e= .returned (.tuple #[])/\ah w' Yc 389 (cn p ap {r with at_:=WR r.hand+16+8*r.call.b,Xj:=7} x (check p r.chain r.val)).toArray/\ar w' ap WC n V/\Z1 (fun b=>b≠Yc/\b≠WC) w0 w':=by
 have U:=aah.dp hb Xg h1 aaV;have hm:=Xg.cE;clear Xg hb;have ti:0<=l/\l<=6:=o.ok.1;have O:=I o;clear o;have d1:(r.call.op==8)=false:=by simpa using ZQ
 clear ZQ;have d2:(r.val==0)=false:=by simpa using hv
 clear hv;obtain⟨W9,adX,aal,-,-,-⟩:=id abo;have Yl:=I abo;clear abo;obtain⟨ads,ls,Wh,Y1⟩:=x;simp only at aal;subst aal;have hc:=I dQ;have ru:jI (WR r.hand):=by unfold dr at dQ;unfold jI;omega
 have fG:8<=WR r.hand/\WR r.hand<=65528:=by unfold dr at dQ;omega
 have abu:=I XD;clear XD dQ;go_enter func274,ntmps274;go_wp2_with(first|(go_at_call 157;refine a6 U (ff _ _ acu hc.out) ?_;clear U;intro aaM U)|(go_at_call 335;refine Calls.mono (oV _ p ap WC n Yc V r ⟨.slice W9 r.chain.length adX,ls,Wh,Y1⟩ (U.b ag) U.bB h1 aaV aeJ abi r.hand hc.out k abu.out ae3 _ _ _ _ O.out) ?_;rintro e aaM ⟨rfl,N,aH,aX⟩;replace U:=U.call cf N aH aX;clear N aH aX)|(refine aq ?_)|(refine aT ?_;clear U;intro X8 w U aay));have PK:IntKind.i64.wrap (l-1)=l-1:=by rw[IntKind.wrap_i64];omega
 replace U:=U.drew;refine b0 ?_;intro X;refine az [[0,1,2,3,4,5,6,7,8]] ?_;refine aF 9 fun K Z7=>?_;go_simp;go_at_call 104;refine Calls.mono (bm _ _ _ _ J J) ?_;rintro e aaM ⟨rfl,rfl⟩;go_wp2_with fail;refine abR Z7 fun X=>?_;refine az [[10,11]] ?_;go_wp2_with(first|(refine aq ?_)|(refine aT ?_;clear U;intro X8 w U aay));replace U:=U.drew;refine wp_region_held_drew aM (U.h5 (xs:= [19])) (fun X=>?_);refine az [[0,1,2,3]] ?_;refine td 4 ?_;refine Xh 5 ?_;refine td 6 ?_;refine az [[7,8,9,10,11]] ?_;refine td 12 ?_;refine aF 13 fun K Z7=>?_;go_simp;go_at_call 336;refine a6 U (uW _ _ _ n V _ _ k _ _ _ _ _ _ U.bB abu.out ae3 O.out kr) ?_;clear U;intro aaM U;go_wp2_with fail;refine abR Z7 (fun X=>?_) (by first|exact U.h5|exact U.j1|exact U.j2);refine az [[14,15,16,17,18,19]] ?_;refine aF 20 fun K Z7=>?_;refine adk U ?_;clear U;intro w U VG;refine abR Z7 (fun X=>?_) (by exact X.store VG (by rfl));refine adB ?_;go_wp2_with(first|(refine aq ?_)|(refine aT ?_;clear U;intro X8 w U aay));replace U:=U.drew;refine wp_region_held_drew aM (U.h5 (xs:= [31])) (fun X=>?_);refine az [[0,1,2,3]] ?_;refine Oj 4 4 ?_;refine az [[5,6,7,8]] ?_;refine td 9 ?_;refine az [[10,11,12,13]] ?_;refine td 14 ?_;refine aF 15 fun K Z7=>?_;go_simp;go_at_call 260;refine Calls.mono (zg _ _ _ p r.chain r.val SG (Yl.out.Wu (U.Wu.mono hS)) J) ?_;rintro e aaM ⟨q1,Xt,ada,rfl,N⟩;replace U:=U.below N;clear N;go_wp2_with fail;refine abR Z7 (fun X=>?_) (by first|exact U.h5|exact U.j1|exact U.j2);refine az [[16,17,18,19,20]] ?_;refine aF 21 fun K Z7=>?_;refine adk U ?_;clear U;intro w U VG;refine abR Z7 (fun X=>?_) (by exact X.store VG (by rfl));refine adB ?_;exact gz
end
end
end
end
section
theorem ql{G:Prop}(h:G:=by
 have U:=aah.dp hb Xg h1 aaV;have hm:=Xg.cE;clear Xg hb;have O:=I o;clear o;have d1:(r.call.op==9)=true:=by simpa using ZQ
 clear ZQ;obtain⟨W9,adX,aal,-,-,-⟩:=id abo;have Yl:=I abo;have ML:=I xi;clear abo xi;obtain⟨ads,ls,Wh,Y1⟩:=x;simp only at aal;subst aal;have hc:=I dQ;have zt:=I rN;have abu:=I XD;clear XD dQ rN;go_enter func275,ntmps275;go_wp2_with(first|(go_at_call 157;refine a6 U (ff _ _ (by first|exact acu|exact Dt) (by first|exact hc.out|exact zt.out)) ?_;clear U;intro aaM U)|(go_at_call 335;refine Calls.mono (oV _ p ap WC n Yc V r ⟨.slice W9 r.chain.length adX,ls,Wh,Y1⟩ (U.b ag) U.bB h1 aaV aeJ abi r.val hc.out k abu.out ae3 _ _ _ _ O.out) ?_;rintro e aaM ⟨rfl,N,aH,aX⟩;replace U:=U.call cf N aH aX;clear N aH aX)|(refine aq ?_)|(refine aT ?_;clear U;intro X8 w U aay));replace U:=U.drew;refine b0 ?_;intro X;refine az [[0,1,2,3,4,5,6,7,8,9,10,11,12,13]] ?_;refine aF 14 fun K Z7=>?_;go_simp
 (first|(go_at_call 296;refine a6 U (x9 _ _ _ _ _ _ (Yl.out.Wu (U.Wu.mono hS)) (by omega)) ?_;clear U;intro aaM U;rw[ML.out])|skip)
 (try go_wp2_with fail)
 refine abR Z7 fun X=>?_;refine az [[15,16]] ?_;exact gz):G:=h
theorem oX{G:Prop}(h:G:=by
 have U:=aah.dp hb Xg h1 aaV;have hm:=Xg.cE;clear Xg hb;have O:=I o;clear o;have d1:(r.call.op==9)=false:=by simpa using ZQ
 clear ZQ;obtain⟨W9,adX,aal,-,-,-⟩:=id abo;have Yl:=I abo;have ML:=I xi;clear abo xi;obtain⟨ads,ls,Wh,Y1⟩:=x;simp only at aal;subst aal;have hc:=I dQ;have abu:=I XD;clear XD dQ;go_enter func275,ntmps275;go_wp2_with(first|(go_at_call 157;refine a6 U (ff _ _ acu hc.out) ?_;clear U;intro aaM U)|(go_at_call 335;refine Calls.mono (oV _ p ap WC n Yc V r ⟨.slice W9 r.chain.length adX,ls,Wh,Y1⟩ (U.b ag) U.bB h1 aaV aeJ abi r.val hc.out k abu.out ae3 _ _ _ _ O.out) ?_;rintro e aaM ⟨rfl,N,aH,aX⟩;replace U:=U.call cf N aH aX;clear N aH aX)|(refine aq ?_)|(refine aT ?_;clear U;intro X8 w U aay));replace U:=U.drew;refine b0 ?_;intro X;refine az [[0,1,2,3,4,5,6,7,8,9,10,11,12,13]] ?_;refine aF 14 fun K Z7=>?_;go_simp
 (first|(go_at_call 296;refine a6 U (x9 _ _ _ _ _ _ (Yl.out.Wu (U.Wu.mono hS)) (by omega)) ?_;clear U;intro aaM U;rw[ML.out])|skip)
 (try go_wp2_with fail)
 refine abR Z7 fun X=>?_;refine az [[15,16]] ?_;exact gz):G:=h
theorem i2{G:Prop}(h:G:=by
 replace U:=U.drew;refine b0 ?_;intro X;refine az [[0,1,2,3,4,5,6,7,8,9,10,11,12,13]] ?_;refine aF 14 fun K Z7=>?_;go_simp
 (first|fail|skip)
 (try go_wp2_with fail)
 refine abR Z7 fun X=>?_;refine az [[15,16]] ?_;exact gz):G:=h
section
variable(w0:World)(p:afy)(ap WC n Yc:Nat)(V:Nat->Int)(r:aax)(x:Yr)(hb:ah w0 Yc 389 (cn p ap r x 0).toArray)(Xg:ar w0 ap WC n V)(h1:Yc≠ap)(aaV:Yc≠WC)(aeJ:a9 p)(abi:8*p.s<=n)(acu:aR r.val)(dQ:dr r.val)(k:Nat)(XD:WR r.val=8*k)
include w0 p ap WC n Yc V r x hb Xg h1 aaV aeJ abi acu dQ k XD
theorem Du(ae3:k+1<n)(z l t s' e':Int)(d:Bool)(o:isObj (V k) (V (k+1)) z l t d s' e')(bo:s'≠VA r.val\/e'≠afT r.val)(ZQ:r.call.op=9)(Dt:aR r.hand)(rN:dr r.hand):
 Calls prog 275 #[.pointer (some ⟨Yc,0,none⟩)] w0 fun e w'=>e= .returned (.tuple #[])/\ah w' Yc 389 (cn p ap {r with Xj:=10} x 18).toArray/\ar w' ap WC n V/\Z1 (fun b=>b≠Yc/\b≠WC) w0 w':=by
 have U:=aah.dp hb Xg h1 aaV;have hm:=Xg.cE;clear Xg hb;have O:=I o;clear o;have d1:(r.call.op==9)=true:=by simpa using ZQ
 clear ZQ;have hc:=I dQ;have zt:=I rN;have abu:=I XD;clear XD dQ rN;go_enter func275,ntmps275;go_wp2_with(first|(go_at_call 157;refine a6 U (ff _ _ (by first|exact acu|exact Dt) (by first|exact hc.out|exact zt.out)) ?_;clear U;intro aaM U)|(go_at_call 335;refine Calls.mono (uX _ p ap WC n Yc V r x (U.b ag) U.bB h1 aaV aeJ abi r.val hc.out k abu.out ae3 _ _ _ _ _ _ O.out bo) ?_;rintro e aaM ⟨⟨z',l',t',d',Wa,abF,rfl⟩,N,aH,aX⟩;replace U:=U.call cf N aH aX;clear N aH aX)|(refine aq ?_)|(refine aT ?_;clear U;intro X8 w U aay));exact i2
theorem Dv(no:sI V n (WR r.val))(ZQ:r.call.op=9)(Dt:aR r.hand)(rN:dr r.hand):
 Calls prog 275 #[.pointer (some ⟨Yc,0,none⟩)] w0 fun e w'=>e= .returned (.tuple #[])/\ah w' Yc 389 (cn p ap {r with Xj:=10} x 18).toArray/\ar w' ap WC n V/\Z1 (fun b=>b≠Yc/\b≠WC) w0 w':=by
 have U:=aah.dp hb Xg h1 aaV;have hm:=Xg.cE;clear Xg hb;have WM:=I no;clear no;have d1:(r.call.op==9)=true:=by simpa using ZQ
 clear ZQ;have hc:=I dQ;have zt:=I rN;have abu:=I XD;clear XD dQ rN;go_enter func275,ntmps275;go_wp2_with(first|(go_at_call 157;refine a6 U (ff _ _ (by first|exact acu|exact Dt) (by first|exact hc.out|exact zt.out)) ?_;clear U;intro aaM U)|(go_at_call 335;refine Calls.mono (uY _ p ap WC n Yc V r x (U.b ag) U.bB h1 aaV aeJ abi r.val hc.out k abu.out WM.out) ?_;rintro e aaM ⟨⟨z',l',t',d',Wa,abF,rfl⟩,N,aH,aX⟩;replace U:=U.call cf N aH aX;clear N aH aX)|(refine aq ?_)|(refine aT ?_;clear U;intro X8 w U aay));exact i2
section
variable(ae3:k+1<n)(z l t:Int)(d:Bool)(o:isObj (V k) (V (k+1)) z l t d (VA r.val) (afT r.val))(ZQ:r.call.op=9)(Dt:aR r.hand)(rN:dr r.hand)(S:Nat->Prop)(abo:de w0 S x.ads r.chain)(YJ:r.chain.length<=6)(hS: ∀b,b<w0.heap.size->S b->b≠Yc/\b≠WC)
include ae3 z l t d o ZQ Dt rN S abo YJ hS
theorem Dw(xi:kt r.chain (VA r.val) (VA r.hand)=true):
 Calls prog 275 #[.pointer (some ⟨Yc,0,none⟩)] w0 fun e w'=>e= .returned (.tuple #[])/\ah w' Yc 389 (cn p ap {r with Xj:=10} x 0).toArray/\ar w' ap WC n V/\Z1 (fun b=>b≠Yc/\b≠WC) w0 w':=by
 exact ql
theorem Dx(xi:kt r.chain (VA r.val) (VA r.hand)=false):
 Calls prog 275 #[.pointer (some ⟨Yc,0,none⟩)] w0 fun e w'=>e= .returned (.tuple #[])/\ah w' Yc 389 (cn p ap {r with Xj:=10} x 22).toArray/\ar w' ap WC n V/\Z1 (fun b=>b≠Yc/\b≠WC) w0 w':=by
 exact ql
end
theorem Ba(ae3:k+1<n)(z l t s' e':Int)(d:Bool)(o:isObj (V k) (V (k+1)) z l t d s' e')(bo:s'≠VA r.val\/e'≠afT r.val)(ZQ:r.call.op≠9):
 Calls prog 275 #[.pointer (some ⟨Yc,0,none⟩)] w0 fun e w'=>e= .returned (.tuple #[])/\ah w' Yc 389 (cn p ap {r with Xj:=12} x 18).toArray/\ar w' ap WC n V/\Z1 (fun b=>b≠Yc/\b≠WC) w0 w':=by
 have U:=aah.dp hb Xg h1 aaV;have hm:=Xg.cE;clear Xg hb;have O:=I o;clear o;have d1:(r.call.op==9)=false:=by simpa using ZQ
 clear ZQ;have hc:=I dQ;have abu:=I XD;clear XD dQ;go_enter func275,ntmps275;go_wp2_with(first|(go_at_call 157;refine a6 U (ff _ _ acu hc.out) ?_;clear U;intro aaM U)|(go_at_call 335;refine Calls.mono (uX _ p ap WC n Yc V r x (U.b ag) U.bB h1 aaV aeJ abi r.val hc.out k abu.out ae3 _ _ _ _ _ _ O.out bo) ?_;rintro e aaM ⟨⟨z',l',t',d',Wa,abF,rfl⟩,N,aH,aX⟩;replace U:=U.call cf N aH aX;clear N aH aX)|(refine aq ?_)|(refine aT ?_;clear U;intro X8 w U aay));exact i2
theorem Bb(no:sI V n (WR r.val))(ZQ:r.call.op≠9):
 Calls prog 275 #[.pointer (some ⟨Yc,0,none⟩)] w0 fun e w'=>e= .returned (.tuple #[])/\ah w' Yc 389 (cn p ap {r with Xj:=12} x 18).toArray/\ar w' ap WC n V/\Z1 (fun b=>b≠Yc/\b≠WC) w0 w':=by
 have U:=aah.dp hb Xg h1 aaV;have hm:=Xg.cE;clear Xg hb;have WM:=I no;clear no;have d1:(r.call.op==9)=false:=by simpa using ZQ
 clear ZQ;have hc:=I dQ;have abu:=I XD;clear XD dQ;go_enter func275,ntmps275;go_wp2_with(first|(go_at_call 157;refine a6 U (ff _ _ acu hc.out) ?_;clear U;intro aaM U)|(go_at_call 335;refine Calls.mono (uY _ p ap WC n Yc V r x (U.b ag) U.bB h1 aaV aeJ abi r.val hc.out k abu.out WM.out) ?_;rintro e aaM ⟨⟨z',l',t',d',Wa,abF,rfl⟩,N,aH,aX⟩;replace U:=U.call cf N aH aX;clear N aH aX)|(refine aq ?_)|(refine aT ?_;clear U;intro X8 w U aay));exact i2
section
variable(ae3:k+1<n)(z l t:Int)(d:Bool)(o:isObj (V k) (V (k+1)) z l t d (VA r.val) (afT r.val))(ZQ:r.call.op≠9)(S:Nat->Prop)(abo:de w0 S x.ads r.chain)(YJ:r.chain.length<=6)(hS: ∀b,b<w0.heap.size->S b->b≠Yc/\b≠WC)
include ae3 z l t d o ZQ S abo YJ hS
theorem Bc(xi:kt r.chain (VA r.val) r.call.a=true):
 Calls prog 275 #[.pointer (some ⟨Yc,0,none⟩)] w0 fun e w'=>e= .returned (.tuple #[])/\ah w' Yc 389 (cn p ap {r with Xj:=12} x 0).toArray/\ar w' ap WC n V/\Z1 (fun b=>b≠Yc/\b≠WC) w0 w':=by
 exact oX
theorem Bd(xi:kt r.chain (VA r.val) r.call.a=false):
 Calls prog 275 #[.pointer (some ⟨Yc,0,none⟩)] w0 fun e w'=>e= .returned (.tuple #[])/\ah w' Yc 389 (cn p ap {r with Xj:=12} x 22).toArray/\ar w' ap WC n V/\Z1 (fun b=>b≠Yc/\b≠WC) w0 w':=by
 exact oX
end
end
end
section
theorem o6{G:Prop}(h:G:=by
 go_wp2_with fail;refine abR Z7 fun X=>?_;refine az [[17,18,19,20,21]] ?_;go_wp2_with(first|(go_at_call 239;refine a6 U (gQ _ _ ki.out Wy) ?_;clear U;intro aaM U;rw[Wj.out])|(refine aq ?_)|(refine aT ?_;clear U;intro X8 w U aay));refine fY ?_;have Yq:=U.b (g:=Yc) ag;exact⟨rfl,Yq,U.bB,U.Wu⟩):G:=h
section
variable(w0:World)(p:afy)(Y8:Value)
include w0 p Y8
theorem g6(ap Yc:Nat)(r:aax)(x:Yr)(q:Int)(hb:ah w0 Yc 386 (bp p Y8 ap r x).toArray)(aeJ:a9 p)(ci:0<=r.af/\r.af<p.s)(VX:0<=q/\q<=4):
 Calls prog 351 #[.pointer (some ⟨Yc,0,none⟩),.int .i64 q] w0 fun e w'=>e= .returned (.int .i64 (64*r.af+8*q))/\Below w0.heap.size w0 w':=by
 have U:=aah.g8 hb;have aav:=I hb;clear hb;go_enter func351,ntmps351;go_wp2_with(first|(refine aq ?_));replace U:=U.drew;refine b0 ?_;intro X;refine az [[0,1,2,3,4,5,6,7,8,9]] ?_;refine aF 10 fun K Z7=>?_;go_simp;go_at_call 155;refine a6 U (iX p _ _ _ aeJ VX ci) ?_;clear U;intro aaM U;go_wp2_with fail;refine abR Z7 fun X=>?_;refine az [[11,12,13,14,15]] ?_;go_wp2_with(first|(refine aq ?_));go_ret;exact⟨rfl,U.ro aav.out ag⟩
section
variable(ap WC n Yc:Nat)(V:Nat->Int)(r:aax)(x:Yr)
include ap WC n Yc V r x
theorem u2(q v:Int)(hv:V (8*r.af.toNat+q.toNat)=v)(hb:ah w0 Yc 386 (bp p Y8 ap r x).toArray)(Xg:ar w0 ap WC n V)(aeJ:a9 p)(abi:8*p.s<=n)(ci:0<=r.af/\r.af<p.s)(VX:0<=q/\q<=4):
 Calls prog 350 #[.pointer (some ⟨Yc,0,none⟩),.int .i64 q] w0 fun e w'=>e= .returned (.int .u64 v)/\Below w0.heap.size w0 w':=by
 have U:=aah.g8 hb;have Zn:=I Xg;have aav:=I hb;have ip:8*r.af.toNat+q.toNat<n:=J;have VR:=I hv;clear Xg hb hv;go_enter func350,ntmps350;go_wp2_with(first|(refine aaO U ?_));replace U:=U.drew;refine b0 ?_;intro X;refine az [[0,1,2,3,4,5]] ?_;refine aF 6 fun K Z7=>?_;go_simp
 (first|(go_at_call 351;refine a6 U (g6 _ p Y8 ap Yc r x q (U.b ag) aeJ ci VX) ?_;clear U;intro aaM U)|(go_at_call 176;refine Calls.mono (eL _ _ _ n V _ (8*r.af.toNat+q.toNat) (U.EP aav.out ag Zn.out) J ip) ?_;rintro e aaM ⟨rfl,rfl⟩;rw[VR.out]))
 go_wp2_with fail;refine abR Z7 fun X=>?_;refine aF 7 fun K Z7=>?_;go_simp
 (first|(go_at_call 351;refine a6 U (g6 _ p Y8 ap Yc r x q (U.b ag) aeJ ci VX) ?_;clear U;intro aaM U)|(go_at_call 176;refine Calls.mono (eL _ _ _ n V _ (8*r.af.toNat+q.toNat) (U.EP aav.out ag Zn.out) J ip) ?_;rintro e aaM ⟨rfl,rfl⟩;rw[VR.out]))
 go_wp2_with fail;refine abR Z7 fun X=>?_;refine az [[8,9,10,11,12]] ?_;go_wp2_with(first|(refine aaO U ?_));go_ret;exact⟨rfl,U.ro aav.out ag⟩
theorem tA(q y:Int)(hb:ah w0 Yc 386 (bp p Y8 ap r x).toArray)(Xg:ar w0 ap WC n V)(h1:Yc≠ap)(aaV:Yc≠WC)(aeJ:a9 p)(abi:8*p.s<=n)(ci:0<=r.af/\r.af<p.s)(VX:0<=q/\q<=4)(hy:aR y):
 Calls prog 360 #[.pointer (some ⟨Yc,0,none⟩),.int .i64 q,.int .u64 y] w0 fun e w'=>e= .returned (.tuple #[])/\ah w' Yc 386 (bp p Y8 ap r x).toArray/\ar w' ap WC n (upd V (8*r.af.toNat+q.toNat) y)/\Z1 (fun b=>b≠Yc/\b≠WC) w0 w':=by
 have U:=aah.dp hb Xg h1 aaV;clear Xg hb;go_enter func360,ntmps360;go_wp2_with(first|(refine aaO U ?_));replace U:=U.drew;refine b0 ?_;intro X;refine az [[0,1,2,3,4,5,7]] ?_;refine aF 6 fun K Z7=>?_;go_simp
 (first|(go_at_call 351;refine a6 U (g6 _ p Y8 ap Yc r x q (U.b ag) aeJ ci VX) ?_;clear U;intro aaM U)|(go_at_call 279;refine Calls.mono (iJ _ _ _ n V _ _ (8*r.af.toNat+q.toNat) U.bB J J hy) ?_;rintro e aaM ⟨rfl,aH,N⟩;replace U:=U.arena aH N;clear aH N))
 go_wp2_with fail;refine abR Z7 fun X=>?_;refine aF 8 fun K Z7=>?_;go_simp
 (first|(go_at_call 351;refine a6 U (g6 _ p Y8 ap Yc r x q (U.b ag) aeJ ci VX) ?_;clear U;intro aaM U)|(go_at_call 279;refine Calls.mono (iJ _ _ _ n V _ _ (8*r.af.toNat+q.toNat) U.bB J J hy) ?_;rintro e aaM ⟨rfl,aH,N⟩;replace U:=U.arena aH N;clear aH N))
 go_wp2_with fail;refine abR Z7 fun X=>?_;refine adB ?_;go_wp2_with(first|(refine aaO U ?_));refine fY ?_;exact⟨rfl,U.b (g:=Yc) ag,U.bB,U.Wu⟩
section
variable(hb:ah w0 Yc 386 (bp p Y8 ap r x).toArray)(Xg:ar w0 ap WC n V)(h1:Yc≠ap)(aaV:Yc≠WC)
include hb Xg h1 aaV
section
variable(aeJ:a9 p)(abi:8*p.s<=n)(ci:0<=r.af/\r.af<p.s)
include aeJ abi ci
theorem Jw(ok:okW (V (8*r.af.toNat)))(cx:(Wi V r.af.toNat).st=2):
 Calls prog 323 #[.pointer (some ⟨Yc,0,none⟩)] w0 fun e w'=>e= .returned (.tuple #[])/\ah w' Yc 386 (bp p Y8 ap {r with word:=V (8*r.af.toNat),next:=afa (ic (Wi V r.af.toNat)),Xj:=16} x).toArray/\ar w' ap WC n V/\Z1 (fun b=>b≠Yc/\b≠WC) w0 w':=by
 have U:=aah.dp hb Xg h1 aaV;have hm:=Xg.cE;clear Xg hb;have ki:=I ok;have Wy:aR (V (8*r.af.toNat)):=by have:=ok.ok.aas;have e:=ok.eq;unfold aR;omega
 have adZ:=I ok.ok;have ab3:=I (ok.ok.leave cx).1;unfold Wi at cx⊢;clear ok;obtain⟨dw,VN⟩: ∃dw,Hid (V (8*r.af.toNat)=dw):=⟨_,I rfl⟩
 rw[VN.out]at ki Wy adZ ab3 cx⊢;obtain⟨c,Wj⟩: ∃c,Hid (up dw=c):=⟨_,I rfl⟩
 rw[Wj.out]at adZ ab3 cx⊢;have h0:=fun w=>Ct c w adZ.out cx;obtain⟨d,ach⟩: ∃d,Hid (ic c=d):=⟨_,I rfl⟩
 rw[ach.out]at ab3 h0⊢;clear cx;go_enter func323,ntmps323;go_wp2_with(first|(go_at_call 350;refine a6 U (u2 _ p Y8 ap WC n Yc V _ _ 0 dw VN.out (U.b ag) U.bB aeJ abi ci J) ?_;clear U;intro aaM U)|(go_at_call 239;refine a6 U (gQ _ _ ki.out Wy) ?_;clear U;intro aaM U;rw[Wj.out])|(go_at_call 291;refine a6 U (h0 _) ?_;clear U;intro aaM U)|(go_at_call 278;refine a6 U (nD _ _ ab3.out) ?_;clear U;intro aaM U)|(refine aq ?_)|(refine aT ?_;clear U;intro X8 w U aay));refine fY ?_;have Yq:=U.b (g:=Yc) ag;exact⟨rfl,Yq,U.bB,U.Wu⟩
theorem DK(ok:okW r.next)(V1:V (8*r.af.toNat)≠r.word):
 Calls prog 324 #[.pointer (some ⟨Yc,0,none⟩)] w0 fun e w'=>e= .returned (.tuple #[])/\ah w' Yc 386 (bp p Y8 ap {r with word:=0,next:=0,Xj:=15} x).toArray/\ar w' ap WC n V/\Z1 (fun b=>b≠Yc/\b≠WC) w0 w':=by
 have U:=aah.dp hb Xg h1 aaV;have hm:=Xg.cE;clear Xg hb;have ki:=I ok;have Wy:aR r.next:=by have:=ok.ok.aas;have e:=ok.eq;unfold aR;omega
 have Yl:=I V1;obtain⟨c,Wj⟩: ∃c,Hid (up r.next=c):=⟨_,I rfl⟩
 clear ok V1;go_enter func324,ntmps324;go_wp2_with(first|(refine aq ?_)|(refine aT ?_;clear U;intro X8 w U aay));replace U:=U.drew;refine b0 ?_;intro X;refine az [[0,1,2,3,4,6,7,8,9,10,11,12,13,14,15]] ?_;refine aF 5 fun K Z7=>?_;go_simp
 (first|(go_at_call 351;refine a6 U (g6 _ p Y8 ap Yc r x 0 (U.b ag) aeJ ci J) ?_;clear U;intro aaM U)|(go_at_call 322;refine Calls.mono (w4 _ _ _ n V _ _ _ (8*r.af.toNat) U.bB J J Yl.out) ?_;rintro e aaM ⟨rfl,rfl⟩))
 go_wp2_with fail;refine abR Z7 fun X=>?_;refine aF 16 fun K Z7=>?_;go_simp
 (first|(go_at_call 351;refine a6 U (g6 _ p Y8 ap Yc r x 0 (U.b ag) aeJ ci J) ?_;clear U;intro aaM U)|(go_at_call 322;refine Calls.mono (w4 _ _ _ n V _ _ _ (8*r.af.toNat) U.bB J J Yl.out) ?_;rintro e aaM ⟨rfl,rfl⟩))
 exact o6
theorem DL(ok:okW r.next)(V1:V (8*r.af.toNat)=r.word)(ZV:(up r.next).st=3):
 Calls prog 324 #[.pointer (some ⟨Yc,0,none⟩)] w0 fun e w'=>e= .returned (.tuple #[])/\ah w' Yc 386 (bp p Y8 ap {r with Xj:=17} x).toArray/\ar w' ap WC n (upd V (8*r.af.toNat) r.next)/\Z1 (fun b=>b≠Yc/\b≠WC) w0 w':=by
 have U:=aah.dp hb Xg h1 aaV;have hm:=Xg.cE;clear Xg hb;have ki:=I ok;have Wy:aR r.next:=by have:=ok.ok.aas;have e:=ok.eq;unfold aR;omega
 have Yl:=I V1;obtain⟨c,Wj⟩: ∃c,Hid (up r.next=c):=⟨_,I rfl⟩
 rw[Wj.out]at ZV;have d3:(c.st==3)=true:=by simpa using ZV
 clear ZV;clear ok V1;go_enter func324,ntmps324;go_wp2_with(first|(refine aq ?_)|(refine aT ?_;clear U;intro X8 w U aay));replace U:=U.drew;refine b0 ?_;intro X;refine az [[0,1,2,3,4,6,7,8,9,10,11,12,13,14,15]] ?_;refine aF 5 fun K Z7=>?_;go_simp
 (first|(go_at_call 351;refine a6 U (g6 _ p Y8 ap Yc r x 0 (U.b ag) aeJ ci J) ?_;clear U;intro aaM U)|(go_at_call 322;refine Calls.mono (q4 _ _ _ n V _ _ _ (8*r.af.toNat) U.bB J J Wy Yl.out) ?_;rintro e aaM ⟨rfl,aH,N⟩;replace U:=U.arena aH N;clear aH N))
 go_wp2_with fail;refine abR Z7 fun X=>?_;refine aF 16 fun K Z7=>?_;go_simp
 (first|(go_at_call 351;refine a6 U (g6 _ p Y8 ap Yc r x 0 (U.b ag) aeJ ci J) ?_;clear U;intro aaM U)|(go_at_call 322;refine Calls.mono (q4 _ _ _ n V _ _ _ (8*r.af.toNat) U.bB J J Wy Yl.out) ?_;rintro e aaM ⟨rfl,aH,N⟩;replace U:=U.arena aH N;clear aH N))
 exact o6
end
theorem DM(S:Nat->Prop)(abk:aW w0 S r x)(bE:dx r)(hS: ∀b,b<w0.heap.size->S b->b≠Yc/\b≠WC)(aeJ:a9 p)(abi:8*p.s<=n)(ci:0<=r.af/\r.af<p.s)(ok:okW r.next)(V1:V (8*r.af.toNat)=r.word)(ZV:(up r.next).st≠3):
 Calls prog 324 #[.pointer (some ⟨Yc,0,none⟩)] w0 fun e w'=> ∃v,e= .returned (.tuple #[])/\cF w' (fun b=>w0.heap.size<=b/\b≠Yc/\b≠WC) v r.said/\ah w' Yc 386 (bp p Y8 ap (tell r 0 0) {x with Y1:=v}).toArray/\ar w' ap WC n (upd V (8*r.af.toNat) r.next)/\Z1 (fun b=>b≠Yc/\b≠WC) w0 w':=by
 have U:=aah.dp hb Xg h1 aaV;have aby:=I abk;obtain⟨W9,adX,aeQ,acN,acG,aeb,af3,ZM,rfl⟩:=eW abk;have hm:=Xg.cE;clear Xg hb abk;have ki:=I ok;have Wy:aR r.next:=by have:=ok.ok.aas;have e:=ok.eq;unfold aR;omega
 have Yl:=I V1;obtain⟨c,Wj⟩: ∃c,Hid (up r.next=c):=⟨_,I rfl⟩
 rw[Wj.out]at ZV;have d3:(c.st==3)=false:=by simpa using ZV
 clear ZV;clear ok V1;go_enter func324,ntmps324;go_wp2_with(first|(refine aq ?_)|(refine aT ?_;clear U;intro X8 w U aay));replace U:=U.drew;refine b0 ?_;intro X;refine az [[0,1,2,3,4,6,7,8,9,10,11,12,13,14,15]] ?_;refine aF 5 fun K Z7=>?_;go_simp
 (first|(go_at_call 351;refine a6 U (g6 _ p Y8 ap Yc r ⟨.slice W9 r.chain.length adX,.slice aeQ r.list.length acN,.slice acG r.said.length aeb,.slice af3 r.aC.said.length ZM⟩ 0 (U.b ag) aeJ ci J) ?_;clear U;intro aaM U)|(go_at_call 322;refine Calls.mono (q4 _ _ _ n V _ _ _ (8*r.af.toNat) U.bB J J Wy Yl.out) ?_;rintro e aaM ⟨rfl,aH,N⟩;replace U:=U.arena aH N;clear aH N))
 go_wp2_with fail;refine abR Z7 fun X=>?_;refine aF 16 fun K Z7=>?_;go_simp
 (first|(go_at_call 351;refine a6 U (g6 _ p Y8 ap Yc r ⟨.slice W9 r.chain.length adX,.slice aeQ r.list.length acN,.slice acG r.said.length aeb,.slice af3 r.aC.said.length ZM⟩ 0 (U.b ag) aeJ ci J) ?_;clear U;intro aaM U)|(go_at_call 322;refine Calls.mono (q4 _ _ _ n V _ _ _ (8*r.af.toNat) U.bB J J Wy Yl.out) ?_;rintro e aaM ⟨rfl,aH,N⟩;replace U:=U.arena aH N;clear aH N))
 go_wp2_with fail;refine abR Z7 fun X=>?_;refine az [[17,18,19,20,21]] ?_;go_wp2_with(first|(go_at_call 239;refine a6 U (gQ _ _ ki.out Wy) ?_;clear U;intro aaM U;rw[Wj.out])|(go_at_call 184;refine Calls.mono (hg _ _ r ⟨.slice W9 r.chain.length adX,.slice aeQ r.list.length acN,.slice acG r.said.length aeb,.slice af3 r.aC.said.length ZM⟩ _ _ (aby.out.Wu (U.Wu.mono hS)) bE) ?_;rintro e aaM ⟨v',rfl,bD,N⟩;obtain⟨aeU,aaP,rfl,-,-,-⟩:=id bD;have hv:=U.eh bD;clear bD;have aaH:=U.below N;clear U N;have U:=aaH.base)|(refine aq ?_)|(refine aT ?_;clear U;intro X8 w U aay));exact mL
section
variable(aeJ:a9 p)(abi:8*p.s<=n)(ci:0<=r.af/\r.af<p.s)
include aeJ abi ci
theorem DN(kg:0<=bs V r.af.toNat/\bs V r.af.toNat<=65536):
 Calls prog 325 #[.pointer (some ⟨Yc,0,none⟩)] w0 fun e w'=>e= .returned (.tuple #[])/\ah w' Yc 386 (bp p Y8 ap {r with word:=bs V r.af.toNat,at_:=bs V r.af.toNat,Xj:=18} x).toArray/\ar w' ap WC n V/\Z1 (fun b=>b≠Yc/\b≠WC) w0 w':=by
 have U:=aah.dp hb Xg h1 aaV;have hm:=Xg.cE;clear Xg hb;obtain⟨b,V7⟩: ∃b,Hid (bs V r.af.toNat=b):=⟨_,I rfl⟩
 rw[V7.out]at kg⊢;go_enter func325,ntmps325;go_wp2_with(first|(go_at_call 350;refine a6 U (u2 _ p Y8 ap WC n Yc V _ _ 1 b V7.out (U.b ag) U.bB aeJ abi ci J) ?_;clear U;intro aaM U)|(refine aq ?_)|(refine ac2 U ?_;clear U;intro w U));refine fY ?_;have Yq:=U.b (g:=Yc) ag;exact⟨rfl,Yq,U.bB,U.Wu⟩
theorem DO:
 Calls prog 333 #[.pointer (some ⟨Yc,0,none⟩)] w0 fun e w'=>e= .returned (.tuple #[])/\ah w' Yc 386 (bp p Y8 ap {r with Xj:=26} x).toArray/\ar w' ap WC n (upd V (8*r.af.toNat+3) 0)/\Z1 (fun b=>b≠Yc/\b≠WC) w0 w':=by
 have U:=aah.dp hb Xg h1 aaV;have hm:=Xg.cE;clear Xg hb;go_enter func333,ntmps333;go_wp2_with(first|(go_at_call 360;refine Calls.mono (tA _ p Y8 ap WC n Yc V r x 3 0 (U.b ag) U.bB h1 aaV aeJ abi ci J am) ?_;rintro e aaM ⟨rfl,N,aH,aX⟩;replace U:=U.call cf N aH aX;clear N aH aX)|(refine ac2 U ?_;clear U;intro w U));refine fY ?_;have Yq:=U.b (g:=Yc) ag;exact⟨rfl,Yq,U.bB,U.Wu⟩
end
end
end
end
end
end Go.Proofs.YtcimojgkeoecfaaGreat
