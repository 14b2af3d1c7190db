import Derived.Test.YtcimojgkeoecfaaGreatVah
import Derived.BigQuiet
set_option linter.all false
set_option maxHeartbeats 16000000
set_option maxRecDepth 100000
namespace Go.Proofs.YtcimojgkeoecfaaGreat
open Go.RowKit Tryz
theorem oo{G:Prop}(h:G:=by
 go_enter func242,ntmps242;go_wp2_with fail;refine(C2 _ _ _ _ _ _ _ ok.out).mono ?_;rintro e EH ⟨rfl,N⟩;have bz:=N.size;(repeat(first|rw[World.size_alloc]at bz|rw[World.size_setCell]at bz|rw[World.size_drew]at bz));have dB:w.heap.size<EH.heap.size:=(by omega);have dC:=fun o=>N.cell (p:=⟨w.heap.size,o,none⟩) ch;have dD:=fun o=>N.frozen (p:=⟨w.heap.size,o,none⟩) ch;go_wp2_with fail;go_quiet (fail);go_wp2_with fail;go_ret3;refine⟨zd (by omega) (by omega) rfl,?_⟩;exact a2):G:=h
theorem mc(z l g:Int)(d:Bool)(s e:Int)(w:World)(ok:Hid (gj z l g s e)):
 Calls prog 242 #[lz z l g d s e] w fun x w'=>x= .returned (.tuple #[.int .u64 (hF z l g (bi d)),.int .u64 (s+256*e),.int .i64 0])/\Below w.heap.size w w':=by
 unfold lz hF;obtain⟨h1,a,k,j,c⟩:=ok.out;have f:bits .or .u64 11889503016258109440 (g*1099511627776)=11889503016258109440+g*1099511627776:=lU 56 _ _ J J J J J J;have b:bits .or .u64 (11889503016258109440+g*1099511627776) (l*4294967296)=11889503016258109440+g*1099511627776+l*4294967296:=lU 40 _ _ J J J J J J;have h:bits .or .u64 (11889503016258109440+g*1099511627776+l*4294967296) z=11889503016258109440+g*1099511627776+l*4294967296+z:=lU 32 _ _ J J J J J J;have m:bits .or .u64 (11889503016258109440+g*1099511627776+l*4294967296+z) 281474976710656=11889503016258109440+g*1099511627776+l*4294967296+z+281474976710656:=C4 _ J J;have i:bits .or .u64 (e*256) s=e*256+s:=lU 8 _ _ J J J J J J;cases d
 ·rw[pN];exact oo
 ·rw[tG];exact oo
theorem C5(z l g:Int)(d:Bool)(s e:Int)(w:World)(no:Hid (¬gj z l g s e)):
 Calls prog 242 #[lz z l g d s e] w fun x w'=>x= .returned (.tuple #[.int .u64 0,.int .u64 0,.int .i64 1])/\Below w.heap.size w w':=by
 unfold lz;go_enter func242,ntmps242;go_wp2_with fail;refine(C3 _ _ _ _ _ _ _ no.out).mono ?_;rintro e b ⟨rfl,N⟩;have a:=N.size;(repeat(first|rw[World.size_alloc]at a|rw[World.size_setCell]at a|rw[World.size_drew]at a));have c:w.heap.size<b.heap.size:=J;have f:=fun o=>N.cell (p:=⟨w.heap.size,o,none⟩) ch;have h:=fun o=>N.frozen (p:=⟨w.heap.size,o,none⟩) ch;go_wp2_with fail;go_ret3;refine⟨rfl,?_⟩;exact a2
section
theorem qf{G:Prop}(h:G:=by
 go_wp2_with fail;refine aZ (g:=w.heap.size) (t:=91) (fr:=(0,0)) (cs:= #[.int .i64 0,.int .i64 0,.int .i64 0,.bool false,.int .i64 0,.int .i64 0]) results160 ?_ ?_ ?_ underlying91 rfl ?_ ?_;(focus rfl);(focus rfl);(focus(apply Exists.intro;apply And.intro;(focus(repeat(first|(with_reducible exact dL _ _)|((with_reducible apply eg);(focus(first|(simp;done)|omega)))|(with_reducible apply eC)|((with_reducible apply eQ);(focus(first|omega|(simp;done)|(simp;omega))))|((with_reducible apply dA);(focus(with_reducible assumption));(focus(first|omega|(simp;done)|(simp;omega))))|((with_reducible apply cQ);(focus(first|omega|(simp;done)|(simp;omega)))))));(focus rfl)));(focus kernel_rfl);refine⟨rfl,?_⟩;exact a2):G:=h
theorem xx(x a:Int)(w:World)(d:aR x)(p:Int)(f:0<=a)(h1:a<=48)(c:x/2^a.toNat=p)(hu:aR p):
 Calls prog 241 #[.int .u64 x,.int .i64 a] w fun e w'=>e= .returned (.int .i64 (p %256))/\w=w':=by
 have b:=jJ p hu;go_enter func241,ntmps241;go_wp2_with fail;go_ret;exact⟨rfl,rfl⟩
section
variable(x:Int)(w:World)(a:aR x)
include x w a
theorem xy:
 Calls prog 241 #[.int .u64 x,.int .i64 0] w fun e w'=>e= .returned (.int .i64 (x %256))/\w=w':=
 xx x 0 w a x J J aN a
theorem uI:
 Calls prog 241 #[.int .u64 x,.int .i64 32] w fun e w'=>e= .returned (.int .i64 (x/4294967296 %256))/\w=w':=
 xx x 32 w a _ J J aN J
theorem uJ:
 Calls prog 241 #[.int .u64 x,.int .i64 40] w fun e w'=>e= .returned (.int .i64 (x/1099511627776 %256))/\w=w':=
 xx x 40 w a _ J J aN J
theorem uK:
 Calls prog 241 #[.int .u64 x,.int .i64 48] w fun e w'=>e= .returned (.int .i64 (x/281474976710656 %256))/\w=w':=
 xx x 48 w a _ J J aN J
end
abbrev Uq(f:Int):Int:=f %4294967296
abbrev Uv(f:Int):Int:=f/4294967296 %256
abbrev Up(f:Int):Int:=f/1099511627776 %256
abbrev W4(f:Int):Bool:=f/281474976710656 %256==1
abbrev m8(t:Int):Int:=t %256
abbrev m9(t:Int):Int:=t/256
abbrev rG(f t:Int):Prop:=gj (Uq f) (Uv f) (Up f) (m8 t) (m9 t)/\f/72057594037927936=165/\f/281474976710656 %256<=1
theorem A2(f:Int)(b:aR f):(f/281474976710656 %256<=1->bi (W4 f)=f/281474976710656 %256)/\(1<f/281474976710656 %256->bi (W4 f)=0):=by
 unfold W4 bi;by_cases h:f/281474976710656 %256=1
 ·rw[h];simp
 ·have hb:(f/281474976710656 %256==1)=false:=by simpa using h
  rw[hb];have a:=I h;clear h hb;constructor
  ·intro h1;have:=a.out;simp;omega
  ·intro _;simp
theorem C6(f t:Int)(w:World)(a:aR f)(e:aR t)(ok:Hid (rG f t)):
 Calls prog 242 #[lz (Uq f) (Uv f) (Up f) (W4 f) (m8 t) (m9 t)] w fun x w'=>x= .returned (.tuple #[.int .u64 f,.int .u64 t,.int .i64 0])/\Below w.heap.size w w':=by
 obtain⟨b,d,c⟩:=ok.out;have hb:=(A2 f a).1 c;refine(mc _ _ _ _ _ _ w b).mono fun x w' g=>⟨?_,g.2⟩
 rw[g.1,hb];exact zd (by unfold hF Uq Uv Up;unfold aR at a;omega) (by unfold m8 m9;omega) rfl
theorem C7(f z l g:Int)(d:Bool)(s e:Int)(w:World)(ok:gj z l g s e)(ne:hF z l g (bi d)≠f):
 Calls prog 242 #[lz z l g d s e] w fun x w'=> ∃F S:Int,x= .returned (.tuple #[.int .u64 F,.int .u64 S,.int .i64 0])/\(F<f\/f<F)/\Below w.heap.size w w':=
 (mc z l g d s e w ok).mono fun x w' g=>⟨_,_,g.1,J,g.2⟩
theorem PA(f t:Int)(a:aR f)(ok:gj (Uq f) (Uv f) (Up f) (m8 t) (m9 t))(no: ¬rG f t):hF (Uq f) (Uv f) (Up f) (bi (W4 f))≠f:=by
 have hb:=A2 f a;have hd:=Ew (W4 f);intro h;apply no;by_cases h1:f/281474976710656 %256<=1
 ·have:=hb.1 h1;refine⟨ok,?_,h1⟩;unfold hF Uq Uv Up at h;omega
 ·have:=hb.2 J;rw[this]at h;unfold hF Uq Uv Up at h;omega
theorem adO(f t:Int)(w:World)(a:aR f)(d:aR t)(ok:Hid (rG f t)):
 Calls prog 160 #[.int .u64 f,.int .u64 t] w fun x w'=>x= .returned (.tuple #[lz (Uq f) (Uv f) (Up f) (W4 f) (m8 t) (m9 t),.int .i64 0])/\Below w.heap.size w w':=by
 have b:=q0 f a;have key:=fun w=>C6 f t w a d ok;unfold lz Uq Uv Up W4 m8 m9 at*;have K:=I key;clear key;go_enter func160,ntmps160;go_wp2_with fail;refine(uI _ _ a).mono ?_;rintro e w' ⟨rfl,rfl⟩;go_wp2_with fail;refine(uJ _ _ a).mono ?_;rintro e w' ⟨rfl,rfl⟩;go_wp2_with fail;refine(uK _ _ a).mono ?_;rintro e w' ⟨rfl,rfl⟩;go_wp2_with fail;refine(xy _ _ d).mono ?_;rintro e w' ⟨rfl,rfl⟩;go_wp2_with fail;refine(K.out _).mono ?_;rintro e c ⟨rfl,N⟩;have h:=N.size;(repeat(first|rw[World.size_alloc]at h|rw[World.size_setCell]at h|rw[World.size_drew]at h));have i:w.heap.size<c.heap.size:=J;have j:=fun o=>N.cell (p:=⟨w.heap.size,o,none⟩) ch;have k:=fun o=>N.frozen (p:=⟨w.heap.size,o,none⟩) ch;have l:w.heap.size+1<c.heap.size:=J;have m:=fun o=>N.cell (p:=⟨w.heap.size+1,o,none⟩) ch;have n:=fun o=>N.frozen (p:=⟨w.heap.size+1,o,none⟩) ch;go_wp2_with fail;refine aZ (g:=w.heap.size) (t:=91) (fr:=(0,0)) (cs:= #[.int .i64 (f %4294967296),.int .i64 (f/4294967296 %256),.int .i64 (f/1099511627776 %256),.bool (f/281474976710656 %256==1),.int .i64 (t %256),.int .i64 (t/256)]) results160 ?_ ?_ ?_ underlying91 rfl ?_ ?_;(focus rfl);(focus rfl);(focus(apply Exists.intro;apply And.intro;(focus(repeat(first|(with_reducible exact dL _ _)|((with_reducible apply eg);(focus(first|(simp;done)|omega)))|(with_reducible apply eC)|((with_reducible apply eQ);(focus(first|omega|(simp;done)|(simp;omega))))|((with_reducible apply dA);(focus(with_reducible assumption));(focus(first|omega|(simp;done)|(simp;omega))))|((with_reducible apply cQ);(focus(first|omega|(simp;done)|(simp;omega)))))));(focus rfl)));(focus kernel_rfl);refine⟨rfl,?_⟩;exact a2
abbrev sy:Value:=.agg #[.int .i64 0,.int .i64 0,.int .i64 0,.bool false,.int .i64 0,.int .i64 0]
theorem adP(f t:Int)(w:World)(a:aR f)(i:aR t)(no:Hid (¬rG f t)):
 Calls prog 160 #[.int .u64 f,.int .u64 t] w fun x w'=>x= .returned (.tuple #[sy,.int .i64 18])/\Below w.heap.size w w':=by
 have b:=q0 f a;by_cases d:gj (Uq f) (Uv f) (Up f) (m8 t) (m9 t)
 ·have key:=fun w=>C7 f _ _ _ _ _ _ w d (PA f t a d no.out);unfold sy;unfold lz Uq Uv Up W4 m8 m9 at key;have K:=I key;clear key d;go_enter func160,ntmps160;go_wp2_with fail;refine(uI _ _ a).mono ?_;rintro e w' ⟨rfl,rfl⟩;go_wp2_with fail;refine(uJ _ _ a).mono ?_;rintro e w' ⟨rfl,rfl⟩;go_wp2_with fail;refine(uK _ _ a).mono ?_;rintro e w' ⟨rfl,rfl⟩;go_wp2_with fail;refine(xy _ _ i).mono ?_;rintro e w' ⟨rfl,rfl⟩;go_wp2_with fail;refine(K.out _).mono ?_;rintro e c ⟨F,S,rfl,r,N⟩;have h:=N.size;(repeat(first|rw[World.size_alloc]at h|rw[World.size_setCell]at h|rw[World.size_drew]at h));have j:w.heap.size<c.heap.size:=J;have k:=fun o=>N.cell (p:=⟨w.heap.size,o,none⟩) ch;have l:=fun o=>N.frozen (p:=⟨w.heap.size,o,none⟩) ch;have m:w.heap.size+1<c.heap.size:=J;have n:=fun o=>N.cell (p:=⟨w.heap.size+1,o,none⟩) ch;have q:=fun o=>N.frozen (p:=⟨w.heap.size+1,o,none⟩) ch;exact qf
 ·have key:=fun w=>C5 (Uq f) (Uv f) (Up f) (W4 f) (m8 t) (m9 t) w d;unfold sy;unfold lz Uq Uv Up W4 m8 m9 at key;have K:=I key;clear key d;go_enter func160,ntmps160;go_wp2_with fail;refine(uI _ _ a).mono ?_;rintro e w' ⟨rfl,rfl⟩;go_wp2_with fail;refine(uJ _ _ a).mono ?_;rintro e w' ⟨rfl,rfl⟩;go_wp2_with fail;refine(uK _ _ a).mono ?_;rintro e w' ⟨rfl,rfl⟩;go_wp2_with fail;refine(xy _ _ i).mono ?_;rintro e w' ⟨rfl,rfl⟩;go_wp2_with fail;refine(K.out _).mono ?_;rintro e c ⟨rfl,N⟩;have h:=N.size;(repeat(first|rw[World.size_alloc]at h|rw[World.size_setCell]at h|rw[World.size_drew]at h));have j:w.heap.size<c.heap.size:=J;have k:=fun o=>N.cell (p:=⟨w.heap.size,o,none⟩) ch;have l:=fun o=>N.frozen (p:=⟨w.heap.size,o,none⟩) ch;have m:w.heap.size+1<c.heap.size:=J;have n:=fun o=>N.cell (p:=⟨w.heap.size+1,o,none⟩) ch;have q:=fun o=>N.frozen (p:=⟨w.heap.size+1,o,none⟩) ch;exact qf
end
theorem A3(n m:Int)(w:World)(h:n<0\/6<n\/m<0\/512<m):
 Calls prog 220 #[.int .i64 n,.int .i64 m] w fun x w'=>x= .returned (.tuple #[.int .i64 0,.int .i64 1])/\w=w':=by
 by_cases h1:0<=n/\n<=6
 ·go_enter func220,ntmps220;go_wp2_with(first|(go_at_call 104;refine(bm _ _ _ _ J J).mono ?_;rintro e w' ⟨rfl,rfl⟩)|(go_at_call 104;refine(fq _ _ _ _ J).mono ?_;rintro e w' ⟨rfl,rfl⟩));go_ret2;exact⟨rfl,rfl⟩
 ·go_enter func220,ntmps220;go_wp2_with(go_at_call 104;refine(fq _ _ _ _ J).mono ?_;rintro e w' ⟨rfl,rfl⟩);go_ret2;exact⟨rfl,rfl⟩
theorem qQ(n m:Int)(w:World)(h1:0<=n/\n<=6)(a:0<=m/\m<=512):
 Calls prog 220 #[.int .i64 n,.int .i64 m] w fun x w'=>x= .returned (.tuple #[.int .i64 (2+n+(m+7)/8),.int .i64 0])/\w=w':=by
 go_enter func220,ntmps220;go_wp2_with(first|(go_at_call 104;refine(bm _ _ _ _ J J).mono ?_;rintro e w' ⟨rfl,rfl⟩)|(go_at_call 294;refine(Ay _ _ J J).mono ?_;rintro e w' ⟨rfl,rfl⟩));go_ret2;exact⟨rfl,rfl⟩
section
theorem oR{G:Prop}(h:G:=by
 unfold Uq Uv Up W4 m8 m9 rG hF gj Uq Uv Up m8 m9;refine⟨by omega,by omega,by omega,by simp;omega,by omega,by omega,⟨by omega,by omega,by omega,by omega,by omega⟩,by omega,by omega⟩):G:=h
structure isObj(f t z l g:Int)(d:Bool)(s e:Int):Prop where
 ok:gj z l g s e
 one:f=hF z l g (bi d)
 two:t=s+256*e
section
variable{f t z l g:Int}{d:Bool}{s e:Int}(o:isObj f t z l g d s e)
include f t z l g d s e o
theorem isObj.UK:aR f/\aR t:=by
 have:=Ew d;obtain⟨⟨a,b,c,x,y⟩,rfl,rfl⟩:=o;unfold hF aR;omega
theorem isObj.parts:Uq f=z/\Uv f=l/\Up f=g/\W4 f=d/\m8 t=s/\m9 t=e/\rG f t:=by
 obtain⟨⟨a,b,c,x,y⟩,rfl,rfl⟩:=o;cases d
 ·rw[pN];exact oR
 ·rw[tG];exact oR
end
theorem isObj.of{f t:Int}(a:aR f)(ok:rG f t):isObj f t (Uq f) (Uv f) (Up f) (W4 f) (m8 t) (m9 t):=by
 refine⟨ok.1,?_,by unfold m8 m9;omega⟩;rw[(A2 f a).1 ok.2.2];have h1:=ok.2.1;have b:=ok.2.2;unfold hF Uq Uv Up;unfold aR at a;omega
theorem isObj.mark{f t z l g:Int}{d:Bool}{s e:Int}(o:isObj f t z l g d s e):isObj (hF z l g 1) t z l g true s e:=⟨o.ok,rfl,o.two⟩
theorem A8(f t z l g:Int)(d:Bool)(s e:Int)(w:World)(o:isObj f t z l g d s e):
 Calls prog 160 #[.int .u64 f,.int .u64 t] w fun x w'=>x= .returned (.tuple #[.agg #[.int .i64 z,.int .i64 l,.int .i64 g,.bool d,.int .i64 s,.int .i64 e],.int .i64 0])/\Below w.heap.size w w':=by
 obtain⟨h1,a,i,h,b,c,ok⟩:=o.parts;have:=adO f t w o.UK.1 o.UK.2 (I ok);rw[h1,a,i,h,b,c]at this;exact this
theorem Gl(z l g:Int)(d:Bool)(s e:Int)(w:World)(ok:gj z l g s e):
 Calls prog 242 #[.agg #[.int .i64 z,.int .i64 l,.int .i64 g,.bool d,.int .i64 s,.int .i64 e]] w fun x w'=>x= .returned (.tuple #[.int .u64 (hF z l g (bi d)),.int .u64 (s+256*e),.int .i64 0])/\Below w.heap.size w w':=
 mc z l g d s e w (I ok)
end
end Go.Proofs.YtcimojgkeoecfaaGreat
