import Derived.Test.YtcimojgkeoecfaaGreatVac
import Derived.Test.YtcimojgkeoecfaaGreatVah
import Derived.Deep.OwnRows
import Derived.Lib.SliceRun
set_option linter.all false
set_option maxHeartbeats 16000000
set_option maxRecDepth 100000
namespace Go.Proofs.YtcimojgkeoecfaaGreat
section
open Go.RowKit Tryz
theorem ng{G:Prop}(h:G:=by
 go_enter func321,ntmps321;go_wp2_with(go_at_call 176;refine(tu _ _ _ _ _ _ h YM h1 aga.out).mono ?_;rintro e w' ⟨rfl,rfl⟩;rw[aaG.out]);go_ret3;exact⟨rfl,rfl⟩):G:=h
theorem ED:(Tryz.prog.info? 5).map (fun i=>(i.zero,i.size,i.bytes))=some (some (.int .u8 0),1,1):=aM
theorem ac4:Tryz.prog.underlying 22=some (.slice 5):=aM
theorem Ik(a:Array Obj)(x:Obj)(i:Nat)(h:i=a.size):(a.push x)[i]? =some x:=by subst h;simp
theorem Cf(k:IntKind)(n:Nat):madeCells #[.int k 0] n=gN k n (fun _=>0):=by
 apply Array.ext_getElem?;intro i;by_cases h:i<n
 ·rw[lq _ _ _ _ h];simp[madeCells,h,Nat.mod_one]
 ·rw[mo _ _ _ _ J];simp[madeCells];omega
theorem Lm(n:Nat)(w:World)(h:n<=65536)(a:n %8=0):
 Calls prog 197 #[.int .i64 n] w fun e w'=> ∃p g,e= .returned (.tuple #[.pointer (some ⟨p,0,none⟩),.int .i64 0])/\eo w' p g n (fun _=>0)/\Below w.heap.size w w'/\w.heap.size<=p/\w.heap.size<=g:=by
 have hb:((n:Int)%8==0)=true:=by simp;omega
 clear a;have b:=run_make_row' (P:=prog) 22 5 (.int .u8 0) 1 ac4 ED rfl .i64 .i64 n J J;go_enter func197,ntmps197;go_wp2_with(go_at_call 104;refine(bm _ _ _ _ J J).mono ?_;rintro e w' ⟨rfl,rfl⟩);go_ret2;refine⟨w.heap.size+1,w.heap.size,rfl,⟨?_,?_,J,h,fun _=>J⟩,?_,J,J⟩
 ·exact Ik _ _ _ aN
 ·rw[Cf];unfold isRow;show((w.heap.push _).push _)[w.heap.size]? =_;simp[Array.getElem?_push]
 ·exact a2
theorem EE(w:World)(p g n:Nat)(f:Nat->Int)(a y m b i j:Int)(h:eo w p g n f)(YM:0<=a)(h1:a+8<=n)(k:a %8=0)(hy:aR y)(l:aR m)(d:m<e1 f a.toNat\/m-e1 f a.toNat<y):
 Calls prog 321 #[.pointer (some ⟨p,0,none⟩),.int .i64 a,.int .u64 y,.int .u64 m,.int .i64 b,.int .u64 i,.int .u64 j] w fun e w'=>e= .returned (.tuple #[.int .u64 (e1 f a.toNat),.bool false,.int .i64 0])/\w=w':=by
 have aga:=I k;clear k;have hb:=tL f h.fits a.toNat;generalize hv:e1 f a.toNat=v at*;have aaG:=I hv;clear hv;unfold aR at*;by_cases c:m<v
 ·clear d;exact ng
 ·have d:=d.resolve_left c;exact ng
end
section
open Go.RowKit
theorem Cg(f g:Nat->Int)(a k:Nat)(h: ∀i,i<k->f (a+i)=g (a+i)):ji f a k=ji g a k:=by
 induction k with
 |zero=>rfl
 |succ k b=>rw[ji,ji,b fun i hi=>h i J,h k J]
theorem ac3(f:Nat->Int)(a b:Nat)(y:Int)(h:b+8<=a\/a+8<=b):e1 (sO f b y) a=e1 f a:=by
 apply Cg;intro i hi;unfold sO mU;rw[aB]
theorem EF(y:Int)(k:Nat)(a:k<8):y %256^(k+1)=y %256^k+y/256^k %256*256^k:=by
 rcases(by omega:k=0\/k=1\/k=2\/k=3\/k=4\/k=5\/k=6\/k=7)with rfl|rfl|rfl|rfl|rfl|rfl|rfl|rfl
 all_goals(simp only[Nat.reduceAdd,Int.reducePow];omega)
theorem Ch(f:Nat->Int)(a:Nat)(y:Int)(k:Nat)(c:k<=8):ji (sO f a y) a k=y %256^k:=by
 induction k with
 |zero=>simp[ji]
 |succ k b=>
  rw[ji,b J,EF y k J];unfold sO mU;rw[m3,Nat.add_sub_cancel_left]
theorem acA(f:Nat->Int)(a:Nat)(y:Int)(h:aR y):e1 (sO f a y) a=y:=by
 unfold e1 aR at*;rw[Ch _ _ _ _ J];omega
end
section
open Go.RowKit Tryz
theorem nh{G:Prop}(h:G:=by
 obtain⟨V1,N1,hb⟩:=Vi;rw[show aK.toNat=8*k from by omega]at N1;exact⟨V1,⟨_,N1,Aa UA k x Wy⟩,hb⟩):G:=h
def ar(w:World)(p g n:Nat)(F:Nat->Int):Prop:= ∃f,eo w p g (8*n) f/\∀i,i<n->e1 f (8*i)=F i
section
variable{w:World}{p g n:Nat}{F:Nat->Int}(h:ar w p g n F)
include w p g n F h
theorem ar.UK(i:Nat)(hi:i<n):aR (F i):=by
 obtain⟨f,b,a⟩:=h;rw[<-a i hi];exact tL f b.fits _
theorem ar.cE:8*n<=65536:=by
 obtain⟨f,a,b⟩:=h;exact a.cE
theorem ar.c9:p<w.heap.size/\g<w.heap.size/\p≠g:=by
 obtain⟨f,a,b⟩:=h;exact⟨(Array.getElem?_eq_some_iff.1 a.head).1,a.row.lt,a.ne⟩
end
theorem ar.ext{w:World}{p g n:Nat}{F G:Nat->Int}(h:ar w p g n F)(e: ∀i,i<n->F i=G i):ar w p g n G:=by
 obtain⟨f,b,a⟩:=h;exact⟨f,b,fun i hi=>(a i hi).trans (e i hi)⟩
theorem ar.below{w w':World}{p g n B:Nat}{F:Nat->Int}(h:ar w p g n F)(hb:Below B w w')(b:p<B)(c:g<B):ar w' p g n F:=by
 obtain⟨f,d,a⟩:=h;exact⟨f,d.below hb b c,a⟩
theorem ar.lf{w w':World}{p g n B c:Nat}{F:Nat->Int}(h:ar w p g n F)(hb:ce B c w w')(b:p<B)(d:g<B)(i:p≠c)(j:g≠c):ar w' p g n F:=by
 obtain⟨f,e,a⟩:=h;exact⟨f,e.lf hb b d i j,a⟩
section
variable{w:World}{p g n:Nat}{F:Nat->Int}(h:ar w p g n F)
include w p g n F h
theorem ar.drew:ar w.drew p g n F:=by
 obtain⟨f,a,b⟩:=h;exact⟨f,⟨a.head,a.row,a.ne,a.cE,a.fits⟩,b⟩
theorem ar.drewN(k:Nat):ar (w.drewN k) p g n F:=by
 obtain⟨f,a,b⟩:=h;exact⟨f,⟨a.head,a.row,a.ne,a.cE,a.fits⟩,b⟩
theorem ar.alloc(o:Obj):ar (w.alloc o) p g n F:=by
 have:=h.c9;exact h.below ((Below.refl w.heap.size w).alloc (ai _) _) this.1 this.2.1
theorem ar.hY{a:Addr}(d:p≠a.block)(e:g≠a.block)(v:Value):ar (w.setCell a v) p g n F:=by
 obtain⟨f,b,c⟩:=h;exact⟨f,⟨(Below.heap_setCell w a v p d).trans b.head,(Below.heap_setCell w a v g e).trans b.row,b.ne,b.cE,b.fits⟩,c⟩
end
section
variable(w:World)(p g n:Nat)(F:Nat->Int)(a:Int)
include w p g n F a
theorem EG(k:Nat)(h:ar w p g n F)(e:a=8*k)(d:k<n):
 Calls prog 253 #[.pointer (some ⟨p,0,none⟩),.int .i64 a] w fun e w'=>e= .returned (.bool true)/\w=w':=by
 obtain⟨f,b,c⟩:=h;exact Ez w p g _ f a b J J J
theorem x2(h:ar w p g n F)(c:a<0\/8*n<=a\/a %8≠0):
 Calls prog 176 #[.pointer (some ⟨p,0,none⟩),.int .i64 a] w fun e w'=>e= .returned (.tuple #[.int .u64 0,.int .i64 1])/\w=w':=by
 obtain⟨f,b,d⟩:=h;exact Ij w p g _ f a b J
theorem eL(k:Nat)(h:ar w p g n F)(e:a=8*k)(d:k<n):
 Calls prog 176 #[.pointer (some ⟨p,0,none⟩),.int .i64 a] w fun e w'=>e= .returned (.tuple #[.int .u64 (F k),.int .i64 0])/\w=w':=by
 obtain⟨f,i,c⟩:=h;refine(tu w p g _ f a i J J J).mono fun e w' b=>?_;rw[show a.toNat=8*k from J,c k d]at b;exact b
end
theorem Aa{f F:Nat->Int}{n:Nat}(h: ∀i,i<n->e1 f (8*i)=F i)(k:Nat)(y:Int)(hy:aR y): ∀i,i<n->e1 (sO f (8*k) y) (8*i)=upd F k y i:=by
 intro i hi;unfold upd;by_cases c:i=k
 ·subst c;rw[Z rfl];exact acA _ _ _ hy
 ·rw[Y c,ac3 _ _ _ _ J];exact h i hi
section
variable(w:World)(p g n:Nat)(F:Nat->Int)
include w p g n F
theorem iJ(aK x:Int)(k:Nat)(h:ar w p g n F)(e:aK=8*k)(b:k<n)(Wy:aR x):
 Calls prog 279 #[.pointer (some ⟨p,0,none⟩),.int .i64 aK,.int .u64 x] w fun e w'=>e= .returned (.int .i64 0)/\ar w' p g n (upd F k x)/\ce w.heap.size g w w':=by
 obtain⟨f,a,UA⟩:=h;refine(EA w p g _ f aK x a J J J Wy).mono fun e w' Vi=>?_;exact nh
section
variable(aK old x:Int)(k:Nat)(h:ar w p g n F)(e:aK=8*k)(a:k<n)
include aK old x k h e a
theorem w4(d:F k≠old):
 Calls prog 322 #[.pointer (some ⟨p,0,none⟩),.int .i64 aK,.int .u64 old,.int .u64 x] w fun e w'=>e= .returned (.tuple #[.bool false,.int .i64 0])/\w=w':=by
 obtain⟨f,c,b⟩:=h;exact Lk w p g _ f aK old x c J J J (by rw[show aK.toNat=8*k from J,b k a];exact d)
theorem q4(Wy:aR x)(b:F k=old):
 Calls prog 322 #[.pointer (some ⟨p,0,none⟩),.int .i64 aK,.int .u64 old,.int .u64 x] w fun e w'=>e= .returned (.tuple #[.bool true,.int .i64 0])/\ar w' p g n (upd F k x)/\ce w.heap.size g w w':=by
 obtain⟨f,c,UA⟩:=h;obtain rfl:e1 f aK.toNat=old:=by rw[show aK.toNat=8*k from J,UA k a];exact b
 refine(Ll w p g _ f aK x c J J J Wy).mono fun e w' Vi=>?_;exact nh
end
theorem Ci(a y m b c d:Int)(k:Nat)(h:ar w p g n F)(e:a=8*k)(l:k<n)(hy:aR y)(r:aR m)(o:m<F k\/m-F k<y):
 Calls prog 321 #[.pointer (some ⟨p,0,none⟩),.int .i64 a,.int .u64 y,.int .u64 m,.int .i64 b,.int .u64 c,.int .u64 d] w fun e w'=>e= .returned (.tuple #[.int .u64 (F k),.bool false,.int .i64 0])/\w=w':=by
 obtain⟨f,q,j⟩:=h;have i:e1 f a.toNat=F k:=by rw[show a.toNat=8*k from J,j k l]
 rw[<-i]at o⊢;exact EE w p g _ f a y m b c d q J J J hy r o
theorem Cj(s y m b a c v:Int)(k j:Nat)(h:ar w p g n F)(e:s=8*k)(d:k<n)(hy:aR y)(M:aR m)(hv:F k=v)(S:v<=m)(U:y<=m-v)
 (P:0<=b)(N:b<=65536)(f:b+v=8*j)(r:j+2<=n)(x:aR a)(z:aR c):
 Calls prog 321 #[.pointer (some ⟨p,0,none⟩),.int .i64 s,.int .u64 y,.int .u64 m,.int .i64 b,.int .u64 a,.int .u64 c] w fun e w'=>e= .returned (.tuple #[.int .u64 v,.bool true,.int .i64 0])/\ar w' p g n (upd (upd (upd F k (v+y)) j a) (j+1) c)/\ce w.heap.size g w w':=by
 have q:=h.UK k d;have A:=h.cE;rw[hv]at q;have G:=I hv;have u:=I e;have l:=I f;have T:v<=65536:=J;have L:b+v=8*(j:Int):=f;have B:8*(j:Int)+16<=65536:=J;unfold aR at q hy M;have C:Hid (v+y<=18446744073709551615):=I J;have Q:b+v<=65536:=J;have X1:=I x;have X2:=I z;clear hv e f L x z;have i:=I r;clear B A r;go_enter func321,ntmps321;go_wp2_with fail;refine(eL _ _ _ _ _ _ k h u.out d).mono ?_;rintro e w' ⟨rfl,rfl⟩;rw[G.out];go_wp2_with fail;refine(bm _ _ _ _ J J).mono ?_;rintro e w' ⟨rfl,rfl⟩;go_wp2_with fail;refine(EG _ _ _ _ _ _ j h (by have:=l.out;omega) (by have:=i.out;omega)).mono ?_;rintro e w' ⟨rfl,rfl⟩;go_wp2_with fail;refine(EG _ _ _ _ _ _ (j+1) h (by have:=l.out;omega) (by have:=i.out;omega)).mono ?_;rintro e w' ⟨rfl,rfl⟩;go_wp2_with fail;refine(iJ _ _ _ _ _ _ _ k h u.out d (by unfold aR;have:=C.out;omega)).mono ?_;rintro e O ⟨rfl,h1,N⟩;go_wp2_with fail;refine(iJ _ _ _ _ _ _ _ j h1 (by have:=l.out;omega) (by have:=i.out;omega) X1.out).mono ?_;rintro e R ⟨rfl,o,t⟩;go_wp2_with fail;refine(iJ _ _ _ _ _ _ _ (j+1) o (by have:=l.out;omega) (by have:=i.out;omega) X2.out).mono ?_;rintro e w3 ⟨rfl,H,K⟩;go_wp2_with fail;go_ret3;exact⟨rfl,H,N.trans ((t.mono N.size).trans (K.mono (D N.size t.size)))⟩
end
end
end Go.Proofs.YtcimojgkeoecfaaGreat
