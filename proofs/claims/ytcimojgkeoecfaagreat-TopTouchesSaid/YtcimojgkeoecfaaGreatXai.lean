import Derived.Test.YtcimojgkeoecfaaGreatXac
import Derived.Test.YtcimojgkeoecfaaGreatXah
import Derived.Deep.OwnRows
import Derived.Lib.SliceRun
set_option linter.all false
set_option maxHeartbeats 16000000
set_option maxRecDepth 100000
namespace Go.Proofs.YtcimojgkeoecfaaGreat
section
open Go.RowKit Tryz
theorem ng{G:Prop}(h:G:=by
 go_enter func321,ntmps321;go_wp2_with(go_at_call 176;refine(tu _ _ _ _ _ _ h YM h1 aga.out).mono ?_;rintro e w' ⟨rfl,rfl⟩;rw[VR.out]);go_ret3;exact⟨rfl,rfl⟩):G:=h
theorem ED:(Tryz.prog.info? 5).map (fun i=>(i.zero,i.size,i.bytes))=some (some (.int .u8 0),1,1):=aM
theorem w1:Tryz.prog.underlying 22=some (.slice 5):=aM
theorem Ik(a:Array Obj)(x:Obj)(i:Nat)(h:i=a.size):(a.push x)[i]? =some x:=by subst h;simp
theorem Cf(k:IntKind)(n:Nat):madeCells #[.int k 0] n=gN k n (fun _=>0):=by
 apply Array.ext_getElem?;intro i;by_cases h:i<n
 ·rw[lq _ _ _ _ h];simp[madeCells,h,Nat.mod_one]
 ·rw[mo _ _ _ _ J];simp[madeCells];omega
theorem Lm(n:Nat)(w:World)(h:n<=65536)(Vy:n %8=0):
 Calls prog 197 #[.int .i64 n] w fun e w'=> ∃p g,e= .returned (.tuple #[.pointer (some ⟨p,0,none⟩),.int .i64 0])/\eo w' p g n (fun _=>0)/\Below w.heap.size w w'/\w.heap.size<=p/\w.heap.size<=g:=by
 have hb:((n:Int)%8==0)=true:=by simp;omega
 clear Vy;have x0:=run_make_row' (P:=prog) 22 5 (.int .u8 0) 1 w1 ED rfl .i64 .i64 n J J;go_enter func197,ntmps197;go_wp2_with(go_at_call 104;refine(bm _ _ _ _ J J).mono ?_;rintro e w' ⟨rfl,rfl⟩);go_ret2;refine⟨w.heap.size+1,w.heap.size,rfl,⟨?_,?_,J,h,fun _=>J⟩,?_,J,J⟩
 ·exact Ik _ _ _ aN
 ·rw[Cf];unfold isRow;show((w.heap.push _).push _)[w.heap.size]? =_;simp[Array.getElem?_push]
 ·exact a2
theorem EE(w:World)(p g n:Nat)(f:Nat->Int)(aK y m b aaK abq:Int)(h:eo w p g n f)(YM:0<=aK)(h1:aK+8<=n)(Vy:aK %8=0)(hy:aR y)(w2:aR m)(XP:m<e1 f aK.toNat\/m-e1 f aK.toNat<y):
 Calls prog 321 #[.pointer (some ⟨p,0,none⟩),.int .i64 aK,.int .u64 y,.int .u64 m,.int .i64 b,.int .u64 aaK,.int .u64 abq] w fun e w'=>e= .returned (.tuple #[.int .u64 (e1 f aK.toNat),.bool false,.int .i64 0])/\w=w':=by
 have aga:=I Vy;clear Vy;have hb:=tL f h.fits aK.toNat;generalize hv:e1 f aK.toNat=v at*;have VR:=I hv;clear hv;unfold aR at*;by_cases c:m<v
 ·clear XP;exact ng
 ·have XP:=XP.resolve_left c;exact ng
end
section
open Go.RowKit
theorem Cg(f g:Nat->Int)(a k:Nat)(h: ∀i,i<k->f (a+i)=g (a+i)):ji f a k=ji g a k:=by
 induction k with
 |zero=>rfl
 |succ k aes=>rw[ji,ji,aes fun i hi=>h i J,h k J]
theorem vy(f:Nat->Int)(a b:Nat)(y:Int)(h:b+8<=a\/a+8<=b):e1 (sO f b y) a=e1 f a:=by
 apply Cg;intro i hi;unfold sO mU;rw[aB]
theorem EF(y:Int)(k:Nat)(ae3:k<8):y %256^(k+1)=y %256^k+y/256^k %256*256^k:=by
 rcases(by omega:k=0\/k=1\/k=2\/k=3\/k=4\/k=5\/k=6\/k=7)with rfl|rfl|rfl|rfl|rfl|rfl|rfl|rfl
 all_goals(simp only[Nat.reduceAdd,Int.reducePow];omega)
theorem Ch(f:Nat->Int)(a:Nat)(y:Int)(k:Nat)(ae3:k<=8):ji (sO f a y) a k=y %256^k:=by
 induction k with
 |zero=>simp[ji]
 |succ k aes=>
  rw[ji,aes J,EF y k J];unfold sO mU;rw[m3,Nat.add_sub_cancel_left]
theorem x1(f:Nat->Int)(a:Nat)(y:Int)(h:aR y):e1 (sO f a y) a=y:=by
 unfold e1 aR at*;rw[Ch _ _ _ _ J];omega
end
section
open Go.RowKit Tryz
theorem nh{G:Prop}(h:G:=by
 obtain⟨V1,N1,hb⟩:=acu;rw[show aK.toNat=8*k from by omega]at N1;exact⟨V1,⟨_,N1,Aa acA k x Wy⟩,hb⟩):G:=h
def ar(w:World)(p g n:Nat)(F:Nat->Int):Prop:= ∃f,eo w p g (8*n) f/\∀i,i<n->e1 f (8*i)=F i
section
variable{w:World}{p g n:Nat}{F:Nat->Int}(h:ar w p g n F)
include w p g n F h
theorem ar.aas(i:Nat)(hi:i<n):aR (F i):=by
 obtain⟨f,Xg,acA⟩:=h;rw[<-acA i hi];exact tL f Xg.fits _
theorem ar.cE:8*n<=65536:=by
 obtain⟨f,Xg,acA⟩:=h;exact Xg.cE
theorem ar.c9:p<w.heap.size/\g<w.heap.size/\p≠g:=by
 obtain⟨f,Xg,acA⟩:=h;exact⟨(Array.getElem?_eq_some_iff.1 Xg.head).1,Xg.row.lt,Xg.ne⟩
end
theorem ar.ext{w:World}{p g n:Nat}{F G:Nat->Int}(h:ar w p g n F)(e: ∀i,i<n->F i=G i):ar w p g n G:=by
 obtain⟨f,Xg,acA⟩:=h;exact⟨f,Xg,fun i hi=>(acA i hi).trans (e i hi)⟩
theorem ar.below{w w':World}{p g n B:Nat}{F:Nat->Int}(h:ar w p g n F)(hb:Below B w w')(aeJ:p<B)(afj:g<B):ar w' p g n F:=by
 obtain⟨f,Xg,acA⟩:=h;exact⟨f,Xg.below hb aeJ afj,acA⟩
theorem ar.lf{w w':World}{p g n B c:Nat}{F:Nat->Int}(h:ar w p g n F)(hb:ce B c w w')(aeJ:p<B)(afj:g<B)(a5:p≠c)(wZ:g≠c):ar w' p g n F:=by
 obtain⟨f,Xg,acA⟩:=h;exact⟨f,Xg.lf hb aeJ afj a5 wZ,acA⟩
section
variable{w:World}{p g n:Nat}{F:Nat->Int}(h:ar w p g n F)
include w p g n F h
theorem ar.drew:ar w.drew p g n F:=by
 obtain⟨f,Xg,acA⟩:=h;exact⟨f,⟨Xg.head,Xg.row,Xg.ne,Xg.cE,Xg.fits⟩,acA⟩
theorem ar.drewN(k:Nat):ar (w.drewN k) p g n F:=by
 obtain⟨f,Xg,acA⟩:=h;exact⟨f,⟨Xg.head,Xg.row,Xg.ne,Xg.cE,Xg.fits⟩,acA⟩
theorem ar.alloc(o:Obj):ar (w.alloc o) p g n F:=by
 have:=h.c9;exact h.below ((Below.refl w.heap.size w).alloc (ai _) _) this.1 this.2.1
theorem ar.hY{a:Addr}(aeJ:p≠a.block)(afj:g≠a.block)(v:Value):ar (w.setCell a v) p g n F:=by
 obtain⟨f,Xg,acA⟩:=h;exact⟨f,⟨(Below.heap_setCell w a v p aeJ).trans Xg.head,(Below.heap_setCell w a v g afj).trans Xg.row,Xg.ne,Xg.cE,Xg.fits⟩,acA⟩
end
section
variable(w:World)(p g n:Nat)(F:Nat->Int)(aK:Int)
include w p g n F aK
theorem EG(k:Nat)(h:ar w p g n F)(e:aK=8*k)(ae3:k<n):
 Calls prog 253 #[.pointer (some ⟨p,0,none⟩),.int .i64 aK] w fun e w'=>e= .returned (.bool true)/\w=w':=by
 obtain⟨f,Xg,acA⟩:=h;exact Ez w p g _ f aK Xg J J J
theorem x2(h:ar w p g n F)(abi:aK<0\/8*n<=aK\/aK %8≠0):
 Calls prog 176 #[.pointer (some ⟨p,0,none⟩),.int .i64 aK] w fun e w'=>e= .returned (.tuple #[.int .u64 0,.int .i64 1])/\w=w':=by
 obtain⟨f,Xg,acA⟩:=h;exact Ij w p g _ f aK Xg J
theorem eL(k:Nat)(h:ar w p g n F)(e:aK=8*k)(ae3:k<n):
 Calls prog 176 #[.pointer (some ⟨p,0,none⟩),.int .i64 aK] w fun e w'=>e= .returned (.tuple #[.int .u64 (F k),.int .i64 0])/\w=w':=by
 obtain⟨f,Xg,acA⟩:=h;refine(tu w p g _ f aK Xg J J J).mono fun e w' acu=>?_;rw[show aK.toNat=8*k from J,acA k ae3]at acu;exact acu
end
theorem Aa{f F:Nat->Int}{n:Nat}(h: ∀i,i<n->e1 f (8*i)=F i)(k:Nat)(y:Int)(hy:aR y): ∀i,i<n->e1 (sO f (8*k) y) (8*i)=upd F k y i:=by
 intro i hi;unfold upd;by_cases c:i=k
 ·subst c;rw[Z rfl];exact x1 _ _ _ hy
 ·rw[Y c,vy _ _ _ _ J];exact h i hi
section
variable(w:World)(p g n:Nat)(F:Nat->Int)
include w p g n F
theorem iJ(aK x:Int)(k:Nat)(h:ar w p g n F)(e:aK=8*k)(ae3:k<n)(Wy:aR x):
 Calls prog 279 #[.pointer (some ⟨p,0,none⟩),.int .i64 aK,.int .u64 x] w fun e w'=>e= .returned (.int .i64 0)/\ar w' p g n (upd F k x)/\ce w.heap.size g w w':=by
 obtain⟨f,Xg,acA⟩:=h;refine(EA w p g _ f aK x Xg J J J Wy).mono fun e w' acu=>?_;exact nh
section
variable(aK old x:Int)(k:Nat)(h:ar w p g n F)(e:aK=8*k)(ae3:k<n)
include aK old x k h e ae3
theorem w4(bo:F k≠old):
 Calls prog 322 #[.pointer (some ⟨p,0,none⟩),.int .i64 aK,.int .u64 old,.int .u64 x] w fun e w'=>e= .returned (.tuple #[.bool false,.int .i64 0])/\w=w':=by
 obtain⟨f,Xg,acA⟩:=h;exact Lk w p g _ f aK old x Xg J J J (by rw[show aK.toNat=8*k from J,acA k ae3];exact bo)
theorem q4(Wy:aR x)(Rh:F k=old):
 Calls prog 322 #[.pointer (some ⟨p,0,none⟩),.int .i64 aK,.int .u64 old,.int .u64 x] w fun e w'=>e= .returned (.tuple #[.bool true,.int .i64 0])/\ar w' p g n (upd F k x)/\ce w.heap.size g w w':=by
 obtain⟨f,Xg,acA⟩:=h;obtain rfl:e1 f aK.toNat=old:=by rw[show aK.toNat=8*k from J,acA k ae3];exact Rh
 refine(Ll w p g _ f aK x Xg J J J Wy).mono fun e w' acu=>?_;exact nh
end
theorem Ci(aK y m b aaK abq:Int)(k:Nat)(h:ar w p g n F)(e:aK=8*k)(ae3:k<n)(hy:aR y)(w2:aR m)(XP:m<F k\/m-F k<y):
 Calls prog 321 #[.pointer (some ⟨p,0,none⟩),.int .i64 aK,.int .u64 y,.int .u64 m,.int .i64 b,.int .u64 aaK,.int .u64 abq] w fun e w'=>e= .returned (.tuple #[.int .u64 (F k),.bool false,.int .i64 0])/\w=w':=by
 obtain⟨f,Xg,acA⟩:=h;have aal:e1 f aK.toNat=F k:=by rw[show aK.toNat=8*k from J,acA k ae3]
 rw[<-aal]at XP⊢;exact EE w p g _ f aK y m b aaK abq Xg J J J hy w2 XP
theorem Cj(aK y m b aaK abq v:Int)(k j:Nat)(h:ar w p g n F)(e:aK=8*k)(ae3:k<n)(hy:aR y)(w2:aR m)(hv:F k=v)(XP:v<=m)(c7:y<=m-v)
 (Ri:0<=b)(N:b<=65536)(aeD:b+v=8*j)(Ck:j+2<=n)(jb:aR aaK)(lV:aR abq):
 Calls prog 321 #[.pointer (some ⟨p,0,none⟩),.int .i64 aK,.int .u64 y,.int .u64 m,.int .i64 b,.int .u64 aaK,.int .u64 abq] w fun e w'=>e= .returned (.tuple #[.int .u64 v,.bool true,.int .i64 0])/\ar w' p g n (upd (upd (upd F k (v+y)) j aaK) (j+1) abq)/\ce w.heap.size g w w':=by
 have Ab:=h.aas k ae3;have EH:=h.cE;rw[hv]at Ab;have VR:=I hv;have eV:=I e;have v6:=I aeD;have bD:v<=65536:=J;have lW:b+v=8*(j:Int):=aeD;have N2:8*(j:Int)+16<=65536:=J;unfold aR at Ab hy w2;have N3:Hid (v+y<=18446744073709551615):=I J;have Uj:b+v<=65536:=J;have X1:=I jb;have X2:=I lV;clear hv e aeD lW jb lV;have ZG:=I Ck;clear N2 EH Ck;go_enter func321,ntmps321;go_wp2_with fail;refine(eL _ _ _ _ _ _ k h eV.out ae3).mono ?_;rintro e w' ⟨rfl,rfl⟩;rw[VR.out];go_wp2_with fail;refine(bm _ _ _ _ J J).mono ?_;rintro e w' ⟨rfl,rfl⟩;go_wp2_with fail;refine(EG _ _ _ _ _ _ j h (by have:=v6.out;omega) (by have:=ZG.out;omega)).mono ?_;rintro e w' ⟨rfl,rfl⟩;go_wp2_with fail;refine(EG _ _ _ _ _ _ (j+1) h (by have:=v6.out;omega) (by have:=ZG.out;omega)).mono ?_;rintro e w' ⟨rfl,rfl⟩;go_wp2_with fail;refine(iJ _ _ _ _ _ _ _ k h eV.out ae3 (by unfold aR;have:=N3.out;omega)).mono ?_;rintro e aaM ⟨rfl,h1,N⟩;go_wp2_with fail;refine(iJ _ _ _ _ _ _ _ j h1 (by have:=v6.out;omega) (by have:=ZG.out;omega) X1.out).mono ?_;rintro e WW ⟨rfl,aaV,be⟩;go_wp2_with fail;refine(iJ _ _ _ _ _ _ _ (j+1) aaV (by have:=v6.out;omega) (by have:=ZG.out;omega) X2.out).mono ?_;rintro e w3 ⟨rfl,ZV,fB⟩;go_wp2_with fail;go_ret3;exact⟨rfl,ZV,N.trans ((be.mono N.size).trans (fB.mono (D N.size be.size)))⟩
end
end
end Go.Proofs.YtcimojgkeoecfaaGreat
