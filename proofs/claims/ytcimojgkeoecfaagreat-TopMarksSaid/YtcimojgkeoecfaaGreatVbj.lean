import Derived.Test.YtcimojgkeoecfaaGreatVai
import Derived.Test.YtcimojgkeoecfaaGreatVbc
set_option linter.all false
set_option maxHeartbeats 16000000
set_option maxRecDepth 100000
namespace Go.Proofs.YtcimojgkeoecfaaGreat
open Go.RowKit Tryz
theorem k0{G:Prop}(h:G:=by
 go_wp2_with fail;refine aZ (g:=w.heap.size) (t:=91) (fr:=(0,0)) (cs:= #[.int .i64 0,.int .i64 0,.int .i64 0,.bool false,.int .i64 0,.int .i64 0]) results353 ?_ ?_ ?_ underlying91 rfl ?_ ?_;(focus rfl);(focus rfl);(focus(apply Exists.intro;apply And.intro;(focus(repeat(first|(with_reducible exact dL _ _)|((with_reducible apply eg);(focus(first|(simp;done)|omega)))|(with_reducible apply eC)|((with_reducible apply eQ);(focus(first|omega|(simp;done)|(simp;omega))))|((with_reducible apply dA);(focus(with_reducible assumption));(focus(first|omega|(simp;done)|(simp;omega))))|((with_reducible apply cQ);(focus(first|omega|(simp;done)|(simp;omega)))))));(focus rfl)));(focus kernel_rfl);refine⟨rfl,?_⟩;exact a2):G:=h
def sI(V:Nat->Int)(n:Nat)(a:Int):Prop:= ∀k:Nat,a=8*k->k+1<n->¬rG (V k) (V (k+1))
section
variable(w:World)(p g n:Nat)(V:Nat->Int)
include w p g n V
theorem oS(a:Int)(k:Nat)(z l t:Int)(d:Bool)(s e:Int)(h:ar w p g n V)(b:a=8*k)(i:k+1<n)(o:isObj (V k) (V (k+1)) z l t d s e):
 Calls prog 353 #[.pointer (some ⟨p,0,none⟩),.int .i64 a] w fun x w'=>x= .returned (.tuple #[.agg #[.int .i64 z,.int .i64 l,.int .i64 t,.bool d,.int .i64 s,.int .i64 e],.int .i64 0])/\Below w.heap.size w w':=by
 have hm:=h.cE;have j:=I b;have hb:0<=a/\a<=65536:=J;clear b;go_enter func353,ntmps353;go_wp2_with fail;refine(eL _ _ _ _ _ _ k (h.alloc _) j.out J).mono ?_;rintro e w' ⟨rfl,rfl⟩;go_wp2_with fail;refine(eL _ _ _ _ _ _ (k+1) (h.alloc _) (by have:=j.out;omega) i).mono ?_;rintro e w' ⟨rfl,rfl⟩;go_wp2_with fail;refine(A8 _ _ _ _ _ _ _ _ _ o).mono ?_;rintro e f ⟨rfl,N⟩;have c:=N.size;(repeat(first|rw[World.size_alloc]at c|rw[World.size_setCell]at c|rw[World.size_drew]at c));have m:w.heap.size<f.heap.size:=J;have q:=fun o=>N.cell (p:=⟨w.heap.size,o,none⟩) ch;have r:=fun o=>N.frozen (p:=⟨w.heap.size,o,none⟩) ch;go_wp2_with fail;refine aZ (g:=w.heap.size) (t:=91) (fr:=(0,0)) (cs:= #[.int .i64 z,.int .i64 l,.int .i64 t,.bool d,.int .i64 s,.int .i64 e]) results353 ?_ ?_ ?_ underlying91 rfl ?_ ?_;(focus rfl);(focus rfl);(focus(apply Exists.intro;apply And.intro;(focus(repeat(first|(with_reducible exact dL _ _)|((with_reducible apply eg);(focus(first|(simp;done)|omega)))|(with_reducible apply eC)|((with_reducible apply eQ);(focus(first|omega|(simp;done)|(simp;omega))))|((with_reducible apply dA);(focus(with_reducible assumption));(focus(first|omega|(simp;done)|(simp;omega))))|((with_reducible apply cQ);(focus(first|omega|(simp;done)|(simp;omega)))))));(focus rfl)));(focus kernel_rfl);refine⟨rfl,?_⟩;exact a2
theorem Gm(a:Int)(h:ar w p g n V)(no:sI V n a)(m:jI a):
 Calls prog 353 #[.pointer (some ⟨p,0,none⟩),.int .i64 a] w fun x w'=>x= .returned (.tuple #[sy,.int .i64 18])/\Below w.heap.size w w':=by
 have hm:=h.cE;unfold sy;by_cases d:a<0\/8*n<=a\/a %8≠0
 ·have l:=I d;clear d;go_enter func353,ntmps353;go_wp2_with fail;refine(x2 _ _ _ _ _ _ (h.alloc _) l.out).mono ?_;rintro e w' ⟨rfl,rfl⟩;exact k0
 ·obtain⟨k,c⟩: ∃k:Nat,Hid (a=8*k):=⟨(a/8).toNat,I J⟩
  have i:k<n:=by have:=c.out;omega
  have hb:0<=a/\a<=65536:=J;clear d m;by_cases b:k+1<n
  ·have q:=I (no k c.out b);go_enter func353,ntmps353;go_wp2_with fail;refine(eL _ _ _ _ _ _ k (h.alloc _) c.out i).mono ?_;rintro e w' ⟨rfl,rfl⟩;go_wp2_with fail;refine(eL _ _ _ _ _ _ (k+1) (h.alloc _) (by have:=c.out;omega) b).mono ?_;rintro e w' ⟨rfl,rfl⟩;go_wp2_with fail;refine(adP _ _ _ (h.UK k i) (h.UK (k+1) b) q).mono ?_;rintro e j ⟨rfl,N⟩;have f:=N.size;(repeat(first|rw[World.size_alloc]at f|rw[World.size_setCell]at f|rw[World.size_drew]at f));have r:w.heap.size<j.heap.size:=J;have s:=fun o=>N.cell (p:=⟨w.heap.size,o,none⟩) ch;have u:=fun o=>N.frozen (p:=⟨w.heap.size,o,none⟩) ch;unfold sy;exact k0
  ·go_enter func353,ntmps353;go_wp2_with fail;refine(eL _ _ _ _ _ _ k (h.alloc _) c.out i).mono ?_;rintro e w' ⟨rfl,rfl⟩;go_wp2_with fail;refine(x2 _ _ _ _ _ _ (h.alloc _) (by have:=c.out;omega)).mono ?_;rintro e w' ⟨rfl,rfl⟩;exact k0
theorem uW(a i:Int)(k:Nat)(z l t:Int)(d:Bool)(s e:Int)(h:ar w p g n V)(b:a=8*k)(f:k+1<n)(o:isObj (V k) (V (k+1)) z l t d s e)(hi:0<=i/\i<l):
 Calls prog 336 #[.pointer (some ⟨p,0,none⟩),.int .i64 a,.int .i64 i] w fun x w'=>x= .returned (.tuple #[.int .i64 (a+16+8*i),.int .i64 0])/\Below w.heap.size w w':=by
 have hm:=h.cE;have q:=o.ok.1;have j:=I b;have hb:0<=a/\a<=65536:=J;clear b;go_enter func336,ntmps336;go_wp2_with fail;refine(oS _ _ _ _ _ _ k _ _ _ _ _ _ h j.out f o).mono ?_;rintro e m ⟨rfl,N⟩;have c:=N.size;(repeat(first|rw[World.size_alloc]at c|rw[World.size_setCell]at c|rw[World.size_drew]at c));go_wp2_with fail;go_ret2;refine⟨rfl,?_⟩;exact a2
end
theorem ce.acN{B g:Nat}{a b c:World}(h:Below B a b)(k:ce B g b c):ce B g a c:=(ce.cg h).trans k
theorem Gn(w:World)(p g n:Nat)(V:Nat->Int)(a:Int)(k:Nat)(z l t:Int)(d:Bool)(s e:Int)(h:ar w p g n V)(b:a=8*k)(i:k+1<n)(o:isObj (V k) (V (k+1)) z l t d s e):
 Calls prog 356 #[.pointer (some ⟨p,0,none⟩),.int .i64 a] w fun x w'=>x= .returned (.int .i64 0)/\ar w' p g n (upd V k (hF z l t 1))/\ce w.heap.size g w w':=by
 have hm:=h.cE;have m:=h.c9;have r:=I b;have hb:0<=a/\a<=65536:=J;have f:=I o.mark.UK.1;clear b;go_enter func356,ntmps356;go_wp2_with fail;refine(oS _ _ _ _ _ _ k _ _ _ _ _ _ h r.out i o).mono ?_;rintro x B ⟨rfl,N⟩;have C:=N.size;have h1:=h.below N m.1 m.2.1;go_wp2_with fail;refine(Gl _ _ _ _ _ _ _ o.ok).mono ?_;rintro x u ⟨rfl,q⟩;rw[tG];have y:=q.size;simp at y;have c:=(h1.alloc (.cells #[.int .i64 z,.int .i64 l,.int .i64 t,.bool true,.int .i64 s,.int .i64 e] 91)).below q (by simp;omega) (by simp;omega);go_wp2_with fail;refine(iJ _ _ _ _ _ _ _ k c r.out J f.out).mono ?_;rintro x w3 ⟨rfl,v,A⟩;go_wp2_with fail;go_ret;have j:Below w.heap.size w u:=by
  exact a2
 exact⟨rfl,v,ce.acN j (A.mono j.size)⟩
end Go.Proofs.YtcimojgkeoecfaaGreat
