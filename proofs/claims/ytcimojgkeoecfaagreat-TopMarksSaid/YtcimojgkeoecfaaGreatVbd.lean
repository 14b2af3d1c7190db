import Derived.Test.YtcimojgkeoecfaaGreatVal
import Derived.Test.YtcimojgkeoecfaaGreatVao
import Derived.Test.YtcimojgkeoecfaaGreatVbc
set_option linter.all false
set_option maxHeartbeats 16000000
set_option maxRecDepth 100000
namespace Go.Proofs.YtcimojgkeoecfaaGreat
open Go.RowKit Tryz
theorem qg{G:Prop}(h:G:=by
 go_wp2_with fail;refine aZ (g:=w.heap.size+1) (t:=75) (fr:=(0,0)) (cs:= #[.int .i64 0,.int .i64 0,.int .i64 0]) results260 ?_ ?_ ?_ underlying75 rfl ?_ ?_;(focus rfl);(focus rfl);(focus(apply Exists.intro;apply And.intro;(focus(repeat(first|(with_reducible exact dL _ _)|((with_reducible apply eg);(focus(first|(simp;done)|omega)))|(with_reducible apply eC)|((with_reducible apply eQ);(focus(first|omega|(simp;done)|(simp;omega))))|((with_reducible apply dA);(focus(with_reducible assumption));(focus(first|omega|(simp;done)|(simp;omega))))|((with_reducible apply cQ);(focus(first|omega|(simp;done)|(simp;omega)))))));(focus rfl)));(focus kernel_rfl);refine⟨rfl,?_⟩;exact a2):G:=h
theorem qh{G:Prop}(h:G:=by
 go_enter func260,ntmps260;go_wp2_with fail;refine(hu _).mono ?_;rintro e EH ⟨rfl,N⟩;have bz:=N.size;(repeat(first|rw[World.size_alloc]at bz|rw[World.size_setCell]at bz|rw[World.size_drew]at bz));have dB:w.heap.size<EH.heap.size:=(by omega);have dC:=fun o=>N.cell (p:=⟨w.heap.size,o,none⟩) ch;have dD:=fun o=>N.frozen (p:=⟨w.heap.size,o,none⟩) ch;have fQ:w.heap.size+1<EH.heap.size:=(by omega);have fR:=fun o=>N.cell (p:=⟨w.heap.size+1,o,none⟩) ch;have fS:=fun o=>N.frozen (p:=⟨w.heap.size+1,o,none⟩) ch;exact qg):G:=h
abbrev md(h:Int):Value:=.agg #[.int .i64 (VA h),.int .i64 (UP h),.int .i64 (WR h)]
theorem uL(h:Int):jB (Y5 h) (cC h) (VH h)↔dr h:=by
 unfold jB dr VA UP WR Y5 cC VH;omega
theorem ff(h:Int)(w:World)(a:aR h)(ok:dr h):
 Calls prog 157 #[.int .u64 h] w fun x w'=>x= .returned (.tuple #[md h,.int .i64 0])/\Below w.heap.size w w':=A0 h w a ((uL h).2 ok)
theorem F0(h:Int)(w:World)(a:aR h)(no: ¬dr h):
 Calls prog 157 #[.int .u64 h] w fun x w'=>x= .returned (.tuple #[.agg #[.int .i64 0,.int .i64 0,.int .i64 0],.int .i64 18])/\Below w.heap.size w w':=
 A1 h w a (fun o=>no ((uL h).1 o))
section
variable(w:World)(S:Nat->Prop)(v:Value)(p:PO)(l:List bO)(h:Int)(d:aR h)
include w S v p l h d
theorem C8(no: ¬dr h\/p.s<=VA h):
 Calls prog 260 #[ej p,v,.int .u64 h] w fun x w'=>x= .returned (.tuple #[.agg #[.int .i64 0,.int .i64 0,.int .i64 0],.int .i64 18])/\Below w.heap.size w w':=by
 obtain⟨s,t,i,q⟩:=p;unfold ej;by_cases ok:dr h
 ·have a:s<=VA h:=by rcases no with c|c;exact absurd ok c;exact c
  have hd:decide (s<=VA h)=true:=by simpa using a
  have hu:=fun w=>ff h w d ok;clear no ok a;unfold md at hu;generalize VA h=z at*;generalize UP h=f at*;generalize WR h=b at*;exact qh
 ·have hu:=fun w=>F0 h w d ok;clear no ok;exact qh
section
variable(f:de w S v l)(j:l.length<=65536)
include f j
theorem C9(ok:dr h)(u:VA h<p.s)(r: ¬reach l (VA h)):
 Calls prog 260 #[ej p,v,.int .u64 h] w fun x w'=>x= .returned (.tuple #[.agg #[.int .i64 0,.int .i64 0,.int .i64 0],.int .i64 20])/\Below w.heap.size w w':=by
 obtain⟨s,t,i,q⟩:=p;unfold ej;simp only at u;have hd:decide (s<=VA h)=false:=by simpa using u
 have hu:=fun w=>ff h w d ok;have c:=fun w (h':de w S v l)=>tS w S v l (VA h) h' j;rw[decide_eq_false r]at c;clear ok r j;have H:=I f;clear f;unfold md at hu;generalize VA h=z at*;generalize UP h=L at*;generalize WR h=y at*;go_enter func260,ntmps260;go_wp2_with fail;refine(hu _).mono ?_;rintro e a ⟨rfl,N⟩;have m:=N.size;(repeat(first|rw[World.size_alloc]at m|rw[World.size_setCell]at m|rw[World.size_drew]at m));have M:w.heap.size<a.heap.size:=J;have O:=fun o=>N.cell (p:=⟨w.heap.size,o,none⟩) ch;have P:=fun o=>N.frozen (p:=⟨w.heap.size,o,none⟩) ch;have Q:w.heap.size+1<a.heap.size:=J;have R:=fun o=>N.cell (p:=⟨w.heap.size+1,o,none⟩) ch;have T:=fun o=>N.frozen (p:=⟨w.heap.size+1,o,none⟩) ch;go_wp2_with fail;refine(c _ (((H.out.alloc _).alloc _).below N |>.alloc _)).mono ?_;rintro e k ⟨rfl,b⟩;have n:=b.size;(repeat(first|rw[World.size_alloc]at n|rw[World.size_setCell]at n|rw[World.size_drew]at n));have U:w.heap.size<k.heap.size:=J;have V:=fun o=>b.cell (p:=⟨w.heap.size,o,none⟩) ch;have W:=fun o=>b.frozen (p:=⟨w.heap.size,o,none⟩) ch;have F:w.heap.size+1<k.heap.size:=J;have G:=fun o=>b.cell (p:=⟨w.heap.size+1,o,none⟩) ch;have K:=fun o=>b.frozen (p:=⟨w.heap.size+1,o,none⟩) ch;have A:a.heap.size<k.heap.size:=J;have B:=fun o=>b.cell (p:=⟨a.heap.size,o,none⟩) ch;have C:=fun o=>b.frozen (p:=⟨a.heap.size,o,none⟩) ch;exact qg
theorem F4(ok:dr h)(y:VA h<p.s)(u:reach l (VA h)):
 Calls prog 260 #[ej p,v,.int .u64 h] w fun x w'=>x= .returned (.tuple #[md h,.int .i64 0])/\Below w.heap.size w w':=by
 obtain⟨s,t,i,q⟩:=p;unfold ej;simp only at y;have hd:decide (s<=VA h)=false:=by simpa using y
 have hu:=fun w=>ff h w d ok;have c:=fun w (h':de w S v l)=>tS w S v l (VA h) h' j;rw[decide_eq_true u]at c;clear ok u j;have H:=I f;clear f;unfold md at*;generalize VA h=z at*;generalize UP h=A at*;generalize WR h=r at*;go_enter func260,ntmps260;go_wp2_with fail;refine(hu _).mono ?_;rintro e a ⟨rfl,N⟩;have m:=N.size;(repeat(first|rw[World.size_alloc]at m|rw[World.size_setCell]at m|rw[World.size_drew]at m));have M:w.heap.size<a.heap.size:=J;have O:=fun o=>N.cell (p:=⟨w.heap.size,o,none⟩) ch;have P:=fun o=>N.frozen (p:=⟨w.heap.size,o,none⟩) ch;have Q:w.heap.size+1<a.heap.size:=J;have R:=fun o=>N.cell (p:=⟨w.heap.size+1,o,none⟩) ch;have T:=fun o=>N.frozen (p:=⟨w.heap.size+1,o,none⟩) ch;go_wp2_with fail;refine(c _ (((H.out.alloc _).alloc _).below N |>.alloc _)).mono ?_;rintro e k ⟨rfl,b⟩;have n:=b.size;(repeat(first|rw[World.size_alloc]at n|rw[World.size_setCell]at n|rw[World.size_drew]at n));have U:w.heap.size<k.heap.size:=J;have V:=fun o=>b.cell (p:=⟨w.heap.size,o,none⟩) ch;have W:=fun o=>b.frozen (p:=⟨w.heap.size,o,none⟩) ch;have G:w.heap.size+1<k.heap.size:=J;have K:=fun o=>b.cell (p:=⟨w.heap.size+1,o,none⟩) ch;have L:=fun o=>b.frozen (p:=⟨w.heap.size+1,o,none⟩) ch;have B:a.heap.size<k.heap.size:=J;have C:=fun o=>b.cell (p:=⟨a.heap.size,o,none⟩) ch;have F:=fun o=>b.frozen (p:=⟨a.heap.size,o,none⟩) ch;go_wp2_with fail;refine aZ (g:=w.heap.size+1) (t:=75) (fr:=(0,0)) (cs:= #[.int .i64 z,.int .i64 A,.int .i64 r]) results260 ?_ ?_ ?_ underlying75 rfl ?_ ?_;(focus rfl);(focus rfl);(focus(apply Exists.intro;apply And.intro;(focus(repeat(first|(with_reducible exact dL _ _)|((with_reducible apply eg);(focus(first|(simp;done)|omega)))|(with_reducible apply eC)|((with_reducible apply eQ);(focus(first|omega|(simp;done)|(simp;omega))))|((with_reducible apply dA);(focus(with_reducible assumption));(focus(first|omega|(simp;done)|(simp;omega))))|((with_reducible apply cQ);(focus(first|omega|(simp;done)|(simp;omega)))))));(focus rfl)));(focus kernel_rfl);refine⟨rfl,?_⟩;exact a2
theorem zg:
 Calls prog 260 #[ej p,v,.int .u64 h] w fun x w'=> ∃a b c:Int,x= .returned (.tuple #[.agg #[.int .i64 a,.int .i64 b,.int .i64 c],.int .i64 (check p l h)])/\Below w.heap.size w w':=by
 unfold check;by_cases c: ¬dr h\/p.s<=VA h
 ·rw[Z c];exact(C8 w S v p l h d c).mono fun x w' e=>⟨_,_,_,e.1,e.2⟩
 ·rw[Y c];have ok:dr h:=by by_cases o:dr h;exact o;exact absurd (.inl o) c
  have g:VA h<p.s:=by by_cases o:VA h<p.s;exact o;exact absurd (.inr J) c
  by_cases r:reach l (VA h)
  ·rw[Z r];exact(F4 w S v p l h d f j ok g r).mono fun x w' e=>⟨_,_,_,e.1,e.2⟩
  ·rw[Y r];exact(C9 w S v p l h d f j ok g r).mono fun x w' e=>⟨_,_,_,e.1,e.2⟩
end
end
end Go.Proofs.YtcimojgkeoecfaaGreat
