import Derived.Test.YtcimojgkeoecfaaGreatXal
import Derived.Test.YtcimojgkeoecfaaGreatXao
import Derived.Test.YtcimojgkeoecfaaGreatXbc
set_option linter.all false
set_option maxHeartbeats 16000000
set_option maxRecDepth 100000
namespace Go.Proofs.YtcimojgkeoecfaaGreat
open Go.RowKit Tryz
theorem qg{G:Prop}(h:G:=by
 go_wp2_with fail;refine aZ (g:=w.heap.size+1) (t:=75) (fr:=(0,0)) (cs:= #[.int .i64 0,.int .i64 0,.int .i64 0]) results260 ?_ ?_ ?_ underlying75 rfl ?_ ?_;(focus rfl);(focus rfl);(focus(apply Exists.intro;apply And.intro;(focus(repeat(first|(with_reducible exact dL _ _)|((with_reducible apply eg);(focus(first|(simp;done)|omega)))|(with_reducible apply eC)|((with_reducible apply eQ);(focus(first|omega|(simp;done)|(simp;omega))))|((with_reducible apply dA);(focus(with_reducible assumption));(focus(first|omega|(simp;done)|(simp;omega))))|((with_reducible apply cQ);(focus(first|omega|(simp;done)|(simp;omega)))))));(focus rfl)));(focus kernel_rfl);refine⟨rfl,?_⟩;exact a2):G:=h
theorem qh{G:Prop}(h:G:=by
 go_enter func260,ntmps260;go_wp2_with fail;refine(hu _).mono ?_;rintro e aaM ⟨rfl,N⟩;have bz:=N.size;(repeat(first|rw[World.size_alloc]at bz|rw[World.size_setCell]at bz|rw[World.size_drew]at bz));have dB:w.heap.size<aaM.heap.size:=(by omega);have dC:=fun o=>N.cell (p:=⟨w.heap.size,o,none⟩) ch;have dD:=fun o=>N.frozen (p:=⟨w.heap.size,o,none⟩) ch;have fQ:w.heap.size+1<aaM.heap.size:=(by omega);have fR:=fun o=>N.cell (p:=⟨w.heap.size+1,o,none⟩) ch;have fS:=fun o=>N.frozen (p:=⟨w.heap.size+1,o,none⟩) ch;exact qg):G:=h
abbrev md(h:Int):Value:=.agg #[.int .i64 (VA h),.int .i64 (afT h),.int .i64 (WR h)]
theorem uL(h:Int):jB (Y5 h) (adx h) (VH h)↔dr h:=by
 unfold jB dr VA afT WR Y5 adx VH;omega
theorem ff(h:Int)(w:World)(acu:aR h)(ok:dr h):
 Calls prog 157 #[.int .u64 h] w fun x w'=>x= .returned (.tuple #[md h,.int .i64 0])/\Below w.heap.size w w':=A0 h w acu ((uL h).2 ok)
theorem F0(h:Int)(w:World)(acu:aR h)(no: ¬dr h):
 Calls prog 157 #[.int .u64 h] w fun x w'=>x= .returned (.tuple #[.agg #[.int .i64 0,.int .i64 0,.int .i64 0],.int .i64 18])/\Below w.heap.size w w':=
 A1 h w acu (fun o=>no ((uL h).1 o))
section
variable(w:World)(S:Nat->Prop)(v:Value)(p:afy)(l:List bO)(h:Int)(acu:aR h)
include w S v p l h acu
theorem C8(no: ¬dr h\/p.s<=VA h):
 Calls prog 260 #[ej p,v,.int .u64 h] w fun x w'=>x= .returned (.tuple #[.agg #[.int .i64 0,.int .i64 0,.int .i64 0],.int .i64 18])/\Below w.heap.size w w':=by
 obtain⟨s,t,i,q⟩:=p;unfold ej;by_cases ok:dr h
 ·have YF:s<=VA h:=by rcases no with c|c;exact absurd ok c;exact c
  have hd:decide (s<=VA h)=true:=by simpa using YF
  have hu:=fun w=>ff h w acu ok;clear no ok YF;unfold md at hu;generalize VA h=z at*;generalize afT h=Yk at*;generalize WR h=adc at*;exact qh
 ·have hu:=fun w=>F0 h w acu ok;clear no ok;exact qh
section
variable(abo:de w S v l)(YJ:l.length<=65536)
include abo YJ
theorem C9(ok:dr h)(YF:VA h<p.s)(XH: ¬reach l (VA h)):
 Calls prog 260 #[ej p,v,.int .u64 h] w fun x w'=>x= .returned (.tuple #[.agg #[.int .i64 0,.int .i64 0,.int .i64 0],.int .i64 20])/\Below w.heap.size w w':=by
 obtain⟨s,t,i,q⟩:=p;unfold ej;simp only at YF;have hd:decide (s<=VA h)=false:=by simpa using YF
 have hu:=fun w=>ff h w acu ok;have abk:=fun w (h':de w S v l)=>tS w S v l (VA h) h' YJ;rw[decide_eq_false XH]at abk;clear ok XH YJ;have H:=I abo;clear abo;unfold md at hu;generalize VA h=z at*;generalize afT h=Yk at*;generalize WR h=adc at*;go_enter func260,ntmps260;go_wp2_with fail;refine(hu _).mono ?_;rintro e aaM ⟨rfl,N⟩;have bz:=N.size;(repeat(first|rw[World.size_alloc]at bz|rw[World.size_setCell]at bz|rw[World.size_drew]at bz));have dB:w.heap.size<aaM.heap.size:=J;have dC:=fun o=>N.cell (p:=⟨w.heap.size,o,none⟩) ch;have dD:=fun o=>N.frozen (p:=⟨w.heap.size,o,none⟩) ch;have fQ:w.heap.size+1<aaM.heap.size:=J;have fR:=fun o=>N.cell (p:=⟨w.heap.size+1,o,none⟩) ch;have fS:=fun o=>N.frozen (p:=⟨w.heap.size+1,o,none⟩) ch;go_wp2_with fail;refine(abk _ (((H.out.alloc _).alloc _).below N |>.alloc _)).mono ?_;rintro e WW ⟨rfl,be⟩;have c5:=be.size;(repeat(first|rw[World.size_alloc]at c5|rw[World.size_setCell]at c5|rw[World.size_drew]at c5));have yg:w.heap.size<WW.heap.size:=J;have yh:=fun o=>be.cell (p:=⟨w.heap.size,o,none⟩) ch;have yi:=fun o=>be.frozen (p:=⟨w.heap.size,o,none⟩) ch;have F1:w.heap.size+1<WW.heap.size:=J;have F2:=fun o=>be.cell (p:=⟨w.heap.size+1,o,none⟩) ch;have F3:=fun o=>be.frozen (p:=⟨w.heap.size+1,o,none⟩) ch;have Da:aaM.heap.size<WW.heap.size:=J;have Db:=fun o=>be.cell (p:=⟨aaM.heap.size,o,none⟩) ch;have Dc:=fun o=>be.frozen (p:=⟨aaM.heap.size,o,none⟩) ch;exact qg
theorem F4(ok:dr h)(YF:VA h<p.s)(XH:reach l (VA h)):
 Calls prog 260 #[ej p,v,.int .u64 h] w fun x w'=>x= .returned (.tuple #[md h,.int .i64 0])/\Below w.heap.size w w':=by
 obtain⟨s,t,i,q⟩:=p;unfold ej;simp only at YF;have hd:decide (s<=VA h)=false:=by simpa using YF
 have hu:=fun w=>ff h w acu ok;have abk:=fun w (h':de w S v l)=>tS w S v l (VA h) h' YJ;rw[decide_eq_true XH]at abk;clear ok XH YJ;have H:=I abo;clear abo;unfold md at*;generalize VA h=z at*;generalize afT h=Yk at*;generalize WR h=adc at*;go_enter func260,ntmps260;go_wp2_with fail;refine(hu _).mono ?_;rintro e aaM ⟨rfl,N⟩;have bz:=N.size;(repeat(first|rw[World.size_alloc]at bz|rw[World.size_setCell]at bz|rw[World.size_drew]at bz));have dB:w.heap.size<aaM.heap.size:=J;have dC:=fun o=>N.cell (p:=⟨w.heap.size,o,none⟩) ch;have dD:=fun o=>N.frozen (p:=⟨w.heap.size,o,none⟩) ch;have fQ:w.heap.size+1<aaM.heap.size:=J;have fR:=fun o=>N.cell (p:=⟨w.heap.size+1,o,none⟩) ch;have fS:=fun o=>N.frozen (p:=⟨w.heap.size+1,o,none⟩) ch;go_wp2_with fail;refine(abk _ (((H.out.alloc _).alloc _).below N |>.alloc _)).mono ?_;rintro e WW ⟨rfl,be⟩;have c5:=be.size;(repeat(first|rw[World.size_alloc]at c5|rw[World.size_setCell]at c5|rw[World.size_drew]at c5));have yg:w.heap.size<WW.heap.size:=J;have yh:=fun o=>be.cell (p:=⟨w.heap.size,o,none⟩) ch;have yi:=fun o=>be.frozen (p:=⟨w.heap.size,o,none⟩) ch;have F1:w.heap.size+1<WW.heap.size:=J;have F2:=fun o=>be.cell (p:=⟨w.heap.size+1,o,none⟩) ch;have F3:=fun o=>be.frozen (p:=⟨w.heap.size+1,o,none⟩) ch;have Da:aaM.heap.size<WW.heap.size:=J;have Db:=fun o=>be.cell (p:=⟨aaM.heap.size,o,none⟩) ch;have Dc:=fun o=>be.frozen (p:=⟨aaM.heap.size,o,none⟩) ch;go_wp2_with fail;refine aZ (g:=w.heap.size+1) (t:=75) (fr:=(0,0)) (cs:= #[.int .i64 z,.int .i64 Yk,.int .i64 adc]) results260 ?_ ?_ ?_ underlying75 rfl ?_ ?_;(focus rfl);(focus rfl);(focus(apply Exists.intro;apply And.intro;(focus(repeat(first|(with_reducible exact dL _ _)|((with_reducible apply eg);(focus(first|(simp;done)|omega)))|(with_reducible apply eC)|((with_reducible apply eQ);(focus(first|omega|(simp;done)|(simp;omega))))|((with_reducible apply dA);(focus(with_reducible assumption));(focus(first|omega|(simp;done)|(simp;omega))))|((with_reducible apply cQ);(focus(first|omega|(simp;done)|(simp;omega)))))));(focus rfl)));(focus kernel_rfl);refine⟨rfl,?_⟩;exact a2
theorem zg:
 Calls prog 260 #[ej p,v,.int .u64 h] w fun x w'=> ∃a b c:Int,x= .returned (.tuple #[.agg #[.int .i64 a,.int .i64 b,.int .i64 c],.int .i64 (check p l h)])/\Below w.heap.size w w':=by
 unfold check;by_cases c: ¬dr h\/p.s<=VA h
 ·rw[Z c];exact(C8 w S v p l h acu c).mono fun x w' Wy=>⟨_,_,_,Wy.1,Wy.2⟩
 ·rw[Y c];have ok:dr h:=by by_cases o:dr h;exact o;exact absurd (.inl o) c
  have YF:VA h<p.s:=by by_cases o:VA h<p.s;exact o;exact absurd (.inr J) c
  by_cases r:reach l (VA h)
  ·rw[Z r];exact(F4 w S v p l h acu abo YJ ok YF r).mono fun x w' Wy=>⟨_,_,_,Wy.1,Wy.2⟩
  ·rw[Y r];exact(C9 w S v p l h acu abo YJ ok YF r).mono fun x w' Wy=>⟨_,_,_,Wy.1,Wy.2⟩
end
end
end Go.Proofs.YtcimojgkeoecfaaGreat
