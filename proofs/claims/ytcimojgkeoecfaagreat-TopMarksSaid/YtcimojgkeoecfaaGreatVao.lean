import Derived.Test.YtcimojgkeoecfaaGreatVaj
import Derived.Test.YtcimojgkeoecfaaGreatVai
import Derived.Test.YtcimojgkeoecfaaGreatVaf
set_option linter.all false
set_option maxHeartbeats 16000000
set_option maxRecDepth 100000
namespace Go.Proofs.YtcimojgkeoecfaaGreat
open Go.RowKit Tryz
abbrev ej(p:PO):Value:=.agg #[.int .i64 p.s,.int .i64 p.t,.int .i64 p.i,.int .i64 p.h]
abbrev hP(c:dM):Array Value:= #[.int .u8 c.op,.int .u8 c.r,.int .u8 c.h,.int .u8 c.v,.int .i64 c.a,.int .i64 c.b,.int .i64 c.c]
structure Yr where
 TQ:Value
 ls:Value
 Wh:Value
 Y1:Value
abbrev aY(r:RJ)(x:Yr):Array Value:= #[.int .u8 r.call.op,.int .u8 r.call.r,.int .u8 r.call.h,.int .u8 r.call.v,.int .i64 r.call.a,.int .i64 r.call.b,.int .i64 r.call.c,
 .int .i64 r.Xj,.int .i64 r.af,.int .u64 r.hand,.int .u64 r.val,x.TQ,.int .u64 r.word,.int .u64 r.next,.int .i64 r.at_,.int .i64 r.top,x.ls,.int .i64 r.op,x.Wh,.int .i64 r.n,.bool r.held,.bool r.fin,.bool r.bF,
 .int .i64 r.aC.code,.int .i64 r.aC.n,x.Y1]
def hq(l:List Int)(i:Nat):List Value:= [.int .i64 (l.getD i 0)]
theorem gp(l:List Int)(n:Nat):hl n 1 (hq l):=fun i _=>⟨rfl,fun u hu=>by simp[hq]at hu;subst hu;rfl⟩
abbrev cF(w:World)(S:Nat->Prop)(v:Value)(l:List Int):Prop:=KC w S v l.length 1 (hq l)
theorem cF.nil(w:World)(S:Nat->Prop):cF w S (.slice none 0 0) []:=KC.nil _ _ _ _
theorem KC.one{w:World}{S:Nat->Prop}{v:Value}{n sz:Nat}{F:Nat->List Value}(h:KC w S v n sz F):v.oneCell'=true:=by
 obtain⟨A,c,e,_⟩:=h;subst e;rfl
theorem KC.lf{w w':World}{S:Nat->Prop}{v:Value}{n sz g:Nat}{F:Nat->List Value}(h:KC w S v n sz F)(k:ce w.heap.size g w w')(a: ¬S g):KC w' S v n sz F:=
 h.Wu ((Z1.w6 k).mono fun b _ c e=>a (e▸c))
structure aW(w:World)(S:Nat->Prop)(r:RJ)(x:Yr):Prop where
 TQ:de w S x.TQ r.chain
 ls:cF w S x.ls r.list
 Wh:cF w S x.Wh r.said
 Y1:cF w S x.Y1 r.aC.said
section
variable{w w':World}{S:Nat->Prop}{r:RJ}{x:Yr}
include w w' S r x
theorem aW.Wu(h:aW w S r x)(k:Z1 S w w'):aW w' S r x:=⟨h.TQ.Wu k,h.ls.Wu k,h.Wh.Wu k,h.Y1.Wu k⟩
theorem aW.below(h:aW w S r x)(k:Below w.heap.size w w'):aW w' S r x:=h.Wu (Z1.cg k)
theorem aW.lf{g:Nat}(h:aW w S r x)(k:ce w.heap.size g w w')(a: ¬S g):aW w' S r x:=
 h.Wu ((Z1.w6 k).mono fun b _ c e=>a (e▸c))
end
theorem aW.mono{w:World}{S S':Nat->Prop}{r:RJ}{x:Yr}(h:aW w S r x)(a: ∀b,b<w.heap.size->S b->S' b):aW w S' r x:=⟨h.TQ.mono a,h.ls.mono a,h.Wh.mono a,h.Y1.mono a⟩
structure p9(x:Yr):Prop where
 TQ:x.TQ.oneCell'=true
 ls:x.ls.oneCell'=true
 Wh:x.Wh.oneCell'=true
 Y1:x.Y1.oneCell'=true
theorem aW.one{w:World}{S:Nat->Prop}{r:RJ}{x:Yr}(h:aW w S r x):p9 x:=⟨h.TQ.one,h.ls.one,h.Wh.one,h.Y1.one⟩
theorem v8{r:RJ}{x:Yr}(h:p9 x):(aY r x).all (·.oneCell')=true:=by
 obtain⟨h1,a,c,b⟩:=h;rw[Array.all_eq_true_iff_forall_mem];intro v hv;simp only[aY,List.mem_toArray,ad,E,av]at hv
 (repeat' rcases hv with rfl|hv)<;>first|assumption|rfl|(subst hv;assumption)
structure dx(r:RJ):Prop where
 TQ:r.chain.length<=6
 ls:r.list.length<=65536
 Wh:r.said.length<=65536
theorem hg(w:World)(S:Nat->Prop)(r:RJ)(x:Yr)(code n:Int)(h:aW w S r x)(l:dx r):
 Calls prog 184 #[.agg (aY r x),.int .i64 code,.int .i64 n] w fun e w'=> ∃v,e= .returned (.agg (aY (tell r code n) {x with Y1:=v}))/\cF w' (fun b=>w.heap.size<=b) v r.said/\Below w.heap.size w w':=by
 have j:=I h.Wh;have a:=h.one;have p:=I l.Wh;clear h l;go_enter func184,ntmps184;go_wp2_with fail;have m:=j.out;refine(lu _ S _ _ _ ((m.alloc _).alloc _) p.out (gp _ _)).mono ?_;rintro e f ⟨v',rfl,hv,N⟩;have s:=N.size;rw[World.size_alloc,World.size_alloc]at s;obtain⟨A',c',rfl,_,_,_⟩:=id hv;have o:=((ah.new w _ _).alloc _).below N (by simp;omega);have k:=(ah.q3 (n:=w.heap.size+1) (w.alloc _) _ _ aN).below N aN;have A:p9 {x with Y1:=.slice A' r.said.length c'}:=⟨a.TQ,a.ls,a.Wh,rfl⟩
 go_wp2_with(first|(refine nf rfl 44 (.tmp 15) (.tmp 14) rfl w.heap.size 23 _ rfl rfl o (aY (tell r code n) {x with Y1:=.slice A' r.said.length c'}) (by rfl) (bQ rfl) aM (by(first|exact v8 (by assumption)|kernel_rfl)) ?_;intro u i d y)|(refine aby rfl 198 (.tmp 3) rfl w.heap.size 0 rfl i (aY (tell r code n) {x with Y1:=.slice A' r.said.length c'}) (Li (by rfl)) underlying198 rfl aM ?_)|(refine nf rfl 198 (.tmp 6) (.tmp 16) rfl (w.heap.size+1) 0 _ rfl rfl (k.lf d J J) (aY (tell r code n) {x with Y1:=.slice A' r.said.length c'}) (by rfl) (bQ rfl) aM (by(first|exact v8 (by assumption)|kernel_rfl)) ?_;intro w3 q c z));refine cw (g:=w.heap.size+1) results184 rfl rfl ⟨_,q,rfl⟩ underlying198 rfl aM ?_;have L1:Below w.heap.size w f:=by
  exact a2
 have t:=hv.mono (S':=fun b=>w.heap.size+2<=b) fun b _ h=>by simpa [World.size_alloc]using h
 refine⟨_,rfl,((t.lf d J).lf c J).mono (fun b _ h=>J),(L1.trans (d.below J (ai _))).trans (c.below J J)⟩
end Go.Proofs.YtcimojgkeoecfaaGreat
