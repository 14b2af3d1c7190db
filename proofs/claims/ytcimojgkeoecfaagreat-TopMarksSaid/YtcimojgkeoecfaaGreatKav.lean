import Derived.Deep.CutBlock
import Derived.StillTailTactics
import Derived.Test.YtcimojgkeoecfaaGreatKau
set_option linter.all false
set_option maxHeartbeats 16000000
set_option maxRecDepth 100000
namespace Go.Proofs.YtcimojgkeoecfaaGreat
section
theorem ahd{s e a:Int}(d:0<=s/\s<=7)(b:0<=e/\e<=16777215)(c:8<=a/\a<=65528/\a %8=0):dr (Y3 s e a)/\VA (Y3 s e a)=s/\UP (Y3 s e a)=e/\WR (Y3 s e a)=a/\0<=Y3 s e a/\Y3 s e a<72057594037927936:=by
 unfold dr VA UP WR Y3;omega
end
section
open Go.RowKit Tryz
theorem agZ(s t i h:Int)(w:World)(a:1<=s/\s<=8):
 Calls prog 57 #[.agg #[.int .i64 s,.int .i64 t,.int .i64 i,.int .i64 h]] w λx w'=>x= .returned (.agg #[.int .i64 (64*s),.int .i64 i])/\Below w.heap.size w w':=by
 go_enter func57,ntmps57;go_wp2_with fail;refine bodyPost_ret (v:=.agg #[.int .i64 (64*s),.int .i64 i]) (by simp only[results,results57];go_simp) rfl ⟨rfl,?_⟩;exact a2
theorem ahm(s t i h:Int)(w:World)(a:1<=s/\s<=8)(hi:0<=i/\i<=2048):
 Calls prog 51 #[.agg #[.int .i64 s,.int .i64 t,.int .i64 i,.int .i64 h]] w λx w'=>x= .returned (.agg #[.int .i64 (64*s+i),.int .i64 h])/\Below w.heap.size w w':=by
 go_enter func51,ntmps51;go_wp2_with fail;refine bodyPost_ret (v:=.agg #[.int .i64 (64*s+i),.int .i64 h]) (by simp only[results,results51];go_simp) rfl ⟨rfl,?_⟩;exact a2
theorem agM(p k:Int)(w:World)(b:0<=p/\p<=4)(a:0<=k/\k<8):
 Calls prog 50 #[.int .i64 p,.int .i64 k] w λx w'=>x= .returned (.int .i64 (k*64+p*8))/\Below w.heap.size w w':=by
 go_enter func50,ntmps50;go_wp2_with fail;go_ret;refine⟨lC J,?_⟩;exact a2
end
section
open Go.RowKit Tryz
theorem agE{G:Prop}(h:G:=by
 go_enter func49,ntmps49;go_wp2;go_ret2;exact⟨rfl,(Below.refl _ _).alloc (ai _) _⟩):G:=h
theorem agl(s e a:Int)(w:World)(l:jI s)(j:jI e)(k:jI a):
 Calls prog 49 #[.agg #[.int .i64 s,.int .i64 e,.int .i64 a]] w λx w'=>x= .returned (.tuple #[.int .u64 (uH s e a).1,.int .i64 (uH s e a).2])/\Below w.heap.size w w':=by
 unfold uH;by_cases f:s<0
 ·have d0:decide (s<0)=true:=by simpa using f
  rw[aB];exact agE
 have d0:decide (s<0)=false:=by simpa using f
 by_cases h:8<=s
 ·have d1:decide (8<=s)=true:=by simpa using h
  rw[aB];exact agE
 have d1:decide (8<=s)=false:=by simpa using h
 by_cases b:e<0
 ·have d2:decide (e<0)=true:=by simpa using b
  rw[aB];exact agE
 have d2:decide (e<0)=false:=by simpa using b
 by_cases i:16777215<e
 ·have d3:decide (16777215<e)=true:=by simpa using i
  rw[aB];exact agE
 have d3:decide (16777215<e)=false:=by simpa using i
 by_cases c:a<8
 ·have d4:decide (a<8)=true:=by simpa using c
  rw[aB];exact agE
 have d4:decide (a<8)=false:=by simpa using c
 by_cases g:65528<a
 ·have d5:decide (65528<a)=true:=by simpa using g
  rw[aB];exact agE
 have d5:decide (65528<a)=false:=by simpa using g
 by_cases d:a %8=0
 ·have hm:(a %8 !=0)=false:=by simpa using d
  rw[m3];clear d;go_enter func49,ntmps49;go_wp2;go_ret2;exact⟨wX J rfl,(Below.refl _ _).alloc (ai _) _⟩
 ·have hm:(a %8 !=0)=true:=by simpa using d
  rw[aB];clear d;exact agE
end
section
open Go.RowKit Tryz
theorem agr(h:Int)(w:World)(d:aR h)(ok:jB (Y5 h) (cC h) (VH h)):
 Calls prog 18 #[.int .u64 h] w λx w'=>x= .returned (.tuple #[.agg #[.int .i64 (Y5 h),.int .i64 (cC h),.int .i64 (VH h)],.int .i64 0])/\Below w.heap.size w w':=by
 have b:=acg h d ok;unfold Y5 cC VH jB at*;rw[Int.mul_comm (h %16777216) 8]at*;obtain⟨o,n,q,p,r,s,g⟩:=ok;have i:=I (dz Prod.fst b);have j:=I (dz Prod.snd b);clear b g;go_enter func18,ntmps18;go_wp2_with fail;refine(agl _ _ _ _ J J J).mono ?_;rw[i.out,j.out];rintro e a ⟨rfl,hb⟩;obtain⟨c,m⟩:=Ey hb;have f:=hb.size;(try simp at f);go_wp2_with fail;have l:a.cell? ⟨w.heap.size,0,none⟩=some (.int .i64 0):=(by rw[c _ _ ch];simp[go_sem]);have q1:a.cell? ⟨w.heap.size,1,none⟩=some (.int .i64 0):=(by rw[c _ _ ch];simp[go_sem]);have k:a.cell? ⟨w.heap.size,2,none⟩=some (.int .i64 0):=(by rw[c _ _ ch];simp[go_sem])
 refine bodyPost_ret (v:=.tuple #[.agg #[.int .i64 (h/16777216 %256),.int .i64 (h/4294967296),.int .i64 (8*(h %16777216))],.int .i64 0]) (by simp[results,results18,go_sem,l,q1,k]) rfl ⟨rfl,?_⟩;exact a2
end
section
open Go.RowKit Tryz
theorem ag0(z l g:Int)(d:Bool)(s e:Int)(w:World)(o:jI l):
 Calls prog 193 #[lz z l g d s e] w λx w'=>x= .returned (.bool (if gj z l g s e then true else false))/\Below w.heap.size w w':=by
 unfold lz;by_cases j:0<=l
 case neg=>
  have d0:decide (0<=l)=false:=by simp;omega
  rw[aB];go_enter func193,ntmps193;go_wp2;go_ret;exact⟨rfl,by
   exact a2⟩
 have d0:decide (0<=l)=true:=by simp;omega
 by_cases m:l<=6
 case neg=>
  have d1:decide (l<=6)=false:=by simp;omega
  rw[aB];go_enter func193,ntmps193;go_wp2;go_ret;exact⟨rfl,by
   exact a2⟩
 have d1:decide (l<=6)=true:=by simp;omega
 by_cases f:2+l<=z
 case neg=>
  have d2:decide (2+l<=z)=false:=by simp;omega
  rw[aB];go_enter func193,ntmps193;go_wp2;go_ret;exact⟨rfl,by
   exact a2⟩
 have d2:decide (2+l<=z)=true:=by simp;omega
 by_cases n:z<=72
 case neg=>
  have d3:decide (z<=72)=false:=by simp;omega
  rw[aB];go_enter func193,ntmps193;go_wp2;go_ret;exact⟨rfl,by
   exact a2⟩
 have d3:decide (z<=72)=true:=by simp;omega
 by_cases i:0<=g
 case neg=>
  have d4:decide (0<=g)=false:=by simp;omega
  rw[aB];go_enter func193,ntmps193;go_wp2;go_ret;exact⟨rfl,by
   exact a2⟩
 have d4:decide (0<=g)=true:=by simp;omega
 by_cases k:g<8
 case neg=>
  have d5:decide (g<8)=false:=by simp;omega
  rw[aB];go_enter func193,ntmps193;go_wp2;go_ret;exact⟨rfl,by
   exact a2⟩
 have d5:decide (g<8)=true:=by simp;omega
 by_cases a:0<=s
 case neg=>
  have d6:decide (0<=s)=false:=by simp;omega
  rw[aB];go_enter func193,ntmps193;go_wp2;go_ret;exact⟨rfl,by
   exact a2⟩
 have d6:decide (0<=s)=true:=by simp;omega
 by_cases c:s<8
 case neg=>
  have d7:decide (s<8)=false:=by simp;omega
  rw[aB];go_enter func193,ntmps193;go_wp2;go_ret;exact⟨rfl,by
   exact a2⟩
 have d7:decide (s<8)=true:=by simp;omega
 by_cases h:0<=e
 case neg=>
  have d8:decide (0<=e)=false:=by simp;omega
  rw[aB];go_enter func193,ntmps193;go_wp2;go_ret;exact⟨rfl,by
   exact a2⟩
 have d8:decide (0<=e)=true:=by simp;omega
 by_cases b:e<=16777215
 case neg=>
  have d9:decide (e<=16777215)=false:=by simp;omega
  rw[aB];go_enter func193,ntmps193;go_wp2;go_ret;exact⟨rfl,by
   exact a2⟩
 have d9:decide (e<=16777215)=true:=by simp;omega
 rw[m3];go_enter func193,ntmps193;go_wp2;go_ret;exact⟨rfl,by
  exact a2⟩
theorem ag7(z l g:Int)(d:Bool)(s e:Int)(w:World)(a:jI l)(ok:gj z l g s e):
 Calls prog 193 #[lz z l g d s e] w λx w'=>x= .returned (.bool true)/\Below w.heap.size w w':=by
 have:=ag0 z l g d s e w a;rwa[Z ok]at this
end
section
open Go.RowKit Tryz
theorem agT{G:Prop}(h:G:=by
 go_enter func112,ntmps112;go_wp2_with fail;refine(ag7 _ _ _ _ _ _ _ YJ ok.out).mono ?_;rintro e EH ⟨rfl,N⟩;have bz:=N.size;(repeat(first|rw[World.size_alloc]at bz|rw[World.size_setCell]at bz|rw[World.size_drew]at bz));have dB:w.heap.size<EH.heap.size:=(by omega);have dC:=λo=>N.cell (p:=⟨w.heap.size,o,none⟩) ch;have dD:=λo=>N.frozen (p:=⟨w.heap.size,o,none⟩) ch
 go_wp2_with fail;go_quiet (fail);go_wp2_with fail;go_ret3;refine⟨zd (by omega) (by omega) rfl,?_⟩;exact a2):G:=h
theorem ag8(z l g:Int)(d:Bool)(s e:Int)(w:World)(ok:Hid (gj z l g s e)):
 Calls prog 112 #[lz z l g d s e] w λx w'=>x= .returned (.tuple #[.int .u64 (hF z l g (bi d)),.int .u64 (s+256*e),.int .i64 0])/\Below w.heap.size w w':=by
 unfold lz hF;obtain⟨h1,a,f,c,b⟩:=ok.out;have YJ:jI l:=J;cases d
 ·rw[pN];exact agT
 ·rw[tG];exact agT
end
section
open Go.RowKit Tryz
section
variable(f t:Int)(w:World)(a:aR f)(b:aR t)(ok:Hid (rG f t))
include f t w a b ok
theorem ag9:
 Calls prog 112 #[lz (Uq f) (Uv f) (Up f) (W4 f) (m8 t) (m9 t)] w λx w'=>x= .returned (.tuple #[.int .u64 f,.int .u64 t,.int .i64 0])/\Below w.heap.size w w':=by
 obtain⟨c,e,d⟩:=ok.out;have hb:=(A2 f a).1 d;refine(ag8 _ _ _ _ _ _ w c).mono λx w' g=>⟨?_,g.2⟩
 rw[g.1,hb];exact zd (by unfold hF Uq Uv Up;unfold aR at a;omega) (by unfold m8 m9;omega) rfl
theorem ag1:
 Calls prog 62 #[.int .u64 f,.int .u64 t] w λx w'=>x= .returned (.tuple #[lz (Uq f) (Uv f) (Up f) (W4 f) (m8 t) (m9 t),.int .i64 0])/\Below w.heap.size w w':=by
 have h:t/256 %16777216=t/256:=by have:=ok.out.1.2.2.2.2;unfold m9 at this;omega
 have key:=λw=>ag9 f t w a b ok
 unfold lz Uq Uv Up W4 m8 m9 at*;have K:=I key;clear key;go_enter func62,ntmps62;go_wp2_with fail;refine(K.out _).mono ?_;rintro e c ⟨rfl,N⟩;have d:=N.size;(repeat(first|rw[World.size_alloc]at d|rw[World.size_setCell]at d|rw[World.size_drew]at d));have i:w.heap.size<c.heap.size:=J;have j:=λo=>N.cell (p:=⟨w.heap.size,o,none⟩) ch;have k:=λo=>N.frozen (p:=⟨w.heap.size,o,none⟩) ch;have l:w.heap.size+1<c.heap.size:=J;have m:=λo=>N.cell (p:=⟨w.heap.size+1,o,none⟩) ch;have n:=λo=>N.frozen (p:=⟨w.heap.size+1,o,none⟩) ch
 go_wp2_with fail;refine aZ (g:=w.heap.size) (t:=91) (fr:=(0,0)) (cs:= #[.int .i64 (f %4294967296),.int .i64 (f/4294967296 %256),.int .i64 (f/1099511627776 %256),.bool (f/281474976710656 %256==1),.int .i64 (t %256),.int .i64 (t/256)]) results62 ?_ ?_ ?_ underlying91 rfl ?_ ?_;(focus rfl);(focus rfl);(focus(apply Exists.intro;apply And.intro;(focus(repeat(first|(with_reducible exact dL _ _)|((with_reducible apply eg);(focus(first|(simp;done)|omega)))|(with_reducible apply eC)|((with_reducible apply eQ);(focus(first|omega|(simp;done)|(simp;omega))))|((with_reducible apply dA);(focus(with_reducible assumption));(focus(first|omega|(simp;done)|(simp;omega))))|((with_reducible apply cQ);(focus(first|omega|(simp;done)|(simp;omega)))))));(focus rfl)));(focus kernel_rfl);refine⟨rfl,?_⟩;exact a2
end
end
section
open Go.RowKit Tryz
theorem ag3(f t z l g:Int)(d:Bool)(s e:Int)(w:World)(o:isObj f t z l g d s e):
 Calls prog 62 #[.int .u64 f,.int .u64 t] w λx w'=>x= .returned (.tuple #[.agg #[.int .i64 z,.int .i64 l,.int .i64 g,.bool d,.int .i64 s,.int .i64 e],.int .i64 0])/\Below w.heap.size w w':=by
 obtain⟨h1,a,i,h,b,c,ok⟩:=o.parts;have:=ag1 f t w o.UK.1 o.UK.2 (I ok);rw[h1,a,i,h,b,c]at this;exact this
end
section
open Go.RowKit Tryz
structure Tm9(w0 j w:World)(K g a:Nat)(B:WB)(v:VV)(s:h9)(W:Wd)(O:Nat->List Zr)(x:Nat->Option Nat)(k:Nat):Prop where
 VL:dw w0 j w K B v s W O x k
 nf99: ∀b,g<=b->b<a->¬Ur B s.p.t.toNat b/\¬B.Yi b
 le:K<=j.heap.size/\j.heap.size<=g/\a<=w.heap.size
variable{w0 j w w':World}{K g a k:Nat}{B:WB}{v:VV}{s:h9}{W:Wd}{O:Nat->List Zr}{x:Nat->Option Nat}
theorem Tm9.below(h:Tm9 w0 j w K g a B v s W O x k)(hb:Below w.heap.size w w'):Tm9 w0 j w' K g a B v s W O x k:=
 ⟨h.VL.below hb,h.nf99,h.le.1,h.le.2.1,D h.le.2.2 hb.size⟩
theorem Tm9.step(H:Tm9 w0 j w K g a B v s W O x k)(ok:hV s)(TS:k<240)(t:Nat)(A:iv W s.p.t.toNat s.cp k=t)(Z7:w0.heap.size<=K):
 (t:Int)<s.p.t/\(W.XT t).ended=false/\Calls prog 15 #[.pointer (some ⟨B.O3,0,none⟩),.agg (gy s.p v).toArray,.int .i64 k] w λe w'=> ∃(B':WB) (d1 d2:List Value) (o:db) (u:Value) (O':Nat->List Zr) (N:Nat->Option Nat),e= .returned (.tuple #[.agg (i9 d1 d2 t o u).toArray,.bool true])/\
   gm w' (λb=>w.heap.size<=b) s.p (e5 s.p) W d1/\gm w' (λb=>w.heap.size<=b) s.p (e5 s.p) (bI s.p (bX s) (e5 s.p) W t) d2/\cF w' (λb=>w.heap.size<=b) u o.aC.said/\
   sd s.p (bX s) (e5 s.p) (hK s.p W t) (bI s.p (bX s) (e5 s.p) W t) O O' x N t (bh s.p (bX s) (e5 s.p) W t)/\
   Tm9 w0 j w' K g a B' v s (bI s.p (bX s) (e5 s.p) W t) O' N (k+1)/\B'.O3=B.O3/\Z1 (λb=>b<w0.heap.size\/K<=b/\b<j.heap.size\/g<=b/\b<a) w w':=by
 have h:=H.VL;have hS:=H.le.1;have Ub:j.heap.size<=w.heap.size:=h.Wu.size;have YJ:(t:Int)∈ec W s.p.t.toNat:=by
  unfold iv at A;split at A
  ·omega
  ·rename_i U4;rw[<-A];refine pU ?_;have eN:(0:Int)<(ec W s.p.t.toNat).length:=J;have h1:=b5 (vg s.cp k) (Int.ne_of_gt eN);have T:=cA (vg s.cp k) eN;omega
 obtain⟨h1,T,z⟩:=qU YJ;rw[bL]at z;have y:(t:Int)<s.p.t:=by have:=h.inv.pl.t;omega
 refine⟨y,z,?_⟩;obtain⟨Q',-⟩:=h.op.bI (F:=bX s) (n:=e5 s.p) h.inv y z;obtain⟨O',N,G⟩:=h.inv.bI y z;have S:=h.inv.h4 y z;have X:=S.inv.UU t y S.busy;rw[em]at X;have bE:=nP (p:=s.p) (m:=W.ops.length) (h.bE t y);have TG:dx (bd s.p (W.XT t) W.ops.length).run:=⟨by
  rw[X.chain];have:=(S.inv.U2 t y).len;rw[em]at this;exact this,by have:=h.n;omega,by have:=h.n;omega⟩
 obtain⟨r,Ty,d,Q,ek⟩:=h.Xf;have Bh:(bd s.p (W.XT t) W.ops.length).run.n<=65536:=by
  have V:=HK (f:=λi=>runN (W.XT i)) (m:=s.p.t.toNat) (i:=t) J;have XX:=Q.le;have U:=Q.pos;have Vy:runN (W.XT t)<=240:=J;clear V XX U;unfold runN at Vy;unfold bd;cases hb:(W.XT t).busy with
  |true=>rw[Z hb]at Vy;rw[Z rfl];omega
  |false=>
   rw[Y aN];cases R:(W.XT t).calls with
   |nil=>simp[eD.ended,hb,R]at z
   |cons c l=>show(begun s.p (W.XT t).regs (W.XT t).aD c).n<=65536;unfold begun;simp
 refine(JS w B s.p (bX s) (e5 s.p) W O x h.wd h.inv h.op (λb hb=>(h.mu b hb).2) (λi _=>h.ZS i) (by have:=h.n;omega) h.Wh h.bE v s K h.CY ok rfl k J t A y z TG Bh).mono ?_;rintro e w' ⟨B',d1,d2,o,u,V1,HL,fx,hu,mY,se,aaw,TH,J4,tc⟩;have bo:(bI s.p (bX s) (e5 s.p) W t).ops≠ []:=by
  obtain⟨tV,Vt,_⟩:=mY;intro e;rw[e]at Vt;simp at Vt
 have P: ∀b,Ur B' s.p.t.toNat b->b<w.heap.size->Ur B s.p.t.toNat b:=λb hm hb=>J4 b hb hm
 have L:Z1 (λb=>b<w0.heap.size\/K<=b/\b<j.heap.size\/g<=b/\b<a) w w':=TH.mono λb hb M hm=>by
  rcases M with q|⟨q1,C⟩|⟨q1,C⟩
  ·have:=(h.mu b hm).1;omega
  ·exact h.xV b q1 C hm
  ·exact(H.nf99 b q1 C).1 hm
 refine⟨B',d1,d2,o,u,O',N,V1,HL,fx,hu,G,⟨⟨se,G.inv,Q',h.bE.bI,lJ.bI h.inv h.bE h.Wh y z,?_,λi=>D rW (h.ZS i),λb hm=>⟨?_,se.QD bo b hm⟩,λb q1 C hm=>?_,h.sc,?_,?_⟩,λb q1 C=>?_,hS,H.le.2.1,D H.le.2.2 TH.size⟩,aaw,L⟩
 ·show W.n+1=k+1;rw[h.n]
 ·rcases Nat.lt_or_ge b w.heap.size with q|q
  ·exact(h.mu b (P b hm q)).1
  ·omega
 ·exact h.xV b q1 C (P b hm J)
 ·exact⟨L.os.trans h.Wu.os,L.tape.trans h.Wu.tape,L.output.trans h.Wu.output,D h.Wu.size L.size,λb hb M=>(L.block b J (.inr (.inl ⟨M,hb⟩))).trans (h.Wu.block b hb M)⟩
 ·have R:=Q.bI h.inv y z G;refine⟨_,_,_,R,?_⟩;have:ez (bX s) (bh s.p (bX s) (e5 s.p) W t)<=1:=by unfold ez;split<;>omega
  omega
 ·have:=H.le;exact⟨λhm=>(H.nf99 b q1 C).1 (P b hm J),tc b J (H.nf99 b q1 C).2⟩
end
section
open Go.RowKit
end
section
variable{p:PO}{F:b1}{n:Nat}{W:Wd}{O:Nat->List Zr}{a:Nat->Option Nat}{t:Nat}
theorem Inv.agA(h:Inv p F n W O a){s:Nat}(g:(t:Int)<p.t)(c:(s:Int)<p.s)(b:reach (W.XT t).aD s):(Wi W.V s).st≠0:=by
 rcases aQ s with rfl|h1
 ·rw[((h.Zt 0 c).zero rfl).1];decide
 ·have hm:(⟨s,true⟩:bO)∈(W.XT t).aD:=by
   rcases b with e|e
   ·omega
   ·exact e
  have j:=jq hm;have k:fF s (W.XT t).aD<=within W p.t.toNat s:=nm (f:=λi=>fF s (W.XT i).aD) J;have d:=h.Xf s h1 c;have:=d.2.2;intro e;rw[e]at this;omega
end
section
open Go.RowKit
theorem agm{d1 d2:List Value}(h1:d1.length=54){t:Int}{o:db}{u v:Value}{i:Nat}(h:d1[i]? =some v):(i9 d1 d2 t o u)[i]? =some v:=by
 unfold i9;rw[aA (List.getElem?_eq_some_iff.1 h).1];exact h
theorem agL{d1 d2:List Value}(h1:d1.length=54)(a:d2.length=54){t:Int}{o:db}{u v:Value}{i:Nat}(h:d2[i]? =some v):(i9 d1 d2 t o u)[54+i]? =some v:=by
 unfold i9;rw[ay J,h1,Nat.add_sub_cancel_left,aA (List.getElem?_eq_some_iff.1 h).1];exact h
end
section
variable{p:PO}{F:b1}{n:Nat}{W:Wd}{O O':Nat->List Zr}{f j:Nat->Option Nat}{t:Nat}
theorem ag5(q:vK p W)(s:(t:Int)<p.t)(u:(W.XT t).ended=false){o:db}(w:o∈(bI p F n W t).ops):
 o∈W.ops\/o.call=(bd p (W.XT t) W.ops.length).run.call/\((bh p F n W t).fin=true->o.e2=W.n/\o.aC=(bh p F n W t).aC)/\((bh p F n W t).fin=false->o.e2= -1):=by
 obtain⟨i,hi⟩:=bZ w;have b:((fO W t).modify (bd p (W.XT t) W.ops.length).at_ λo=>{o with pt:=if(bh p F n W t).bF then W.n else o.pt,e2:=if(bh p F n W t).fin then W.n else o.e2,aC:=if(bh p F n W t).fin then(bh p F n W t).aC else o.aC})[i]? =some o:=hi;clear hi;rw[List.getElem?_modify]at b;have key: ∀h:db,(fO W t)[i]? =some h->h∈W.ops/\i≠(bd p (W.XT t) W.ops.length).at_\/i=(bd p (W.XT t) W.ops.length).at_/\h.call=(bd p (W.XT t) W.ops.length).run.call/\h.e2= -1:=by
  intro h a;by_cases e:i=(bd p (W.XT t) W.ops.length).at_
  ·refine .inr ⟨e,?_⟩;rw[e]at a;unfold fO at a;unfold bd at a⊢;cases hb:(W.XT t).busy with
   |true=>
    simp only[hb,if_true]at a⊢;obtain⟨x,h1,d,r,v,_⟩:=q.Ts t s hb;rw[h1]at a;injection a with a
    rw[<-a];exact⟨r,v⟩
   |false=>
    cases m:(W.XT t).calls with
    |nil=>simp[eD.ended,hb,m]at u
    |cons c l=>
     simp only[hb,m,Bool.false_eq_true,if_false]at a⊢;simp at a;rw[<-a];exact⟨rfl,rfl⟩
  ·refine .inl ⟨?_,e⟩;unfold fO at a;unfold bd at e;cases hb:(W.XT t).busy with
   |true=>
    simp only[hb,if_true]at a;exact bf a
   |false=>
    cases m:(W.XT t).calls with
    |nil=>simp[eD.ended,hb,m]at u
    |cons c l=>
     simp only[hb,m,Bool.false_eq_true,if_false]at a e;rcases Nat.lt_or_ge i W.ops.length with g|g
     ·rw[aA g]at a;exact bf a
     ·rw[ay g]at a;have:=(List.getElem?_eq_some_iff.1 a).1;simp at this;omega
 cases a:(fO W t)[i]? with
 |none=>rw[a]at b;cases b
 |some h=>
  rw[a]at b;injection b with b
  dsimp only at b;rcases key h a with⟨h1,d⟩|⟨h1,d,r⟩
  ·rw[Y (λe=>d e.symm)]at b;exact .inl (b▸h1)
  ·rw[Z h1.symm]at b;refine .inr ?_;rw[<-b];refine⟨d,λk=>?_,λk=>?_⟩
   ·simp only[k,if_true];exact⟨trivial,trivial⟩
   ·simp only[k,Bool.false_eq_true,if_false];exact r
structure agW(p:PO)(W:Wd)(O:Nat->List Zr)(f:Nat->Option Nat):Prop where
 T5: ∀s:Nat,s<p.s->(Wi W.V s).T5<=W.n
 op: ∀o,o∈W.ops->o.call.op=7->0<=o.e2->o.aC.code=0->∃s:Nat,dr o.aC.n/\0<=o.aC.n/\VA o.aC.n=s/\s<p.s/\UP o.aC.n<=(Wi W.V s).T5/\
  ((Wi W.V s).T5=UP o.aC.n->2<=(Wi W.V s).st/\(f s=none->∃b,b∈O s/\8*(b.at_:Int)=WR o.aC.n/\(b.l:Int)=o.call.a/\(b.t:Int)=o.call.c))
theorem ahn{z l t d:Int}(a:0<=z/\z<=72)(c:0<=l/\l<=6)(b:0<=t/\t<=7)(hd:0<=d/\d<=1):q5 z l t d/72057594037927936=165:=by unfold q5;omega
theorem aho{z l t d z' l' t' d':Int}(a:0<=z/\z<=72)(k:0<=l/\l<=6)(b:0<=t/\t<=7)(hd:0<=d/\d<=1)(c:0<=z'/\z'<=72)(e:0<=l'/\l'<=6)(g:0<=t'/\t'<=7)(i:0<=d'/\d'<=1)
 (h:q5 z l t d=q5 z' l' t' d'):l=l'/\t=t':=by unfold q5 at h;omega
theorem ahe(h:Inv p F n W O f)(z:(t:Int)<p.t)(YJ:(W.XT t).ended=false)(h':Inv p F n (bI p F n W t) O' j)(m:(bh p F n W t).fin=true)(y:(bd p (W.XT t) W.ops.length).run.call.op=7)(o:(bh p F n W t).aC.code=0):
 ∃s:Nat,dr (bh p F n W t).aC.n/\0<=(bh p F n W t).aC.n/\VA (bh p F n W t).aC.n=s/\s<p.s/\UP (bh p F n W t).aC.n=(Wi (bI p F n W t).V s).T5/\2<=(Wi (bI p F n W t).V s).st/\
  ∃b,b∈O' s/\8*(b.at_:Int)=WR (bh p F n W t).aC.n/\(b.l:Int)=(bd p (W.XT t) W.ops.length).run.call.a/\(b.t:Int)=(bd p (W.XT t) W.ops.length).run.call.c:=by
 have S:=h.h4 z YJ;have H:=S.inv.UU t z S.busy;rw[em]at H;have rj:(bd p (W.XT t) W.ops.length).aD=(W.XT t).aD:=by unfold bd;(repeat' split)<;>rfl
 have R:=H.af;have X:=H.kind;have T:=H.fin;rw[rj]at R X;have Yg:(bI p F n W t).V=(one p F n W.V W.fr (bd p (W.XT t) W.ops.length).run).1:=rfl;have Bh:bh p F n W t=(one p F n W.V W.fr (bd p (W.XT t) W.ops.length).run).2.2:=rfl;have eV:=h.U2 t z;have Xg:=(eV.af h.pl)
 rw[<-R]at Xg;obtain⟨LK,L,ru⟩:=Xg;rw[Bh]at m o⊢;have u:=h'.qB;have v:=h'.Zt;rw[Yg]at u v⊢;clear H S rj R Yg Bh eV h';generalize(bd p (W.XT t) W.ops.length).run=r at*;have AH: ∃UG:r.Xj=4,r.next=(Wi W.V r.af.toNat).T5/\r.at_=bs W.V r.af.toNat/\r.word=Ts W.V r.af.toNat/\(0<=r.call.a/\r.call.a<=6)/\(0<=r.call.b/\r.call.b<=512)/\0<=r.call.c/\r.call.c<=7:=by
  cases X with
  |tell h1 x=>
   unfold one at o;rw[Z h1]at o;have:=x o;omega
  |make h1 x=>omega
  |take h1 x ZV Ya g=>
   rcases g with g|⟨A,g⟩
   ·unfold one e6 at m;rw[aB,aB,Z y,Z g]at m;rw[show({r with next:=(Wi W.V r.af.toNat).T5,Xj:=2}:RJ).fin=r.fin from rfl,T]at m;cases m
   ·rcases g with g|⟨B,g⟩
    ·unfold one e6 at m;rw[aB,aB,Z y,aB,Z g]at m;rw[show({r with at_:=bs W.V r.af.toNat,Xj:=3}:RJ).fin=r.fin from rfl,T]at m;cases m
    ·rcases g with g|⟨g,C⟩
     ·unfold one e6 at m;rw[aB,aB,Z y,aB,aB,Z g]at m;rw[show({r with word:=Ts W.V r.af.toNat,Xj:=4}:RJ).fin=r.fin from rfl,T]at m;cases m
     ·exact⟨g,A,B,C,x,ZV,Ya⟩
  |enter h1 _ _ _=>omega
  |nn h1 _ _ _=>omega
  |drain h1 _ _ _ _ _=>omega
  |slot h1 _ _ _ g=>clear g;omega
  |hI h1 _ _ _=>omega
  |gate h1 _ _ _=>omega
 obtain⟨Ya,A,B,C,WJ,tM,XO⟩:=AH;obtain⟨s,Q⟩: ∃s:Nat,r.af=s:=⟨r.af.toNat,J⟩
 rw[Q,bL]at A B C;rw[Q]at L ru;have cx:=h.agA z L ru;obtain⟨Ae,xX,w7,X6,Y0,aai,Ak,aba,afs⟩:=h.eb L cx;have K:=h.Zt s L;have il:=K.ft.ok.T5;have fb:=h.pl.s;have LA:=h.pl.i;have LB:=h.pl.h;have iR:=h.ZU;unfold one e6 at o u v⊢;rw[aB,aB,Z y,aB,aB,aB]at o u v⊢;rw[Q,bL]at o u v⊢;have ed:TJ W.V s<=r.word/\8*fN r.call.a r.call.b<=r.word-TJ W.V s:=by
  by_cases ed:TJ W.V s<=r.word/\8*fN r.call.a r.call.b<=r.word-TJ W.V s
  ·exact ed
  ·rw[Y ed]at o;exact absurd o (by show¬(17:Int)=0;decide)
 rw[Z ed]at u v⊢;obtain⟨k,U⟩: ∃k:Nat,((r.at_+TJ W.V s)/8).toNat=k:=⟨_,rfl⟩
 have AI:8*(k:Int)=r.at_+TJ W.V s:=J;have Vu:fN r.call.a r.call.b=2+r.call.a+(r.call.b+7)/8:=rfl;rw[U]at u v⊢;obtain⟨V',P⟩: ∃V':Nat->Int,put (put (put W.V (8*s+3) (TJ W.V s+8*fN r.call.a r.call.b)) k (q5 (fN r.call.a r.call.b) r.call.a r.call.c 0)) (k+1) ((s:Int)+256*r.next)=V':=⟨_,rfl⟩
 have Zv:V' (k+1)=s+256*r.next:=by rw[<-P,aP]
 have Xr:V' k=q5 (fN r.call.a r.call.b) r.call.a r.call.c 0:=by rw[<-P,aw _ _ J,aP]
 dsimp only at u v⊢;rw[P]at u v⊢;obtain⟨s',At,G,N,fG⟩:=u k (by rw[Xr];unfold ku;rw[ahn J WJ XO J];simp);have K':=v s' At;obtain⟨ok,M,Vt⟩:=K'.hd G N;rw[fG]at M Vt;rw[Xr]at M;rw[Zv]at Vt;have acy:=K'.ft.ok.T5;have adt:2<=(Wi V' s').st:=by
  rcases Int.lt_or_le (Wi V' s').st 2 with q|q
  ·rw[(K'.no.1 q).1]at N;cases N
  ·exact q
 change 0<=(Wi V' s').T5/\(Wi V' s').T5<=16777215 at acy;change 0<=(Wi W.V s).T5/\(Wi W.V s).T5<=16777215 at il;obtain rfl:s=s':=J;obtain⟨Al,xd,VC,An⟩:=ok;have Sv:=Ac G.d;unfold Zr.w at M;obtain⟨AK,aaj⟩:=aho J WJ XO J J J J Sv M;obtain⟨AL,AQ,AU,AX,aad,Aq⟩:=ahd (s:=s) (e:=r.next) (a:=r.at_+TJ W.V s) J J J;refine⟨s,AL,aad,AQ,L,?_,adt,G,N,?_,AK.symm,aaj.symm⟩
 ·show UP (Y3 s r.next (r.at_+TJ W.V s))=_;rw[AU];omega
 ·show _=WR (Y3 s r.next (r.at_+TJ W.V s));rw[AX,fG];exact AI
theorem agW.bI(M:agW p W O f)(h:Inv p F n W O f)(q:vK p W)(m:(t:Int)<p.t)(T:(W.XT t).ended=false)(U4:W.n<=60000)
 (k:sd p F n (hK p W t) (bI p F n W t) O O' f j t (bh p F n W t)):agW p (bI p F n W t) O' j:=by
 have r:Lz p W.V (Go.Proofs.YtcimojgkeoecfaaGreat.bI p F n W t).V O O' f j:=k.OK;refine⟨λs A=>?_,λo ZQ g hto B=>?_⟩
 ·have K:=M.T5 s A;have Wx:0<=(Wi W.V s).T5:=(h.Zt s A).ft.ok.T5.1;show _<=((W.n+1:Nat):Int);rcases r.T5 s A with e|⟨e,-⟩<;>omega
 ·rcases ag5 q m T ZQ with hm|⟨h1,H,ZV⟩
  ·obtain⟨s,u,z,d,c,S,v⟩:=M.op o hm g hto B;have K:=M.T5 s c;refine⟨s,u,z,d,c,?_,λX=>?_⟩
   ·rcases r.T5 s c with e|⟨e,-⟩<;>omega
   ·have i:(Wi (Go.Proofs.YtcimojgkeoecfaaGreat.bI p F n W t).V s).T5=(Wi W.V s).T5:=by
     rcases r.T5 s c with e|⟨e,-⟩
     ·exact e
     ·exfalso;unfold dr at u;omega
    obtain⟨P,L⟩:=v (by rw[<-i];exact X);obtain⟨R,ZM⟩:=r.Ty s c i P;refine⟨R,λQ=>?_⟩;obtain⟨G,N⟩:=ZM Q;obtain⟨b,w,x,C,y⟩:=L G;obtain⟨b',YN,XW,ZA,U,XQ,AQ⟩:=N b w;exact⟨b',YN,by rw[XW];exact x,by rw[U];exact C,by rw[XQ];exact y⟩
  ·have a:(bh p F n W t).fin=true:=by
    cases a:(bh p F n W t).fin with
    |true=>rfl
    |false=>rw[ZV a]at hto;omega
   obtain⟨Ya,l⟩:=H a;rw[h1]at g;rw[l]at B;obtain⟨s,u,z,d,c,S,v,b,w,x,C,y⟩:=ahe h m T k.inv a g B;rw[l,h1];exact⟨s,u,z,d,c,by rw[S];exact Int.le_refl _,λ_=>⟨v,λ_=>⟨b,w,x,C,y⟩⟩⟩
theorem agW.init{pr:Nat->List dM}:agW p (l2 p pr) (λ_=> []) (λ_=>none):=by
 refine⟨λs b=>?_,λo a=>by cases a⟩;rcases aQ s with rfl|h1
 ·show(up 6).T5<=((0:Nat):Int);decide
 ·show(up (V0 p (8*s+0))).T5<=((0:Nat):Int);rw[si h1];decide
theorem ahv(M:agW p W O f)(h:Inv p F n W O f)(q:vK p W)(G:(t:Int)<p.t)(YJ:(W.XT t).ended=false)(U4:W.n<=60000)
 (u:sd p F n (hK p W t) (bI p F n W t) O O' f j t (bh p F n W t)){o:db}(ZQ:o∈(bI p F n W t).ops)(C:o.call.op=7)(H:0<=o.e2)(dU:o.e2≠W.n)(YM:o.aC.code=0):
 ∃s:Nat,dr o.aC.n/\0<=o.aC.n/\VA o.aC.n=s/\s<p.s/\((Wi (bI p F n W t).V s).T5=UP o.aC.n->(Wi (bI p F n W t).V s).st=2->
  ∃b:Zr,b.ok/\8*(b.at_:Int)=WR o.aC.n/\(b.l:Int)=o.call.a/\(b.t:Int)=o.call.c/\b.at_+1<n/\W.V b.at_=b.w/\W.V (b.at_+1)=s+256*UP o.aC.n/\(bI p F n W t).V b.at_=b.w/\(bI p F n W t).V (b.at_+1)=s+256*UP o.aC.n):=by
 have L:Lz p W.V (Go.Proofs.YtcimojgkeoecfaaGreat.bI p F n W t).V O O' f j:=u.OK;rcases ag5 q G YJ ZQ with hm|⟨h1,y,ZV⟩
 ·obtain⟨s,R,Y6,B,d,Ae,T⟩:=M.op o hm C H YM;refine⟨s,R,Y6,B,d,λQ S=>?_⟩;have UR:=M.T5 s d;have i:(Wi (Go.Proofs.YtcimojgkeoecfaaGreat.bI p F n W t).V s).T5=(Wi W.V s).T5:=by
   rcases L.T5 s d with e|⟨e,-⟩
   ·exact e
   ·exfalso;unfold dr at R;omega
  have m:(Wi W.V s).T5=UP o.aC.n:=by rw[<-i];exact Q
  obtain⟨r,z⟩:=T m;obtain⟨Tm,ZM⟩:=L.Ty s d i r;have K:=h.Zt s d;have K':=u.inv.Zt s d;obtain⟨g,A⟩:=ZM (K'.no.2 S);obtain⟨b,v,U,YR,X⟩:=z g;obtain⟨b',YN,XW,ZA,AQ,XQ,AU⟩:=A b v;obtain⟨ok,w0,x⟩:=K.hd b v;obtain⟨LI,N,P⟩:=K'.hd b' YN;have aaI:b'=b:=by
   cases b;cases b';simp only[Zr.mk.injEq]at*;exact⟨XW,ZA,AQ,XQ,AU S⟩
  rw[aaI]at N P;refine⟨b,ok,U,YR,X,?_,w0,by rw[x,m],N,by rw[P,Q]⟩;have AX:(Wi W.V s).st≠0:=J;obtain⟨Ak,xX,w7,X6,Y0,aai,Al,aba,afs⟩:=h.eb d AX;have hm:=kl (K.ZI r g) v;have:=ok.2.1;omega
 ·exfalso;cases k:(bh p F n W t).fin with
  |true=>exact dU (y k).1
  |false=>rw[ZV k]at H;omega
end
section
open Go.RowKit Tryz
structure isZ(w:World)(p n:Nat)(V:Nat->Int):Prop where
 ex: ∃v,w.cell? ⟨p,0,none⟩=some v/\KC w (λ_=>True) v n 1 (λi=> [.int .u64 (V i)])
 cE:n<=8192
variable{w w':World}{p n k:Nat}{V:Nat->Int}{a:Int}
theorem isZ.below(h:isZ w p n V)(hb:Below w.heap.size w w'):isZ w' p n V:=by
 obtain⟨v,h1,b⟩:=h.ex;exact⟨⟨v,(hb.cell (p:=⟨p,0,none⟩) (World.block_lt_of_cell? w _ h1)).trans h1,b.below hb⟩,h.cE⟩
theorem ahf(h:isZ w p n V)(e:a=8*k)(b:k<n):
 Calls prog 60 #[.pointer (some ⟨p,0,none⟩),.int .i64 a] w λe w'=>e= .returned (.bool true)/\w=w':=by
 have hm:=h.cE;obtain⟨_,f,A,c,rfl,-,-,-⟩:=h.ex;have g:0<=a:=J;have h1:a<8*n:=J;have d:(a %8==0)=true:=by simp;omega
 clear h e;go_enter func60,ntmps60;go_wp2_with fail;go_ret;exact⟨rfl,rfl⟩
theorem ag6(h:isZ w p n V)(e:a=8*k)(f:k<n):
 Calls prog 61 #[.pointer (some ⟨p,0,none⟩),.int .i64 a] w λe w'=>e= .returned (.tuple #[.int .u64 (V k),.int .i64 0])/\w=w':=by
 have hm:=h.cE;obtain⟨_,t,A,c,rfl,g,l,d⟩:=h.ex;obtain⟨b,off,rfl,-,hb,i⟩:=d J;have j:w.cell? ⟨b,off+k,none⟩=some (.int .u64 (V k)):=by simpa using i k 0 _ f rfl
 obtain⟨y,hy⟩: ∃y,V k=y:=⟨_,rfl⟩
 rw[hy]at j⊢;have r:a.tdiv 8=(k:Int):=by rw[Int.tdiv_eq_ediv_of_nonneg J];omega
 have m:=I e;have o:(0:Int)<=(k:Int):=J;have q:(k:Int)<(n:Int):=J;have s:IntKind.i64.wrap (k:Int)=(k:Int):=by rw[IntKind.wrap_i64];omega
 clear d i g l hb hy e;go_enter func61,ntmps61;go_wp2_with(go_at_call 60;refine(ahf h m.out f).mono ?_;rintro e w' ⟨rfl,rfl⟩);go_ret2;exact⟨rfl,rfl⟩
theorem isObj.ofB{b:Zr}(ok:b.ok){s e:Int}(j:0<=s/\s<=7)(h:0<=e/\e<=16777215):isObj b.w (s+256*e) b.z b.l b.t b.d s e:=by
 obtain⟨f,c,i,g⟩:=ok;refine⟨J,?_,rfl⟩;unfold Zr.w q5 vP bi hF;cases b.d<;>simp<;>omega
theorem ahF(h:isZ w p n V){z l t:Int}{d:Bool}{s e:Int}(m:a=8*(k:Int))(b:k+1<n)(o:isObj (V k) (V (k+1)) z l t d s e):
 Calls prog 24 #[.pointer (some ⟨p,0,none⟩),.int .i64 a] w λx w'=>x= .returned (.tuple #[.agg #[.int .i64 z,.int .i64 l,.int .i64 t,.bool d,.int .i64 s,.int .i64 e],.int .i64 0])/\Below w.heap.size w w':=by
 have hm:=h.cE;have f:=I m;have hb:0<=a/\a<=65536:=J;have c: ∀o,isZ (w.alloc o) p n V:=λo=>h.below ((Below.refl _ _).alloc (ai _) _)
 clear m;go_enter func24,ntmps24;go_wp2_with fail;refine(ahf (c _) f.out J).mono ?_;rintro e w' ⟨rfl,rfl⟩;go_wp2_with fail;refine(ahf (k:=k+1) (c _) (by have:=f.out;omega) b).mono ?_;rintro e w' ⟨rfl,rfl⟩;go_wp2_with fail;refine(ag6 (c _) f.out J).mono ?_;rintro e w' ⟨rfl,rfl⟩;go_wp2_with fail;refine(ag6 (k:=k+1) (c _) (by have:=f.out;omega) b).mono ?_;rintro e w' ⟨rfl,rfl⟩;go_wp2_with fail;refine(ag3 _ _ _ _ _ _ _ _ _ o).mono ?_;rintro e j ⟨rfl,N⟩;have i:=N.size;(repeat(first|rw[World.size_alloc]at i|rw[World.size_setCell]at i|rw[World.size_drew]at i));have q:w.heap.size<j.heap.size:=J;have r:=λo=>N.cell (p:=⟨w.heap.size,o,none⟩) ch;have u:=λo=>N.frozen (p:=⟨w.heap.size,o,none⟩) ch
 go_wp2_with fail;refine aZ (g:=w.heap.size) (t:=91) (fr:=(0,0)) (cs:= #[.int .i64 z,.int .i64 l,.int .i64 t,.bool d,.int .i64 s,.int .i64 e]) results24 ?_ ?_ ?_ underlying91 rfl ?_ ?_;(focus rfl);(focus rfl);(focus(apply Exists.intro;apply And.intro;(focus(repeat(first|(with_reducible exact dL _ _)|((with_reducible apply eg);(focus(first|(simp;done)|omega)))|(with_reducible apply eC)|((with_reducible apply eQ);(focus(first|omega|(simp;done)|(simp;omega))))|((with_reducible apply dA);(focus(with_reducible assumption));(focus(first|omega|(simp;done)|(simp;omega))))|((with_reducible apply cQ);(focus(first|omega|(simp;done)|(simp;omega)))))));(focus rfl)));(focus kernel_rfl);refine⟨rfl,?_⟩;exact a2
theorem ahu(h:isZ w p n V){b:Zr}(ok:b.ok){s e:Int}(j:0<=s/\s<=7)(i:0<=e/\e<=16777215)(g:a=8*(b.at_:Int))(f:b.at_+1<n)(h1:V b.at_=b.w)(c:V (b.at_+1)=s+256*e):
 Calls prog 24 #[.pointer (some ⟨p,0,none⟩),.int .i64 a] w λx w'=>x= .returned (.tuple #[.agg #[.int .i64 b.z,.int .i64 b.l,.int .i64 b.t,.bool b.d,.int .i64 s,.int .i64 e],.int .i64 0])/\Below w.heap.size w w':=
 ahF h g f (by rw[h1,c];exact isObj.ofB ok j i)
end
section
open Go.RowKit
end
section
open Go.RowKit Tryz
structure isY(w:World)(p g n:Nat)(F:Nat->Int):Prop where
 head:ah w p 83 #[.slice (some ⟨g,0,none⟩) n n]
 row:isRow w g .u64 59 n F
 ne:p≠g
 cE:n<=8192
 fits: ∀i,i<n->aR (F i)
section
variable{w w':World}{p g n:Nat}{F:Nat->Int}
theorem isY.slice(h:isY w p g n F):w.cell? ⟨p,0,none⟩=some (.slice (some ⟨g,0,none⟩) n n):=h.head.cell 0
theorem isY.c9(h:isY w p g n F):p<w.heap.size/\g<w.heap.size/\p≠g:=⟨h.head.lt,h.row.lt,h.ne⟩
theorem isY.below{B:Nat}(h:isY w p g n F)(hb:Below B w w')(a:p<B)(b:g<B):isY w' p g n F:=
 ⟨h.head.below hb a,Below.row hb h.row b,h.ne,h.cE,h.fits⟩
theorem isY.lf{B c:Nat}(h:isY w p g n F)(hb:ce B c w w')(a:p<B)(b:g<B)(d:p≠c)(e:g≠c):isY w' p g n F:=
 ⟨h.head.lf hb a d,hb.row h.row b e,h.ne,h.cE,h.fits⟩
section
variable(h:isY w p g n F)
include h
theorem isY.drewN(k:Nat):isY (w.drewN k) p g n F:=⟨h.head,h.row,h.ne,h.cE,h.fits⟩
theorem isY.alloc(o:Obj):isY (w.alloc o) p g n F:=
 h.below ((Below.refl w.heap.size w).alloc (ai _) _) h.c9.1 h.c9.2.1
theorem isY.set(j:Nat)(v:Int)(a:j<n)(hv:aR v):isY (w.setCell ⟨g,j,none⟩ (.int .u64 v)) p g n (upd F j v):=
 ⟨h.head.hY h.ne _,h.row.set j v,h.ne,h.cE,λi hi=>by unfold upd;split;(next=>exact hv);(next=>exact h.fits i hi)⟩
end
end
theorem ahh:(Tryz.prog.info? 59).map (λi=>(i.zero,i.size,i.bytes))=some (some (.int .u64 0),1,8):=aM
theorem ag2:Tryz.prog.underlying 54=some (.slice 59):=aM
theorem ahw(n:Nat)(m:Int)(w:World)(hm:m=8*n)(h:8*n<=65536):
 Calls prog 52 #[.int .i64 m] w λe w'=> ∃p g,e= .returned (.pointer (some ⟨p,0,none⟩))/\isY w' p g n (λ_=>0)/\Below w.heap.size w w'/\w.heap.size<=p/\w.heap.size<=g:=by
 have a:0<=m:=J;have b:m/8=(n:Int):=J;clear hm;have c:=run_make_row' (P:=prog) 54 59 (.int .u64 0) 8 ag2 ahh rfl .i64 .i64 n J J;go_enter func52,ntmps52;go_wp2_with fail;go_ret;refine⟨w.heap.size+1,w.heap.size,rfl,⟨?_,?_,J,J,λ_ _=>by unfold aR;omega⟩,?_,J,J⟩
 ·exact Ik _ _ _ aN
 ·rw[Cf];unfold isRow;show((w.heap.push _).push _)[w.heap.size]? =_;simp[Array.getElem?_push]
 ·exact a2
theorem ahG(w:World)(p g n:Nat)(F:Nat->Int)(a:Int)(k:Nat)(h:isY w p g n F)(e:a=8*k)(b:k<n):
 Calls prog 60 #[.pointer (some ⟨p,0,none⟩),.int .i64 a] w λe w'=>e= .returned (.bool true)/\w=w':=by
 have d:=h.slice;have hm:=h.cE;have f:0<=a:=J;have h1:a<8*n:=J;have c:(a %8==0)=true:=by simp;omega
 clear h e;go_enter func60,ntmps60;go_wp2_with fail;go_ret;exact⟨rfl,rfl⟩
theorem ahx(w:World)(p g n:Nat)(F:Nat->Int)(a x:Int)(k:Nat)(h:isY w p g n F)(e:a=8*k)(b:k<n)(f:aR x):
 Calls prog 111 #[.pointer (some ⟨p,0,none⟩),.int .i64 a,.int .u64 x] w λe w'=>e= .returned (.int .i64 0)/\isY w' p g n (upd F k x)/\ce w.heap.size g w w':=by
 have l:=h.slice;have hm:=h.cE;have j:=h.row.cell (a/8).toNat J;have i:=h.row.free (a/8).toNat;have c:=I e;have m:0<=a:=J;have h1:a<8*n:=J;clear e;go_enter func111,ntmps111;go_wp2_with(go_at_call 60;refine(ahG _ _ _ _ _ _ k h c.out b).mono ?_;rintro e w' ⟨rfl,rfl⟩);go_ret;have d:(a/8).toNat=k:=by have:=c.out;omega
 rw[d];exact⟨rfl,h.set k x b f,(ce.refl _ _ _).set _ _⟩
end
section
open Go.RowKit Tryz
section
variable(w0:World)
include w0
theorem ahy:Calls prog 109 #[.agg #[.int .i64 2,.int .i64 1,.int .i64 (-1),.int .i64 0]] w0 λe w'=>e= .returned (.bool true)/\Below w0.heap.size w0 w':=by
 have U:=Bx.a0 w0;go_enter func109,ntmps109;go_wp2_with(first|(refine aq ?_)|(refine aT ?_;clear U;intro b w U a));go_ret;exact⟨rfl,U.all⟩
theorem ahH:Calls prog 110 #[.agg #[.int .i64 2,.int .i64 1,.int .i64 (-1),.int .i64 0]] w0 λe w'=>e= .returned (.tuple #[.int .u64 6,.int .i64 0])/\Below w0.heap.size w0 w':=by
 have U:=Bx.a0 w0;go_enter func110,ntmps110;go_wp2_with(first|(go_at_call 109;refine a6 U (ahy _) ?_;clear U;intro a U)|(refine aq ?_)|(refine aT ?_;clear U;intro c w U b));go_ret2;exact⟨rfl,U.all⟩
section
variable(b c g n:Nat)(V:Nat->Int)(d:w0.cell? ⟨b,5,none⟩=some (.pointer (some ⟨c,0,none⟩)))(a:isY w0 c g n V)
include b c g n V d a
theorem agX(q s:Nat)(H:q<=4)(L:s<8)(o:8*s+q<n)(x:Int)(F:aR x)(r:b≠g):
 Calls prog 56 #[.pointer (some ⟨b,0,none⟩),.int .i64 q,.int .i64 s,.int .u64 x] w0 λe w'=>e= .returned (.tuple #[])/\isY w' c g n (upd V (8*s+q) x)/\ce w0.heap.size g w0 w':=by
 have M:=I d;have O:=I a;have lt:=World.block_lt_of_cell? w0 _ d;have B:=I (And.intro lt a.c9);have i:=I (show∀w',Below w0.heap.size w0.drew w'->w'.cell? ⟨b,5,none⟩=some (.pointer (some ⟨c,0,none⟩))from λw' hb=>(hb.cell (p:=⟨b,5,none⟩) lt).trans d);have y:=I (show∀w',Below w0.heap.size w0.drew w'->isY w' c g n V from λw' hb=>(a.drewN 1).below hb a.c9.1 a.c9.2.1);have z:=Below.refl w0.heap.size w0.drew;clear d a lt;go_enter func56,ntmps56;go_upto_region 0 with fail
 refine wp_region_held_drew (S:=λw=>w.cell? ⟨b,5,none⟩=some (.pointer (some ⟨c,0,none⟩))) aM (i.out _ z) (λX=>?_);refine RM [[0,1,2,3,4,5,7]] ?_;refine Yt (λK f=>?_);go_simp
 (go_at_call 50;refine Calls.mono (agM _ _ _ J J) ?_;rintro e l ⟨rfl,N⟩)
 go_wp2_with fail;refine WE f ?_ (i.out _ N);clear f K;intro X;refine Yt (λK f=>?_);go_simp
 (go_at_call 111;refine Calls.mono (ahx _ c g n V _ _ (8*s+q) (y.out _ N) J o F) ?_;rintro e C ⟨rfl,v,j⟩)
 go_wp2_with fail;have A:b<l.heap.size:=aj B.out.1 N.size;have u:ce w0.heap.size g w0 C:=((ce.refl _ _ _).drew.trans (ce.cg N)).trans (j.mono N.size);have m:=I u;have G:=I v;refine WE f ?_ ((j.cell (p:=⟨b,5,none⟩) A r).trans (i.out _ N));clear f K u v j;intro X;refine az [[]] ?_;go_wp2_with fail;refine fY ?_;exact⟨rfl,G.out,m.out⟩
theorem ahi(f:0<n)(h:b≠g):
 Calls prog 55 #[.pointer (some ⟨b,0,none⟩),.int .i64 0,.agg #[.int .i64 2,.int .i64 1,.int .i64 (-1),.int .i64 0]] w0 λe w'=>e= .returned (.tuple #[])/\isY w' c g n (upd V 0 6)/\ce w0.heap.size g w0 w':=by
 have lt:=World.block_lt_of_cell? w0 _ d;have j:=I (show∀w',Below w0.heap.size w0 w'->w'.cell? ⟨b,5,none⟩=some (.pointer (some ⟨c,0,none⟩))from λw' hb=>(hb.cell (p:=⟨b,5,none⟩) lt).trans d);have i:=I (show∀w',Below w0.heap.size w0 w'->isY w' c g n V from λw' hb=>a.below hb a.c9.1 a.c9.2.1);have U:=Bx.a0 w0;clear d a lt;go_enter func55,ntmps55;go_wp2_with(first|(go_at_call 110;refine a6 U (ahH _) ?_;clear U;intro o U)|(go_at_call 56;refine Calls.mono (agX _ b c g n V (j.out _ U.all) (i.out _ U.all) 0 0 J J f 6 (by unfold aR;omega) h) ?_;rintro e r ⟨rfl,m,l⟩)|(refine aq ?_)|(refine aT ?_;clear U;intro s w U q));refine fY ?_;exact⟨rfl,m,(ce.cg U.all).trans (l.mono U.all.size)⟩
end
theorem ahq(a z:Int)(n:Nat)(d:z=8*n)(m:n<=8192)(s:0<=a/\a<=65536):
 Calls prog 54 #[.int .i64 a,.int .i64 z] w0 λe w'=> ∃g,e= .returned (.pointer (some ⟨g,0,none⟩))/\Below w0.heap.size w0 w':=by
 have d8:z.tdiv 8=(n:Int):=by rw[Int.tdiv_eq_ediv_of_nonneg J];omega
 have q:IntKind.i64.wrap (n:Int)=(n:Int):=by rw[IntKind.wrap_i64];omega
 obtain⟨ds,b⟩: ∃ds,(madeCells #[Value.bool false] (n*1)).toList=ds:=⟨_,rfl⟩
 have l:ds.length=n:=by rw[<-b,Array.length_toList,size_madeCells,Nat.mul_one]
 have h:=I (show∀w:World,(Instr.makeSlice 205 (.int .i64 n) (.int .i64 n)).run prog w= .ok (.slice (some ⟨w.heap.size,0,none⟩) n n) (w.alloc (.cells ds.toArray 4))from λw=>vr (z:=.bool false) (sz:=1) (bytes:=1) aM aM J J (by rw[<-b];exact(Array.toArray_toList).symm) w);have U:=Bx.a0 w0;clear b d;go_enter func54,ntmps54;go_wp2_with(first|(refine NI U h.out ?_;clear U;intro gr w U r)|(refine Ws U 207 ?_;clear U;intro j w U hGg));have f:=I U;clear U;go_loopw [6] (λi wr=> ∃(k:Nat) (cs:List Value),k<=n/\i= .int .i64 k/\cs.length=n/\Bx w0 (λ_=>True) wr none [⟨j,207,[.int .i64 a,.slice (some ⟨gr,0,none⟩) n n]⟩,⟨gr,4,cs⟩]) (λi _=>n-(intOf i).toNat)
 case atStart=>exact⟨0,ds,J,rfl,l,f.out⟩
 case round=>
  obtain⟨k,cs,o,rfl,u,U⟩:=hrel;clear f;by_cases t:k<n
  ·have c:(k:Int)<(n:Int):=by omega
   have p:(0:Int)<=(k:Int):=J;go_wp2_with(first|(refine UQ U ?_)|(refine Ng U (off:=k) (ds:= [.bool true]) rfl ?_ (p:=by simp only[aI,bR];omega);clear U;intro w U));go_roundw
   case rel=>exact⟨k+1,_,J,by go_num,by unfold er;simp;omega,U⟩
   case measure=>simp[intOf];omega
  ·obtain rfl:n=k:=by omega
   have c: ¬(n:Int)<(n:Int):=J;go_wp2_with(refine UQ U ?_);go_ret;exact⟨⟨_,rfl⟩,U.all⟩
end
end
section
open Go.RowKit Tryz
theorem ahj{b c:Value}{f:Nat->g7}{g:Nat->Int}{a:Nat->Value}{s j:Nat}(e:s<8)(d:j<4):(cR b f c g a)[1+s*4+j]? =(B4 (f s))[j]? :=by
 rcases s with _|_|_|_|_|_|_|_|s<;>first|omega|(rcases j with _|_|_|_|j<;>first|rfl|omega)
theorem Bx.ahk{w0 w w':World}{S:Nat->Prop}{L:List PL}(h:Bx w0 S w none L)(hb:Below w.heap.size w w'){d f:Nat}{t1 t2:TypeId}{g c:List Value}(i:ah w' d t1 g.toArray)(j:ah w' f t2 c.toArray)(ne:d≠f)(h1:w.heap.size<=d)(b:w.heap.size<=f):Bx w0 S w' none (⟨d,t1,g⟩::⟨f,t2,c⟩::L):=
 ((h.below hb).jY j (h.nx b) (.inl (D h.size b)) (λa e=>by cases e)).jY i ((h.nx h1).cons ne.symm) (.inl (D h.size h1)) (λa e=>by cases e)
theorem ahz(a b:Int)(w:World):(Instr.field 130 (.agg #[.int .i64 a,.int .i64 b]) 0).run prog w= .ok (.int .i64 a) w:=by
 unfold Instr.field;go_simp;rfl
theorem ahr(w0:World){p:PO}{n:Nat}(o:a9 p)(z:8*(n:Int)=64*p.s+p.i+p.h):
 Calls prog 21 #[.agg #[.int .i64 p.s,.int .i64 p.t,.int .i64 p.i,.int .i64 p.h],.slice none 0 0] w0 λe w'=> ∃c a g,e= .returned (.pointer (some ⟨c,0,none⟩))/\(∃cs:List Value,ah w' c 87 cs.toArray/\cs[5]? =some (.pointer (some ⟨a,0,none⟩)))/\(∃V,isY w' a g n V)/\c≠a/\w0.heap.size<=c/\w0.heap.size<=a/\Below w0.heap.size w0 w':=by
 obtain⟨RV,T⟩:=o.s;obtain⟨P,B3,Xi⟩:=o.i;obtain⟨h1,Tw,ZV⟩:=o.h;have U:=Bx.a0 w0;have ZR:=I o;have F:=I z;have WH:=I (show∃m:Nat,p.h=8*(m:Int)/\m<=8192 from⟨(p.h/8).toNat,J,J⟩);clear o z;go_enter func21,ntmps21;go_upto_region 2 with(first|(refine Ws U 27 ?_;clear U;intro f w U Hr)|(go_at_call 51;refine a6 U (ahm _ _ _ _ _ ⟨RV,T⟩ ⟨P,J⟩) ?_;clear U;intro M U)|(refine VP U eK ?_;clear U;intro B5 w U TN)|(refine aq ?_)|(refine Po U ?_;clear U;intro w U))
 replace U:=U.drew;refine b0 ?_;intro X;refine az [[0,1,2,5,6,7,8]] ?_;refine Yt (λK r=>?_);go_simp
 (go_at_call 53;refine a6 U (zK ZR.out F.out _) ?_;clear U;intro M U)
 go_wp2_with fail;refine WE r ?_;clear r K;intro X;refine Yt (λK r=>?_);go_simp;have Yb:=(U.b (g:=f) kw).lt;have BG:=U.size
 (go_at_call 52;refine Calls.mono (ahw n _ _ rfl (by have:=F.out;omega)) ?_;rintro e WW ⟨a,g,rfl,A,N,dP,qS⟩;replace U:=U.below N;clear N)
 go_wp2_with fail;refine WE r ?_;clear r K;intro X;refine Yt (λK r=>?_);go_simp;obtain⟨m,Zb,O⟩:=WH.out;have Aq:=I Zb;clear Zb
 (go_at_call 54;refine Calls.mono (ahq _ _ _ m Aq.out O J) ?_;rintro e w3 ⟨BJ,rfl,N⟩;replace U:=U.below N;have u:=A.below N A.c9.1 A.c9.2.1)
 have l:=U;replace U:=l.base;go_wp2_with fail;refine WE r ?_;clear r K;intro X;refine az [[10],[11],[12]] ?_;clear U;intro c Ar w U;have YR:=vp l.bC U (λ_ h=>.tail _ h);have Q:=u.below YR u.c9.1 u.c9.2.1;have U7:0<n:=by have:=F.out;omega
 have x:c≠g:=by have:=u.c9.2.1;omega
 have At:c≠a:=by have:=u.c9.1;omega
 have Av:f≠g:=J;have R:=l.size;have G:=I (show(∀j v,[Value.int .i64 p.s,.int .i64 p.t,.int .i64 p.i,.int .i64 p.h][j]? =some v->w.cell? ⟨f,0+j,none⟩=some v)/\w.cell? ⟨c,5,none⟩=some (.pointer (some ⟨a,0,none⟩))/\(∃V,isY w a g n V)/\Below w0.heap.size w0 w/\(∃cs:List Value,ah w c 87 cs.toArray/\cs[5]? =some (.pointer (some ⟨a,0,none⟩)))from⟨λj v h=>U.cell r3 (by rw[ax];exact h),U.cell cX rfl,⟨_,Q⟩,(l.back U).all,⟨_,U.b cX,rfl⟩⟩);have B:=I (show∀(q d:World),((∀j v,[Value.int .i64 p.s,.int .i64 p.t,.int .i64 p.i,.int .i64 p.h][j]? =some v->q.cell? ⟨f,0+j,none⟩=some v)/\q.cell? ⟨c,5,none⟩=some (.pointer (some ⟨a,0,none⟩))/\(∃V,isY q a g n V)/\Below w0.heap.size w0 q/\(∃cs:List Value,ah q c 87 cs.toArray/\cs[5]? =some (.pointer (some ⟨a,0,none⟩))))->ce q.heap.size g q d->(∃V,isY d a g n V)->
  ((∀j v,[Value.int .i64 p.s,.int .i64 p.t,.int .i64 p.i,.int .i64 p.h][j]? =some v->d.cell? ⟨f,0+j,none⟩=some v)/\d.cell? ⟨c,5,none⟩=some (.pointer (some ⟨a,0,none⟩))/\(∃V,isY d a g n V)/\Below w0.heap.size w0 d/\(∃cs:List Value,ah d c 87 cs.toArray/\cs[5]? =some (.pointer (some ⟨a,0,none⟩))))from λq d ⟨YN,XW,ZA,S,cs,W,Aw⟩ hb hy=>
  ⟨λj v h=>(hb.cell (p:=⟨f,0+j,none⟩) (World.block_lt_of_cell? q _ (YN j v h)) Av).trans (YN j v h),(hb.cell (p:=⟨c,5,none⟩) (World.block_lt_of_cell? q _ XW) x).trans XW,hy,S.trans (hb.below (B':=w0.heap.size) S.size J),cs,ah.lf W hb W.lt x,Aw⟩)
 have BK:3<=n:=by have:=F.out;omega
 have BR:w0.heap.size<=c:=D R Ar;clear YR Q u A l U R;have WX:=ahz (64*p.s) p.i;go_upto_region 4 with(go_at_call 55;refine Calls.mono (ahi _ c a g n _ G.out.2.1 (Exists.choose_spec G.out.2.2.1) U7 x) ?_;rintro e BW ⟨rfl,hy,hb⟩;have y:=I (B.out _ _ G.out hb ⟨_,hy⟩);clear hy hb)
 go_upto_region 5 with(first|(refine tI y.out.1 ?_ rfl)|(go_at_call 57;refine Calls.mono (agZ _ _ _ _ _ ⟨RV,T⟩) ?_;rintro e Wo ⟨rfl,hb⟩;have H:=I (B.out _ _ y.out (ce.cg hb) ⟨_,(Exists.choose_spec y.out.2.2.1).below hb (Exists.choose_spec y.out.2.2.1).c9.1 (Exists.choose_spec y.out.2.2.1).c9.2.1⟩);clear hb)|(go_at_call 56;refine Calls.mono (agX _ c a g n _ H.out.2.1 (Exists.choose_spec H.out.2.2.1) 1 0 J J J _ (by unfold aR;omega) x) ?_;rintro e B0 ⟨rfl,hy,hb⟩;have C:=I (B.out _ _ H.out hb ⟨_,hy⟩);clear hy hb))
 have tM:B0.cell? ⟨f,2,none⟩=some (.int .i64 p.i):=C.out.1 2 _ rfl;go_upto_region 6 with(go_at_call 56;refine Calls.mono (agX _ c a g n _ C.out.2.1 (Exists.choose_spec C.out.2.2.1) 2 0 J J J _ (by unfold aR;omega) x) ?_;rintro e afM ⟨rfl,hy,hb⟩;have L:=I (B.out _ _ C.out hb ⟨_,hy⟩);clear hy hb)
 go_wp2_with fail;go_ret;exact⟨c,a,g,rfl,L.out.2.2.2.2,L.out.2.2.1,At,J,J,L.out.2.2.2.1⟩
end
end Go.Proofs.YtcimojgkeoecfaaGreat
