import Derived.Test.YtcimojgkeoecfaaGreatVbr
set_option linter.all false
set_option maxHeartbeats 16000000
set_option maxRecDepth 100000
namespace Go.Proofs.YtcimojgkeoecfaaGreat
section
open Go.RowKit Tryz
theorem Ht: ∀(ds:List Value) (k off:Nat) (pre z:List Value),pre.length=off+k->ds.length<=z.length->
 (ds.zipIdx k).foldl (fun(c:Array Value) (x:Value×Nat)=>c.setIfInBounds (off+x.2) x.1) (pre++z).toArray=(pre++ds++z.drop ds.length).toArray:=by
 intro ds;induction ds with
 |nil=>intro k off pre z h1 a;simp
 |cons d ds b=>
  intro k off pre z h1 a;rcases z with _|⟨y,z⟩
  ·simp at a
  ·rw[List.zipIdx_cons,dy];simp only[List.setIfInBounds_toArray];rw[show(pre++y::z).set (off+k) d=(pre++ [d])++z by
    rw[List.set_append_right _ _ J,<-h1,Nat.sub_self,List.set_cons_zero];simp]
   rw[b (k+1) off (pre++ [d]) z (by simp;omega) (by simpa using a)];simp
def Hu(a:Nat->Option (Nat×Nat)):Nat->List (Nat×Value×List Value)->Prop
 |_,[]=>True
 |off,(i,v,ds)::r=>a i=some (off,ds.length)/\v.cells=ds.toArray/\Hu a (off+ds.length) r
theorem Nj(d:Nat->Option (Nat×Nat)): ∀(l:List (Nat×Value×List Value)) (pre z:List Value),Hu d pre.length l->z.length=(l.flatMap λx=>x.2.2).length->
 Instr.fill d (pre++z).toArray (l.map λx=>(x.1,x.2.1))=some (pre++l.flatMap λx=>x.2.2).toArray:=by
 intro l;induction l with
 |nil=>intro pre z _ a;simp at a;subst a;simp[Instr.fill]
 |cons x l c=>
  obtain⟨i,v,ds⟩:=x;intro pre z hF a;obtain⟨h1,b,f⟩:=hF;simp only[List.flatMap_cons,ak]at a;rw[aS];unfold Instr.fill;simp only[h1,b,List.size_toArray,ne_eq,not_true_eq_false,decide_false,Bool.false_or];rw[Y (by simp;omega)];rw[<-Array.foldl_toList];simp only[Array.toList_zipIdx];have e:=Ht ds 0 pre.length pre z J J;rw[e,c (pre++ds) (z.drop ds.length) (by rw[ak];exact f) (by rw[List.length_drop];omega)];simp
theorem adH{P:Program}(w:World)(t:TypeId)(a:List Value)(d:Array Field)(pl:Array (Nat×Nat))(l:List (Nat×Value×List Value))(c:(P.info? t).bind (·.zero)=some (.agg a.toArray))(hu:P.underlying t=some (.struct d))
 (h:(d.mapM λf=>Functor.map (Prod.mk f.offset) (sizeOf f.type)).run P w= .ok pl w)(hF:Hu (pl[·]?) 0 l)(g:a.length=(l.flatMap λx=>x.2.2).length):
 (Instr.build t (l.map λx=>(x.1,x.2.1)).toArray).run P w= .ok (.agg (l.flatMap λx=>x.2.2).toArray) w:=by
 have b:=Nj (pl[·]?) l [] a hF g;simp only[au]at b;obtain⟨i,hi,e⟩:=Option.bind_eq_some_iff.1 c;unfold Instr.build;simp only[Sem.run_bind,zeroValue,typeInfo];simp[go_sem,hi,e,run_underlying hu,h,b]
theorem JR{l:List Ext}{e:Int}(h: ∀x,x∈l->8<=x.z/\x.a+x.z<=e)(c:l.Pairwise λx y=>x.a+x.z<=y.a){b:Int}(hb: ∀x,x∈l->b<=x.a)(f:b<=e):b+8*(l.length:Int)<=e:=by
 induction l generalizing b with
 |nil=>simpa using f
 |cons x l d=>
  have g:=h x a8;have i:=hb x a8;rw[b3]at c;have:=d (λy hy=>h y (ao _ hy)) c.2 (b:=x.a+x.z) (λy hy=>c.1 y hy) g.2;rw[aI];omega
theorem Inv.Ti{p:PO}{F:b1}{n:Nat}{W:Wd}{O:Nat->List Zr}{c:Nat->Option Nat}(h:Inv p F n W O c):W.fr.length<=65536:=by
 have h1:=JR (l:=W.fr) (e:=8*n) (b:=0) (λx a=>⟨(h.fr x a).2.2.1,(h.fr x a).2.2.2.2⟩) h.fs (λx a=>by have:=h.fr x a;have:=h.pl.s;have:=h.pl.i;omega) J;have:=h.ZU;have:=h.pl.s;have:=h.pl.i;have:=h.pl.h;omega
def gm(w:World)(S:Nat->Prop)(p:PO)(n:Nat)(W:Wd)(d:List Value):Prop:= ∃b c a,d=cR b (WO W p.s.toNat) c (W5 W (4*p.t.toNat)) a/\gl w S b c a n p.t.toNat W
section
variable{w:World}{S:Nat->Prop}{p:PO}{n:Nat}{W:Wd}{d:List Value}(h:gm w S p n W d)
include w S p n W d h
theorem gm.len:d.length=54:=by obtain⟨b,c,a,rfl,-⟩:=h;exact qV
theorem gm.one:d.all (·.oneCell')=true:=by obtain⟨b,c,a,rfl,h⟩:=h;exact h.one
end
theorem gm.Wu{w w':World}{S T:Nat->Prop}{p:PO}{n:Nat}{W:Wd}{d:List Value}(h:gm w S p n W d)(k:Z1 T w w')(f: ∀b,S b->T b):gm w' S p n W d:=by obtain⟨c,g,a,e,h⟩:=h;exact⟨c,g,a,e,h.Wu k f⟩
theorem B6(w0:World)(B:WB)(p:PO)(F:b1)(n:Nat)(W:Wd)(O:Nat->List Zr)(g:Nat->Option Nat)(h:df w0 B p F n W)(H:Inv p F n W O g):
 Calls prog 41 #[.pointer (some ⟨B.O3,0,none⟩),ej p] w0 λe w'=> ∃d,e= .returned (.agg d.toArray)/\gm w' (λb=>w0.heap.size<=b) p n W d/\Below w0.heap.size w0 w':=
 (Hq w0 B p F n W h H.pl H.ZU (λs j=>(H.Zt s j).ft) H.Ti λt l=>by have:=(H.U2 t (by have:=H.pl.t;omega)).len;omega).mono λe w' ⟨f,i,c,h1,a,k⟩=>⟨_,h1,⟨f,i,c,rfl,a⟩,k⟩
def i9(d1 d2:List Value)(t:Int)(o:db)(u:Value):List Value:=d1++(d2++(Value.int .i64 t::(dN o u++ [.bool (decide (0<=o.e2))])))
theorem adK{d1 d2:List Value}(h1:d1.length=54)(a:d2.length=54)(t:Int)(o:db)(u:Value)(w:World):
 (Instr.build 67 #[(0,.agg d1.toArray),(1,.agg d2.toArray),(2,.int .i64 t),(3,.agg (dN o u).toArray),(4,.bool (decide (0<=o.e2)))]).run prog w= .ok (.agg (i9 d1 d2 t o u).toArray) w:=by
 have h:=adH (P:=prog) w 67 _ _ #[(0,54),(54,54),(108,1),(109,14),(123,1)] [(0,.agg d1.toArray,d1),(1,.agg d2.toArray,d2),(2,.int .i64 t,[.int .i64 t]),(3,.agg (dN o u).toArray,dN o u),(4,.bool (decide (0<=o.e2)),[.bool (decide (0<=o.e2))])] yf underlying67 (by go_simp) ⟨by rw[h1];rfl,rfl,by rw[h1,a];rfl,rfl,by rw[h1,a];rfl,rfl,by rw[h1,a];rfl,rfl,by rw[h1,a];rfl,rfl,trivial⟩ (by simp[h1,a,dN]);have e:([(0,Value.agg d1.toArray,d1),(1,.agg d2.toArray,d2),(2,.int .i64 t,[.int .i64 t]),(3,.agg (dN o u).toArray,dN o u),(4,.bool (decide (0<=o.e2)),[.bool (decide (0<=o.e2))])]:List (Nat×Value×List Value)).flatMap (λx=>x.2.2)=i9 d1 d2 t o u:=by simp[i9]
 rw[e]at h;exact h
theorem gl.mono{w:World}{S S':Nat->Prop}{c g:Value}{a:Nat->Value}{n t:Nat}{W:Wd}(h:gl w S c g a n t W)(d: ∀b,b<w.heap.size->S b->S' b):gl w S' c g a n t W:=⟨h.ws.mono d,h.e.mono d,λj f=>(h.r j f).mono d,h.z⟩
theorem gm.mono{w:World}{S S':Nat->Prop}{p:PO}{n:Nat}{W:Wd}{d:List Value}(h:gm w S p n W d)(g: ∀b,b<w.heap.size->S b->S' b):gm w S' p n W d:=by obtain⟨c,f,a,e,h⟩:=h;exact⟨c,f,a,e,h.mono g⟩
theorem Nl{a b x:Nat}{L:List PL}(h:x≠a/\x≠b)(c:L.map PL.g= [a,b]):bq none L x:=
 ⟨λy hy e=>by
   have h1:y.g∈L.map PL.g:=List.mem_map.2 ⟨y,hy,rfl⟩
   rw[c,e]at h1
   simp only[ad,E,av]at h1
   rcases h1 with h1|h1
   ·exact h.1 h1
   ·exact h.2 h1,λa e=>by cases e⟩
theorem df.fr{w:World}{B:WB}{p:PO}{F:b1}{n:Nat}{W:Wd}(h:df w B p F n W)(z:Nat->Prop)(d: ∀b,b<w.heap.size->B.Yi b->z b):df w {B with Yi:=z} p F n W:=by
 have k: ∀b,b<w.heap.size->Ve B p.t.toNat b->Ve {B with Yi:=z} p.t.toNat b:=λb hb e=>⟨e.1,d b hb e.2⟩
 exact⟨h.wd,h.VB,h.gr,h.YV.mono k,h.Wl.mono k,λi hi=>(h.XT i hi).mono k,by
  obtain⟨c,h1,a,g⟩:=h.op.ex;exact⟨c,h1,λq f=>(a q f).mono k,g⟩,h.CR,h.CS,h.AO,h.FB⟩
theorem df.keep{w w':World}{B:WB}{p:PO}{F:b1}{n:Nat}{W:Wd}{T:Nat->Prop}(h:df w B p F n W)(k:Z1 T w w')(h1: ∀b,b<w.heap.size->Ur B p.t.toNat b->T b)(d: ∀b,B.Yi b->T b):df w' B p F n W:=by
 have c: ∀ {b:Nat},b<w.heap.size->Ur B p.t.toNat b->w'.heap[b]? =w.heap[b]? :=λhb hm=>k.block _ hb (h1 _ hb hm)
 have a:Z1 (Ve B p.t.toNat) w w':=k.mono λb _ o=>d b o.2
 refine⟨(c h.wd.lt (.inl rfl)).trans h.wd,ar.j3 h.VB (c h.VB.c9.1 (.inr (.inl rfl))) (c h.VB.c9.2.1 (.inr (.inr (.inl rfl)))),h.gr.Wu (c h.gr.lt.1 (.inr (.inr (.inr (.inl rfl))))) (c h.gr.lt.2 (.inr (.inr (.inr (.inr (.inl rfl)))))),h.YV.Wu a,h.Wl.Wu a,λi hi=>?_,?_,h.CR,h.CS,h.AO,h.FB⟩
 ·have z:=h.XT i hi;exact⟨(c z.bC.lt (.inr (.inr (.inr (.inr (.inr (.inr ⟨i,hi,.inl rfl⟩))))))).trans z.bC,(c z.reg.lt (.inr (.inr (.inr (.inr (.inr (.inr ⟨i,hi,.inr rfl⟩))))))).trans z.reg,z.sq.Wu a,z.m6.Wu a,z.run.Wu a⟩
 ·obtain⟨j,f,g,l⟩:=h.op.ex;exact⟨j,f,λq m=>(g q m).Wu a,l.imp id fun⟨cap,rest,e,hb,r⟩=>⟨cap,rest,e,(c hb.lt (.inr (.inr (.inr (.inr (.inr (.inl rfl))))))).trans hb,r⟩⟩
theorem qW{d1 d2:List Value}(h1:d1.length=54)(a:d2.length=54)(t:Int)(o:db)(u:Value):(i9 d1 d2 t o u).length=124:=by simp[i9,h1,a,dN]
theorem zO{o:db}{u:Value}(h:u.oneCell'=true):(dN o u).all (·.oneCell')=true:=by unfold dN;simp[h];repeat' constructor
theorem vo{d1 d2:List Value}(h1:d1.all (·.oneCell')=true)(a:d2.all (·.oneCell')=true)(t:Int)(o:db){u:Value}(hu:u.oneCell'=true):(i9 d1 d2 t o u).all (·.oneCell')=true:=by
 unfold i9;simp only[List.all_append,List.all_cons,List.all_nil,h1,a,zO hu,Bool.and_true,Bool.true_and];rfl
theorem vp{d w:World}{L1 L:List PL}(hb: ∀x,x∈L1->ah d x.g x.t x.cs.toArray)(h:Bx d (bq none L1) w none L)(f: ∀x,x∈L1->x∈L):Below d.heap.size d w:=
 ⟨h.Wu.os,h.Wu.tape,h.Wu.output,h.Wu.size,λb i=>by
   by_cases c: ∃y,y∈L1/\y.g=b
   ·obtain⟨y,hy,rfl⟩:=c
    exact(show w.heap[y.g]? =_ from h.bC y (f y hy)).trans (show d.heap[y.g]? =_ from hb y hy).symm
   ·exact h.Wu.block b i ⟨λy hy e=>c ⟨y,hy,e⟩,λa e=>by cases e⟩⟩
theorem wQ{cs ds:List Value}(h:ds.length=cs.length):er cs 0 ds=ds:=by
 unfold er;rw[List.take_zero,au,ax,cl J,br]
section
variable{w0 w w':World}{S:Nat->Prop}{A:Option XS}{L L':List PL}
variable{P:Program}{o:Oper}{a a':Act}{K:Act->World->Prop}{Q:Exit->Act->World->Prop}{ops:Array Oper}{rest:List Oper}
section
variable(h:Bx w0 S w A L){ds:List Value}{m:Nat}(b:ds.length=m)(h1:ds.all (·.oneCell')=true)
include h ds m b h1
theorem Hv(i: ∀w',Bx w0 S w' A L'->wpList P ops Q rest a' w'){c:TypeId}{x y:Operand}{g:Nat}{v:Value}{t:TypeId}{cs:List Value}
 (k:o.guard=none:=by exact rfl)(j:o.op= .store c x y:=by exact rfl)(d:a.eval x= .pointer (some ⟨g,0,none⟩):=by exact rfl)(hy:dt a y=some v:=by exact rfl)(hv:v.cells=ds.toArray:=by exact rfl)
 (e:Tr L g t cs ds L':=by exact cf)(l:cs.length=m:=by first|rfl|assumption)(hi:(P.info? c).map (·.size)=some m:=by decide+kernel)
 (f:a.put o.dst undef=a':=by exact fa):wpList P ops Q (o::rest) a w:=
 hp h k c x y j g 0 v ds d hy hv (by rw[wQ (cs:=cs) (ds:=ds) J];exact e) J (by rw[b];exact hi) h1 λw' s=>by rw[f];exact i w' s
theorem Tj(f: ∀w',Bx w0 S w' A L'->K (a.put o.dst undef) w'){c:TypeId}{x y:Operand}{g:Nat}{v:Value}{t:TypeId}{cs:List Value}
 (i:o.op= .store c x y:=by exact rfl)(d:a.eval x= .pointer (some ⟨g,0,none⟩):=by exact rfl)(hy:dt a y=some v:=by exact rfl)(hv:v.cells=ds.toArray:=by exact rfl)
 (e:Tr L g t cs ds L':=by exact cf)(j:cs.length=m:=by first|rfl|assumption)(hi:(P.info? c).map (·.size)=some m:=by decide+kernel):Oper.wp P o a w K Q:=
 ev h c x y i g 0 v ds d hy hv (by rw[wQ (cs:=cs) (ds:=ds) J];exact e) J (by rw[b];exact hi) h1 f
end
end
theorem JS(w0:World)(B:WB)(p:PO)(F:b1)(n:Nat)(W:Wd)(O:Nat->List Zr)(VM:Nat->Option Nat)(h:df w0 B p F n W)(H:Inv p F n W O VM)(Q:vK p W)(gS: ∀b,Ur B p.t.toNat b->b<w0.heap.size)
 (fc: ∀i,i<p.t.toNat->(W.XT i).calls.length<=65536)(cx:W.n<=60000)(Qj:lJ W)(Qk:rr p W)(v:VV)(s:h9)(vy:Nat)(Yg:a7 w0 vy v s)(ok:hV s)(xn:s.p=p)(i:Nat)(hi:i<=65536)(t:Nat)(Vg:iv W s.p.t.toNat s.cp i=t)(h7:(t:Int)<p.t)(gf:(W.XT t).ended=false)
 (bE:dx (bd p (W.XT t) W.ops.length).run)(Bh:(bd p (W.XT t) W.ops.length).run.n<=65536):
 Calls prog 15 #[.pointer (some ⟨B.O3,0,none⟩),.agg (gy s.p v).toArray,.int .i64 i] w0 λe w'=> ∃(B':WB) (d1 d2:List Value) (o:db) (u:Value),e= .returned (.tuple #[.agg (i9 d1 d2 t o u).toArray,.bool true])/\
  gm w' (λb=>w0.heap.size<=b) p n W d1/\gm w' (λb=>w0.heap.size<=b) p n (bI p F n W t) d2/\cF w' (λb=>w0.heap.size<=b) u o.aC.said/\sh (bI p F n W t).ops t o/\
  df w' B' p F n (bI p F n W t)/\B'.O3=B.O3/\Z1 (ZB B p.t.toNat) w0 w'/\(∀b,b<w0.heap.size->Ur B' p.t.toNat b->Ur B p.t.toNat b)/\∀b,b<w0.heap.size->¬B.Yi b->¬B'.Yi b:=by
 subst xn;obtain⟨W',Nm⟩: ∃W',bI s.p F n W t=W':=⟨_,rfl⟩
 obtain⟨Q',o,mY,JT,Nn,Ql⟩:=Q.bI (F:=F) (n:=n) H h7 gf;obtain⟨O',dk,Ut⟩:=H.bI h7 gf;have NX:=I (show∀w',Below w0.heap.size w0 w'->Calls prog 40 #[.pointer (some ⟨B.O3,0,none⟩),.agg (gy s.p v).toArray,.int .i64 i] w' λe du=>e= .returned (.int .i64 t)/\Below w'.heap.size w' du from λw' hb=>by
  have h1:=B1 w' B s.p F n W (h.below hb) fc v s vy (Yg.below hb) ok rfl i hi;rwa[Vg]at h1)
 have Tk:=I (show∀w',Below w0.heap.size w0 w'->_ from λw' hb=>B6 w' B s.p F n W O VM (h.below hb) H);have ST:=I (show∀w' (z:Nat->Prop),Below w0.heap.size w0 w'->(∀b,b<w0.heap.size->B.Yi b->z b)->(∀b,w'.heap.size<=b->z b)->_ from λw' z hb bz c5=>zF w' {B with Yi:=z} s.p F n W O VM ((h.fr z bz).below hb) H Q t h7 gf bE Bh (fc t J) cx c5);have aaT:=I (show∀(w':World) (B':WB),df w' B' s.p F n (bI s.p F n W t)->_ from λw' B' hb=>D7 w' B' s.p F n (bI s.p F n W t) hb (by have:=Q'.len;have e:(bI s.p F n W t).n=W.n+1:=rfl;omega) (λo ZQ=>by have:=lJ.bI (F:=F) (n:=n) H Qk Qj h7 gf o ZQ;have e:(bI s.p F n W t).n=W.n+1:=rfl;omega) t o (by obtain⟨k,h1,Tw,ZV⟩:=mY;exact wO h1 Tw λj o' OV=>ZV j o' OV));have Tl:=I (show∀(w':World) (B':WB),df w' B' s.p F n (bI s.p F n W t)->_ from λw' B' hb=>B6 w' B' s.p F n (bI s.p F n W t) O' dk hb Ut.inv);rw[Nm]at*;obtain⟨TK,v3⟩: ∃u,v.TK=u:=⟨_,rfl⟩
 simp only[gy]at NX⊢;rw[v3]at NX⊢;have Hf:=KC.one Yg.cF;rw[v3]at Hf;have t0:decide ((t:Int)<0)=false:=aN;have No:=I gS;have Qm:=I mY;have U:=Bx.a0 w0;clear h H Q fc Qj Qk Yg ok Vg gf bE Bh v3 mY JT Nn Ql Ut Q' gS;go_enter func15,ntmps15;go_upto_region 1 with(first|(refine Ws U 32 ?_;clear U;intro gs w U ae5)|(refine VP U yf ?_;clear U;intro gt w U JU))
 obtain⟨ab2,Tn⟩: ∃l:List Value,l.length=124/\Bx w0 (λ_=>True) w none [⟨gt,67,l⟩,⟨gs,32,[.int .i64 s.p.s,.int .i64 s.p.t,.int .i64 s.p.i,.int .i64 s.p.h,.slice (some ⟨v.U1,0,none⟩) 8 v.U6,.slice (some ⟨v.L8,0,none⟩) s.p.t.toNat v.VY,TK]⟩]:=⟨_,rfl,U⟩
 clear U;obtain⟨aeb,U⟩:=Tn;go_upto_region 4 with(first|(go_at_call 40;refine a6 U (NX.out _ U.all) ?_;clear U;intro EH U)|(refine aq ?_)|(refine aT ?_;clear U;intro X8 w U T7))
 go_wp2_with(refine Ww U ?_);refine Calls.mono (Tk.out _ U.all) ?_;rintro e EH ⟨d1,rfl,yn,N⟩;have x4:=U.size;have O3:=(U.b (g:=gt) cX).lt;have wc:=(U.b (g:=gs) kw).lt;replace U:=U.below N;have f:=I yn.len;have Qn:=I yn.one;have Qo:=yn.mono (S':=λb=>w0.heap.size<=b/\b≠gt/\b≠gs) λb _ hb=>⟨J,J,J⟩
 have C:=U;replace U:=C.base;have Dy:=I (And.intro Qo (And.intro x4 (And.intro O3 wc)));clear yn N Qo x4 O3 wc;go_wp2_with(first|(refine VP U nz ?_;clear U;intro y w U dP)|(refine Hv U f.out Qn.out ?_;clear U;intro w U));have aey:=D C.size dP;have L:=I (And.intro (U.b (g:=y) cX).lt (And.intro (U.b (g:=gt) kw).lt (U.b (g:=gs) r3).lt));have Tp:=(C.back U).size;refine Calls.mono (ST.out _ (λb=>(b<w0.heap.size->B.Yi b)/\b≠y/\b≠gt/\b≠gs) (C.back U).all (λb hb UA=>⟨λ_=>UA,by have:=C.size;omega,J,J⟩) (λb hb=>⟨λh=>J,by have:=L.out.1;omega,by have:=L.out.2.1;omega,by have:=L.out.2.2;omega⟩)) ?_;rintro e P ⟨d,rfl,R,fh,T,jN,nc⟩;have fu:Bx w0 (ZB B s.p.t.toNat) P none _:=((C.back U).weak (S:=ZB B s.p.t.toNat)).kept jN λb _ c=>by
  have hb:=No.out b (Classical.not_not.1 c);refine⟨λx G e=>?_,.inr c,λa e=>by cases e⟩;rcases(C.back U).fr x G with q|q
  ·omega
  ·exact q trivial
 have tq:gm P (m0 w0.heap.size y gt gs) s.p n W d1:=by
  have h1:=(Dy.out.1.mono (S':=λb=>(w0.heap.size<=b/\b≠gt/\b≠gs)/\b≠y) λb hb A=>⟨A,J⟩).Wu (U.Wu) (λb A=>Nl A.1.2 rfl);exact(h1.Wu jN λb A c=>by have:=No.out b c;omega).mono λb _ A=>⟨A.1.1,A.2,A.1.2.1,A.1.2.2⟩
 have Bk:=I tq;have Tq:=I (show∀w',Below P.heap.size P w'->_ from λw' hb=>R▸aaT.out w' d (T.below hb));have aa1:=I (show∀w',Below P.heap.size P w'->_ from λw' hb=>R▸Tl.out w' d (T.below hb));have vj:=I (show∀b,Ur d s.p.t.toNat b->b<w0.heap.size\/b≠y/\b≠gt/\b≠gs from λb hm=>(Nat.lt_or_ge b w.heap.size).imp (λq=>No.out b (nc b q hm)) λq=>⟨by have:=L.out.1;omega,by have:=L.out.2.1;omega,by have:=L.out.2.2;omega⟩);have aa2:=I (And.intro T (And.intro R (And.intro fh (And.intro jN nc))));have aa3:=I (C.back U).all;replace U:=fu.base;clear tq T R fh jN nc C Tp;have Np:=I (fu.bC);go_wp2_with fail;refine Calls.mono (Tq.out _ (vp Np.out U aN)) ?_;rintro e w3 ⟨u,rfl,hu,N⟩;have w1:=KC.one hu;have Ub:=U.size;have adR:=I hu;have JV:=I N;have qX:=U.below N;have aa4:=I (And.intro Ub (And.intro (U.b (g:=y) cX).lt (And.intro (U.b (g:=gt) kw).lt (U.b (g:=gs) r3).lt)));clear hu N U Ub;have U:=qX.base;go_upto_region 7 with(first|(refine VP U BI ?_;clear U;intro Y6 w U qS)|(refine Hv U (ds:=dN o u) (m:=14) rfl (zO w1) ?_;clear U;intro w U))
 replace U:=U.drew;have D0:=f.out;have aa8:=I qX.bC;refine wp_region_held_drew (S:=c0 [⟨Y6,46,dN o u⟩,⟨y,65,d1⟩,⟨gs,32,[.int .i64 s.p.s,.int .i64 s.p.t,.int .i64 s.p.i,.int .i64 s.p.h,.slice (some ⟨v.U1,0,none⟩) 8 v.U6,.slice (some ⟨v.L8,0,none⟩) s.p.t.toNat v.VY,TK]⟩]) aM (U.bG aN) (λX=>?_);refine eE 0 rfl (fo (by rfl) 65 _ rfl y 0 54 rfl (c0.at_ ag) d1 (by rw[List.drop_zero,cm J]) underlying65 rfl (by rw[D0];kernel_rfl)) ?_;refine az [[1,2,3,5]] ?_;refine eE 6 rfl (fo (by rfl) 46 _ rfl Y6 0 14 rfl (c0.at_ ag) (dN o u) rfl underlying46 rfl aM) ?_;refine az [[7,8,9,11]] ?_;refine Yt (λK Z7=>?_);go_simp
 (go_at_call 41;have V:=JV.out.trans ((vp aa8.out U aN).mono JV.out.size);refine Calls.mono (aa1.out _ V) ?_;rintro e iH ⟨d2,rfl,vc,N⟩;have aaY:=I (show∀b,w.heap.size<=b->bq none _ b from λb hb=>⟨U.nx hb,λa e=>by cases e⟩);have Z4:=I (D fu.size V.size);have M:=I vc.len;have aa9:=I vc.one;have aaA:=I vc;have Qp:=U.below N;have aec:=I (V.trans (N.mono V.size));clear vc N V U;have U:=Qp.base)
 go_wp2_with fail;refine WE Z7 ?_;clear Z7 K;intro X;refine Xh 10 (v:=.agg (i9 d1 d2 t o u).toArray) ?_ (hy:=λw _=>?hb)
 case hb=>
  show(do let x<-Instr.build 67 _;pure (Next.value x):Sem Next).run _ _=_;rw[Sem.run_bind];simp only[b8,aS,ck];exact dz (λr:Result Value=>r.andThen λa w'=>Sem.run prog (pure (Next.value a)) w') (adK f.out M.out t o u w)
 refine az [[12,13,14,15]] ?_;refine Yt (λK Z7=>?_);refine Tj U (ds:=i9 d1 d2 t o u) (m:=124) (qW f.out M.out t o u) (vo Qn.out aa9.out t o w1) ?_;clear U;intro w U;refine WE Z7 ?_;clear Z7 K;intro X;refine az [[17]] ?_;go_wp2_with fail;refine aZ results15 rfl rfl ⟨_,U.b ag,rfl⟩ underlying67 rfl (by rw[List.size_toArray,qW f.out M.out];kernel_rfl) ?_;obtain⟨T,R,fh,jN,nc⟩:=aa2.out;have Ye:=Qp.back U;have X7:=qX.back Ye;have aed:=fu.size;have xF:=Dy.out;have xj:=aa4.out;have aaS:=L.out;have tc: ∀b,d.Yi b->(b<w0.heap.size->B.Yi b)/\b≠y/\b≠gt/\b≠gs:=λb hb=>by rw[fh]at hb;exact hb
 refine⟨{d with Yi:=λb=>b<w0.heap.size->B.Yi b},d1,d2,o,u,rfl,(Bk.out.Wu X7.Wu λb hb=>gA hb rfl).mono λb _ hb=>hb.1,(aaA.out.Wu U.Wu aaY.out).mono λb _ hb=>D Z4.out hb,?_,Qm.out,(T.keep X7.Wu ?_ ?_).fr _ (λb _ hb=>(tc b hb).1),R,(fu.back X7).Wu,λb hb hm=>nc b (aj hb aa3.out.size) hm,λb hb c h=>c (h hb)⟩
 ·refine((adR.out.mono (S':=m0 w0.heap.size y gt gs) λb _ hb=>⟨J,J,J,J⟩).Wu (Ye.Wu.mono λb _ hb=>gA hb rfl)).mono λb _ hb=>hb.1
 ·intro b hb hm;refine⟨λx G e=>?_,λa e=>by cases e⟩;simp only[ad,E,av]at G;have UJ:=vj.out b hm;rcases G with rfl|rfl|rfl<;>(simp only at e;omega)
 ·intro b hb;obtain⟨-,XX,Un,Vy⟩:=tc b hb;refine⟨λx G e=>?_,λa e=>by cases e⟩;simp only[ad,E,av]at G;rcases G with rfl|rfl|rfl
  ·exact XX e.symm
  ·exact Un e.symm
  ·exact Vy e.symm
end
section
open Go.RowKit Tryz
theorem abY{P:Program}{fn:Func}{R:Ending->World->Prop}{a:Act}{w:World}{p u:Tmp}{c:TypeId}{g:Nat}{t:TypeId}{cs:Array Value}{fr:Nat×Nat}{d:TypeDesc}
 (h:fn.results= #[.tmp u,.cell p c])(i:a.defers= [])(f:a.tmps.getD p undef= .pointer (some ⟨g,0,none⟩))(b: ∃cs',w.heap[g]? =some (.cells cs' t fr)/\cs'=cs)
 (hu:P.underlying c=some d)(hd:(match d with|.struct _|.array _ _=>true|_=>false)=true)(hi:(P.info? c).map (·.size)=some cs.size)
 (e:R (.returned (.tuple #[a.tmps.getD u undef,.agg cs])) w):bodyPost P fn R .ret a w:=by
 obtain⟨cs',b,rfl⟩:=b;refine bodyPost_ret ?_ i e;have j:a.tmps[p]?.getD undef= .pointer (some ⟨g,0,none⟩):=by simpa using f
 simp[results,h,j,asAddr,run_loadVar_row w g t c cs' fr d b hu hd hi,Sem.run_bind,Result.andThen]
theorem Eg{p:PO}{v:VV}(h:v.TK.oneCell'=true):(gy p v).all (·.oneCell')=true:=by unfold gy;simp[h];repeat' constructor
def e5(p:PO):Nat:=((64*p.s+p.i+p.h)/8).toNat
theorem rU{p:PO}(h:a9 p):8*(e5 p:Int)=64*p.s+p.i+p.h:=by have:=h.s;have:=h.i;have:=h.h;unfold e5;omega
theorem sN{f:Nat->Int}(a:e0 f)(n:Nat):hV (j9 f n):=su (λi=>by unfold fe;split;exact a i;omega) _
section
variable{w:World}{B:WB}{p:PO}{F:b1}{n:Nat}{W:Wd}(h:df w B p F n W)
include w B p F n W h
theorem df.QC(a:B.VS<w.heap.size)(b:Nat)(hm:Ur B p.t.toNat b):b<w.heap.size:=by
 rcases hm with rfl|rfl|rfl|rfl|rfl|rfl|⟨i,hi,rfl|rfl⟩
 ·exact h.wd.lt
 ·exact h.VB.c9.1
 ·exact h.VB.c9.2.1
 ·exact h.gr.lt.1
 ·exact h.gr.lt.2
 ·exact a
 ·exact(h.XT i hi).bC.lt
 ·exact(h.XT i hi).reg.lt
theorem df.QD(c:W.ops≠ [])(b:Nat)(hm:Ur B p.t.toNat b):b<w.heap.size:=by
 refine h.QC ?_ b hm;obtain⟨e,h1,d,a⟩:=h.op.ex;rcases a with⟨_,rfl⟩|⟨cap,rest,_,hb,_⟩
 ·exact absurd h1.symm c
 ·exact hb.lt
theorem df.QE(g k:Nat)(r:g<w.heap.size)(v:g<k)(a: ∀b,Ur B p.t.toNat b\/B.Yi b->k<=b): ∃B':WB,B'.O3=B.O3/\B'.Yi=B.Yi/\df w B' p F n W/\∀b,Ur B' p.t.toNat b->(b=g\/k<=b)/\b<w.heap.size:=by
 obtain⟨o,h1,j,u⟩:=id h.op.ex;rcases u with⟨l,m⟩|⟨cap,rest,_,hb,_⟩
 ·have d: ∀b,Ur B p.t.toNat b->g≠b:=λb hb e=>by have:=a b (.inl hb);omega
  have mu: ∀b,Ur {B with VS:=g} p.t.toNat b->b=g\/Ur B p.t.toNat b:=λb hm=>by
   rcases hm with q|q|q|q|q|q|q
   ·exact .inr (.inl q)
   ·exact .inr (.inr (.inl q))
   ·exact .inr (.inr (.inr (.inl q)))
   ·exact .inr (.inr (.inr (.inr (.inl q))))
   ·exact .inr (.inr (.inr (.inr (.inr (.inl q)))))
   ·exact .inl q
   ·exact .inr (.inr (.inr (.inr (.inr (.inr (.inr q))))))
  have c: ∀b,b<w.heap.size->Ve B p.t.toNat b->Ve {B with VS:=g} p.t.toNat b:=λb _ f=>⟨λhm=>by
   rcases mu b hm with q|q
   ·have:=a b (.inr f.2);omega
   ·exact f.1 q,f.2⟩
  refine⟨{B with VS:=g},rfl,rfl,⟨h.wd,h.VB,h.gr,h.YV.mono c,h.Wl.mono c,λi hi=>(h.XT i hi).mono c,⟨o,h1,λq s=>(j q s).mono c,.inl ⟨l,m⟩⟩,h.CR,h.CS,⟨h.AO.1,h.AO.2.1,(d _ (.inr (.inl rfl))).symm,h.AO.2.2.2⟩,⟨d _ (.inl rfl),d _ (.inr (.inr (.inl rfl))),d _ (.inr (.inr (.inr (.inl rfl)))),d _ (.inr (.inr (.inr (.inr (.inl rfl))))),λi hi=>⟨d _ (.inr (.inr (.inr (.inr (.inr (.inr ⟨i,hi,.inl rfl⟩)))))),d _ (.inr (.inr (.inr (.inr (.inr (.inr ⟨i,hi,.inr rfl⟩))))))⟩⟩⟩,λb hm=>?_⟩;rcases hm with rfl|rfl|rfl|rfl|rfl|rfl|⟨i,hi,rfl|rfl⟩
  ·exact⟨.inr (a _ (.inl (.inl rfl))),h.wd.lt⟩
  ·exact⟨.inr (a _ (.inl (.inr (.inl rfl)))),h.VB.c9.1⟩
  ·exact⟨.inr (a _ (.inl (.inr (.inr (.inl rfl))))),h.VB.c9.2.1⟩
  ·exact⟨.inr (a _ (.inl (.inr (.inr (.inr (.inl rfl)))))),h.gr.lt.1⟩
  ·exact⟨.inr (a _ (.inl (.inr (.inr (.inr (.inr (.inl rfl))))))),h.gr.lt.2⟩
  ·exact⟨.inl rfl,r⟩
  ·exact⟨.inr (a _ (.inl (.inr (.inr (.inr (.inr (.inr (.inr ⟨i,hi,.inl rfl⟩)))))))),(h.XT i hi).bC.lt⟩
  ·exact⟨.inr (a _ (.inl (.inr (.inr (.inr (.inr (.inr (.inr ⟨i,hi,.inr rfl⟩)))))))),(h.XT i hi).reg.lt⟩
 ·exact⟨B,rfl,rfl,h,λb hm=>⟨.inr (a b (.inl hm)),h.QC hb.lt b hm⟩⟩
end
theorem J5(w0:World)(c:Nat->Prop)(h:Value)(n:Nat)(f:Nat->Int)(hb:KC w0 c h n 1 λi=> [.int .u8 (f i)])(d:e0 f)(r:n<=maxLen)(s:h9)(z:j9 f (min n 400)=s):
 Calls prog 13 #[h] w0 λe w'=> ∃(B:WB) (v:VV),e= .returned (.tuple #[.pointer (some ⟨B.O3,0,none⟩),.agg (gy s.p v).toArray])/\df w' B s.p (bX s) (e5 s.p) (l2 s.p s.bj)/\(∃K,a7 w' K v s/\K<=w'.heap.size/\w0.heap.size<=K/\∀b,Ur B s.p.t.toNat b->w0.heap.size<=b/\b<K)/\Below w0.heap.size w0 w':=by
 have ok:=sN d (min n 400);rw[z]at ok;have U:=Bx.a0 w0;have u:=I (λw' kr=>Nb w' c h n _ (hb.below (w':=w') kr) r);have R:=I (show∀w' v',KC w' c v' (min n 400) 1 (λi=> [.int .u8 (f i)])->_ from λw' v' h'=>z▸HE w' c v' (min n 400) f h' d (Nat.min_le_right _ _));have aaM:=I (show∀w' v',KC w' c v' (min n 400) 1 (λi=> [.int .u8 (f i)])->_ from λw' v' h'=>z▸NA w' c v' (min n 400) f h' d (Nat.min_le_right _ _));have Zu:=I (show∀w' b v',a7 w' b v' s->_ from λw' b v' h'=>wB w' b (e5 s.p) v' s h' ok (rU ok.p));clear hb d r z ok;go_enter func13,ntmps13;go_upto_region 1 with(first|(refine VP U jj ?_;clear U;intro H w U lb)|(refine Po U ?_;clear U;intro w U))
 have O:=U;go_wp2_with fail;refine Calls.mono (u.out _ U.all) ?_;rintro e EH ⟨Zv,rfl,l,rfl⟩;go_wp2_with fail;refine Calls.mono (R.out _ _ l) ?_;rintro e X ⟨WP,rfl,o,F⟩;have Q:=I (U.b (g:=H) cX).lt;have T:=I (And.intro U.size F.size);replace U:=U.below F;clear F l;go_wp2_with fail;refine Calls.mono (Zu.out _ _ _ o) ?_;rintro e w3 ⟨B,rfl,y,G,L⟩;have c5:=U.size;have V:=G.size;have aaN:=I o.ge.1;replace U:=U.below G;have ij:=U.size;obtain⟨P,kj,fh,A,j⟩:=y.QE WP.U1 X.heap.size (aj o.Uw.lt V) o.Uw.lt L;rw[<-kj];have YI:=I (And.intro A (And.intro j (λb hb=>L b (.inr (fh▸hb)))));have qX:=U;have Z0:=I (And.intro (U.b (g:=H) cX).lt ij);have Z3:=I c5;clear y G L o c5 ij O V A j fh kj;go_wp2_with fail;refine Calls.mono (u.out _ U.all) ?_;rintro e iH ⟨Zv,rfl,l,rfl⟩;go_wp2_with fail;refine Calls.mono (aaM.out _ _ l) ?_;rintro e Wo ⟨Yv,rfl,N,M⟩;have C:=U.below M;have W:=I M;have Mh:=I N;have one:=Eg (p:=s.p) (KC.one N.cF);clear M N l U;have U:=C.base;go_wp2_with(refine Hv U (ds:=gy s.p Yv) (m:=7) rfl one ?_;clear U;intro w U);refine abY results13 rfl rfl ⟨_,U.b ag,rfl⟩ underlying32 rfl (by show _=some 7;kernel_rfl) ?_;have S:=C.back U;obtain⟨A,j,QH⟩:=YI.out;have tm:=Q.out;have U1:=aaN.out;have Vt:=T.out;have hY: ∀b,X.heap.size<=b->b≠H:=λb hb e=>J
 refine⟨P,Yv,rfl,(A.below W.out).keep U.Wu (λb _ hm=>?_) (λb hb=>?_),⟨_,Mh.out.move U.Wu C.bC aN,D W.out.size U.size,by have:=Z3.out;have:=Z0.out;omega,λb hm=>⟨?_,(j b hm).2⟩⟩,S.all⟩
 ·refine⟨λx k e=>?_,λa e=>by cases e⟩;simp only[ad,E,av]at k;subst k;simp only at e;rcases(j b hm).1 with q|q
  ·omega
  ·exact hY b q e.symm
 ·refine⟨λx k e=>?_,λa e=>by cases e⟩;simp only[ad,E,av]at k;subst k;exact hY b (QH b hb) e.symm
 ·rcases(j b hm).1 with q|q<;>omega
end
section
open Go.RowKit Tryz
theorem a7.TF{w w':World}{K:Nat}{v:VV}{s:h9}{T:Nat->Prop}(h:a7 w K v s)(k:Z1 T w w')(a: ∀b,K<=b->b<w.heap.size->T b):a7 w' K v s:=
 ⟨(k.block _ h.Uw.lt (a _ h.ge.1 h.Uw.lt)).trans h.Uw,(k.block _ h.Us.lt (a _ h.ge.2 h.Us.lt)).trans h.Us,h.U6,h.VY,λi hi=>eU (h.fr i hi) k λb c=>a b ((h.fr i hi).lt b c).1 ((h.fr i hi).lt b c).2,λi hi=>eU (h.pr i hi) k λb c=>a b ((h.pr i hi).lt b c).1 ((h.pr i hi).lt b c).2,eU h.pi k λb c=>a b (h.pi.lt b c).1 (h.pi.lt b c).2,h.fd,h.gC,h.ge⟩
structure dw(w0 a w:World)(K:Nat)(B:WB)(v:VV)(s:h9)(W:Wd)(O:Nat->List Zr)(g:Nat->Option Nat)(k:Nat):Prop where
 wd:df w B s.p (bX s) (e5 s.p) W
 inv:Inv s.p (bX s) (e5 s.p) W O g
 op:vK s.p W
 bE:rr s.p W
 Wh:lJ W
 n:W.n=k
 ZS: ∀i,(W.XT i).calls.length<=65536
 mu: ∀b,Ur B s.p.t.toNat b->w0.heap.size<=b/\b<w.heap.size
 xV: ∀b,K<=b->b<a.heap.size->¬Ur B s.p.t.toNat b
 sc:a7 a K v s
 Wu:Z1 (λb=>K<=b) a w
 Xf: ∃r o d,vL s.p (bX s) W O r o d/\o<=k
variable{w0 a w w':World}{K k:Nat}{B:WB}{v:VV}{s:h9}{W:Wd}{O:Nat->List Zr}{g:Nat->Option Nat}
theorem dw.below(h:dw w0 a w K B v s W O g k)(hb:Below w.heap.size w w'):dw w0 a w' K B v s W O g k:=
 ⟨h.wd.below hb,h.inv,h.op,h.bE,h.Wh,h.n,h.ZS,λb hm=>⟨(h.mu b hm).1,aj (h.mu b hm).2 hb.size⟩,h.xV,h.sc,h.Wu.trans (Z1.cg hb),h.Xf⟩
theorem dw.CY(h:dw w0 a w K B v s W O g k):a7 w K v s:=h.sc.TF h.Wu λb hb _=>hb
theorem rW{p:PO}{F:b1}{n:Nat}{t i:Nat}:((bI p F n W t).XT i).calls.length<=(W.XT i).calls.length:=by
 by_cases e:i=t
 ·subst e;rw[eZ];unfold eY;split
  ·rw[es];exact jG _ _ _
  ·exact jG _ _ _
 ·rw[g2 e];exact ai _
theorem HK{f:Nat->Nat}{m i:Nat}(h:i<m):f i<=gE f m:=by
 induction m with
 |zero=>omega
 |succ m b=>
  rw[gE];by_cases e:i=m
  ·subst e;omega
  ·have:=b J;omega
theorem dw.step(h:dw w0 a w K B v s W O g k)(ok:hV s)(TS:k<240)(t:Nat)(z:iv W s.p.t.toNat s.cp k=t)(hS:K<=a.heap.size)(Z7:w0.heap.size<=K)(Ub:a.heap.size<=w.heap.size):
 (t:Int)<s.p.t/\(W.XT t).ended=false/\Calls prog 15 #[.pointer (some ⟨B.O3,0,none⟩),.agg (gy s.p v).toArray,.int .i64 k] w λe w'=> ∃(B':WB) (d1 d2:List Value) (o:db) (u:Value) (O':Nat->List Zr) (P:Nat->Option Nat),e= .returned (.tuple #[.agg (i9 d1 d2 t o u).toArray,.bool true])/\
   gm w' (λb=>w.heap.size<=b) s.p (e5 s.p) W d1/\gm w' (λb=>w.heap.size<=b) s.p (e5 s.p) (bI s.p (bX s) (e5 s.p) W t) d2/\cF w' (λb=>w.heap.size<=b) u o.aC.said/\sh (bI s.p (bX s) (e5 s.p) W t).ops t o/\o.call=(bh s.p (bX s) (e5 s.p) W t).call/\
   ((bh s.p (bX s) (e5 s.p) W t).fin=true->o.e2=W.n/\o.pt=W.n/\o.aC=(bh s.p (bX s) (e5 s.p) W t).aC)/\((bh s.p (bX s) (e5 s.p) W t).fin=false->o.e2= -1/\o.pt= -1)/\
   sd s.p (bX s) (e5 s.p) (hK s.p W t) (bI s.p (bX s) (e5 s.p) W t) O O' g P t (bh s.p (bX s) (e5 s.p) W t)/\
   dw w0 a w' K B' v s (bI s.p (bX s) (e5 s.p) W t) O' P (k+1)/\B'.O3=B.O3/\Z1 (λb=>b<w0.heap.size\/K<=b/\b<a.heap.size) w w':=by
 have YJ:(t:Int)∈ec W s.p.t.toNat:=by
  unfold iv at z;split at z
  ·omega
  ·rename_i U4;rw[<-z];refine pU ?_;have eN:(0:Int)<(ec W s.p.t.toNat).length:=J;have h1:=b5 (vg s.cp k) (Int.ne_of_gt eN);have V:=cA (vg s.cp k) eN;omega
 obtain⟨h1,V,y⟩:=qU YJ;rw[bL]at y;have x:(t:Int)<s.p.t:=by have:=h.inv.pl.t;omega
 refine⟨x,y,?_⟩;obtain⟨Q',Wk,NC,J6,ND,QI⟩:=h.op.bI (F:=bX s) (n:=e5 s.p) h.inv x y;obtain⟨O',P,C⟩:=h.inv.bI x y;have S:=h.inv.h4 x y;have M:=S.inv.UU t x S.busy;rw[em]at M;have bE:=nP (p:=s.p) (m:=W.ops.length) (h.bE t x);have TG:dx (bd s.p (W.XT t) W.ops.length).run:=⟨by
  rw[M.chain];have:=(S.inv.U2 t x).len;rw[em]at this;exact this,by have:=h.n;omega,by have:=h.n;omega⟩
 obtain⟨r,Ty,d,Q,ek⟩:=h.Xf;have Bh:(bd s.p (W.XT t) W.ops.length).run.n<=65536:=by
  have UJ:=HK (f:=λi=>runN (W.XT i)) (m:=s.p.t.toNat) (i:=t) J;have XX:=Q.le;have Un:=Q.pos;have Vy:runN (W.XT t)<=240:=J;clear UJ XX Un;unfold runN at Vy;unfold bd;cases hb:(W.XT t).busy with
  |true=>rw[Z hb]at Vy;rw[Z rfl];omega
  |false=>
   rw[Y aN];cases R:(W.XT t).calls with
   |nil=>simp[eD.ended,hb,R]at y
   |cons c l=>show(begun s.p (W.XT t).regs (W.XT t).aD c).n<=65536;unfold begun;simp
 refine(JS w B s.p (bX s) (e5 s.p) W O g h.wd h.inv h.op (λb hb=>(h.mu b hb).2) (λi _=>h.ZS i) (by have:=h.n;omega) h.Wh h.bE v s K h.CY ok rfl k J t z x y TG Bh).mono ?_;rintro e w' ⟨B',d1,d2,o,u,V1,HL,fx,hu,U,se,aaw,TH,J4,-⟩;have v4:o=Wk:=by
  obtain⟨G,H,Y6,UI⟩:=U;obtain⟨L,A,X,Tm⟩:=NC;rcases Nat.lt_trichotomy G L with q|q|q
  ·exact absurd X (UI L Wk q A)
  ·subst q;rw[H]at A;injection A
  ·exact absurd Y6 (Tm G o q H)
 subst v4;have bo:(bI s.p (bX s) (e5 s.p) W t).ops≠ []:=by
  obtain⟨G,H,_⟩:=U;intro e;rw[e]at H;simp at H
 have QJ: ∀b,Ur B' s.p.t.toNat b->b<w.heap.size->Ur B s.p.t.toNat b:=λb hm hb=>J4 b hb hm
 have j:Z1 (λb=>b<w0.heap.size\/K<=b/\b<a.heap.size) w w':=TH.mono λb hb N hm=>by
  rcases N with q|⟨q1,T⟩
  ·have:=(h.mu b hm).1;omega
  ·exact h.xV b q1 T hm
 refine⟨B',d1,d2,o,u,O',P,V1,HL,fx,hu,U,J6,ND,QI,C,⟨se,C.inv,Q',h.bE.bI,lJ.bI h.inv h.bE h.Wh x y,?_,λi=>D rW (h.ZS i),λb hm=>⟨?_,se.QD bo b hm⟩,λb q1 T hm=>?_,h.sc,?_,?_⟩,aaw,j⟩
 ·show W.n+1=k+1;rw[h.n]
 ·rcases Nat.lt_or_ge b w.heap.size with q|q
  ·exact(h.mu b (QJ b hm q)).1
  ·omega
 ·exact h.xV b q1 T (QJ b hm J)
 ·exact⟨j.os.trans h.Wu.os,j.tape.trans h.Wu.tape,j.output.trans h.Wu.output,D h.Wu.size j.size,λb hb N=>(j.block b J (.inr ⟨N,hb⟩)).trans (h.Wu.block b hb N)⟩
 ·have R:=Q.bI h.inv x y C;refine⟨_,_,_,R,?_⟩;have:ez (bX s) (bh s.p (bX s) (e5 s.p) W t)<=1:=by unfold ez;split<;>omega
  omega
end
section
open Go.RowKit
theorem zT{s:h9}(ok:hV s):tN (bX s):=by
 refine⟨by rw[gd];exact ai _,λl c=>?_⟩;obtain⟨i,hi⟩:=bZ c;obtain⟨_,rfl⟩:=kT hi;refine⟨(ok.f i).1,λo d=>?_⟩;have h:=(ok.f i).2 o d;have h1:=h.op;have e:=h.a;have g:=h.b;exact⟨h1,J,J⟩
theorem xP{s:h9}(ok:hV s): ∀l,l∈bX s->l.length<=8/\∀o,o∈l->lv o:=λl a=>by
 obtain⟨i,hi⟩:=bZ a;obtain⟨_,rfl⟩:=kT hi;exact ok.f i
end
end Go.Proofs.YtcimojgkeoecfaaGreat
