import Derived.Test.YtcimojgkeoecfaaGreatXbr
set_option linter.all false
set_option maxHeartbeats 16000000
set_option maxRecDepth 100000
namespace Go.Proofs.YtcimojgkeoecfaaGreat
section
open Go.RowKit Tryz
theorem Ht: ∀(ds:List Value) (k off:Nat) (pre z:List Value),pre.length=off+k->ds.length<=z.length->
 (ds.zipIdx k).foldl (fun(c:Array Value) (x:Value×Nat)=>c.setIfInBounds (off+x.2) x.1) (pre++z).toArray=(pre++ds++z.drop ds.length).toArray:=by
 intro ds;induction ds with
 |nil=>intro k off pre z h1 aaV;simp
 |cons d ds aes=>
  intro k off pre z h1 aaV;rcases z with _|⟨y,z⟩
  ·simp at aaV
  ·rw[List.zipIdx_cons,dy];simp only[List.setIfInBounds_toArray];rw[show(pre++y::z).set (off+k) d=(pre++ [d])++z by
    rw[List.set_append_right _ _ J,<-h1,Nat.sub_self,List.set_cons_zero];simp]
   rw[aes (k+1) off (pre++ [d]) z (by simp;omega) (by simpa using aaV)];simp
def Hu(vn:Nat->Option (Nat×Nat)):Nat->List (Nat×Value×List Value)->Prop
 |_,[]=>True
 |off,(i,v,ds)::r=>vn i=some (off,ds.length)/\v.cells=ds.toArray/\Hu vn (off+ds.length) r
theorem Nj(vn:Nat->Option (Nat×Nat)): ∀(l:List (Nat×Value×List Value)) (pre z:List Value),Hu vn pre.length l->z.length=(l.flatMap λx=>x.2.2).length->
 Instr.fill vn (pre++z).toArray (l.map λx=>(x.1,x.2.1))=some (pre++l.flatMap λx=>x.2.2).toArray:=by
 intro l;induction l with
 |nil=>intro pre z _ aeN;simp at aeN;subst aeN;simp[Instr.fill]
 |cons x l aes=>
  obtain⟨i,v,ds⟩:=x;intro pre z hF aeN;obtain⟨h1,aaV,ZV⟩:=hF;simp only[List.flatMap_cons,ak]at aeN;rw[aS];unfold Instr.fill;simp only[h1,aaV,List.size_toArray,ne_eq,not_true_eq_false,decide_false,Bool.false_or];rw[Y (by simp;omega)];rw[<-Array.foldl_toList];simp only[Array.toList_zipIdx];have e:=Ht ds 0 pre.length pre z J J;rw[e,aes (pre++ds) (z.drop ds.length) (by rw[ak];exact ZV) (by rw[List.length_drop];omega)];simp
theorem zM{P:Program}(w:World)(t:TypeId)(aaS:List Value)(B5:Array Field)(pl:Array (Nat×Nat))(l:List (Nat×Value×List Value))(aeN:(P.info? t).bind (·.zero)=some (.agg aaS.toArray))(hu:P.underlying t=some (.struct B5))
 (ih:(B5.mapM λf=>Functor.map (Prod.mk f.offset) (sizeOf f.type)).run P w= .ok pl w)(hF:Hu (pl[·]?) 0 l)(YJ:aaS.length=(l.flatMap λx=>x.2.2).length):
 (Instr.build t (l.map λx=>(x.1,x.2.1)).toArray).run P w= .ok (.agg (l.flatMap λx=>x.2.2).toArray) w:=by
 have acA:=Nj (pl[·]?) l [] aaS hF YJ;simp only[au]at acA;obtain⟨i,hi,Nk⟩:=Option.bind_eq_some_iff.1 aeN;unfold Instr.build;simp only[Sem.run_bind,zeroValue,typeInfo];simp[go_sem,hi,Nk,run_underlying hu,ih,acA]
theorem JR{l:List Ext}{e:Int}(h: ∀x,x∈l->8<=x.z/\x.a+x.z<=e)(YF:l.Pairwise λx y=>x.a+x.z<=y.a){b:Int}(hb: ∀x,x∈l->b<=x.a)(Th:b<=e):b+8*(l.length:Int)<=e:=by
 induction l generalizing b with
 |nil=>simpa using Th
 |cons x l aes=>
  have Wy:=h x a8;have D9:=hb x a8;rw[b3]at YF;have:=aes (λy hy=>h y (ao _ hy)) YF.2 (b:=x.a+x.z) (λy hy=>YF.1 y hy) Wy.2;rw[aI];omega
theorem Inv.Ti{p:afy}{F:b1}{n:Nat}{W:Wd}{O:Nat->List Zr}{VM:Nat->Option Nat}(h:Inv p F n W O VM):W.fr.length<=65536:=by
 have h1:=JR (l:=W.fr) (e:=8*n) (b:=0) (λx Wy=>⟨(h.fr x Wy).2.2.1,(h.fr x Wy).2.2.2.2⟩) h.fs (λx Wy=>by have:=h.fr x Wy;have:=h.pl.s;have:=h.pl.i;omega) J;have:=h.abf;have:=h.pl.s;have:=h.pl.i;have:=h.pl.h;omega
def gm(w:World)(S:Nat->Prop)(p:afy)(n:Nat)(W:Wd)(d:List Value):Prop:= ∃aee Y8 aaz,d=cR aee (afo W p.s.toNat) Y8 (W5 W (4*p.t.toNat)) aaz/\gl w S aee Y8 aaz n p.t.toNat W
section
variable{w:World}{S:Nat->Prop}{p:afy}{n:Nat}{W:Wd}{d:List Value}(h:gm w S p n W d)
include w S p n W d h
theorem gm.len:d.length=54:=by obtain⟨aee,Y8,aaz,rfl,-⟩:=h;exact qV
theorem gm.one:d.all (·.oneCell')=true:=by obtain⟨aee,Y8,aaz,rfl,h⟩:=h;exact h.one
end
theorem gm.Wu{w w':World}{S T:Nat->Prop}{p:afy}{n:Nat}{W:Wd}{d:List Value}(h:gm w S p n W d)(k:Z1 T w w')(aen: ∀b,S b->T b):gm w' S p n W d:=by obtain⟨aee,Y8,aaz,e,h⟩:=h;exact⟨aee,Y8,aaz,e,h.Wu k aen⟩
theorem B6(w0:World)(B:WB)(p:afy)(F:b1)(n:Nat)(W:Wd)(O:Nat->List Zr)(VM:Nat->Option Nat)(h:df w0 B p F n W)(H:Inv p F n W O VM):
 Calls prog 41 #[.pointer (some ⟨B.aeh,0,none⟩),ej p] w0 λe w'=> ∃d,e= .returned (.agg d.toArray)/\gm w' (λb=>w0.heap.size<=b) p n W d/\Below w0.heap.size w0 w':=
 (Hq w0 B p F n W h H.pl H.abf (λs YF=>(H.Zt s YF).ft) H.Ti λt afq=>by have:=(H.aaY t (by have:=H.pl.t;omega)).len;omega).mono λe w' ⟨aee,Y8,aaz,h1,aaV,ZV⟩=>⟨_,h1,⟨aee,Y8,aaz,rfl,aaV⟩,ZV⟩
def i9(d1 d2:List Value)(t:Int)(o:db)(u:Value):List Value:=d1++(d2++(Value.int .i64 t::(dN o u++ [.bool (decide (0<=o.e2))])))
theorem zN{d1 d2:List Value}(h1:d1.length=54)(aaV:d2.length=54)(t:Int)(o:db)(u:Value)(w:World):
 (Instr.build 67 #[(0,.agg d1.toArray),(1,.agg d2.toArray),(2,.int .i64 t),(3,.agg (dN o u).toArray),(4,.bool (decide (0<=o.e2)))]).run prog w= .ok (.agg (i9 d1 d2 t o u).toArray) w:=by
 have h:=zM (P:=prog) w 67 _ _ #[(0,54),(54,54),(108,1),(109,14),(123,1)] [(0,.agg d1.toArray,d1),(1,.agg d2.toArray,d2),(2,.int .i64 t,[.int .i64 t]),(3,.agg (dN o u).toArray,dN o u),(4,.bool (decide (0<=o.e2)),[.bool (decide (0<=o.e2))])] yf underlying67 (by go_simp) ⟨by rw[h1];rfl,rfl,by rw[h1,aaV];rfl,rfl,by rw[h1,aaV];rfl,rfl,by rw[h1,aaV];rfl,rfl,by rw[h1,aaV];rfl,rfl,trivial⟩ (by simp[h1,aaV,dN]);have e:([(0,Value.agg d1.toArray,d1),(1,.agg d2.toArray,d2),(2,.int .i64 t,[.int .i64 t]),(3,.agg (dN o u).toArray,dN o u),(4,.bool (decide (0<=o.e2)),[.bool (decide (0<=o.e2))])]:List (Nat×Value×List Value)).flatMap (λx=>x.2.2)=i9 d1 d2 t o u:=by simp[i9]
 rw[e]at h;exact h
theorem gl.mono{w:World}{S S':Nat->Prop}{aee Y8:Value}{aaz:Nat->Value}{n t:Nat}{W:Wd}(h:gl w S aee Y8 aaz n t W)(YF: ∀b,b<w.heap.size->S b->S' b):gl w S' aee Y8 aaz n t W:=⟨h.ws.mono YF,h.e.mono YF,λj aeD=>(h.r j aeD).mono YF,h.z⟩
theorem gm.mono{w:World}{S S':Nat->Prop}{p:afy}{n:Nat}{W:Wd}{d:List Value}(h:gm w S p n W d)(YF: ∀b,b<w.heap.size->S b->S' b):gm w S' p n W d:=by obtain⟨aee,Y8,aaz,e,h⟩:=h;exact⟨aee,Y8,aaz,e,h.mono YF⟩
theorem Nl{a b x:Nat}{L:List abN}(h:x≠a/\x≠b)(acY:L.map abN.g= [a,b]):bq none L x:=
 ⟨λy hy e=>by
   have h1:y.g∈L.map abN.g:=List.mem_map.2 ⟨y,hy,rfl⟩
   rw[acY,e]at h1
   simp only[ad,E,av]at h1
   rcases h1 with h1|h1
   ·exact h.1 h1
   ·exact h.2 h1,λa e=>by cases e⟩
theorem df.fr{w:World}{B:WB}{p:afy}{F:b1}{n:Nat}{W:Wd}(h:df w B p F n W)(z:Nat->Prop)(aeN: ∀b,b<w.heap.size->B.Yi b->z b):df w {B with Yi:=z} p F n W:=by
 have k: ∀b,b<w.heap.size->aek B p.t.toNat b->aek {B with Yi:=z} p.t.toNat b:=λb hb YF=>⟨YF.1,aeN b hb YF.2⟩
 exact⟨h.wd,h.VB,h.gr,h.YV.mono k,h.Wl.mono k,λi hi=>(h.XT i hi).mono k,by
  obtain⟨acB,h1,aaV,ZV⟩:=h.op.ex;exact⟨acB,h1,λq VX=>(aaV q VX).mono k,ZV⟩,h.CR,h.CS,h.AO,h.FB⟩
theorem df.keep{w w':World}{B:WB}{p:afy}{F:b1}{n:Nat}{W:Wd}{T:Nat->Prop}(h:df w B p F n W)(k:Z1 T w w')(h1: ∀b,b<w.heap.size->afi B p.t.toNat b->T b)(aaV: ∀b,B.Yi b->T b):df w' B p F n W:=by
 have Xu: ∀ {b:Nat},b<w.heap.size->afi B p.t.toNat b->w'.heap[b]? =w.heap[b]? :=λhb hm=>k.block _ hb (h1 _ hb hm)
 have acp:Z1 (aek B p.t.toNat) w w':=k.mono λb _ YF=>aaV b YF.2
 refine⟨(Xu h.wd.lt (.inl rfl)).trans h.wd,ar.j3 h.VB (Xu h.VB.c9.1 (.inr (.inl rfl))) (Xu h.VB.c9.2.1 (.inr (.inr (.inl rfl)))),h.gr.Wu (Xu h.gr.lt.1 (.inr (.inr (.inr (.inl rfl))))) (Xu h.gr.lt.2 (.inr (.inr (.inr (.inr (.inl rfl)))))),h.YV.Wu acp,h.Wl.Wu acp,λi hi=>?_,?_,h.CR,h.CS,h.AO,h.FB⟩
 ·have z:=h.XT i hi;exact⟨(Xu z.bC.lt (.inr (.inr (.inr (.inr (.inr (.inr ⟨i,hi,.inl rfl⟩))))))).trans z.bC,(Xu z.reg.lt (.inr (.inr (.inr (.inr (.inr (.inr ⟨i,hi,.inr rfl⟩))))))).trans z.reg,z.sq.Wu acp,z.m6.Wu acp,z.run.Wu acp⟩
 ·obtain⟨acB,aal,abF,acL⟩:=h.op.ex;exact⟨acB,aal,λq VX=>(abF q VX).Wu acp,acL.imp id fun⟨cap,rest,e,hb,r⟩=>⟨cap,rest,e,(Xu hb.lt (.inr (.inr (.inr (.inr (.inr (.inl rfl))))))).trans hb,r⟩⟩
theorem qW{d1 d2:List Value}(h1:d1.length=54)(aaV:d2.length=54)(t:Int)(o:db)(u:Value):(i9 d1 d2 t o u).length=124:=by simp[i9,h1,aaV,dN]
theorem zO{o:db}{u:Value}(h:u.oneCell'=true):(dN o u).all (·.oneCell')=true:=by unfold dN;simp[h];repeat' constructor
theorem vo{d1 d2:List Value}(h1:d1.all (·.oneCell')=true)(aaV:d2.all (·.oneCell')=true)(t:Int)(o:db){u:Value}(hu:u.oneCell'=true):(i9 d1 d2 t o u).all (·.oneCell')=true:=by
 unfold i9;simp only[List.all_append,List.all_cons,List.all_nil,h1,aaV,zO hu,Bool.and_true,Bool.true_and];rfl
theorem vp{aaM w:World}{L1 L:List abN}(hb: ∀x,x∈L1->ah aaM x.g x.t x.cs.toArray)(h:aah aaM (bq none L1) w none L)(YF: ∀x,x∈L1->x∈L):Below aaM.heap.size aaM w:=
 ⟨h.Wu.os,h.Wu.tape,h.Wu.output,h.Wu.size,λb be=>by
   by_cases c: ∃y,y∈L1/\y.g=b
   ·obtain⟨y,hy,rfl⟩:=c
    exact(show w.heap[y.g]? =_ from h.bC y (YF y hy)).trans (show aaM.heap[y.g]? =_ from hb y hy).symm
   ·exact h.Wu.block b be ⟨λy hy e=>c ⟨y,hy,e⟩,λa e=>by cases e⟩⟩
theorem wQ{cs ds:List Value}(h:ds.length=cs.length):er cs 0 ds=ds:=by
 unfold er;rw[List.take_zero,au,ax,cl J,br]
section
variable{w0 w w':World}{S:Nat->Prop}{A:Option XS}{L L':List abN}
variable{P:Program}{o:Oper}{a a':Act}{K:Act->World->Prop}{Q:Exit->Act->World->Prop}{ops:Array Oper}{rest:List Oper}
section
variable(h:aah w0 S w A L){ds:List Value}{m:Nat}(YJ:ds.length=m)(h1:ds.all (·.oneCell')=true)
include h ds m YJ h1
theorem Hv(Z7: ∀w',aah w0 S w' A L'->wpList P ops Q rest a' w'){Yn:TypeId}{x y:Operand}{g:Nat}{v:Value}{t:TypeId}{cs:List Value}
 (dj:o.guard=none:=by exact rfl)(ZQ:o.op= .store Yn x y:=by exact rfl)(Wy:a.eval x= .pointer (some ⟨g,0,none⟩):=by exact rfl)(hy:dt a y=some v:=by exact rfl)(hv:v.cells=ds.toArray:=by exact rfl)
 (XJ:aco L g t cs ds L':=by exact cf)(XP:cs.length=m:=by first|rfl|assumption)(hi:(P.info? Yn).map (·.size)=some m:=by decide+kernel)
 (Xg:a.put o.dst undef=a':=by exact fa):wpList P ops Q (o::rest) a w:=
 hp h dj Yn x y ZQ g 0 v ds Wy hy hv (by rw[wQ (cs:=cs) (ds:=ds) J];exact XJ) J (by rw[YJ];exact hi) h1 λw' s=>by rw[Xg];exact Z7 w' s
theorem Tj(Z7: ∀w',aah w0 S w' A L'->K (a.put o.dst undef) w'){Yn:TypeId}{x y:Operand}{g:Nat}{v:Value}{t:TypeId}{cs:List Value}
 (ZQ:o.op= .store Yn x y:=by exact rfl)(Wy:a.eval x= .pointer (some ⟨g,0,none⟩):=by exact rfl)(hy:dt a y=some v:=by exact rfl)(hv:v.cells=ds.toArray:=by exact rfl)
 (XJ:aco L g t cs ds L':=by exact cf)(XP:cs.length=m:=by first|rfl|assumption)(hi:(P.info? Yn).map (·.size)=some m:=by decide+kernel):Oper.wp P o a w K Q:=
 ev h Yn x y ZQ g 0 v ds Wy hy hv (by rw[wQ (cs:=cs) (ds:=ds) J];exact XJ) J (by rw[YJ];exact hi) h1 Z7
end
end
theorem JS(w0:World)(B:WB)(p:afy)(F:b1)(n:Nat)(W:Wd)(O:Nat->List Zr)(VM:Nat->Option Nat)(h:df w0 B p F n W)(H:Inv p F n W O VM)(Q:vK p W)(gS: ∀b,afi B p.t.toNat b->b<w0.heap.size)
 (fc: ∀i,i<p.t.toNat->(W.XT i).calls.length<=65536)(cx:W.n<=60000)(Qj:lJ W)(Qk:rr p W)(v:abM)(s:h9)(abJ:Nat)(Yg:a7 w0 abJ v s)(ok:hV s)(ae1:s.p=p)(i:Nat)(hi:i<=65536)(t:Nat)(afq:iv W s.p.t.toNat s.cp i=t)(h7:(t:Int)<p.t)(gf:(W.XT t).ended=false)
 (bE:dx (bd p (W.XT t) W.ops.length).run)(Bh:(bd p (W.XT t) W.ops.length).run.n<=65536):
 Calls prog 15 #[.pointer (some ⟨B.aeh,0,none⟩),.agg (gy s.p v).toArray,.int .i64 i] w0 λe w'=> ∃(B':WB) (d1 d2:List Value) (o:db) (u:Value),e= .returned (.tuple #[.agg (i9 d1 d2 t o u).toArray,.bool true])/\
  gm w' (λb=>w0.heap.size<=b) p n W d1/\gm w' (λb=>w0.heap.size<=b) p n (bI p F n W t) d2/\cF w' (λb=>w0.heap.size<=b) u o.aC.said/\sh (bI p F n W t).ops t o/\
  df w' B' p F n (bI p F n W t)/\B'.aeh=B.aeh/\Z1 (aaJ B p.t.toNat) w0 w'/\(∀b,b<w0.heap.size->afi B' p.t.toNat b->afi B p.t.toNat b)/\∀b,b<w0.heap.size->¬B.Yi b->¬B'.Yi b:=by
 subst ae1;obtain⟨W',Nm⟩: ∃W',bI s.p F n W t=W':=⟨_,rfl⟩
 obtain⟨Q',o,mY,JT,Nn,Ql⟩:=Q.bI (F:=F) (n:=n) H h7 gf;obtain⟨O',dk,adu⟩:=H.bI h7 gf;have NX:=I (show∀w',Below w0.heap.size w0 w'->Calls prog 40 #[.pointer (some ⟨B.aeh,0,none⟩),.agg (gy s.p v).toArray,.int .i64 i] w' λe du=>e= .returned (.int .i64 t)/\Below w'.heap.size w' du from λw' hb=>by
  have h1:=B1 w' B s.p F n W (h.below hb) fc v s abJ (Yg.below hb) ok rfl i hi;rwa[afq]at h1)
 have Tk:=I (show∀w',Below w0.heap.size w0 w'->_ from λw' hb=>B6 w' B s.p F n W O VM (h.below hb) H);have ST:=I (show∀w' (z:Nat->Prop),Below w0.heap.size w0 w'->(∀b,b<w0.heap.size->B.Yi b->z b)->(∀b,w'.heap.size<=b->z b)->_ from λw' z hb bz c5=>zF w' {B with Yi:=z} s.p F n W O VM ((h.fr z bz).below hb) H Q t h7 gf bE Bh (fc t J) cx c5);have Xy:=I (show∀(w':World) (B':WB),df w' B' s.p F n (bI s.p F n W t)->_ from λw' B' hb=>D7 w' B' s.p F n (bI s.p F n W t) hb (by have:=Q'.len;have e:(bI s.p F n W t).n=W.n+1:=rfl;omega) (λo ZQ=>by have:=lJ.bI (F:=F) (n:=n) H Qk Qj h7 gf o ZQ;have e:(bI s.p F n W t).n=W.n+1:=rfl;omega) t o (by obtain⟨k,h1,aaV,ZV⟩:=mY;exact wO h1 aaV λj o' aeD=>ZV j o' aeD));have Tl:=I (show∀(w':World) (B':WB),df w' B' s.p F n (bI s.p F n W t)->_ from λw' B' hb=>B6 w' B' s.p F n (bI s.p F n W t) O' dk hb adu.inv);rw[Nm]at*;obtain⟨afa,v3⟩: ∃u,v.afa=u:=⟨_,rfl⟩
 simp only[gy]at NX⊢;rw[v3]at NX⊢;have Hf:=acr.one Yg.cF;rw[v3]at Hf;have t0:decide ((t:Int)<0)=false:=aN;have No:=I gS;have Qm:=I mY;have U:=aah.a0 w0;clear h H Q fc Qj Qk Yg ok afq gf bE Bh v3 mY JT Nn Ql adu Q' gS;go_enter func15,ntmps15;go_upto_region 1 with(first|(refine Ws U 32 ?_;clear U;intro gs w U Tm)|(refine VP U yf ?_;clear U;intro gt w U JU))
 obtain⟨ab2,Tn⟩: ∃l:List Value,l.length=124/\aah w0 (λ_=>True) w none [⟨gt,67,l⟩,⟨gs,32,[.int .i64 s.p.s,.int .i64 s.p.t,.int .i64 s.p.i,.int .i64 s.p.h,.slice (some ⟨v.aca,0,none⟩) 8 v.acR,.slice (some ⟨v.aff,0,none⟩) s.p.t.toNat v.VY,afa]⟩]:=⟨_,rfl,U⟩
 clear U;obtain⟨UO,U⟩:=Tn;go_upto_region 4 with(first|(go_at_call 40;refine a6 U (NX.out _ U.all) ?_;clear U;intro aaM U)|(refine aq ?_)|(refine aT ?_;clear U;intro X8 w U aay))
 go_wp2_with(refine Ww U ?_);refine Calls.mono (Tk.out _ U.all) ?_;rintro e aaM ⟨d1,rfl,yn,N⟩;have acy:=U.size;have aeh:=(U.b (g:=gt) cX).lt;have wc:=(U.b (g:=gs) kw).lt;replace U:=U.below N;have acX:=I yn.len;have Qn:=I yn.one;have Qo:=yn.mono (S':=λb=>w0.heap.size<=b/\b≠gt/\b≠gs) λb _ hb=>⟨J,J,J⟩
 have ir:=U;replace U:=ir.base;have Dy:=I (And.intro Qo (And.intro acy (And.intro aeh wc)));clear yn N Qo acy aeh wc;go_wp2_with(first|(refine VP U nz ?_;clear U;intro Vt w U dP)|(refine Hv U acX.out Qn.out ?_;clear U;intro w U));have Ub:=D ir.size dP;have Ys:=I (And.intro (U.b (g:=Vt) cX).lt (And.intro (U.b (g:=gt) kw).lt (U.b (g:=gs) r3).lt));have Tp:=(ir.back U).size;refine Calls.mono (ST.out _ (λb=>(b<w0.heap.size->B.Yi b)/\b≠Vt/\b≠gt/\b≠gs) (ir.back U).all (λb hb acA=>⟨λ_=>acA,by have:=ir.size;omega,J,J⟩) (λb hb=>⟨λh=>J,by have:=Ys.out.1;omega,by have:=Ys.out.2.1;omega,by have:=Ys.out.2.2;omega⟩)) ?_;rintro e WW ⟨abl,rfl,kj,fh,p6,jN,nc⟩;have fu:aah w0 (aaJ B s.p.t.toNat) WW none _:=((ir.back U).weak (S:=aaJ B s.p.t.toNat)).kept jN λb _ abi=>by
  have hb:=No.out b (Classical.not_not.1 abi);refine⟨λx Wy e=>?_,.inr abi,λa e=>by cases e⟩;rcases(ir.back U).fr x Wy with q|q
  ·omega
  ·exact q trivial
 have tq:gm WW (m0 w0.heap.size Vt gt gs) s.p n W d1:=by
  have h1:=(Dy.out.1.mono (S':=λb=>(w0.heap.size<=b/\b≠gt/\b≠gs)/\b≠Vt) λb hb YF=>⟨YF,J⟩).Wu (U.Wu) (λb YF=>Nl YF.1.2 rfl);exact(h1.Wu jN λb YF abi=>by have:=No.out b abi;omega).mono λb _ YF=>⟨YF.1.1,YF.2,YF.1.2.1,YF.1.2.2⟩
 have Bk:=I tq;have Tq:=I (show∀w',Below WW.heap.size WW w'->_ from λw' hb=>kj▸Xy.out w' abl (p6.below hb));have Tr:=I (show∀w',Below WW.heap.size WW w'->_ from λw' hb=>kj▸Tl.out w' abl (p6.below hb));have vj:=I (show∀b,afi abl s.p.t.toNat b->b<w0.heap.size\/b≠Vt/\b≠gt/\b≠gs from λb hm=>(Nat.lt_or_ge b w.heap.size).imp (λq=>No.out b (nc b q hm)) λq=>⟨by have:=Ys.out.1;omega,by have:=Ys.out.2.1;omega,by have:=Ys.out.2.2;omega⟩);have Ts:=I (And.intro p6 (And.intro kj (And.intro fh (And.intro jN nc))));have Tt:=I (ir.back U).all;replace U:=fu.base;clear tq p6 kj fh jN nc ir Tp;have Np:=I (fu.bC);go_wp2_with fail;refine Calls.mono (Tq.out _ (vp Np.out U aN)) ?_;rintro e w3 ⟨u,rfl,hu,N⟩;have abY:=acr.one hu;have aeN:=U.size;have adR:=I hu;have JV:=I N;have qX:=U.below N;have Tu:=I (And.intro aeN (And.intro (U.b (g:=Vt) cX).lt (And.intro (U.b (g:=gt) kw).lt (U.b (g:=gs) r3).lt)));clear hu N U aeN;have U:=qX.base;go_upto_region 7 with(first|(refine VP U BI ?_;clear U;intro Y6 w U qS)|(refine Hv U (ds:=dN o u) (m:=14) rfl (zO abY) ?_;clear U;intro w U))
 replace U:=U.drew;have D0:=acX.out;have Tv:=I qX.bC;refine wp_region_held_drew (S:=c0 [⟨Y6,46,dN o u⟩,⟨Vt,65,d1⟩,⟨gs,32,[.int .i64 s.p.s,.int .i64 s.p.t,.int .i64 s.p.i,.int .i64 s.p.h,.slice (some ⟨v.aca,0,none⟩) 8 v.acR,.slice (some ⟨v.aff,0,none⟩) s.p.t.toNat v.VY,afa]⟩]) aM (U.bG aN) (λX=>?_);refine eE 0 rfl (fo (by rfl) 65 _ rfl Vt 0 54 rfl (c0.at_ ag) d1 (by rw[List.drop_zero,cm J]) underlying65 rfl (by rw[D0];kernel_rfl)) ?_;refine az [[1,2,3,5]] ?_;refine eE 6 rfl (fo (by rfl) 46 _ rfl Y6 0 14 rfl (c0.at_ ag) (dN o u) rfl underlying46 rfl aM) ?_;refine az [[7,8,9,11]] ?_;refine Yt (λK Z7=>?_);go_simp
 (go_at_call 41;have Hw:=JV.out.trans ((vp Tv.out U aN).mono JV.out.size);refine Calls.mono (Tr.out _ Hw) ?_;rintro e acJ ⟨d2,rfl,vc,N⟩;have Yy:=I (show∀b,w.heap.size<=b->bq none _ b from λb hb=>⟨U.nx hb,λa e=>by cases e⟩);have Z4:=I (D fu.size Hw.size);have afE:=I vc.len;have Tw:=I vc.one;have Tx:=I vc;have Qp:=U.below N;have UP:=I (Hw.trans (N.mono Hw.size));clear vc N Hw U;have U:=Qp.base)
 go_wp2_with fail;refine WE Z7 ?_;clear Z7 K;intro X;refine Xh 10 (v:=.agg (i9 d1 d2 t o u).toArray) ?_ (hy:=λw _=>?hb)
 case hb=>
  show(do let x<-Instr.build 67 _;pure (Next.value x):Sem Next).run _ _=_;rw[Sem.run_bind];simp only[b8,aS,ck];exact dz (λr:Result Value=>r.andThen λa w'=>Sem.run prog (pure (Next.value a)) w') (zN acX.out afE.out t o u w)
 refine az [[12,13,14,15]] ?_;refine Yt (λK Z7=>?_);refine Tj U (ds:=i9 d1 d2 t o u) (m:=124) (qW acX.out afE.out t o u) (vo Qn.out Tw.out t o abY) ?_;clear U;intro w U;refine WE Z7 ?_;clear Z7 K;intro X;refine az [[17]] ?_;go_wp2_with fail;refine aZ results15 rfl rfl ⟨_,U.b ag,rfl⟩ underlying67 rfl (by rw[List.size_toArray,qW acX.out afE.out];kernel_rfl) ?_;obtain⟨p6,kj,fh,jN,nc⟩:=Ts.out;have Ye:=Qp.back U;have X7:=qX.back Ye;have UQ:=fu.size;have abE:=Dy.out;have adc:=Tu.out;have aaS:=Ys.out;have tc: ∀b,abl.Yi b->(b<w0.heap.size->B.Yi b)/\b≠Vt/\b≠gt/\b≠gs:=λb hb=>by rw[fh]at hb;exact hb
 refine⟨{abl with Yi:=λb=>b<w0.heap.size->B.Yi b},d1,d2,o,u,rfl,(Bk.out.Wu X7.Wu λb hb=>gA hb rfl).mono λb _ hb=>hb.1,(Tx.out.Wu U.Wu Yy.out).mono λb _ hb=>D Z4.out hb,?_,Qm.out,(p6.keep X7.Wu ?_ ?_).fr _ (λb _ hb=>(tc b hb).1),kj,(fu.back X7).Wu,λb hb hm=>nc b (aj hb Tt.out.size) hm,λb hb abi h=>abi (h hb)⟩
 ·refine((adR.out.mono (S':=m0 w0.heap.size Vt gt gs) λb _ hb=>⟨J,J,J,J⟩).Wu (Ye.Wu.mono λb _ hb=>gA hb rfl)).mono λb _ hb=>hb.1
 ·intro b hb hm;refine⟨λx Wy e=>?_,λa e=>by cases e⟩;simp only[ad,E,av]at Wy;have afY:=vj.out b hm;rcases Wy with rfl|rfl|rfl<;>(simp only at e;omega)
 ·intro b hb;obtain⟨-,XX,adH,Vy⟩:=tc b hb;refine⟨λx Wy e=>?_,λa e=>by cases e⟩;simp only[ad,E,av]at Wy;rcases Wy with rfl|rfl|rfl
  ·exact XX e.symm
  ·exact adH e.symm
  ·exact Vy e.symm
end
section
open Go.RowKit Tryz
theorem v4{P:Program}{fn:Func}{R:Ending->World->Prop}{a:Act}{w:World}{p u:Tmp}{Yn:TypeId}{g:Nat}{t:TypeId}{cs:Array Value}{fr:Nat×Nat}{d:TypeDesc}
 (h:fn.results= #[.tmp u,.cell p Yn])(Ex:a.defers= [])(aeJ:a.tmps.getD p undef= .pointer (some ⟨g,0,none⟩))(afj: ∃cs',w.heap[g]? =some (.cells cs' t fr)/\cs'=cs)
 (hu:P.underlying Yn=some d)(hd:(match d with|.struct _|.array _ _=>true|_=>false)=true)(hi:(P.info? Yn).map (·.size)=some cs.size)
 (adS:R (.returned (.tuple #[a.tmps.getD u undef,.agg cs])) w):bodyPost P fn R .ret a w:=by
 obtain⟨cs',afj,rfl⟩:=afj;refine bodyPost_ret ?_ Ex adS;have TE:a.tmps[p]?.getD undef= .pointer (some ⟨g,0,none⟩):=by simpa using aeJ
 simp[results,h,TE,asAddr,run_loadVar_row w g t Yn cs' fr d afj hu hd hi,Sem.run_bind,Result.andThen]
theorem Eg{p:afy}{v:abM}(h:v.afa.oneCell'=true):(gy p v).all (·.oneCell')=true:=by unfold gy;simp[h];repeat' constructor
def e5(p:afy):Nat:=((64*p.s+p.i+p.h)/8).toNat
theorem rU{p:afy}(h:a9 p):8*(e5 p:Int)=64*p.s+p.i+p.h:=by have:=h.s;have:=h.i;have:=h.h;unfold e5;omega
theorem sN{f:Nat->Int}(acA:e0 f)(n:Nat):hV (j9 f n):=su (λi=>by unfold fe;split;exact acA i;omega) _
section
variable{w:World}{B:WB}{p:afy}{F:b1}{n:Nat}{W:Wd}(h:df w B p F n W)
include w B p F n W h
theorem df.QC(qR:B.VS<w.heap.size)(b:Nat)(hm:afi B p.t.toNat b):b<w.heap.size:=by
 rcases hm with rfl|rfl|rfl|rfl|rfl|rfl|⟨i,hi,rfl|rfl⟩
 ·exact h.wd.lt
 ·exact h.VB.c9.1
 ·exact h.VB.c9.2.1
 ·exact h.gr.lt.1
 ·exact h.gr.lt.2
 ·exact qR
 ·exact(h.XT i hi).bC.lt
 ·exact(h.XT i hi).reg.lt
theorem df.QD(bo:W.ops≠ [])(b:Nat)(hm:afi B p.t.toNat b):b<w.heap.size:=by
 refine h.QC ?_ b hm;obtain⟨acB,h1,aaV,ZV⟩:=h.op.ex;rcases ZV with⟨_,rfl⟩|⟨cap,rest,_,hb,_⟩
 ·exact absurd h1.symm bo
 ·exact hb.lt
theorem df.QE(g k:Nat)(afj:g<w.heap.size)(ae3:g<k)(gS: ∀b,afi B p.t.toNat b\/B.Yi b->k<=b): ∃B':WB,B'.aeh=B.aeh/\B'.Yi=B.Yi/\df w B' p F n W/\∀b,afi B' p.t.toNat b->(b=g\/k<=b)/\b<w.heap.size:=by
 obtain⟨acB,h1,aaV,ZV⟩:=id h.op.ex;rcases ZV with⟨aal,abF⟩|⟨cap,rest,_,hb,_⟩
 ·have Z5: ∀b,afi B p.t.toNat b->g≠b:=λb hb e=>by have:=gS b (.inl hb);omega
  have mu: ∀b,afi {B with VS:=g} p.t.toNat b->b=g\/afi B p.t.toNat b:=λb hm=>by
   rcases hm with q|q|q|q|q|q|q
   ·exact .inr (.inl q)
   ·exact .inr (.inr (.inl q))
   ·exact .inr (.inr (.inr (.inl q)))
   ·exact .inr (.inr (.inr (.inr (.inl q))))
   ·exact .inr (.inr (.inr (.inr (.inr (.inl q)))))
   ·exact .inl q
   ·exact .inr (.inr (.inr (.inr (.inr (.inr (.inr q))))))
  have adX: ∀b,b<w.heap.size->aek B p.t.toNat b->aek {B with VS:=g} p.t.toNat b:=λb _ YF=>⟨λhm=>by
   rcases mu b hm with q|q
   ·have:=gS b (.inr YF.2);omega
   ·exact YF.1 q,YF.2⟩
  refine⟨{B with VS:=g},rfl,rfl,⟨h.wd,h.VB,h.gr,h.YV.mono adX,h.Wl.mono adX,λi hi=>(h.XT i hi).mono adX,⟨acB,h1,λq VX=>(aaV q VX).mono adX,.inl ⟨aal,abF⟩⟩,h.CR,h.CS,⟨h.AO.1,h.AO.2.1,(Z5 _ (.inr (.inl rfl))).symm,h.AO.2.2.2⟩,⟨Z5 _ (.inl rfl),Z5 _ (.inr (.inr (.inl rfl))),Z5 _ (.inr (.inr (.inr (.inl rfl)))),Z5 _ (.inr (.inr (.inr (.inr (.inl rfl))))),λi hi=>⟨Z5 _ (.inr (.inr (.inr (.inr (.inr (.inr ⟨i,hi,.inl rfl⟩)))))),Z5 _ (.inr (.inr (.inr (.inr (.inr (.inr ⟨i,hi,.inr rfl⟩))))))⟩⟩⟩,λb hm=>?_⟩;rcases hm with rfl|rfl|rfl|rfl|rfl|rfl|⟨i,hi,rfl|rfl⟩
  ·exact⟨.inr (gS _ (.inl (.inl rfl))),h.wd.lt⟩
  ·exact⟨.inr (gS _ (.inl (.inr (.inl rfl)))),h.VB.c9.1⟩
  ·exact⟨.inr (gS _ (.inl (.inr (.inr (.inl rfl))))),h.VB.c9.2.1⟩
  ·exact⟨.inr (gS _ (.inl (.inr (.inr (.inr (.inl rfl)))))),h.gr.lt.1⟩
  ·exact⟨.inr (gS _ (.inl (.inr (.inr (.inr (.inr (.inl rfl))))))),h.gr.lt.2⟩
  ·exact⟨.inl rfl,afj⟩
  ·exact⟨.inr (gS _ (.inl (.inr (.inr (.inr (.inr (.inr (.inr ⟨i,hi,.inl rfl⟩)))))))),(h.XT i hi).bC.lt⟩
  ·exact⟨.inr (gS _ (.inl (.inr (.inr (.inr (.inr (.inr (.inr ⟨i,hi,.inr rfl⟩)))))))),(h.XT i hi).reg.lt⟩
 ·exact⟨B,rfl,rfl,h,λb hm=>⟨.inr (gS b (.inl hm)),h.QC hb.lt b hm⟩⟩
end
theorem J5(w0:World)(ado:Nat->Prop)(aak:Value)(n:Nat)(f:Nat->Int)(hb:acr w0 ado aak n 1 λi=> [.int .u8 (f i)])(acA:e0 f)(abi:n<=maxLen)(s:h9)(YF:j9 f (min n 400)=s):
 Calls prog 13 #[aak] w0 λe w'=> ∃(B:WB) (v:abM),e= .returned (.tuple #[.pointer (some ⟨B.aeh,0,none⟩),.agg (gy s.p v).toArray])/\df w' B s.p (bX s) (e5 s.p) (l2 s.p s.bj)/\(∃K,a7 w' K v s/\K<=w'.heap.size/\w0.heap.size<=K/\∀b,afi B s.p.t.toNat b->w0.heap.size<=b/\b<K)/\Below w0.heap.size w0 w':=by
 have ok:=sN acA (min n 400);rw[YF]at ok;have U:=aah.a0 w0;have adW:=I (λw' kr=>Nb w' ado aak n _ (hb.below (w':=w') kr) abi);have acH:=I (show∀w' v',acr w' ado v' (min n 400) 1 (λi=> [.int .u8 (f i)])->_ from λw' v' h'=>YF▸HE w' ado v' (min n 400) f h' acA (Nat.min_le_right _ _));have WU:=I (show∀w' v',acr w' ado v' (min n 400) 1 (λi=> [.int .u8 (f i)])->_ from λw' v' h'=>YF▸NA w' ado v' (min n 400) f h' acA (Nat.min_le_right _ _));have Zu:=I (show∀w' b v',a7 w' b v' s->_ from λw' b v' h'=>wB w' b (e5 s.p) v' s h' ok (rU ok.p));clear hb acA abi YF ok;go_enter func13,ntmps13;go_upto_region 1 with(first|(refine VP U jj ?_;clear U;intro fk w U lb)|(refine ac2 U ?_;clear U;intro w U))
 have aaH:=U;go_wp2_with fail;refine Calls.mono (adW.out _ U.all) ?_;rintro e aaM ⟨Zv,rfl,bD,rfl⟩;go_wp2_with fail;refine Calls.mono (acH.out _ _ bD) ?_;rintro e WW ⟨WP,rfl,lg,be⟩;have ac0:=I (U.b (g:=fk) cX).lt;have afX:=I (And.intro U.size be.size);replace U:=U.below be;clear be bD;go_wp2_with fail;refine Calls.mono (Zu.out _ _ _ lg) ?_;rintro e w3 ⟨B,rfl,ae9,fB,gS⟩;have c5:=U.size;have QF:=fB.size;have Wm:=I lg.ge.1;replace U:=U.below fB;have ij:=U.size;obtain⟨abl,kj,fh,p6,rV⟩:=ae9.QE WP.aca WW.heap.size (aj lg.afR.lt QF) lg.afR.lt gS;rw[<-kj];have YI:=I (And.intro p6 (And.intro rV (λb hb=>gS b (.inr (fh▸hb)))));have qX:=U;have Z0:=I (And.intro (U.b (g:=fk) cX).lt ij);have Z3:=I c5;clear ae9 fB gS lg c5 ij aaH QF p6 rV fh kj;go_wp2_with fail;refine Calls.mono (adW.out _ U.all) ?_;rintro e acJ ⟨Zv,rfl,bD,rfl⟩;go_wp2_with fail;refine Calls.mono (WU.out _ _ bD) ?_;rintro e Wo ⟨Yv,rfl,tj,j0⟩;have NB:=U.below j0;have QG:=I j0;have Mh:=I tj;have one:=Eg (p:=s.p) (acr.one tj.cF);clear j0 tj bD U;have U:=NB.base;go_wp2_with(refine Hv U (ds:=gy s.p Yv) (m:=7) rfl one ?_;clear U;intro w U);refine v4 results13 rfl rfl ⟨_,U.b ag,rfl⟩ underlying32 rfl (by show _=some 7;kernel_rfl) ?_;have aen:=NB.back U;obtain⟨p6,rV,QH⟩:=YI.out;have acM:=ac0.out;have aca:=Wm.out;have Vt:=afX.out;have hY: ∀b,WW.heap.size<=b->b≠fk:=λb hb e=>J
 refine⟨abl,Yv,rfl,(p6.below QG.out).keep U.Wu (λb _ hm=>?_) (λb hb=>?_),⟨_,Mh.out.move U.Wu NB.bC aN,D QG.out.size U.size,by have:=Z3.out;have:=Z0.out;omega,λb hm=>⟨?_,(rV b hm).2⟩⟩,aen.all⟩
 ·refine⟨λx Wy e=>?_,λa e=>by cases e⟩;simp only[ad,E,av]at Wy;subst Wy;simp only at e;rcases(rV b hm).1 with q|q
  ·omega
  ·exact hY b q e.symm
 ·refine⟨λx Wy e=>?_,λa e=>by cases e⟩;simp only[ad,E,av]at Wy;subst Wy;exact hY b (QH b hb) e.symm
 ·rcases(rV b hm).1 with q|q<;>omega
end
section
open Go.RowKit Tryz
theorem a7.TF{w w':World}{K:Nat}{v:abM}{s:h9}{T:Nat->Prop}(h:a7 w K v s)(k:Z1 T w w')(aen: ∀b,K<=b->b<w.heap.size->T b):a7 w' K v s:=
 ⟨(k.block _ h.afR.lt (aen _ h.ge.1 h.afR.lt)).trans h.afR,(k.block _ h.aft.lt (aen _ h.ge.2 h.aft.lt)).trans h.aft,h.acR,h.VY,λi hi=>eU (h.fr i hi) k λb be=>aen b ((h.fr i hi).lt b be).1 ((h.fr i hi).lt b be).2,λi hi=>eU (h.pr i hi) k λb be=>aen b ((h.pr i hi).lt b be).1 ((h.pr i hi).lt b be).2,eU h.pi k λb be=>aen b (h.pi.lt b be).1 (h.pi.lt b be).2,h.fd,h.aa8,h.ge⟩
structure aeS(w0 WA w:World)(K:Nat)(B:WB)(v:abM)(s:h9)(W:Wd)(O:Nat->List Zr)(VM:Nat->Option Nat)(k:Nat):Prop where
 wd:df w B s.p (bX s) (e5 s.p) W
 inv:Inv s.p (bX s) (e5 s.p) W O VM
 op:vK s.p W
 bE:rr s.p W
 Wh:lJ W
 n:W.n=k
 ZS: ∀i,(W.XT i).calls.length<=65536
 mu: ∀b,afi B s.p.t.toNat b->w0.heap.size<=b/\b<w.heap.size
 abP: ∀b,K<=b->b<WA.heap.size->¬afi B s.p.t.toNat b
 sc:a7 WA K v s
 Wu:Z1 (λb=>K<=b) WA w
 Xf: ∃r o d,vL s.p (bX s) W O r o d/\o<=k
variable{w0 WA w w':World}{K k:Nat}{B:WB}{v:abM}{s:h9}{W:Wd}{O:Nat->List Zr}{VM:Nat->Option Nat}
theorem aeS.below(h:aeS w0 WA w K B v s W O VM k)(hb:Below w.heap.size w w'):aeS w0 WA w' K B v s W O VM k:=
 ⟨h.wd.below hb,h.inv,h.op,h.bE,h.Wh,h.n,h.ZS,λb hm=>⟨(h.mu b hm).1,aj (h.mu b hm).2 hb.size⟩,h.abP,h.sc,h.Wu.trans (Z1.cg hb),h.Xf⟩
theorem aeS.CY(h:aeS w0 WA w K B v s W O VM k):a7 w K v s:=h.sc.TF h.Wu λb hb _=>hb
theorem rW{p:afy}{F:b1}{n:Nat}{t i:Nat}:((bI p F n W t).XT i).calls.length<=(W.XT i).calls.length:=by
 by_cases e:i=t
 ·subst e;rw[eZ];unfold eY;split
  ·rw[es];exact jG _ _ _
  ·exact jG _ _ _
 ·rw[g2 e];exact ai _
theorem HK{f:Nat->Nat}{m i:Nat}(h:i<m):f i<=gE f m:=by
 induction m with
 |zero=>omega
 |succ m aes=>
  rw[gE];by_cases e:i=m
  ·subst e;omega
  ·have:=aes J;omega
theorem aeS.step(h:aeS w0 WA w K B v s W O VM k)(ok:hV s)(ae3:k<240)(t:Nat)(afq:iv W s.p.t.toNat s.cp k=t)(hS:K<=WA.heap.size)(Z7:w0.heap.size<=K)(aeN:WA.heap.size<=w.heap.size):
 (t:Int)<s.p.t/\(W.XT t).ended=false/\Calls prog 15 #[.pointer (some ⟨B.aeh,0,none⟩),.agg (gy s.p v).toArray,.int .i64 k] w λe w'=> ∃(B':WB) (d1 d2:List Value) (o:db) (u:Value) (O':Nat->List Zr) (dk:Nat->Option Nat),e= .returned (.tuple #[.agg (i9 d1 d2 t o u).toArray,.bool true])/\
   gm w' (λb=>w.heap.size<=b) s.p (e5 s.p) W d1/\gm w' (λb=>w.heap.size<=b) s.p (e5 s.p) (bI s.p (bX s) (e5 s.p) W t) d2/\cF w' (λb=>w.heap.size<=b) u o.aC.said/\sh (bI s.p (bX s) (e5 s.p) W t).ops t o/\o.call=(bh s.p (bX s) (e5 s.p) W t).call/\
   ((bh s.p (bX s) (e5 s.p) W t).fin=true->o.e2=W.n/\o.pt=W.n/\o.aC=(bh s.p (bX s) (e5 s.p) W t).aC)/\((bh s.p (bX s) (e5 s.p) W t).fin=false->o.e2= -1/\o.pt= -1)/\
   sd s.p (bX s) (e5 s.p) (hK s.p W t) (bI s.p (bX s) (e5 s.p) W t) O O' VM dk t (bh s.p (bX s) (e5 s.p) W t)/\
   aeS w0 WA w' K B' v s (bI s.p (bX s) (e5 s.p) W t) O' dk (k+1)/\B'.aeh=B.aeh/\Z1 (λb=>b<w0.heap.size\/K<=b/\b<WA.heap.size) w w':=by
 have YJ:(t:Int)∈ec W s.p.t.toNat:=by
  unfold iv at afq;split at afq
  ·omega
  ·rename_i abi;rw[<-afq];refine pU ?_;have eN:(0:Int)<(ec W s.p.t.toNat).length:=J;have h1:=b5 (vg s.cp k) (Int.ne_of_gt eN);have aaV:=cA (vg s.cp k) eN;omega
 obtain⟨h1,aaV,ZV⟩:=qU YJ;rw[bL]at ZV;have h7:(t:Int)<s.p.t:=by have:=h.inv.pl.t;omega
 refine⟨h7,ZV,?_⟩;obtain⟨Q',Wk,NC,J6,ND,QI⟩:=h.op.bI (F:=bX s) (n:=e5 s.p) h.inv h7 ZV;obtain⟨O',dk,adu⟩:=h.inv.bI h7 ZV;have S:=h.inv.h4 h7 ZV;have aew:=S.inv.acg t h7 S.busy;rw[em]at aew;have bE:=nP (p:=s.p) (m:=W.ops.length) (h.bE t h7);have TG:dx (bd s.p (W.XT t) W.ops.length).run:=⟨by
  rw[aew.chain];have:=(S.inv.aaY t h7).len;rw[em]at this;exact this,by have:=h.n;omega,by have:=h.n;omega⟩
 obtain⟨r,acP,d,VG,ek⟩:=h.Xf;have Bh:(bd s.p (W.XT t) W.ops.length).run.n<=65536:=by
  have afY:=HK (f:=λi=>runN (W.XT i)) (m:=s.p.t.toNat) (i:=t) J;have XX:=VG.le;have adH:=VG.pos;have Vy:runN (W.XT t)<=240:=J;clear afY XX adH;unfold runN at Vy;unfold bd;cases hb:(W.XT t).busy with
  |true=>rw[Z hb]at Vy;rw[Z rfl];omega
  |false=>
   rw[Y aN];cases XP:(W.XT t).calls with
   |nil=>simp[eD.ended,hb,XP]at ZV
   |cons c l=>show(begun s.p (W.XT t).regs (W.XT t).aD c).n<=65536;unfold begun;simp
 refine(JS w B s.p (bX s) (e5 s.p) W O VM h.wd h.inv h.op (λb hb=>(h.mu b hb).2) (λi _=>h.ZS i) (by have:=h.n;omega) h.Wh h.bE v s K h.CY ok rfl k J t afq h7 ZV TG Bh).mono ?_;rintro e w' ⟨B',d1,d2,o,u,V1,HL,fx,hu,mY,se,mb,TH,J4,-⟩;have adt:o=Wk:=by
  obtain⟨afQ,Vt,Y6,ad2⟩:=mY;obtain⟨adP,adX,acN,aeb⟩:=NC;rcases Nat.lt_trichotomy afQ adP with q|q|q
  ·exact absurd acN (ad2 adP Wk q adX)
  ·subst q;rw[Vt]at adX;injection adX
  ·exact absurd Y6 (aeb afQ o q Vt)
 subst adt;have bo:(bI s.p (bX s) (e5 s.p) W t).ops≠ []:=by
  obtain⟨afQ,Vt,_⟩:=mY;intro e;rw[e]at Vt;simp at Vt
 have QJ: ∀b,afi B' s.p.t.toNat b->b<w.heap.size->afi B s.p.t.toNat b:=λb hm hb=>J4 b hb hm
 have acj:Z1 (λb=>b<w0.heap.size\/K<=b/\b<WA.heap.size) w w':=TH.mono λb hb VX hm=>by
  rcases VX with q|⟨q1,Xt⟩
  ·have:=(h.mu b hm).1;omega
  ·exact h.abP b q1 Xt hm
 refine⟨B',d1,d2,o,u,O',dk,V1,HL,fx,hu,mY,J6,ND,QI,adu,⟨se,adu.inv,Q',h.bE.bI,lJ.bI h.inv h.bE h.Wh h7 ZV,?_,λi=>D rW (h.ZS i),λb hm=>⟨?_,se.QD bo b hm⟩,λb q1 Xt hm=>?_,h.sc,?_,?_⟩,mb,acj⟩
 ·show W.n+1=k+1;rw[h.n]
 ·rcases Nat.lt_or_ge b w.heap.size with q|q
  ·exact(h.mu b (QJ b hm q)).1
  ·omega
 ·exact h.abP b q1 Xt (QJ b hm J)
 ·exact⟨acj.os.trans h.Wu.os,acj.tape.trans h.Wu.tape,acj.output.trans h.Wu.output,D h.Wu.size acj.size,λb hb VX=>(acj.block b J (.inr ⟨VX,hb⟩)).trans (h.Wu.block b hb VX)⟩
 ·have XP:=VG.bI h.inv h7 ZV adu;refine⟨_,_,_,XP,?_⟩;have:ez (bX s) (bh s.p (bX s) (e5 s.p) W t)<=1:=by unfold ez;split<;>omega
  omega
end
section
open Go.RowKit
theorem zT{s:h9}(ok:hV s):tN (bX s):=by
 refine⟨by rw[gd];exact ai _,λl YJ=>?_⟩;obtain⟨i,hi⟩:=bZ YJ;obtain⟨_,rfl⟩:=kT hi;refine⟨(ok.f i).1,λo ZQ=>?_⟩;have h:=(ok.f i).2 o ZQ;have h1:=h.op;have aaV:=h.a;have ZV:=h.b;exact⟨h1,J,J⟩
theorem xP{s:h9}(ok:hV s): ∀l,l∈bX s->l.length<=8/\∀o,o∈l->lv o:=λl YJ=>by
 obtain⟨i,hi⟩:=bZ YJ;obtain⟨_,rfl⟩:=kT hi;exact ok.f i
end
end Go.Proofs.YtcimojgkeoecfaaGreat
