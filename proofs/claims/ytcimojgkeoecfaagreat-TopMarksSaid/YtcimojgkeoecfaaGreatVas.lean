import Derived.Test.YtcimojgkeoecfaaGreatVar
set_option linter.all false
set_option maxHeartbeats 16000000
set_option maxRecDepth 100000
namespace Go.Proofs.YtcimojgkeoecfaaGreat
section
theorem nN{G:Prop}(h:G:=by
 have fZ:=S.inv.ht YF ZQ;have Is:=S.inv.eb YF fZ.1;exact⟨Z2 _ (by omega),Z2 _ (by omega)⟩):G:=h
abbrev ahead(x y:Ext):Prop:=x.a+x.z<=y.a
theorem sR{l l':List Ext}{m a:Int}(h:hU l m=some (a,l'))(g:l.Pairwise ahead)(j: ∀y,y∈l->0<y.z)(hm:0<m):
 ∃x,x∈l/\a=x.a/\m<=x.z/\l'.Pairwise ahead/\∀y,y∈l'->(y∈l/\(y.a+y.z<=a\/a+m<=y.a))\/(y.a=a+m/\y.z=x.z-m/\0<y.z):=by
 induction l generalizing l' with
 |nil=>cases h
 |cons x l k=>
  rw[b3]at g;unfold hU at h;by_cases c:m<=x.z
  ·rw[Z c]at h;injection h with h
   injection h with h1 d
   refine⟨x,aN,h1.symm,c,?_,?_⟩
   ·rw[<-d];by_cases f:x.z=m
    ·rw[Z f];exact g.2
    ·rw[Y f,b3];refine⟨fun y hy=>?_,g.2⟩;have:=g.1 y hy;show x.a+m+(x.z-m)<=y.a;unfold ahead at this;omega
   ·intro y hy;rw[<-d]at hy;have after: ∀y,y∈l->y∈x::l/\(y.a+y.z<=a\/a+m<=y.a):=fun y hy=>by
     have:=g.1 y hy;unfold ahead at this;exact⟨by simp[hy],.inr J⟩
    by_cases f:x.z=m
    ·rw[Z f]at hy;exact .inl (after y hy)
    ·rw[Y f]at hy;rcases List.mem_cons.1 hy with rfl|hy
     ·right;exact⟨by show x.a+m=_;omega,rfl,by show 0<x.z-m;omega⟩
     ·exact .inl (after y hy)
  ·rw[Y c]at h;cases e:hU l m with
   |none=>rw[e]at h;cases h
   |some r=>
    obtain⟨b,r⟩:=r;rw[e]at h;injection h with h
    injection h with h1 d
    obtain rfl:b=a:=h1;obtain⟨y,o,v,p,s,n⟩:=k e g.2 fun y hy=>j y (by simp[hy]);have q:=g.1 y o;unfold ahead at q;refine⟨y,by simp[o],v,p,?_,?_⟩
    ·rw[<-d,b3];refine⟨fun z i=>?_,s⟩;unfold ahead;rcases n z i with⟨h,_⟩|⟨h,_,_⟩
     ·exact g.1 z h
     ·omega
    ·intro z i;rw[<-d]at i;rcases List.mem_cons.1 i with t|i
     ·rw[t];exact .inl ⟨aN,.inl J⟩
     ·rcases n z i with⟨h,u⟩|h
      ·exact .inl ⟨by simp[h],u⟩
      ·exact .inr h
theorem yy{l:List Ext}{x y:Ext}(h:y∈q6 l x):y=x\/y∈l:=by
 induction l with
 |nil=>exact .inl (by simpa [q6]using h)
 |cons z l a=>
  unfold q6 at h;split at h
  ·rcases List.mem_cons.1 h with h|h
   ·exact .inl h
   ·exact .inr h
  ·rcases List.mem_cons.1 h with h|h
   ·exact .inr (by simp[h])
   ·rcases a h with h|h
    ·exact .inl h
    ·exact .inr (by simp[h])
theorem ad4{l:List Ext}{x:Ext}(b:l.Pairwise ahead)(d: ∀y,y∈l->0<y.z)(h:0<x.z)(hd: ∀y,y∈l->y.a+y.z<=x.a\/x.a+x.z<=y.a):(q6 l x).Pairwise ahead:=by
 induction l with
 |nil=>simp[q6]
 |cons z l e=>
  have f:=b;rw[b3]at b;unfold q6;have h1:=hd z aN;have g:=d z aN;split
  ·next c=>
   rw[b3];refine⟨fun y hy=>?_,f⟩;unfold ahead;rcases List.mem_cons.1 hy with rfl|hy
   ·omega
   ·have:=b.1 y hy;unfold ahead at this;omega
  ·next c=>
   rw[b3];refine⟨fun y hy=>?_,e b.2 (fun y hy=>d y (by simp[hy])) (fun y hy=>hd y (by simp[hy]))⟩;unfold ahead;rcases yy hy with rfl|hy
   ·omega
   ·exact b.1 y hy
theorem CI(P:Ext->Prop)(i: ∀x y:Ext,P x->P y->x.a+x.z=y.a->P ⟨x.a,x.z+y.z⟩)(l:List Ext): ∀x,P x->(∀y,y∈l->P y)->∀z,z∈lY x l->P z:=by
 induction l with
 |nil=>
  intro x f _ z b;have e:z=x:=by simpa [lY]using b
  rw[e];exact f
 |cons y l d=>
  intro x f g z b;unfold lY at b;split at b
  ·next c=>exact d _ (i x y f (g y aN) c) (fun y hy=>g y (by simp[hy])) z b
  ·rcases List.mem_cons.1 b with h|h
   ·rw[h];exact f
   ·exact d y (g y aN) (fun y hy=>g y (by simp[hy])) z h
theorem acb(l:List Ext): ∀x,(x::l).Pairwise ahead->0<x.z->(∀y,y∈l->0<y.z)->(lY x l).Pairwise ahead/\∀z,z∈lY x l->x.a<=z.a:=by
 induction l with
 |nil=>
  intro x _ _ _;refine⟨by simp[lY],fun z b=>?_⟩;have e:z=x:=by simpa [lY]using b
  rw[e];exact Int.le_refl _
 |cons y l g=>
  intro x i k b;rw[b3]at i;have h1:=i.1 y aN;have j:=b y aN;unfold ahead at h1;unfold lY;split
  ·next c=>
   refine g ⟨x.a,x.z+y.z⟩ ?_ (by show 0<x.z+y.z;omega) (fun y hy=>b y (by simp[hy]));rw[b3];have d:=List.pairwise_cons.1 i.2;refine⟨fun z f=>?_,d.2⟩;have:=d.1 z f;unfold ahead at*;show x.a+(x.z+y.z)<=z.a;omega
  ·have d:=g y i.2 j (fun y hy=>b y (by simp[hy]));refine⟨?_,?_⟩
   ·rw[b3];refine⟨fun z f=>?_,d.1⟩;have:=d.2 z f;unfold ahead;omega
   ·intro z f;rcases List.mem_cons.1 f with h|h
    ·rw[h];exact Int.le_refl _
    ·have m:=d.2 z h;omega
theorem Fa{l:List Ext}{a z:Int}(P:Ext->Prop)(g: ∀x y:Ext,P x->P y->x.a+x.z=y.a->P ⟨x.a,x.z+y.z⟩)(i:l.Pairwise ahead)(f: ∀y,y∈l->P y)(c: ∀y,P y->0<y.z)(d:P ⟨a,z⟩)(hd: ∀y,y∈l->y.a+y.z<=a\/a+z<=y.a):
 (give l a z).Pairwise ahead/\∀y,y∈give l a z->P y:=by
 have h1:=ad4 (x:=⟨a,z⟩) i (fun y hy=>c y (f y hy)) (c _ d) hd;have b: ∀y,y∈q6 l ⟨a,z⟩->P y:=by
  intro y hy;rcases yy hy with h|h
  ·rw[h];exact d
  ·exact f y h
 unfold give;split
 ·exact⟨List.Pairwise.nil,fun y hy=>by cases hy⟩
 ·next x l' e=>
  rw[e]at h1 b;exact⟨(acb l' x h1 (c x (b x aN)) (fun y hy=>c y (b y (by simp[hy])))).1,CI P g l' x (b x aN) (fun y hy=>b y (by simp[hy]))⟩
theorem abE{V:Nat->Int}{n s:Nat}(h:fv V n=some s):s<n/\(Wi V s).st=0:=by
 unfold fv at h;have h1:=List.find?_some h;have a:=List.mem_of_find?_eq_some h;exact⟨List.mem_range.1 a,by simpa using h1⟩
section
variable{p:PO}{F:b1}{n:Nat}{W W':Wd}{O:Nat->List Zr}{v:Nat->Option Nat}{t:Nat}
theorem CJ(S:mD p F n W W' O v t)(h1:(W.XT t).run.Xj=1)(TS:(W.XT t).run.call.op=2/\1<=(W.XT t).run.call.a/\(W.XT t).run.call.a<=8192\/(W.XT t).run.call.op=3/\1<=(W.XT t).run.call.a/\(W.XT t).run.call.a<p.s):dm p F n W W' O v t:=by
 have e:one p F n W.V W.fr (W.XT t).run=gO p W.V W.fr (W.XT t).run:=by unfold one;rw[aB,Z h1]
 have d:=S.V;have b:=S.fr;have A:=S.Wa;have R:=S.inv.UU t S.lt S.busy;have UG:=S.inv.pl;have fb:=UG.s;have LA:=UG.i;have LB:=UG.h;have vH:=S.inv.ZU;have U2:=S.inv.U2 t S.lt;have pW: ¬((W.XT t).run.call.op=5/\17<=(W.XT t).run.Xj):=J;have bo:(W.XT t).run.call.op≠4/\(W.XT t).run.call.op≠5/\(W.XT t).run.call.op≠6:=J;have nobody: ∀k:Nat,1<=k->k<p.s->(Wi W.V k).st<2->within W p.t.toNat k=0/\∀u:Nat,u<p.t->u≠t->¬reach (W.XT u).aD k:=by
  intro k aX G H;have Ub:=(S.inv.Xf k aX G).2.2 H;refine⟨Ub,fun u hu kd UD=>?_⟩;exact nH
 unfold dm;rw[e]at d b A⊢;unfold gO at d b A⊢;rcases TS with⟨B,Xg⟩|⟨X,Xg⟩
 ·rw[aB]at d b A⊢;cases tT:fv W.V p.s.toNat with
  |none=>
   rw[tT]at d b A;exact⟨O,v,gu S.inv S.lt S.busy A d b rfl rfl pW (fun _=>bo)⟩
  |some k=>
   rw[tT]at d b A;have iF:=abE tT;have G:(k:Int)<p.s:=J;have gk:=S.inv.Zt k G;have aX:1<=k:=by
    rcases aQ k with h|h
    ·subst h;have:=(gk.zero rfl).1;rw[this]at iF;exact absurd iF.2 am
    ·exact h
   simp only at d b A⊢;cases XP:hU W.fr (((W.XT t).run.call.a+7)/8*8)with
   |none=>
    rw[XP]at d b A;exact⟨O,v,gu S.inv S.lt S.busy A d b rfl rfl pW (fun _=>bo)⟩
   |some r=>
    obtain⟨a,w5⟩:=r;rw[XP]at d b A;simp only at d b A⊢;obtain⟨m,hm⟩: ∃m,((W.XT t).run.call.a+7)/8*8=m:=⟨_,rfl⟩
    rw[hm]at d XP;have E3:8<=m/\m<=8192/\m %8=0:=J;obtain⟨x,IG,afF,afH,LL,Fb⟩:=sR XP S.inv.fs (fun y hy=>by have:=S.inv.fr y hy;omega) J;have LM:=S.inv.fr x IG;have U:hZ ⟨1,0,-1,(Wi W.V k).T5⟩:=by
     have:=gk.ft.ok.T5;exact⟨this,aN,aN,aN⟩
    have P:W'.V (8*k)=TK ⟨1,0,-1,(Wi W.V k).T5⟩:=by rw[d];rw[aw _ _ J,aw _ _ J,aw _ _ J,aw _ _ J,aP]
    have Zv:bs W'.V k=a:=by show W'.V (8*k+1)=a;rw[d];rw[aw _ _ J,aw _ _ J,aw _ _ J,aP]
    have N:Ts W'.V k=m:=by show W'.V (8*k+2)=m;rw[d];rw[aw _ _ J,aw _ _ J,aP]
    have Yv:TJ W'.V k=0:=by show W'.V (8*k+3)=0;rw[d];rw[aw _ _ J,aP]
    have X4:W'.V (8*k+4)=0:=by rw[d,aP]
    have Z2: ∀i,¬(8*k<=i/\i<8*k+5)->W'.V i=W.V i:=fun i h=>by rw[d];rw[aw _ _ J,aw _ _ J,aw _ _ J,aw _ _ J,aw _ _ J]
    have hh:Wi W'.V k=⟨1,0,-1,(Wi W.V k).T5⟩:=by unfold Wi;rw[P,ni U];rfl
    have C: ∀s:Nat,s<p.s->s≠k->hs W.V W'.V O O v v s:=fun s YF L=>⟨fun j M=>Z2 _ J,rfl,rfl⟩
    have K:=gk.no.1 J;have Q:=A.end_ rfl;have eO:(W'.XT t).aD=(W.XT t).aD:=by rw[Q];exact iV _ (fun _=>bo)
    have ky:=eH (T:=p.t.toNat) (t:=t) (by have:=S.lt;omega) A.other k;rw[eO]at ky;have V5:=nobody k aX G J;refine⟨O,v,?_,?_,?_,?_⟩
    ·refine S.inv.upd S.lt G A.other C ?_ ?_ ?_ ?_ ?_ ?_ ?_ ?_ ?_ ?_ ?_ ?_ ?_ ?_ (.inl V5.2) ?_ ?_
     ·intro s YF L o ZQ;exact nN
     ·rw[K.1,K.2];refine⟨by rw[P];exact U.w,fun h=>J,fun _ _=>by rw[Zv,N];omega,fun _=>by rw[N,Yv];omega,fun o ZQ=>(by cases ZQ),fun h=>?_,fun q VX=>(by cases VX),⟨fun _=>⟨rfl,rfl⟩,fun _=>rfl⟩,fun _=>Yv⟩;rw[hh]at h;exact absurd h (by show¬(2:Int)<=1;decide)
     ·intro s lW YF L _ H _;have:=S.inv.fd x IG s lW YF H;rw[Zv,N];omega
     ·intro y hy;rw[b]at hy;rcases Fb y hy with h|h
      ·exact S.inv.fr y h.1
      ·omega
     ·rw[b];exact LL
     ·intro y hy s lW YF H;rw[b]at hy;by_cases c:s=k
      ·subst c;rw[Zv,N];rcases Fb y hy with h|h
       ·exact h.2
       ·right;omega
      ·have g:=C s YF c;rw[g.Wi]at H;rw[g.bs,g.Ts];rcases Fb y hy with h|h
       ·exact S.inv.fd y h.1 s lW YF H
       ·have:=S.inv.fd x IG s lW YF H;omega
     ·intro i;by_cases c:8*k<=i/\i<8*k+5
      ·rcases(by omega:i=8*k\/i=8*k+1\/i=8*k+2\/i=8*k+3\/i=8*k+4)with h|h|h|h|h
       ·rw[h,P];have:=U.UK;omega
       ·rw[h];show 0<=bs W'.V k/\bs W'.V k<_;rw[Zv];omega
       ·rw[h];show 0<=Ts W'.V k/\Ts W'.V k<_;rw[N];omega
       ·rw[h];show 0<=TJ W'.V k/\TJ W'.V k<_;rw[Yv];decide
       ·rw[h,X4];decide
      ·rw[Z2 i c];exact S.inv.jd i
     ·intro i hi;by_cases c:8*k<=i/\i<8*k+5
      ·exfalso;apply hi;rcases(by omega:i=8*k\/i=8*k+1\/i=8*k+2\/i=8*k+3\/i=8*k+4)with h|h|h|h|h
       ·rw[h,P];exact c2 (by have:=U.UK;omega)
       ·rw[h];show ku (bs W'.V k);rw[Zv];exact c2 J
       ·rw[h];show ku (Ts W'.V k);rw[N];exact c2 J
       ·rw[h];show ku (TJ W'.V k);rw[Yv];exact c2 am
       ·rw[h,X4];exact c2 am
      ·rw[Z2 i c]at hi;exact S.inv.qB i hi
     ·rw[eO];exact U2
     ·intro s _;rw[eO]
     ·intro _;rw[hh];exact⟨fun h=>absurd (show(1:Int)=2 from h) am,fun h=>absurd (show(1:Int)=3 from h) am,fun _=>J⟩
     ·intro s _ hd;exact absurd hd (S.fU (.inr J) s)
     ·intro _ h;rw[hh]at h;exact absurd (show(1:Int)=3 from h) am
     ·intro h6;rw[Q,eA]at h6;cases h6
     ·rw[Q];exact fj (S.inv.rg t S.lt)
     ·rw[Q,es];exact S.inv.ZS t S.lt
    ·refine⟨fun s YF=>.inl ?_,fun s YF _ B=>?_⟩
     ·by_cases c:s=k
      ·subst c;rw[hh]
      ·rw[(C s YF c).Wi]
     ·by_cases c:s=k
      ·subst c;omega
      ·rw[(C s YF c).Wi];exact⟨B,fun c5=>⟨c5,fun o ZQ=>⟨o,ZQ,rfl,rfl,rfl,rfl,fun _=>rfl⟩⟩⟩
    ·show _+(W.XT t).run.n.toNat<=_;omega
    ·intro j M;have E2:8*k<=j/\j<8*k+5:=Classical.byContradiction fun c=>M (Z2 j c);refine⟨k,?_,G,.inl ⟨E2,?_⟩⟩
     ·show about (tell (W.XT t).run 0 k) _=_;unfold about;simp[tell,B]
     ·show(W.XT t).run.call.op≠9;omega
 ·rw[Z X]at d b A⊢;obtain⟨k,XD⟩: ∃k:Nat,(W.XT t).run.call.a=k:=⟨(W.XT t).run.call.a.toNat,J⟩
  have jf:(W.XT t).run.call.a.toNat=k:=J;have G:(k:Int)<p.s:=J;have aX:1<=k:=J;have gk:=S.inv.Zt k G;simp only[jf]at d b A⊢;by_cases VI:(Wi W.V k).st=0
  ·rw[Z VI]at d b A⊢;exact⟨O,v,gu S.inv S.lt S.busy A d b rfl rfl pW (fun _=>bo)⟩
  rw[Y VI]at d b A⊢;by_cases WJ:(Wi W.V k).st=1
  case neg=>
   rw[Y WJ]at d b A⊢;exact⟨O,v,gu S.inv S.lt S.busy A d b rfl rfl pW (fun _=>bo)⟩
  rw[Z WJ]at d b A⊢;have il:=gk.ft.ok.T5;have acy:0<=(Wi W.V k).T5/\(Wi W.V k).T5<=16777215:=il;have U:hZ ⟨0,0,-1,((Wi W.V k).T5+1)%16777216⟩:=⟨by simp;omega,aN,aN,aN⟩
  have P:W'.V (8*k)=TK ⟨0,0,-1,((Wi W.V k).T5+1)%16777216⟩:=by rw[d];show put _ _ _ (8*k)=_;rw[aw _ _ J,aw _ _ J,aP]
  have Zv:bs W'.V k=0:=by show W'.V (8*k+1)=0;rw[d];show put _ _ _ (8*k+1)=_;rw[aw _ _ J,aP]
  have N:Ts W'.V k=0:=by show W'.V (8*k+2)=0;rw[d];show put _ _ _ (8*k+2)=_;rw[aP]
  have Z2: ∀i,¬(8*k<=i/\i<8*k+3)->W'.V i=W.V i:=fun i h=>by rw[d];show put _ _ _ i=_;rw[aw _ _ J,aw _ _ J,aw _ _ J]
  have hh:Wi W'.V k=⟨0,0,-1,((Wi W.V k).T5+1)%16777216⟩:=by unfold Wi;rw[P,ni U];rfl
  have vG:(Wi W'.V k).st=0:=by rw[hh]
  have C: ∀s:Nat,s<p.s->s≠k->hs W.V W'.V O O v v s:=fun s YF L=>⟨fun j M=>Z2 _ J,rfl,rfl⟩
  have K:=gk.no.1 J;have Q:=A.end_ rfl;have eO:(W'.XT t).aD=(W.XT t).aD:=by rw[Q];exact iV _ (fun _=>bo)
  have ky:=eH (T:=p.t.toNat) (t:=t) (by have:=S.lt;omega) A.other k;rw[eO]at ky;have V5:=nobody k aX G J;have ex:=gk.ex aX VI;have xE:=Fa (l:=W.fr) (a:=bs W.V k) (z:=Ts W.V k)
   (fun y=>(64*p.s+p.i<=y.a/\y.a %8=0/\8<=y.z/\y.z %8=0/\y.a+y.z<=8*n)/\∀s:Nat,1<=s->s<p.s->s≠k->(Wi W.V s).st≠0->y.a+y.z<=bs W.V s\/bs W.V s+Ts W.V s<=y.a)
   (fun x y A hy adm=>⟨by simp only;omega,fun s h1 B X Ya=>by
     have YN:=A.2 s h1 B X Ya;have XW:=hy.2 s h1 B X Ya;have ZA:=(S.inv.Zt s B).ex h1 Ya;simp only;omega⟩)
   S.inv.fs (fun y hy=>⟨S.inv.fr y hy,fun s h1 B X Ya=>S.inv.fd y hy s h1 B Ya⟩) (fun y hy=>J)
   ⟨by simp only;omega,fun s h1 B X Ya=>S.inv.YD k s aX G h1 B (fun e=>X e.symm) VI Ya⟩
   (fun y hy=>S.inv.fd y hy k aX G VI)
  have LN:W'.fr=give W.fr (bs W.V k) (Ts W.V k):=b;refine⟨O,v,?_,?_,?_,?_⟩
  ·refine S.inv.upd S.lt G A.other C ?_ ?_ ?_ ?_ ?_ ?_ ?_ ?_ ?_ ?_ ?_ ?_ ?_ ?_ (.inl V5.2) ?_ ?_
   ·intro s YF L o ZQ;exact nN
   ·rw[K.1,K.2];exact⟨by rw[P];exact U.w,fun h=>J,fun _ h=>absurd vG h,fun h=>absurd vG h,fun o ZQ=>(by cases ZQ),fun h=>J,fun q VX=>(by cases VX),⟨fun _=>⟨rfl,rfl⟩,fun _=>rfl⟩,fun h=>J⟩
   ·intro s lW YF L _ H h;exact absurd vG h
   ·rw[LN];exact fun y hy=>(xE.2 y hy).1
   ·rw[LN];exact xE.1
   ·rw[LN];intro y hy s lW YF H;by_cases c:s=k
    ·subst c;exact absurd vG H
    ·have g:=C s YF c;rw[g.Wi]at H;rw[g.bs,g.Ts];exact(xE.2 y hy).2 s lW YF c H
   ·intro i;by_cases c:8*k<=i/\i<8*k+3
    ·rcases(by omega:i=8*k\/i=8*k+1\/i=8*k+2)with h|h|h
     ·rw[h,P];have:=U.UK;omega
     ·rw[h];show 0<=bs W'.V k/\bs W'.V k<_;rw[Zv];decide
     ·rw[h];show 0<=Ts W'.V k/\Ts W'.V k<_;rw[N];decide
    ·rw[Z2 i c];exact S.inv.jd i
   ·intro i hi;by_cases c:8*k<=i/\i<8*k+3
    ·exfalso;apply hi;rcases(by omega:i=8*k\/i=8*k+1\/i=8*k+2)with h|h|h
     ·rw[h,P];exact c2 (by have:=U.UK;omega)
     ·rw[h];show ku (bs W'.V k);rw[Zv];exact c2 am
     ·rw[h];show ku (Ts W'.V k);rw[N];exact c2 am
    ·rw[Z2 i c]at hi;exact S.inv.qB i hi
   ·rw[eO];exact U2
   ·intro s _;rw[eO]
   ·intro _;exact⟨fun h=>J,fun h=>J,fun _=>J⟩
   ·intro s _ hd;exact absurd hd (S.fU (.inr J) s)
   ·intro _ h;omega
   ·intro h6;rw[Q,eA]at h6;cases h6
   ·rw[Q];exact fj (S.inv.rg t S.lt)
   ·rw[Q,es];exact S.inv.ZS t S.lt
  ·refine⟨fun s YF=>?_,fun s YF _ B=>?_⟩
   ·by_cases c:s=k
    ·subst c;exact .inr ⟨by rw[hh],J⟩
    ·left;rw[(C s YF c).Wi]
   ·by_cases c:s=k
    ·subst c;omega
    ·rw[(C s YF c).Wi];exact⟨B,fun c5=>⟨c5,fun o ZQ=>⟨o,ZQ,rfl,rfl,rfl,rfl,fun _=>rfl⟩⟩⟩
  ·show _+(W.XT t).run.n.toNat<=_;omega
  ·intro j M;have E2:8*k<=j/\j<8*k+3:=Classical.byContradiction fun c=>M (Z2 j c);refine⟨k,?_,G,.inl ⟨J,?_⟩⟩
   ·show about (tell (W.XT t).run 0 0) _=_;unfold about;simp[tell,X,XD]
   ·show(W.XT t).run.call.op≠9;omega
theorem mD.after(S:mD p F n W W' O v t):dm p F n W W' O v t:=by
 cases(S.inv.UU t S.lt S.busy).kind with
 |tell a b=>exact CC S a b
 |make a b=>exact CJ S a b
 |take a b c d e=>exact CD S a b c d e
 |enter a b c d=>exact Am S a b c d
 |nn a b c d=>exact E5 S a b c d
 |drain a b c d e f=>exact As S a b c d e f
 |slot a b c d e=>exact CE S a b c d e
 |hI a b c d=>exact acz S a b
 |gate a b c d=>exact CF S a b c d
end
end
section
theorem kD{G:Prop}(h:G:=by
 (repeat' split)<;>first|exact .quiet rfl UA UG|exact .tell rfl rfl rfl (by omega) (by omega) (.inl ⟨by omega,fun h=>by omega⟩)):G:=h
theorem Fc{α:Type}(f:Nat->α)(j:Nat)(a b:α):put (put f j a) j b=put f j b:=by
 funext i;unfold put;by_cases h:i=j<;>simp[h]
def hK(p:PO)(W:Wd)(t:Nat):Wd:={W with XT:=put W.XT t (bd p (W.XT t) W.ops.length)}
def bh(p:PO)(F:b1)(n:Nat)(W:Wd)(t:Nat):RJ:=(one p F n W.V W.fr (bd p (W.XT t) W.ops.length).run).2.2
theorem rq{p:PO}{T:eD}{m:Nat}(h:T.ended=false):(bd p T m).busy=true:=by
 unfold eD.ended at h;unfold bd;cases hb:T.busy with
 |true=>simp[hb]
 |false=>
  cases a:T.calls with
  |nil=>simp[hb,a]at h
  |cons c l=>simp
theorem em{p:PO}{W:Wd}{t:Nat}:(hK p W t).XT t=bd p (W.XT t) W.ops.length:=aP _ _ _
theorem iz{p:PO}{F:b1}{n:Nat}{W:Wd}{t:Nat}:one p F n (hK p W t).V (hK p W t).fr ((hK p W t).XT t).run=one p F n W.V W.fr (bd p (W.XT t) W.ops.length).run:=by
 rw[em];rfl
section
variable{p:PO}{F:b1}{n:Nat}{W:Wd}{O:Nat->List Zr}{g:Nat->Option Nat}{t:Nat}
section
variable(h:Inv p F n W O g)(a:t<p.t)(b:(W.XT t).ended=false)
include h a b
theorem Inv.h4:mD p F n (hK p W t) (bI p F n W t) O g t:=by
 refine⟨h.begun a rfl rfl rfl,a,?_,?_,?_,?_⟩
 ·rw[em];exact rq b
 ·rw[iz];rfl
 ·rw[iz];rfl
 ·rw[iz];refine⟨?_⟩;show put W.XT t _=put (put W.XT t _) t _;rw[Fc];unfold eY;rw[em]
theorem Inv.bI:
 ∃O' d,sd p F n (hK p W t) (bI p F n W t) O O' g d t (bh p F n W t):=by
 obtain⟨O',d,c⟩:=(h.h4 a b).after;rw[iz]at c;exact⟨O',d,c⟩
end
theorem eZ:(Go.Proofs.YtcimojgkeoecfaaGreat.bI p F n W t).XT t=eY (bd p (W.XT t) W.ops.length) (bh p F n W t):=by
 show put W.XT t _ t=_;rw[aP];rfl
theorem g2{u:Nat}(hu:u≠t):(Go.Proofs.YtcimojgkeoecfaaGreat.bI p F n W t).XT u=W.XT u:=by
 show put W.XT t _ u=_;rw[aw _ _ hu]
structure nO(r r':RJ):Prop where
 call:r'.call=r.call
 fin:r'.fin=true->r'.aC.said=r.said/\r'.said=r.said/\r'.n=r.n/\r.Xj≠20/\r.Xj≠21/\r'.bF=true/\(r.Xj<20/\(r.call.op=5->r'.aC.n=0)\/r'.aC.n=r.n)
 Au:r'.fin=false->r'.bF=false
theorem nO.tell{r b:RJ}{code m:Int}(h1:b.call=r.call)(a:b.said=r.said)(f:b.n=r.n)(e:r.Xj≠20)(c:r.Xj≠21)(d:r.Xj<20/\(r.call.op=5->m=0)\/m=r.n):nO r (Go.Proofs.YtcimojgkeoecfaaGreat.tell b code m):=
 ⟨h1,fun _=>⟨a,a,f,e,c,rfl,d⟩,(fun h=>by cases h)⟩
theorem nO.quiet{r r':RJ}(h1:r'.call=r.call)(a:r'.fin=false)(b:r'.bF=false):nO r r':=
 ⟨h1,(fun h=>by rw[a]at h;cases h),fun _=>b⟩
theorem qc(r:RJ):(bP r).call=r.call/\(bP r).fin=r.fin/\(bP r).bF=r.bF:=by
 unfold bP;(repeat' split)<;>exact⟨rfl,rfl,rfl⟩
theorem uo(r:RJ):(ee r).call=r.call/\(ee r).fin=r.fin/\(ee r).bF=r.bF:=by
 unfold ee;split
 ·exact⟨rfl,rfl,rfl⟩
 ·exact qc r
theorem sS(r:RJ):(dT r).call=r.call/\(dT r).fin=r.fin/\(dT r).bF=r.bF:=by
 unfold dT;split<;>exact⟨rfl,rfl,rfl⟩
theorem LO{V:Nat->Int}{fr:List Ext}{r:RJ}(UA:r.fin=false)(UG:r.bF=false)(a:r.call.op≠5->r.Xj<20)(w:r.call.op=5->r.Xj≠1):nO r (one p F n V fr r).2.2:=by
 unfold one;split
 ·rename_i h;exact .tell rfl rfl rfl J J (.inl ⟨J,fun h=>J⟩)
 split
 ·rename_i h;have b:r.Xj≠20:=J;have a:r.Xj≠21:=J;unfold gO;split
  ·dsimp only
   (repeat' split)<;>exact .tell rfl rfl rfl b a (.inl ⟨J,fun h=>J⟩)
  ·split
   ·exact .tell rfl rfl rfl b a (.inl ⟨J,fun h=>J⟩)
   ·split<;>exact .tell rfl rfl rfl b a (.inl ⟨J,fun h=>J⟩)
 split
 ·rename_i v;have:=a J;show nO r (e6 V r).2;unfold e6;exact kD
 split
 ·rename_i b;have:=a J;show nO r (dR V r).2;unfold dR;exact kD
 split
 ·show nO r (bM F V r).2;unfold bM;by_cases i:r.Xj=15
  ·rw[Z i];exact .quiet rfl UA UG
  rw[Y i];by_cases j:r.Xj=16
  ·rw[Z j];by_cases d:V (8*r.af.toNat)=r.word
   ·rw[Z d];show nO r (if _ then _ else _);by_cases e:(up r.next).st=3
    ·rw[Z e];exact .quiet rfl UA UG
    ·rw[Y e];exact .tell rfl rfl rfl J J (.inl ⟨J,fun h=>J⟩)
   ·rw[Y d];exact .quiet rfl UA UG
  rw[Y j];by_cases k:r.Xj=17
  ·rw[Z k];exact .quiet rfl UA UG
  rw[Y k];by_cases l:r.Xj=18
  ·rw[Z l];have:=uo {r with top:=r.at_+TJ V r.af.toNat};exact .quiet this.1 (this.2.1.trans UA) (this.2.2.trans UG)
  rw[Y l];by_cases m:r.Xj=19
  ·rw[Z m];have:=uo {r with list:=if(fl V (r.at_/8).toNat).d=false/\bY F (fl V (r.at_/8).toNat).t≠ []then r.list++ [r.at_]else r.list,at_:=r.at_+8*(fl V (r.at_/8).toNat).z};exact .quiet this.1 (this.2.1.trans UA) (this.2.2.trans UG)
  rw[Y m];by_cases c:r.Xj=20
  ·rw[Z c];exact .quiet rfl UA UG
  rw[Y c];by_cases f:r.Xj=21
  ·rw[Z f];have:=qc {r with list:=r.list.dropLast,n:=r.n+1,op:=0};exact .quiet this.1 (this.2.1.trans UA) (this.2.2.trans UG)
  rw[Y f];by_cases o:r.Xj=22
  ·rw[Z o];exact .tell rfl rfl rfl c f (.inr rfl)
  rw[Y o];by_cases q:r.Xj=23
  ·rw[Z q];have:=sS {r with at_:=r.word};exact .quiet this.1 (this.2.1.trans UA) (this.2.2.trans UG)
  rw[Y q];by_cases s:r.Xj=24
  ·rw[Z s];have:=sS {r with at_:=r.at_+8};exact .quiet this.1 (this.2.1.trans UA) (this.2.2.trans UG)
  rw[Y s];by_cases u:r.Xj=25
  ·rw[Z u];exact .quiet rfl UA UG
  rw[Y u];exact .tell rfl rfl rfl c f (.inr rfl)
 ·have:=a J;show nO r (cK p n V r).2;unfold cK ie qz lr;exact kD
theorem ZL.KG{V:Nat->Int}{T:eD}(R:ZL p F V O g T):T.run.call.op≠5->T.run.Xj<20:=by
 intro h;cases R.kind with
 |tell a b=>omega
 |make a b=>omega
 |take a b c d e=>omega
 |enter a b c d=>omega
 |nn a b c d=>omega
 |drain a b c d e f=>omega
 |slot a b c d e=>
  rcases e with e|⟨_,e|⟨o,_,_,_,_,_,e⟩⟩<;>omega
 |hI a b c d=>omega
 |gate a b c d=>omega
theorem ZL.Sc{V:Nat->Int}{T:eD}(R:ZL p F V O g T):T.run.call.op=5->T.run.Xj≠1:=by
 intro h;cases R.kind with
 |tell a b=>omega
 |make a b=>omega
 |take a b c d e=>omega
 |enter a b c d=>omega
 |nn a b c d=>omega
 |drain a b c d e f=>omega
 |slot a b c d e=>omega
 |hI a b c d=>omega
 |gate a b c d=>omega
theorem Inv.p9(h:Inv p F n W O g)(a:t<p.t)(b:(W.XT t).ended=false):nO (bd p (W.XT t) W.ops.length).run (bh p F n W t):=by
 have S:=h.h4 a b;have R:=S.inv.UU t a S.busy;rw[em]at R;exact LO R.fin R.bF R.KG R.Sc
structure vK(p:PO)(W:Wd):Prop where
 Ts: ∀t:Nat,t<p.t->(W.XT t).busy=true->∃o,W.ops[(W.XT t).at_]? =some o/\o.XT=t/\o.call=(W.XT t).run.call/\o.e2= -1/\o.pt= -1/\∀j o',(W.XT t).at_<j->W.ops[j]? =some o'->o'.XT≠t
 lt: ∀o,o∈W.ops->0<=o.XT/\o.XT<p.t
 len:W.ops.length<=W.n/\0<=W.n
def sh(ops:List db)(t:Nat)(o:db):Prop:= ∃i:Nat,ops[i]? =some o/\o.XT=t/\∀j o',i<j->ops[j]? =some o'->o'.XT≠t
theorem vK.bI(h:Inv p F n W O g)(q:vK p W)(L:t<p.t)(V:(W.XT t).ended=false):
 vK p (bI p F n W t)/\∃o,sh (Go.Proofs.YtcimojgkeoecfaaGreat.bI p F n W t).ops t o/\o.call=(bh p F n W t).call/\
  ((bh p F n W t).fin=true->o.e2=W.n/\o.pt=W.n/\o.aC=(bh p F n W t).aC)/\((bh p F n W t).fin=false->o.e2= -1/\o.pt= -1):=by
 have R:=h.p9 L V;have hb:=rq (p:=p) (m:=W.ops.length) V;have aaJ: ∃o,(fO W t)[(bd p (W.XT t) W.ops.length).at_]? =some o/\o.XT=t/\o.call=(bd p (W.XT t) W.ops.length).run.call/\o.e2= -1/\o.pt= -1/\(∀j o',(bd p (W.XT t) W.ops.length).at_<j->(fO W t)[j]? =some o'->o'.XT≠t)/\
  (∀i,i<W.ops.length->(fO W t)[i]? =W.ops[i]?)/\(fO W t).length<=W.ops.length+1/\(∀i o',W.ops.length<=i->(fO W t)[i]? =some o'->o'.XT=t):=by
  unfold fO bd;cases ga:(W.XT t).busy with
  |true=>
   simp only[if_true];obtain⟨o,h1,r,ZV,X,z,S⟩:=q.Ts t L ga;exact⟨o,h1,r,ZV,X,z,S,fun i _=>aN,J,fun i o' hi b=>by rw[aV hi]at b;cases b⟩
  |false=>
   cases XP:(W.XT t).calls with
   |nil=>simp[eD.ended,ga,XP]at V
   |cons c l=>
    simp only[Bool.false_eq_true,if_false];refine⟨⟨t,c,W.n,-1,-1,⟨0,0,[]⟩⟩,aN,rfl,rfl,rfl,rfl,fun j o' a b=>?_,fun i hi=>aA hi,aN,fun i o' hi b=>?_⟩
    ·rw[aV (by simp;omega)]at b;cases b
    ·by_cases e:i=W.ops.length
     ·subst e;simp at b;rw[<-b]
     ·rw[aV (by simp;omega)]at b;cases b
 obtain⟨o,Vt,T,G,W3,H,K,s,VR,C⟩:=aaJ;generalize w:(bd p (W.XT t) W.ops.length).at_=k at*;have N:(Go.Proofs.YtcimojgkeoecfaaGreat.bI p F n W t).ops=(fO W t).modify k fun o=>{o with pt:=if(bh p F n W t).bF then W.n else o.pt,e2:=if(bh p F n W t).fin then W.n else o.e2,aC:=if(bh p F n W t).fin then(bh p F n W t).aC else o.aC}:=by
  rw[<-w];rfl
 have M: ∀j o',((Go.Proofs.YtcimojgkeoecfaaGreat.bI p F n W t).ops)[j]? =some o'->∃P,(fO W t)[j]? =some P/\o'.XT=P.XT/\(j≠k->o'=P):=by
  intro j o' a;rw[N,List.getElem?_modify]at a;cases f:(fO W t)[j]? with
  |none=>rw[f]at a;cases a
  |some x=>
   rw[f]at a;simp only[Option.map_eq_map,bt,Option.some.injEq]at a;refine⟨x,rfl,?_,?_⟩
   ·rw[<-a];by_cases e:k=j<;>simp[e]
   ·intro e;rw[<-a,Y (Ne.symm e)]
 have fG:((Go.Proofs.YtcimojgkeoecfaaGreat.bI p F n W t).ops)[k]? =some {o with pt:=if(bh p F n W t).bF then W.n else o.pt,e2:=if(bh p F n W t).fin then W.n else o.e2,aC:=if(bh p F n W t).fin then(bh p F n W t).aC else o.aC}:=by
  rw[N,List.getElem?_modify,Vt];simp
 refine⟨⟨?_,?_,?_⟩,_,⟨k,fG,T,fun j o' a b=>?_⟩,?_,?_,?_⟩
 ·intro u hu A;by_cases e:u=t
  ·subst e;have U:=eZ (p:=p) (F:=F) (n:=n) (W:=W) (t:=u);rw[U]at A⊢;have Q:(bh p F n W u).fin=false:=by
    cases c:(bh p F n W u).fin with
    |false=>rfl
    |true=>unfold eY at A;rw[c,Z rfl,eA]at A;cases A
   have jg:eY (bd p (W.XT u) W.ops.length) (bh p F n W u)= {bd p (W.XT u) W.ops.length with run:=bh p F n W u}:=sf Q;rw[jg];rw[<-w]at fG;refine⟨_,fG,T,?_,?_,?_,?_⟩
   ·show o.call=(bh p F n W u).call;rw[G,R.call]
   ·show(if _ then _ else _)=_;rw[Q];simpa using W3
   ·show(if _ then _ else _)=_;rw[R.Au Q];simpa using H
   ·intro j o' a b;have acq:k<j:=by rw[<-w];exact a
    obtain⟨x,f,B,_⟩:=M j o' b;rw[B];exact K j x acq f
  ·have U:=g2 (p:=p) (F:=F) (n:=n) (W:=W) (t:=t) e;rw[U]at A⊢;obtain⟨us,h1,r,ZV,X,z,S⟩:=q.Ts u hu A;have bV:(W.XT u).at_<W.ops.length:=(List.getElem?_eq_some_iff.1 h1).1;have bo:(W.XT u).at_≠k:=by
    intro v;have:=s _ bV;rw[v,Vt,<-v,h1]at this;injection this with this
    rw[this,r]at T;exact e J
   refine⟨us,?_,r,ZV,X,z,fun j o' a b=>?_⟩
   ·rw[N,List.getElem?_modify,s _ bV,h1];simp[Ne.symm bo]
   ·obtain⟨x,f,B,_⟩:=M j o' b;rw[B];by_cases c:j<W.ops.length
    ·rw[s j c]at f;exact S j x a f
    ·have:=C j x J f;rw[this];intro v;exact e J
 ·intro x f;obtain⟨j,a⟩:=bZ f;obtain⟨y,hy,Sd,_⟩:=M j x a;rw[Sd];by_cases c:j<W.ops.length
  ·rw[s j c]at hy;exact q.lt y (bf hy)
  ·have:=C j y J hy;rw[this];omega
 ·have:=q.len;rw[N,List.length_modify];show _<=W.n+1/\0<=W.n+1;omega
 ·obtain⟨x,f,B,_⟩:=M j o' b;rw[B];exact K j x a f
 ·show o.call=_;rw[G,R.call]
 ·intro d;have:=R.fin d;refine⟨?_,?_,?_⟩
  ·show(if _ then _ else _)=_;rw[d];rfl
  ·show(if _ then _ else _)=_;rw[this.2.2.2.2.2.1];rfl
  ·show(if _ then _ else _)=_;rw[d];rfl
 ·intro d;refine⟨?_,?_⟩
  ·show(if _ then _ else _)=_;rw[d];simpa using W3
  ·show(if _ then _ else _)=_;rw[R.Au d];simpa using H
end
end
section
def Ff:RJ:={call:=⟨0,0,0,0,0,0,0⟩,Xj:=0,af:=0,hand:=0,val:=0,chain:= [],word:=0,next:=0,at_:=0,top:=0,list:= [],op:=0,said:= [],n:=0,held:=false,fin:=false,bF:=false,aC:=⟨0,0,[]⟩}
def V0(p:PO):Nat->Int:=fun k=>if k=0 then 6 else if k=1 then 64*p.s else if k=2 then p.i else 0
def l2(p:PO)(bj:Nat->List dM):Wd:=
 {V:=V0 p,fr:=if 0<p.h then [⟨64*p.s+p.i,p.h⟩]else [],XT:=fun i=>⟨bj i,fun _=>0,[],Ff,false,0⟩,ops:= [],n:=0}
theorem si{p:PO}{s:Nat}(h:1<=s)(j:Nat):V0 p (8*s+j)=0:=by
 unfold V0;rw[aB,aB,aB]
theorem Inv.init{p:PO}{F:b1}{n:Nat}{bj:Nat->List dM}(a:a9 p)(hF:tN F)(g:8*(n:Int)=64*p.s+p.i+p.h)(v: ∀t:Nat,t<p.t->∀c,c∈bj t->cG c):
 Inv p F n (l2 p bj) (fun _=> []) (fun _=>none):=by
 have z:=a.s;have hi:=a.i;have y:=a.h;have u:Wi (V0 p) 0=⟨2,1,-1,0⟩:=by
  show up 6=_;rfl
 have cs: ∀s:Nat,1<=s->Wi (V0 p) s=⟨0,0,-1,0⟩:=fun s h=>by
  show up (V0 p (8*s+0))=_;rw[si h];rfl
 have d: ∀k,0<=V0 p k/\V0 p k<4096:=fun k=>by
  unfold V0;(repeat' split)<;>omega
 have w0: ∀s:Nat,s<p.t.toNat->True:=fun _ _=>trivial;have w: ∀m s,within (l2 p bj) m s=0:=fun m s=>by
  unfold within;induction m with
  |zero=>rfl
  |succ m l=>rw[gE,l];rfl
 refine⟨a,g,hF,fun s h=>?_,?_,?_,?_,?_,?_,?_,?_,?_,?_,?_,?_,?_⟩
 ·rcases aQ s with rfl|h1
  ·refine⟨?_,fun _=>⟨u,rfl,rfl⟩,(fun h=>J),fun _=>?_,(fun o f=>by cases f),fun _ _=>?_,(fun q h=>by cases h),⟨fun _=>⟨rfl,rfl⟩,fun _=>rfl⟩,fun h=>?_⟩
   ·show okW 6;exact⟨⟨am,am,am,am⟩,am⟩
   ·show 0<=V0 p 3/\V0 p 3<=V0 p 2/\V0 p 3 %8=0;have:V0 p 3=0:=rfl;have:V0 p 2=p.i:=rfl;omega
   ·show(V0 p 1/8).toNat=((V0 p 1+V0 p 3)/8).toNat;have:V0 p 3=0:=rfl;rw[this,cI]
   ·rfl
  ·have e:=cs s h1;have e':Wi (l2 p bj).V s=⟨0,0,-1,0⟩:=e;refine⟨?_,(fun h=>J),fun _ h=>absurd (by rw[e']) h,fun h=>absurd (by rw[e']) h,(fun o f=>by cases f),fun h=>?_,(fun q h=>by cases h),⟨fun _=>⟨rfl,rfl⟩,fun _=>rfl⟩,fun h=>?_⟩
   ·show okW (V0 p (8*s+0));rw[si h1];exact⟨⟨am,am,am,am⟩,am⟩
   ·rw[e']at h;exact absurd h am
   ·exact si (p:=p) h1 3
 ·intro s s' h1 _ _ _ _ h _;exact absurd (by rw[show Wi (l2 p bj).V s=_ from cs s h1]) h
 ·intro x b;unfold l2 at b;simp only at b;split at b
  ·simp only[List.mem_singleton]at b;subst b;simp only;omega
  ·cases b
 ·show List.Pairwise _ (if _ then _ else _);split
  ·exact List.pairwise_singleton _ _
  ·exact List.Pairwise.nil
 ·intro x b s h1 _ h;exact absurd (by rw[show Wi (l2 p bj).V s=_ from cs s h1]) h
 ·intro k;have:=d k;exact⟨this.1,by show V0 p k<_;omega⟩
 ·intro k h;exact absurd (c2 (by have:=d k;show V0 p k<_;omega)) h
 ·intro t _;exact⟨aL _,fun pre e post h=>by cases pre<;>cases h⟩
 ·intro s h1 _;rw[show Wi (l2 p bj).V s=_ from cs s h1];exact⟨fun h=>absurd h am,fun h=>absurd h am,fun _=>w _ _⟩
 ·intro s h1 _ h;rw[show Wi (l2 p bj).V s=_ from cs s h1]at h;exact absurd h am
 ·intro t _ h;cases h
 ·intro t _ j;show(0:Int)<=0/\(0:Int)<_;exact⟨am,am⟩
 ·intro t r c h;exact v t r c h
theorem vK.init{p:PO}{bj:Nat->List dM}:vK p (l2 p bj):=
 ⟨(fun t _ h=>by cases h),(fun o h=>by cases h),⟨ai _,ai _⟩⟩
section
variable{p:PO}{F:b1}{n:Nat}{W:Wd}{O:Nat->List Zr}{a:Nat->Option Nat}{t:Nat}
structure yK(r r':RJ):Prop where
 ls:r'.list.length<=r.list.length+1
 Wh:r'.said.length<=r.said.length+1
theorem yK.refl{r r':RJ}(h1:r'.list=r.list)(b:r'.said=r.said):yK r r':=⟨by rw[h1];omega,by rw[b];omega⟩
theorem sT(r:RJ):(bP r).list=r.list/\(bP r).said=r.said:=by
 unfold bP;(repeat' split)<;>exact⟨rfl,rfl⟩
theorem yL(r:RJ):(ee r).list=r.list/\(ee r).said=r.said:=by
 unfold ee;split
 ·exact⟨rfl,rfl⟩
 ·exact sT r
theorem wj(r:RJ):(dT r).list=r.list/\(dT r).said=r.said:=by
 unfold dT;split<;>exact⟨rfl,rfl⟩
theorem CK(o:jc)(sl:List Int):(dd o sl).2.2.1.length<=1:=by
 unfold dd;(repeat' split)<;>simp
theorem LP{V:Nat->Int}{fr:List Ext}{r:RJ}:yK r (one p F n V fr r).2.2:=by
 unfold one;split
 ·exact .refl rfl rfl
 split
 ·unfold gO;split
  ·dsimp only
   (repeat' split)<;>exact .refl rfl rfl
  ·split
   ·exact .refl rfl rfl
   ·split<;>exact .refl rfl rfl
 split
 ·show yK r (e6 V r).2;unfold e6
  (repeat' split)<;>exact .refl rfl rfl
 split
 ·show yK r (dR V r).2;unfold dR
  (repeat' split)<;>exact .refl rfl rfl
 split
 ·show yK r (bM F V r).2;unfold bM;by_cases f:r.Xj=15
  ·rw[Z f];exact .refl rfl rfl
  rw[Y f];by_cases g:r.Xj=16
  ·rw[Z g];by_cases d:V (8*r.af.toNat)=r.word
   ·rw[Z d];show yK r (if _ then _ else _);by_cases e:(up r.next).st=3
    ·rw[Z e];exact .refl rfl rfl
    ·rw[Y e];exact .refl rfl rfl
   ·rw[Y d];exact .refl rfl rfl
  rw[Y g];by_cases h:r.Xj=17
  ·rw[Z h];exact .refl rfl rfl
  rw[Y h];by_cases i:r.Xj=18
  ·rw[Z i];have:=yL {r with top:=r.at_+TJ V r.af.toNat};exact .refl this.1 this.2
  rw[Y i];by_cases j:r.Xj=19
  ·rw[Z j];have:=yL {r with list:=if(fl V (r.at_/8).toNat).d=false/\bY F (fl V (r.at_/8).toNat).t≠ []then r.list++ [r.at_]else r.list,at_:=r.at_+8*(fl V (r.at_/8).toNat).z};refine⟨?_,by rw[this.2];exact Nat.le_succ _⟩;rw[this.1];show(if _ then _ else _:List Int).length<=_;split<;>simp
  rw[Y j];by_cases b:r.Xj=20
  ·rw[Z b];refine⟨by show r.list.length<=_;omega,?_⟩;show(r.said++_).length<=_;rw[ak];exact Nat.add_le_add_left (CK _ _) _
  rw[Y b];by_cases c:r.Xj=21
  ·rw[Z c];have:=sT {r with list:=r.list.dropLast,n:=r.n+1,op:=0};refine⟨?_,by rw[this.2];exact Nat.le_succ _⟩;rw[this.1];show r.list.dropLast.length<=_;rw[List.length_dropLast];omega
  rw[Y c];by_cases k:r.Xj=22
  ·rw[Z k];exact .refl rfl rfl
  rw[Y k];by_cases l:r.Xj=23
  ·rw[Z l];have:=wj {r with at_:=r.word};exact .refl this.1 this.2
  rw[Y l];by_cases m:r.Xj=24
  ·rw[Z m];have:=wj {r with at_:=r.at_+8};exact .refl this.1 this.2
  rw[Y m];by_cases o:r.Xj=25
  ·rw[Z o];exact .refl rfl rfl
  rw[Y o];exact .refl rfl rfl
 ·show yK r (cK p n V r).2;unfold cK ie qz lr
  (repeat' split)<;>exact .refl rfl rfl
def rr(p:PO)(W:Wd):Prop:= ∀t:Nat,t<p.t->(W.XT t).run.list.length<=W.n/\(W.XT t).run.said.length<=W.n
theorem rr.init{bj:Nat->List dM}:rr p (l2 p bj):=fun t _=>⟨ai _,ai _⟩
theorem acr(T:eD):(bH T).run=T.run:=by unfold bH;(repeat' split)<;>rfl
theorem Ax(T:eD)(r:RJ):(eY T r).run=r:=by
 unfold eY;split
 ·rw[acr]
 ·rfl
theorem nP{p:PO}{T:eD}{m:Nat}{k:Nat}(h:T.run.list.length<=k/\T.run.said.length<=k):(bd p T m).run.list.length<=k/\(bd p T m).run.said.length<=k:=by
 unfold bd;split
 ·exact h
 ·split
  ·exact h
  ·exact⟨aL _,aL _⟩
theorem rr.bI(q:rr p W):rr p (Go.Proofs.YtcimojgkeoecfaaGreat.bI p F n W t):=by
 intro u hu;show _<=W.n+1/\_<=W.n+1;by_cases e:u=t
 ·subst e;rw[eZ,Ax];have h1:=nP (p:=p) (m:=W.ops.length) (q u hu);have b:=LP (p:=p) (F:=F) (n:=n) (V:=W.V) (fr:=W.fr) (r:=(bd p (W.XT u) W.ops.length).run);have d:=b.ls;have c:=b.Wh;unfold bh;omega
 ·rw[g2 e];have:=q u hu;omega
def lJ(W:Wd):Prop:= ∀o,o∈W.ops->o.aC.said.length<=W.n
theorem lJ.init{bj:Nat->List dM}:lJ (l2 p bj):=fun o h=>by cases h
theorem lJ.bI(h:Inv p F n W O a)(f:rr p W)(q:lJ W)(g:t<p.t)(r:(W.XT t).ended=false):lJ (Go.Proofs.YtcimojgkeoecfaaGreat.bI p F n W t):=by
 have R:=h.p9 g r;have h1:=nP (p:=p) (m:=W.ops.length) (f t g);have k: ∀o,o∈fO W t->o.aC.said.length<=W.n:=by
  intro o b;unfold fO at b;split at b
  ·exact q o b
  ·split at b
   ·exact q o b
   ·rcases List.mem_append.1 b with b|b
    ·exact q o b
    ·simp only[List.mem_singleton]at b;subst b;exact aL _
 intro o b;show _<=W.n+1;obtain⟨j,l⟩:=bZ b;have d:((fO W t).modify (bd p (W.XT t) W.ops.length).at_ fun o=>{o with pt:=if(bh p F n W t).bF then W.n else o.pt,e2:=if(bh p F n W t).fin then W.n else o.e2,aC:=if(bh p F n W t).fin then(bh p F n W t).aC else o.aC})[j]? =some o:=l;rw[List.getElem?_modify]at d;cases i:(fO W t)[j]? with
 |none=>rw[i]at d;cases d
 |some x=>
  rw[i]at d;have s:=k x (bf i);simp only[Option.map_eq_map,bt,Option.some.injEq]at d;rw[<-d];by_cases e:(bd p (W.XT t) W.ops.length).at_=j
  ·rw[Z e];show(if _ then _ else _:Ln).said.length<=_;by_cases c:(bh p F n W t).fin=true
   ·rw[Z c,(R.fin c).1];omega
   ·rw[Y c];omega
  ·rw[Y e];show x.aC.said.length<=_;omega
def runN(T:eD):Nat:=if T.busy then T.run.n.toNat else 0
structure vL(p:PO)(F:b1)(W:Wd)(O:Nat->List Zr)(runs BM said:Int):Prop where
 le:runs+(gE (fun i=>runN (W.XT i)) p.t.toNat:Nat)+(iU F O p.s.toNat:Nat)<=BM
 Wh:said<=8*runs
 pos:0<=runs/\0<=said
theorem vL.init{bj:Nat->List dM}:vL p F (l2 p bj) (fun _=> []) 0 0 0:=by
 have h1: ∀m,gE (fun i=>runN ((l2 p bj).XT i)) m=0:=fun m=>by
  induction m with
  |zero=>rfl
  |succ m b=>rw[gE,b];rfl
 have c: ∀m,iU F (fun _=> []) m=0:=fun m=>by
  unfold iU;induction m with
  |zero=>rfl
  |succ m b=>rw[gE,b];rfl
 refine⟨?_,J,J⟩;rw[h1,c];omega
def gT(r:RJ):Int:=if r.fin=true/\r.call.op=5 then r.aC.n else 0
def hz(r:RJ):Int:=if r.fin=true/\r.call.op=5 then r.aC.said.length else 0
theorem vL.bI{runs B said:Int}(h:Inv p F n W O a)(c:vL p F W O runs B said)(r:t<p.t)(u:(W.XT t).ended=false){O':Nat->List Zr}{M:Nat->Option Nat}
 (A:sd p F n (hK p W t) (bI p F n W t) O O' a M t (bh p F n W t)):
 vL p F (Go.Proofs.YtcimojgkeoecfaaGreat.bI p F n W t) O' (runs+gT (bh p F n W t)) (B+ez F (bh p F n W t)) (said+hz (bh p F n W t)):=by
 have S:=h.h4 r u;have o:=S.inv.UU t r S.busy;have R:=h.p9 r u;have hb:=S.busy;rw[em]at o hb;have cnt:=A.cnt;rw[em]at cnt;generalize q:bd p (W.XT t) W.ops.length=T at*;have Q:runN (W.XT t)=T.run.n.toNat:=by
  unfold runN;cases w:(W.XT t).busy with
  |true=>rw[<-q];unfold bd;simp[w]
  |false=>
   cases G:(W.XT t).calls with
   |nil=>simp[eD.ended,w,G]at u
   |cons x l=>rw[<-q];unfold bd;simp[w,G,begun]
 have s:=o.n;have L:=o.said;have h1:gE (fun i=>runN ((Go.Proofs.YtcimojgkeoecfaaGreat.bI p F n W t).XT i)) p.t.toNat+runN (W.XT t)=gE (fun i=>runN (W.XT i)) p.t.toNat+runN ((Go.Proofs.YtcimojgkeoecfaaGreat.bI p F n W t).XT t):=by
  have:=r1 (f:=fun i=>runN (W.XT i)) (m:=p.t.toNat) (i:=t) (v:=runN ((Go.Proofs.YtcimojgkeoecfaaGreat.bI p F n W t).XT t)) J;have e:(fun i=>runN ((Go.Proofs.YtcimojgkeoecfaaGreat.bI p F n W t).XT i))=put (fun i=>runN (W.XT i)) t (runN ((Go.Proofs.YtcimojgkeoecfaaGreat.bI p F n W t).XT t)):=by
   funext i;by_cases e:i=t
   ·subst e;rw[aP]
   ·rw[aw _ _ e,g2 e]
  rw[e];exact this
 cases b:(bh p F n W t).fin with
 |false=>
  have y:runN ((Go.Proofs.YtcimojgkeoecfaaGreat.bI p F n W t).XT t)=(bh p F n W t).n.toNat:=by
   rw[eZ,q,sf b];unfold runN;show(if T.busy=true then _ else _)=_;rw[hb];rfl
  refine⟨?_,?_,?_⟩
  ·have d:gT (bh p F n W t)=0:=by unfold gT;rw[b];rfl
   have:=c.le;rw[d];omega
  ·have d:gT (bh p F n W t)=0:=by unfold gT;rw[b];rfl
   have j:hz (bh p F n W t)=0:=by unfold hz;rw[b];rfl
   have:=c.Wh;omega
  ·have d:gT (bh p F n W t)=0:=by unfold gT;rw[b];rfl
   have j:hz (bh p F n W t)=0:=by unfold hz;rw[b];rfl
   have:=c.pos;omega
 |true=>
  obtain⟨f1,f2,f3,f4,f5,f6,f7⟩:=R.fin b;have y:runN ((Go.Proofs.YtcimojgkeoecfaaGreat.bI p F n W t).XT t)=0:=by
   rw[eZ];unfold runN;rw[show(eY (bd p (W.XT t) W.ops.length) (bh p F n W t)).busy=false from by unfold eY;rw[b,Z rfl,eA]];rfl
  rw[Y f4,Y f5]at L;have U:=c.le;have cs:=c.Wh;have P:=c.pos;by_cases k:T.run.call.op=5
  ·have C:(bh p F n W t).call.op=5:=by rw[R.call];exact k
   have d:gT (bh p F n W t)=(bh p F n W t).aC.n:=by unfold gT;rw[Z ⟨b,C⟩]
   have j:hz (bh p F n W t)=(bh p F n W t).aC.said.length:=by unfold hz;rw[Z ⟨b,C⟩]
   have z:(bh p F n W t).aC.n=T.run.n:=by
    rcases f7 with⟨H,K⟩|g
    ·rw[K k,(s.2 H).1]
    ·exact g
   rw[d,j,z,f1];refine⟨?_,?_,?_⟩
   ·rw[f3]at cnt;omega
   ·omega
   ·omega
  ·have d:gT (bh p F n W t)=0:=by unfold gT;rw[Y (fun h=>k (by rw[<-R.call];exact h.2))]
   have j:hz (bh p F n W t)=0:=by unfold hz;rw[Y (fun h=>k (by rw[<-R.call];exact h.2))]
   have N:=(s.2 (o.KG k)).1;rw[d,j];refine⟨?_,?_,?_⟩
   ·rw[f3]at cnt;omega
   ·omega
   ·omega
end
end
end Go.Proofs.YtcimojgkeoecfaaGreat
