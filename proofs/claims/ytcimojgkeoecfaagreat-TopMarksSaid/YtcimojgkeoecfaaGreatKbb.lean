import Derived.ProofKit
import Derived.Deep.Slices
import Derived.OpenShut
import Derived.Test.YtcimojgkeoecfaaGreatKaz
set_option linter.all false
set_option maxHeartbeats 16000000
set_option maxRecDepth 100000
namespace Go.Proofs.YtcimojgkeoecfaaGreat
section
open Go.ChangeShapes Go.RowKit Go.WideShapes
def iE(P:Program)(u:TypeId):Option (Option IntKind):=
 match P.underlying u with
 |some .bool=>some .none
 |some (.int k)=>some (some k)
 |_=>.none
def isAgg(P:Program)(t:TypeId):Bool:=
 match P.underlying t with
 |some (.struct _)|some (.array _ _)=>true
 |_=>false
def lS:List (Option IntKind)->List Value->Prop
 | [],a=>a= []
 |some k::c,a=> ∃n rest,a= .int k n::rest/\(Lit.int k n).wf=true/\lS c rest
 |.none::c,a=> ∃b rest,a= .bool b::rest/\lS c rest
theorem m2{α β:Type}{f:α->Option β}{a:α}{l:List α}{r:List β}(h:(a::l).mapM f=some r): ∃b bs,r=b::bs/\f a=some b/\l.mapM f=some bs:=by
 rw[List.mapM_cons]at h;cases hb:f a with
 |none=>rw[hb]at h;simp at h
 |some b=>
  cases c:l.mapM f with
  |none=>rw[hb,c]at h;simp at h
  |some bs=>rw[hb,c]at h;simp at h;exact⟨b,bs,h.symm,rfl,rfl⟩
end
section
open Go.ChangeShapes Go.RowKit Go.WideShapes
def VE(w:World)(B:Nat)(A:Option Addr)(n size:Nat)(row:Nat->List Value):Prop:=
 0<n->∃b off,A=some ⟨b,off,none⟩/\b<B/\∀i j u,i<n->(row i)[j]? =some u->w.cell? ⟨b,off+(i*size+j),none⟩=some u
theorem VE.keep{w w':World}{B:Nat}{A:Option Addr}{n size:Nat}{row:Nat->List Value}(h:VE w B A n size row)(c: ∀p:Addr,p.block<B->w'.cell? p=w.cell? p):VE w' B A n size row:=by
 intro a;obtain⟨b,off,e,hb,d⟩:=h a;exact⟨b,off,e,hb,λi j u hi hu=>(c _ hb).trans (d i j u hi hu)⟩
theorem VE.below{w w':World}{B B':Nat}{A:Option Addr}{n size:Nat}{row:Nat->List Value}(h:VE w B A n size row)(hb:Below B' w w')(b:B<=B'):VE w' B A n size row:=
 h.keep λp a=>hb.cell (aj a b)
theorem VE.lf{w w':World}{B B' g:Nat}{A:Option Addr}{n size:Nat}{row:Nat->List Value}(h:VE w B A n size row)(hb:ce B' g w w')(b:B<=B')(c:B<=g):VE w' B A n size row:=
 h.keep λp a=>hb.cell (aj a b) J
section
variable{w:World}{B:Nat}{A:Option Addr}{n size:Nat}{row:Nat->List Value}(h:VE w B A n size row)
include w B A n size row h
theorem VE.alloc(a:B<=w.heap.size)(o:Obj):VE (w.alloc o) B A n size row:=
 h.below ((Below.refl B w).alloc a o) (ai _)
theorem VE.drewN(k:Nat):VE (w.drewN k) B A n size row:=h
theorem VE.set{p:Addr}(a:B<=p.block)(v:Value):VE (w.setCell p v) B A n size row:=
 h.keep λq b=>World.cell?_setCell_other w p q v (λe=>by subst e;omega)
theorem VE.at_{i:Nat}(hi:i<n):
 ∃b off,A=some ⟨b,off,none⟩/\b<B/\∀j u,(row i)[j]? =some u->w.cell? ⟨b,off+(i*size+j),none⟩=some u:=by
 obtain⟨b,off,e,hb,a⟩:=h J;exact⟨b,off,e,hb,λj u hu=>a i j u hi hu⟩
end
theorem Ie{w:World}{a:Addr}{v:Value}(h:w.cell? a=some v):a.block<w.heap.size:=by
 unfold World.cell? at h;split at h
 ·rename_i hb;exact(Array.getElem?_eq_some_iff.1 hb).1
 ·cases h
def If(k:IntKind)(f:Nat->Int):Nat->List Value:=λi=> [.int k (f i)]
def mT(P:Program)(e:TypeId):Option (List (Option IntKind)):=
 match P.underlying e with
 |some (.struct fs)=>if(List.range fs.size).all (λi=>fs[i]?.all λf=>f.offset==i&&P.cellsOf f.type==1)then fs.toList.mapM λf=>iE P f.type else none
 |_=>(iE P e).map λk=> [k]
section
variable{H:Type}{enc:TypeId×Value->H}{P:Program}{w:World}{base:Nat}{o:Nat->Bool}{held:Bool}
theorem wU{t:TypeId}{k:Option IntKind}{e:Nat}{cs:List Value}{x:DataW H×List MemPlace}(a:iE P t=some k)(h:DataW.trod enc P w base o held e t cs=some x):lS [k] cs:=by
 unfold iE at a;cases hu:P.underlying t with
 |none=>rw[hu]at a;simp at a
 |some d=>
  rw[hu]at a;cases d<;>simp at a
  ·subst a;obtain⟨b,rfl,_⟩:=DataW.trod_bool hu h;exact⟨b,[],rfl,rfl⟩
  ·subst a;obtain⟨n,rfl,_,c⟩:=DataW.trod_int hu h;exact⟨n,[],rfl,c,rfl⟩
theorem wV: ∀(fs:List Field) (c:List (Option IntKind)) (cs:List Value),fs.mapM (λf=>iE P f.type)=some c->cs.length=fs.length->
 (∀i f,fs[i]? =some f->∀k,iE P f.type=some k->lS [k] ((cs.drop i).take 1))->lS c cs
 | [],c,cs,a,l,_=>by
   simp at a l
   subst a;subst l;rfl
 |f::fs,c,cs,a,l,h=>by
  obtain⟨k,t,rfl,x,u⟩:=m2 a
  match cs,l with
  |v::d,l=>
   have p:=wV fs t d u (by simpa using l) λi g r k a=>by
    have:=h (i+1) g (by simpa using r) k a
    simpa using this
   have q:=h 0 f rfl k x
   simp at q
   cases k with
   |none=>obtain⟨b,rest,e,m⟩:=q;simp[lS]at m;subst m;injection e with e _;exact⟨b,d,by rw[e],p⟩
   |some j=>obtain⟨n,rest,e,s,m⟩:=q;simp[lS]at m;subst m;injection e with e _;exact⟨n,d,by rw[e],s,p⟩
theorem BF{e:TypeId}{c:List (Option IntKind)}{A:Nat}{cs:List Value}{x:DataW H×List MemPlace}(b:mT P e=some c)(v:P.cellsOf e=c.length)(h:DataW.trod enc P w base o held A e cs=some x):lS c cs:=by
 unfold mT at b;split at b
 ·next fs hu=>
  split at b
  ·next t=>
   obtain⟨xs,n,_,_,z,_,p⟩:=DataW.trod_struct hu h;have B: ∀(l:List Field) (c:List (Option IntKind)),l.mapM (λf=>iE P f.type)=some c->c.length=l.length:=by
    intro l;induction l with
    |nil=>intro c h;simp at h;subst h;rfl
    |cons a l q=>intro c h;obtain⟨k,u,rfl,_,m⟩:=m2 h;simp[q u m]
   refine wV fs.toList c cs b (by rw[z,v,B _ _ b]) λi f s k C=>?_
   have hi:i<fs.size:=by
    have:=(List.getElem?_eq_some_iff.1 s).1;simpa using this
   have r:fs[i]? =some f:=by simpa using s
   have d:=List.all_eq_true.1 t i (List.mem_range.2 hi);rw[r]at d;simp at d;have:=p i f r;rw[d.1,d.2]at this;cases j:xs[i]? with
   |none=>
    rw[j]at this;exfalso;have G:xs.length=fs.size:=by
     obtain⟨K,n',_,_,_,F,L⟩:=DataW.trod_struct hu h;omega
    rw[List.getElem?_eq_none_iff]at j;omega
   |some y=>rw[j]at this;exact wU C this
  ·simp at b
 ·cases g:iE P e with
  |none=>rw[g]at b;simp at b
  |some k=>
   rw[g]at b;simp at b;subst b;exact wU g h
theorem Ig{r:Reach}{B:Nat}{t e:TypeId}{f:List (Option IntKind)}(g:P.underlying t=some (.slice e))(z:mT P e=some f)(q:P.cellsOf e=f.length)(X:0<f.length){v:Value}{d:DataW H}{p:List MemPlace}
 (S:Value.okWide P w r B t v)(h:DataW.Trod enc P w base o held t v d p):
 ∃A n c row,v= .slice A n c/\n<=c/\c<=maxLen/\VE w w.heap.size A n f.length row/\∀i,i<n->lS f (row i):=by
 have hv: ∃A n c,v= .slice A n c:=by
  simp only[Value.okWide,g,Cell.okWide,Cell.ok]at S;cases v<;>simp_all
 obtain⟨A,n,c,rfl⟩:=hv;obtain⟨W,h⟩:=h;rcases Go.Deep.open_slice g h with⟨h1,_⟩|⟨a,len,cap,m,k,V,PO,h1,hb,N,hm,L,_,M⟩
 ·simp[Value.cells]at h1;obtain⟨rfl,rfl,rfl⟩:=h1;exact⟨none,0,0,λ_=> [],rfl,ai _,aL _,λh=>absurd h J,λi hi=>absurd hi J⟩
 ·simp[Value.cells]at h1;obtain⟨rfl,rfl,rfl⟩:=h1;have U:n<=m:=by rw[L];split<;>omega
  obtain⟨row,s⟩:=Go.Deep.choose_lt (n:=n) (p:=λi (l:List Value)=>l.length=f.length/\lS f l/\∀j u,l[j]? =some u->w.cell? (a.add (i*f.length+j))=some u) (λi hi=>by
   obtain⟨cs',x,O⟩:=M i J;obtain⟨_,R,Q⟩:=World.cells?_some x;refine⟨cs',by rw[R,q],BF z q O,λj u hu=>?_⟩;have T:j<cs'.length:=(List.getElem?_eq_some_iff.1 hu).1;have:=Q j J;rw[Go.Deep.add_add,q,hu]at this;exact this)
  refine⟨some a,n,c,row,rfl,N,hm,λy=>?_,λi hi=>(s i hi).2.1⟩;obtain⟨b,off,K⟩:=a;have F:=s 0 y;obtain⟨u,hu⟩: ∃u,(row 0)[0]? =some u:=⟨_,an (by have:=F.1;omega)⟩
  have C:=F.2.2 0 u hu;have G:K=none:=by simpa [Addr.add]using World.cell?_spot C
  subst G;refine⟨b,off,rfl,?_,λi j u hi hu=>?_⟩
  ·have:=Ie C;simpa [Addr.add]using this
  ·have:=(s i hi).2.2 j u hu;rwa[Go.WideShapes.add_plain]at this
theorem acP{r:Reach}{s:Nat}{t e:TypeId}{k:IntKind}(y:P.underlying t=some (.slice e))(q:mT P e=some [some k])(B:P.cellsOf e=1){v:Value}{d:DataW H}{p:List MemPlace}
 (K:Value.okWide P w r s t v)(h:DataW.Trod enc P w base o held t v d p):
 ∃A n c f,v= .slice A n c/\n<=c/\c<=maxLen/\VE w w.heap.size A n 1 (If k f)/\∀i,(Lit.int k (f i)).wf=true:=by
 obtain⟨A,n,c,row,rfl,h1,g,F,C⟩:=Ig y q B aN K h;have a: ∀i,∃m,(i<n->row i= [.int k m])/\(Lit.int k m).wf=true:=by
  intro i;by_cases hi:i<n
  ·obtain⟨m,rest,e,x,z⟩:=C i hi;exact⟨m,λ_=>by rw[e,z],x⟩
  ·exact⟨0,λh=>absurd h hi,by cases k<;>decide⟩
 refine⟨A,n,c,λi=>Classical.choose (a i),rfl,h1,g,λl=>?_,λi=>(Classical.choose_spec (a i)).2⟩;obtain⟨b,off,e,hb,G⟩:=F l;refine⟨b,off,e,hb,λi j u hi hu=>G i j u hi ?_⟩;rw[(Classical.choose_spec (a i)).1 hi];exact hu
end
end
section
open Go.RowKit Tryz
theorem agY(A:Option Addr)(n c:Nat)(f:Nat->Int)(w0:World)(a:n<=c/\c<=maxLen)(R:VE w0 w0.heap.size A n 1 (If .u8 f))(g: ∀i,0<=f i/\f i<=255):
 Calls prog 6 #[.slice A n c] w0 λe w'=>e= .returned (.bool true)/\Below w0.heap.size w0 w':=
 ag4 Ic w0 (λ_=>True) (.slice A n c) n f ⟨A,c,rfl,a.1,a.2,λd=>by
  obtain⟨b,off,e,hb,h⟩:=R d
  exact⟨b,off,e,trivial,hb,h⟩⟩ g (D a.1 a.2)
end
end Go.Proofs.YtcimojgkeoecfaaGreat
