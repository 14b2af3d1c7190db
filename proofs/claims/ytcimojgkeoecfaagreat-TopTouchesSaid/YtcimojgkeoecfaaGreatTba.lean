/- TopTouches answers true for every input: no micro-step changes a word but of the one scope that its call is about. No conditions. -/
import Derived.ProofKit
import Derived.Deep.Slices
import Derived.OpenShut
import Derived.Test.YtcimojgkeoecfaaGreatTau
import Derived.Test.YtcimojgkeoecfaaGreatTaz
import Derived.Test.YtcimojgkeoecfaaGreatChecked
import Derived.Test.YtcimojgkeoecfaaGreatRows
set_option linter.all false
set_option maxHeartbeats 16000000
set_option maxRecDepth 100000
namespace Go.Proofs.YtcimojgkeoecfaaGreat
section
open Go.ChangeShapes Go.RowKit Go.WideShapes
def iE(P:Program)(u:TypeId):Option (Option IntKind):=
 match P.underlying u with
 |some .bool=>some .none
 |some (.int k)=>some (some k)
 |_=>.none
def isAgg(P:Program)(t:TypeId):Bool:=
 match P.underlying t with
 |some (.struct _)|some (.array _ _)=>true
 |_=>false
def lS:List (Option IntKind)->List Value->Prop
 | [],ad3=>ad3= []
 |some k::adz,ad3=> ∃n rest,ad3= .int k n::rest/\(Lit.int k n).wf=true/\lS adz rest
 |.none::adz,ad3=> ∃b rest,ad3= .bool b::rest/\lS adz rest
theorem m2{α β:Type}{f:α->Option β}{a:α}{l:List α}{r:List β}(h:(a::l).mapM f=some r): ∃b bs,r=b::bs/\f a=some b/\l.mapM f=some bs:=by
 rw[List.mapM_cons]at h;cases hb:f a with
 |none=>rw[hb]at h;simp at h
 |some b=>
  cases YF:l.mapM f with
  |none=>rw[hb,YF]at h;simp at h
  |some bs=>rw[hb,YF]at h;simp at h;exact⟨b,bs,h.symm,rfl,rfl⟩
end
section
open Go.ChangeShapes Go.RowKit Go.WideShapes
def VE(w:World)(B:Nat)(A:Option Addr)(n size:Nat)(row:Nat->List Value):Prop:=
 0<n->∃b off,A=some ⟨b,off,none⟩/\b<B/\∀i j u,i<n->(row i)[j]? =some u->w.cell? ⟨b,off+(i*size+j),none⟩=some u
theorem VE.keep{w w':World}{B:Nat}{A:Option Addr}{n size:Nat}{row:Nat->List Value}(h:VE w B A n size row)(ae3: ∀p:Addr,p.block<B->w'.cell? p=w.cell? p):VE w' B A n size row:=by
 intro abi;obtain⟨b,off,e,hb,XP⟩:=h abi;exact⟨b,off,e,hb,λi j u hi hu=>(ae3 _ hb).trans (XP i j u hi hu)⟩
theorem VE.below{w w':World}{B B':Nat}{A:Option Addr}{n size:Nat}{row:Nat->List Value}(h:VE w B A n size row)(hb:Below B' w w')(Yq:B<=B'):VE w' B A n size row:=
 h.keep λp aeJ=>hb.cell (aj aeJ Yq)
section
variable{w:World}{B:Nat}{A:Option Addr}{n size:Nat}{row:Nat->List Value}(h:VE w B A n size row)
include w B A n size row h
theorem VE.alloc(Yq:B<=w.heap.size)(o:Obj):VE (w.alloc o) B A n size row:=
 h.below ((Below.refl B w).alloc Yq o) (ai _)
theorem VE.set{p:Addr}(aeJ:B<=p.block)(v:Value):VE (w.setCell p v) B A n size row:=
 h.keep λq VX=>World.cell?_setCell_other w p q v (λe=>by subst e;omega)
theorem VE.at_{i:Nat}(hi:i<n):
 ∃b off,A=some ⟨b,off,none⟩/\b<B/\∀j u,(row i)[j]? =some u->w.cell? ⟨b,off+(i*size+j),none⟩=some u:=by
 obtain⟨b,off,e,hb,XP⟩:=h J;exact⟨b,off,e,hb,λj u hu=>XP i j u hi hu⟩
end
theorem Ie{w:World}{a:Addr}{v:Value}(h:w.cell? a=some v):a.block<w.heap.size:=by
 unfold World.cell? at h;split at h
 ·rename_i hb;exact(Array.getElem?_eq_some_iff.1 hb).1
 ·cases h
def If(k:IntKind)(f:Nat->Int):Nat->List Value:=λi=> [.int k (f i)]
def mT(P:Program)(e:TypeId):Option (List (Option IntKind)):=
 match P.underlying e with
 |some (.struct fs)=>if(List.range fs.size).all (λi=>fs[i]?.all λf=>f.offset==i&&P.cellsOf f.type==1)then fs.toList.mapM λf=>iE P f.type else none
 |_=>(iE P e).map λk=> [k]
section
variable{H:Type}{enc:TypeId×Value->H}{P:Program}{w:World}{base:Nat}{xU:Nat->Bool}{held:Bool}
theorem wU{t:TypeId}{k:Option IntKind}{cM:Nat}{cs:List Value}{x:DataW H×List MemPlace}(ae3:iE P t=some k)(h:DataW.trod enc P w base xU held cM t cs=some x):lS [k] cs:=by
 unfold iE at ae3;cases hu:P.underlying t with
 |none=>rw[hu]at ae3;simp at ae3
 |some d=>
  rw[hu]at ae3;cases d<;>simp at ae3
  ·subst ae3;obtain⟨b,rfl,_⟩:=DataW.trod_bool hu h;exact⟨b,[],rfl,rfl⟩
  ·subst ae3;obtain⟨n,rfl,_,afl⟩:=DataW.trod_int hu h;exact⟨n,[],rfl,afl,rfl⟩
theorem wV: ∀(fs:List Field) (adz:List (Option IntKind)) (cs:List Value),fs.mapM (λf=>iE P f.type)=some adz->cs.length=fs.length->
 (∀i f,fs[i]? =some f->∀k,iE P f.type=some k->lS [k] ((cs.drop i).take 1))->lS adz cs
 | [],adz,cs,ae3,YJ,_=>by
   simp at ae3 YJ
   subst ae3;subst YJ;rfl
 |f::fs,adz,cs,ae3,YJ,h=>by
  obtain⟨k,NT,rfl,iF,bW⟩:=m2 ae3
  match cs,YJ with
  |v::ad3,YJ=>
   have aes:=wV fs NT ad3 bW (by simpa using YJ) λi g afj k ae3=>by
    have:=h (i+1) g (by simpa using afj) k ae3
    simpa using this
   have YM:=h 0 f rfl k iF
   simp at YM
   cases k with
   |none=>obtain⟨b,rest,e,V1⟩:=YM;simp[lS]at V1;subst V1;injection e with e _;exact⟨b,ad3,by rw[e],aes⟩
   |some j=>obtain⟨n,rest,e,afl,V1⟩:=YM;simp[lS]at V1;subst V1;injection e with e _;exact⟨n,ad3,by rw[e],afl,aes⟩
theorem BF{e:TypeId}{adz:List (Option IntKind)}{cM:Nat}{cs:List Value}{x:DataW H×List MemPlace}(ae3:mT P e=some adz)(XP:P.cellsOf e=adz.length)(h:DataW.trod enc P w base xU held cM e cs=some x):lS adz cs:=by
 unfold mT at ae3;split at ae3
 ·next fs hu=>
  split at ae3
  ·next BR=>
   obtain⟨xs,n,_,_,YJ,_,acA⟩:=DataW.trod_struct hu h;have cV: ∀(l:List Field) (adz:List (Option IntKind)),l.mapM (λf=>iE P f.type)=some adz->adz.length=l.length:=by
    intro l;induction l with
    |nil=>intro adz h;simp at h;subst h;rfl
    |cons a l aes=>intro adz h;obtain⟨k,NT,rfl,_,aaV⟩:=m2 h;simp[aes NT aaV]
   refine wV fs.toList adz cs ae3 (by rw[YJ,XP,cV _ _ ae3]) λi f zv k yj=>?_
   have hi:i<fs.size:=by
    have:=(List.getElem?_eq_some_iff.1 zv).1;simpa using this
   have Lh:fs[i]? =some f:=by simpa using zv
   have Xg:=List.all_eq_true.1 BR i (List.mem_range.2 hi);rw[Lh]at Xg;simp at Xg;have:=acA i f Lh;rw[Xg.1,Xg.2]at this;cases Wy:xs[i]? with
   |none=>
    rw[Wy]at this;exfalso;have AA:xs.length=fs.size:=by
     obtain⟨Vl,n',_,_,_,afY,XX⟩:=DataW.trod_struct hu h;omega
    rw[List.getElem?_eq_none_iff]at Wy;omega
   |some y=>rw[Wy]at this;exact wU yj this
  ·simp at ae3
 ·cases VX:iE P e with
  |none=>rw[VX]at ae3;simp at ae3
  |some k=>
   rw[VX]at ae3;simp at ae3;subst ae3;exact wU VX h
theorem Ig{r:Reach}{afg:Nat}{t e:TypeId}{adz:List (Option IntKind)}(afq:P.underlying t=some (.slice e))(ae3:mT P e=some adz)(XP:P.cellsOf e=adz.length)(iF:0<adz.length){v:Value}{d:DataW H}{p:List MemPlace}
 (wW:Value.okWide P w r afg t v)(h:DataW.Trod enc P w base xU held t v d p):
 ∃A n c row,v= .slice A n c/\n<=c/\c<=maxLen/\VE w w.heap.size A n adz.length row/\∀i,i<n->lS adz (row i):=by
 have hv: ∃A n c,v= .slice A n c:=by
  simp only[Value.okWide,afq,Cell.okWide,Cell.ok]at wW;cases v<;>simp_all
 obtain⟨A,n,c,rfl⟩:=hv;obtain⟨cM,h⟩:=h;rcases Go.Deep.open_slice afq h with⟨h1,_⟩|⟨a,len,cap,m,k,aG,afy,h1,hb,YJ,hm,TY,_,Wy⟩
 ·simp[Value.cells]at h1;obtain⟨rfl,rfl,rfl⟩:=h1;exact⟨none,0,0,λ_=> [],rfl,ai _,aL _,λh=>absurd h J,λi hi=>absurd hi J⟩
 ·simp[Value.cells]at h1;obtain⟨rfl,rfl,rfl⟩:=h1;have Vm:n<=m:=by rw[TY];split<;>omega
  obtain⟨row,bT⟩:=Go.Deep.choose_lt (n:=n) (p:=λi (l:List Value)=>l.length=adz.length/\lS adz l/\∀j u,l[j]? =some u->w.cell? (a.add (i*adz.length+j))=some u) (λi hi=>by
   obtain⟨cs',aaV,ZV⟩:=Wy i J;obtain⟨_,cV,c3⟩:=World.cells?_some aaV;refine⟨cs',by rw[cV,XP],BF ae3 XP ZV,λj u hu=>?_⟩;have aeD:j<cs'.length:=(List.getElem?_eq_some_iff.1 hu).1;have:=c3 j J;rw[Go.Deep.add_add,XP,hu]at this;exact this)
  refine⟨some a,n,c,row,rfl,YJ,hm,λabi=>?_,λi hi=>(bT i hi).2.1⟩;obtain⟨b,off,Rc⟩:=a;have YM:=bT 0 abi;obtain⟨u,hu⟩: ∃u,(row 0)[0]? =some u:=⟨_,an (by have:=YM.1;omega)⟩
  have Rd:=YM.2.2 0 u hu;have NU:Rc=none:=by simpa [Addr.add]using World.cell?_spot Rd
  subst NU;refine⟨b,off,rfl,?_,λi j u hi hu=>?_⟩
  ·have:=Ie Rd;simpa [Addr.add]using this
  ·have:=(bT i hi).2.2 j u hu;rwa[Go.WideShapes.add_plain]at this
theorem xV{r:Reach}{afg:Nat}{t e:TypeId}{k:IntKind}(afq:P.underlying t=some (.slice e))(ae3:mT P e=some [some k])(XP:P.cellsOf e=1){v:Value}{d:DataW H}{p:List MemPlace}
 (wW:Value.okWide P w r afg t v)(h:DataW.Trod enc P w base xU held t v d p):
 ∃A n c f,v= .slice A n c/\n<=c/\c<=maxLen/\VE w w.heap.size A n 1 (If k f)/\∀i,(Lit.int k (f i)).wf=true:=by
 obtain⟨A,n,c,row,rfl,h1,aaV,ZV,Ya⟩:=Ig afq ae3 XP aN wW h;have afY: ∀i,∃m,(i<n->row i= [.int k m])/\(Lit.int k m).wf=true:=by
  intro i;by_cases hi:i<n
  ·obtain⟨m,rest,e,afl,V1⟩:=Ya i hi;exact⟨m,λ_=>by rw[e,V1],afl⟩
  ·exact⟨0,λh=>absurd h hi,by cases k<;>decide⟩
 refine⟨A,n,c,λi=>Classical.choose (afY i),rfl,h1,aaV,λabi=>?_,λi=>(Classical.choose_spec (afY i)).2⟩;obtain⟨b,off,e,hb,c3⟩:=ZV abi;refine⟨b,off,e,hb,λi j u hi hu=>c3 i j u hi ?_⟩;rw[(Classical.choose_spec (afY i)).1 hi];exact hu
end
end
section
namespace topTouches
open Go.ChangeShapes Go.WideShapes Go.ChangeAt Go.RowKit
theorem own:ownKnob Tryz.prog.godebug=none:=aM
theorem Ih:laidOutB Tryz.prog=true:=aM
theorem lifted(os:Os)(vt:os.Started)(H:Type)(enc:TypeId×Value->H):
 ReturnsInHanded {} Tryz.checked os 5 .any (Rows.topTouchesSpec.pre6 enc Tryz.prog Tryz.f5 Rows.topTouchesRow.domain false) (Rows.topTouchesSpec.post enc Tryz.prog Tryz.f5 false true false false):=by
 refine returnsInHanded_of_change (C:=Tryz.checked) own vt aM Tryz.func5
  (ChangeSpec.witness6 (enc:=enc) (C:=Tryz.checked) false ⟨#[],#[.slice none 0 0],[]⟩ 8 aM aM aM aM) ?_
 intro W base args ds gs before Ii ae9 hcnd _;have wW: ∀(j:Nat) t v,Tryz.f5.params[j]? =some t->args[j]? =some v->Value.okWide Tryz.prog W .any base t v:=Ii;have Nm:=ae9;obtain⟨p,q,Re,Yg,rfl,tc,gf⟩:=ae9;have adu:DataW.TrodAll enc Tryz.prog W 0 (λ_=>true) true Tryz.f5.params.toList args.toList ds p:=Re;rw[Tryz.params5]at adu wW;obtain⟨Xr,Vn,d0,Vo,AD,Zh,TZ,rfl,rfl,YM,V4⟩:=trodAll_cons adu;obtain⟨rfl,rfl,rfl⟩:=trodAll_nil V4;obtain rfl:args= #[Xr]:=by cases args;simp_all
 obtain⟨rfl,rfl⟩:=trodVars_none Yg;have acZ:=YM;have T0: ∀x∈AD,x.block<W.heap.size:=by obtain⟨m,hm⟩:=acZ;exact DataW.trod_lt m _ _ _ hm
 obtain⟨Zk,AA,VI,AE,rfl,T1,T2,YE,AH⟩:=xV (k:=.u8) Tryz.underlying22 aM aM (wW 0 22 Xr rfl rfl) acZ;clear Re Ii;refine(agn Ic W (λ_=>True) (.slice Zk AA VI) AA AE ⟨Zk,VI,rfl,T1,T2,λabi=>by obtain⟨b,off,e,hb,h⟩:=YE abi;exact⟨b,off,e,trivial,hb,h⟩⟩ (λi=>Kv (AH i)) (D T1 T2)).mono λe W' ⟨V1,AS⟩=>?_
 subst V1;exact⟨_,rfl,_,_,_,[],_,[],Nm,trodAll_mk1 (shut_bool Tryz.underlying4 _),(trodAll_cons_mk (Below.trod Ih aM (of_decide_eq_true aM) acZ AS T0) trodAll_mk0),rfl,AS.frame _,λh=>by cases h⟩
theorem Rf:Rows.topTouchesRow.holds Tryz.pinned (OpenSpec.ofChange Rows.topTouchesSpec):=
 OpenClaim.holds_of_wide 5 Tryz.f5 rfl rfl rfl rfl rfl rfl rfl ⟨rfl,rfl,rfl,rfl,rfl⟩ rfl rfl rfl rfl rfl (by as_aux_lemma=>kernel_rfl) Tryz.func5 (by unfold joinedFacts;(repeat' (with_reducible refine Bool.and_eq_true_iff.2 ⟨?_,?_⟩))<;>as_aux_lemma=>kernel_rfl)
  (by as_aux_lemma=>exact of_decide_eq_true aM) (by as_aux_lemma=>unfold Func.isWrapper;first|(rw[Z (by decide+kernel)];kernel_rfl)|(rw[Y (by decide+kernel)];exact⟨rfl,rfl⟩))
  (λos vt H enc _=>lifted os vt H enc)
theorem proved:Rows.TopTouchesSaid:=Rf
end topTouches
end
end Go.Proofs.YtcimojgkeoecfaaGreat
