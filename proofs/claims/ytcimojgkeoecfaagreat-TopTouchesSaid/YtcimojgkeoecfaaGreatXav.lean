import Derived.Test.YtcimojgkeoecfaaGreatXau
set_option linter.all false
set_option maxHeartbeats 16000000
set_option maxRecDepth 100000
namespace Go.Proofs.YtcimojgkeoecfaaGreat
open Go.RowKit Tryz
structure lv(o:jc):Prop where
 op:0<=o.op/\o.op<=4
 a:0<=o.a/\(o.op=0->o.a<=99)/\(o.op≠0->o.a<=5)/\(o.op=4->o.a=0)
 b:0<=o.b/\(o.op=0\/o.op=1\/o.op=4->o.b=0)/\(o.op=2->o.b<=5)/\(o.op=3->o.b<=8)
theorem sj(w0:World)(S:Nat->Prop)(v:Value)(F:b1)(Vs:Nat->Value)(h:eF w0 S v F Vs)(hF:F.length<=8)(adS: ∀l,l∈F->l.length<=8/\∀o,o∈l->lv o):
 Calls prog 70 #[v] w0 fun e w'=>e= .returned (.bool true)/\Below w0.heap.size w0 w':=by
 obtain⟨A,c,rfl,h1,aaV,ZV⟩:=id h.row;obtain⟨n,abi⟩: ∃n,F.length=n:=⟨_,rfl⟩
 rw[abi]at hF;rw[abi]at h1 ZV⊢;have Yl:=I h.each;have afJ:=I ZV;have ZG:=I abi;replace adS:=I adS;have U:=aah.a0 w0;clear h h1 aaV ZV abi;go_enter func70,ntmps70;go_upto_region 1 with(first|(refine aq ?_)|(refine VP U js ?_;clear U;intro l4 w U kH)|(refine aT ?_;clear U;intro X8 w U aay))
 have XL:decide ((n:Int)<=8)=true:=by simp;omega
 go_wp2_with(first|(go_at_call 126;refine a6 U (l3 _) ?_;clear U;intro aaM U)|(refine aq ?_)|(refine VP U js ?_;clear U;intro l4 w U kH)|(refine aT ?_;clear U;intro X8 w U aay));have eB:=I U;clear U;go_loopw [11] (fun i wr=> ∃k:Nat,k<=n/\i= .int .i64 k/\aah w0 (fun _=>True) wr none [⟨l4,236,[.int .i64 99,.int .i64 0,.func (.func 202) #[] #[],.int .i64 5,.int .i64 0,.func (.func 203) #[] #[],.int .i64 5,.int .i64 5,.func (.func 205) #[] #[],.int .i64 5,.int .i64 8,.func (.func 206) #[] #[],.int .i64 0,.int .i64 0,.func (.func 207) #[] #[]]⟩]) (fun i _=>n-(intOf i).toNat)
 case atStart=>exact⟨0,J,rfl,eB.out⟩
 case round=>
  obtain⟨k,ae3,rfl,U⟩:=hrel;clear eB;by_cases bV:k<n
  ·obtain⟨b,off,rfl,YF,fC,XP⟩:=afJ.out J;have Wy:=(U.all.cell (p:=⟨b,off+k,none⟩) fC).trans (by simpa using XP k 0 _ bV rfl);have vB:k<F.length:=by rw[ZG.out];exact bV
   have YJ:=Yl.out k F[k] (an vB);obtain⟨aeQ,adr,abF,-,-,uu⟩:=id YJ;have abk:=adS.out F[k] (bA vB);generalize F[k]=l at YJ abF uu abk;rw[abF]at Wy;obtain⟨m,hm⟩: ∃m,l.length=m:=⟨_,rfl⟩
   have L4:=abk.1;rw[hm]at Wy uu L4;have aey:=I hm;have L5:=I abk.2;have L6:=I uu;have aaX:(k:Int)<(n:Int):=J;have afQ:(0:Int)<=(k:Int):=J;have YK:decide ((m:Int)>8)=false:=by simp;omega
   clear hm abk uu XP YJ abF vB;go_wp2_with(first|(refine aq ?_)|(refine VP U js ?_;clear U;intro l4 w U kH)|(refine aT ?_;clear U;intro X8 w U aay));have eB:=I U;clear U Wy;go_loopw [17] (fun i wr=> ∃q:Nat,q<=m/\i= .int .i64 q/\aah w0 (fun _=>True) wr none [⟨l4,236,[.int .i64 99,.int .i64 0,.func (.func 202) #[] #[],.int .i64 5,.int .i64 0,.func (.func 203) #[] #[],.int .i64 5,.int .i64 5,.func (.func 205) #[] #[],.int .i64 5,.int .i64 8,.func (.func 206) #[] #[],.int .i64 0,.int .i64 0,.func (.func 207) #[] #[]]⟩]) (fun i _=>m-(intOf i).toNat)
   case atStart=>exact⟨0,J,rfl,eB.out⟩
   case round=>
    obtain⟨q,VX,rfl,U⟩:=hrel;clear eB;by_cases AD:q<m
    ·obtain⟨abT,wl,rfl,lg,be,c7⟩:=L6.out J;have AE:q<l.length:=by rw[aey.out];exact AD
     have ZQ:=L5.out l[q] (bA AE);have afj:jQ l q= [.int .u8 l[q].op,.int .i64 l[q].a,.int .i64 l[q].b]:=by unfold jQ;rw[an AE]
     generalize l[q]=o at ZQ afj;have acZ:=(U.all.cell (p:=⟨abT,wl+q*3,none⟩) be).trans (c7 q 0 _ AD (by rw[afj];rfl));have adX:=(U.all.cell (p:=⟨abT,wl+q*3+1,none⟩) be).trans (c7 q 1 _ AD (by rw[afj];rfl));have acN:=(U.all.cell (p:=⟨abT,wl+q*3+2,none⟩) be).trans (c7 q 2 _ AD (by rw[afj];rfl));have Zh:(q:Int)<(m:Int):=J;have q1:(0:Int)<=(q:Int):=J;obtain⟨op,a,b'⟩:=o;obtain⟨vz,⟨aH,ru,Fk,L7⟩,N,yP,fB,h3⟩:=ZQ;simp only at vz aH ru Fk L7 N yP fB h3 acZ adX acN;have acf:=I (show op=0/\a<=99/\b'<=0\/op=1/\a<=5/\b'<=0\/op=2/\a<=5/\b'<=5\/op=3/\a<=5/\b'<=8\/op=4/\a<=0/\b'<=0 by
      rcases(by omega:op=0\/op=1\/op=2\/op=3\/op=4)with e|e|e|e|e
      ·have:=ru e;have:=yP (.inl e);omega
      ·have:=Fk J;have:=yP (.inr (.inl e));omega
      ·have:=Fk J;have:=fB e;omega
      ·have:=Fk J;have:=h3 e;omega
      ·have:=L7 e;have:=yP (.inr (.inr e));omega)
     clear c7 afj AE ru Fk L7 yP fB h3;go_upto_region 8 with(first|(refine aq ?_)|(refine VP U js ?_;clear U;intro l4 w U kH)|(refine aT ?_;clear U;intro X8 w U aay))
     clear acZ adX acN;have aal:IntKind.i64.wrap op=op:=by rw[IntKind.wrap_i64];omega
     rcases acf.out with⟨rfl,ba,bb⟩|⟨rfl,ba,bb⟩|⟨rfl,ba,bb⟩|⟨rfl,ba,bb⟩|⟨rfl,ba,bb⟩<;>(
      replace U:=U.drew;refine b0 ?_;intro X;refine az [[0,1,2,3,4,5,6,7,8,9,10,11]] ?_;refine aF 12 fun K Z7=>?_;go_simp
      (first|(go_at_call 104;refine(bm _ _ _ _ J J).mono ?_;rintro e w' ⟨rfl,rfl⟩)|skip)
      (try go_wp2_with fail)
      refine abR Z7 fun X=>?_;refine az [[13,14,15,16,17,18,19,20,21,22]] ?_;refine aF 23 fun K Z7=>?_;go_simp
      (first|(go_at_call 104;refine(bm _ _ _ _ J J).mono ?_;rintro e w' ⟨rfl,rfl⟩)|skip)
      (try go_wp2_with fail)
      refine abR Z7 fun X=>?_;refine az [[24,25]] ?_;dsimp only[Exit.then]
      apply_assumption
      go_wp2_with(first|(refine aq ?_)|(refine VP U js ?_;clear U;intro l4 w U kH)|(refine aT ?_;clear U;intro X8 w U aay));go_roundw
      case rel=>exact⟨q+1,J,by go_num,U.drop (fun x Wy=>ao _ Wy) (List.nodup_cons.1 U.aed).2⟩
      case measure=>simp[intOf];omega)
    ·obtain rfl:q=m:=by omega
     have Zh: ¬(q:Int)<(q:Int):=J;go_wp2_with(first|(refine aq ?_)|(refine VP U js ?_;clear U;intro l4 w U kH)|(refine aT ?_;clear U;intro X8 w U aay));go_roundw
     case rel=>exact⟨k+1,J,by go_num,U⟩
     case measure=>simp[intOf];omega
  ·obtain rfl:k=n:=by omega
   have Zh: ¬(k:Int)<(k:Int):=J;go_wp2_with(first|(refine aq ?_)|(refine VP U js ?_;clear U;intro l4 w U kH)|(refine aT ?_;clear U;intro X8 w U aay));go_ret;exact⟨rfl,U.all⟩
section
theorem nT{G:Prop}(h:G:=by
 rcases h with h|⟨i,_,hi,aaV,_⟩
 ·exact h.1
 ·have hm:l.getD i ⟨0,0⟩∈l:=by
   rw[ae,an (by omega)];exact bA _
  have:=dU _ hm;simp only[decide_eq_true_eq]at aaV;omega):G:=h
theorem nU{G:Prop}(h:G:=by
 rw[ae,aA (by omega),an (by omega)];exact dU _ (bA _)):G:=h
theorem nV{G:Prop}(h:G:=by
 rcases h with⟨_,h⟩|⟨i,YM,hi,aaV,ZV⟩
 ·have:=h p abi;rw[Wy]at this;simp only[decide_eq_false_iff_not]at this;omega
 ·rw[YM];simp only[decide_eq_true_eq]at aaV;rcases Nat.lt_trichotomy i p with c|c|c
  ·have:=bV i c;omega
  ·rw[c]
  ·have:=ZV p c;rw[Wy]at this;simp only[decide_eq_false_iff_not]at this;omega):G:=h
def bu(l:List Ext):List Value:=l.flatMap fun x=> [.int .i64 x.a,.int .i64 x.z]
theorem eS(x:Ext)(l:List Ext):bu (x::l)= .int .i64 x.a:: .int .i64 x.z::bu l:=rfl
theorem dS(l m:List Ext):bu (l++m)=bu l++bu m:=by simp[bu]
theorem e3(l:List Ext):(bu l).length=l.length*2:=by
 induction l with
 |nil=>rfl
 |cons x l aes=>rw[eS];simp[aes];omega
theorem wm(l:List Ext):(bu l).all (·.oneCell')=true:=by
 induction l with
 |nil=>rfl
 |cons x l aes=>rw[eS,List.all_cons,List.all_cons,aes];rfl
def eP(l:List Ext)(i:Nat):List Value:=match l[i]? with
 |some x=> [.int .i64 x.a,.int .i64 x.z]
 |none=> [.int .i64 0,.int .i64 0]
theorem kn(l:List Ext)(n:Nat):hl n 2 (eP l):=by
 intro i _;unfold eP;cases l[i]? with
 |none=>exact⟨rfl,fun u hu=>by simp at hu;subst hu;rfl⟩
 |some e=>exact⟨rfl,fun u hu=>by simp at hu;rcases hu with rfl|rfl<;>rfl⟩
theorem sk(l:List Ext)(i j:Nat)(u:Value)(hi:i<l.length)(h:(eP l i)[j]? =some u):(bu l)[i*2+j]? =some u:=by
 induction l generalizing i with
 |nil=>simp at hi
 |cons x l aes=>
  cases i with
  |zero=>
   have aeD:j<2:=by
    have:=(List.getElem?_eq_some_iff.1 h).1;simpa [eP]using this
   rw[eS];rcases(by omega:j=0\/j=1)with rfl|rfl<;>simpa [eP]using h
  |succ i=>
   rw[eS];have:=aes i (by simpa using hi) (by simpa [eP]using h);rw[show(i+1)*2+j=(i*2+j)+1+1 from J];simpa using this
structure cY(w:World)(aff rg:Nat)(a4 aaY:Int)(l:List Ext):Prop where
 ex: ∃v,ah w aff 363 ([.int .i64 a4,.int .i64 aaY,v]:List Value).toArray/\(v= .slice none 0 0/\l= []/\rg=aff/\aaY<=a4\/
  ∃cap rest,v= .slice (some ⟨rg,0,none⟩) l.length cap/\ah w rg 130 (bu l++rest).toArray/\l.length<=cap/\cap<=maxLen/\(bu l++rest).length=cap*2/\aff≠rg)
theorem mF{w:World}{rg cap:Nat}{l:List Ext}{rest:List Value}(h:ah w rg 130 (bu l++rest).toArray)(h1:l.length<=cap)(aaV:cap<=maxLen):acr w (fun b=>b=rg) (.slice (some ⟨rg,0,none⟩) l.length cap) l.length 2 (eP l):=
 ⟨_,_,rfl,h1,aaV,fun _=>⟨rg,0,rfl,rfl,h.lt,fun i j u hi hu=>by
   have ZV:=sk l i j u hi hu
   rw[ax,h.cell,aE,aA (List.getElem?_eq_some_iff.1 ZV).1]
   exact ZV⟩⟩
theorem cY.lt{w:World}{aff rg:Nat}{a4 aaY:Int}{l:List Ext}(h:cY w aff rg a4 aaY l):aff<w.heap.size/\rg<w.heap.size:=by
 obtain⟨v,h1,aaV|⟨cap,rest,_,ZV,_⟩⟩:=h.ex
 ·exact⟨h1.lt,by rw[aaV.2.2.1];exact h1.lt⟩
 ·exact⟨h1.lt,ZV.lt⟩
theorem cY.Wu{w w':World}{aff rg:Nat}{a4 aaY:Int}{l:List Ext}(h:cY w aff rg a4 aaY l)(aal:w'.heap[aff]? =w.heap[aff]?)(abF:w'.heap[rg]? =w.heap[rg]?):cY w' aff rg a4 aaY l:=by
 obtain⟨v,h1,aaV⟩:=h.ex;refine⟨v,aal.trans h1,?_⟩;rcases aaV with aaV|⟨cap,rest,ZV,Ya,afY⟩
 ·exact .inl aaV
 ·exact .inr ⟨cap,rest,ZV,abF.trans Ya,afY⟩
section
variable(w:World)(YU:Nat)(m a z:Int)(hb:ah w YU 3 #[.int .i64 m])
include w YU m a z hb
theorem pS:
 Calls prog 318 #[.agg #[.int .i64 a,.int .i64 z],.pointer (some ⟨YU,0,none⟩)] w fun e w'=>e= .returned (.bool (decide (m<=z)))/\Below w.heap.size w w':=by
 have VI:=(hb.alloc (.cells #[.int .i64 a,.int .i64 z] 130)).cell 0;go_enter func318,ntmps318;go_wp2_with fail;go_ret;exact⟨rfl,(Below.refl _ _).alloc (ai _) _⟩
theorem uv(aeN:0<=a/\a<=65536/\0<=z/\z<=65536):
 Calls prog 337 #[.agg #[.int .i64 a,.int .i64 z],.pointer (some ⟨YU,0,none⟩)] w fun e w'=>e= .returned (.bool (decide (m<a+z)))/\Below w.heap.size w w':=by
 have VI:=(hb.alloc (.cells #[.int .i64 a,.int .i64 z] 130)).cell 0;go_enter func337,ntmps337;go_wp2_with fail;go_ret;exact⟨rfl,(Below.refl _ _).alloc (ai _) _⟩
end
theorem yQ{P:Program}(w:World)(t e Yn:TypeId)(z:Value)(bytes:Nat)(afq:P.underlying t=some (.slice e))(cC:(P.info? e).map (fun i=>(i.zero,i.size,i.bytes))=some (some z,2,bytes))(abg aeC:Value)(aeN:z.cells= #[abg,aeC])(ZQ:abg.oneCell'=true/\aeC.oneCell'=true)(g o c:Nat)(cS:Array Value)(VO:TypeId)(afj:w.heap[g]? =some (.cells cS VO (0,0)))(ed:o+2<=cS.size):
 (Builtin.clear_ #[t] Yn #[.slice (some ⟨g,o,none⟩) 1 c]).run P w= .ok (.tuple #[]) (w.setRow g (cS.toList.take o++ [abg,aeC]++cS.toList.drop (o+2)).toArray):=by
 obtain⟨i,hi,L8,YF,jt⟩:=info_parts cC;have cx:=run_storeCells_at P g o VO [abg,aeC] 0 cS w afj (by simpa using ed) (fun v hv=>by simp at hv;rcases hv with rfl|rfl;exact ZQ.1;exact ZQ.2);simp only[cZ]at cx;have Si:(Builtin.zeroCells #[abg,aeC] 1).toList= [abg,aeC]:=by
  unfold Builtin.zeroCells;have abF:(1*(#[abg,aeC]:Array Value).size)=2:=rfl;rw[abF,show Array.range 2= #[0,1]from am,b8];rfl
 simp[Builtin.clear_,run_underlying afq,zeroValue,typeInfo,hi,L8,aeN,Si,cx]
theorem iA(l:List Ext)(i:Nat)(hi:i<l.length): ∃a b,eP l i= [a,b]/\(.agg #[.int .i64 (l.getD i ⟨0,0⟩).a,.int .i64 (l.getD i ⟨0,0⟩).z]:Value)= .agg #[a,b]:=by
 refine⟨_,_,?_,rfl⟩;unfold eP;rw[ae,an hi];rfl
theorem yR{l:List Ext}{n:Nat}{m r:Int}(YJ:l.length=n)(dU: ∀y,y∈l->y.z<m)(h:r= -1/\(∀i,i<n->(decide (m<=(l.getD i ⟨0,0⟩).z))=false)\/∃i:Nat,r=i/\i<n/\decide (m<=(l.getD i ⟨0,0⟩).z)=true/\∀j,j<i->decide (m<=(l.getD j ⟨0,0⟩).z)=false):r= -1:=by
 exact nT
theorem yS{pre post:List Ext}{x:Ext}{p n:Nat}{m r:Int}(aeJ:pre.length=p)(abi:p<n)(ed:m<=x.z)(dU: ∀y,y∈pre->y.z<m)(h:r= -1/\(∀i,i<n->(decide (m<=((pre++x::post).getD i ⟨0,0⟩).z))=false)\/∃i:Nat,r=i/\i<n/\decide (m<=((pre++x::post).getD i ⟨0,0⟩).z)=true/\∀j,j<i->decide (m<=((pre++x::post).getD j ⟨0,0⟩).z)=false):r=p:=by
 have Wy:(pre++x::post).getD p ⟨0,0⟩=x:=by
  rw[ae,ay J,aeJ,Nat.sub_self];rfl
 have bV: ∀i,i<p->((pre++x::post).getD i ⟨0,0⟩).z<m:=fun i hi=>by
  exact nU
 exact nV
section
variable{P T:List Value}
include P T
theorem rv{u v:Value}{n:Nat}(h:P.length=n):(P++u::v::T)[n]? =some u:=by
 rw[ay J,h,Nat.sub_self];rfl
theorem rx{u v:Value}{n:Nat}(h:P.length=n):(P++u::v::T)[n+1]? =some v:=by
 rw[ay J,h,show n+1-n=1 from J];rfl
theorem Fm{u v x:Value}{n:Nat}(h:P.length=n):er (P++u::v::T) n [x]=P++x::v::T:=by
 subst h;unfold er;simp
theorem AG{u v x:Value}{n:Nat}(h:P.length=n):er (P++u::v::T) (n+1) [x]=P++u::x::T:=by
 subst h;unfold er;rw[List.take_append,cm J,show P.length+1-P.length=1 from J,List.drop_append,cl (by simp;omega),show P.length+1+ [x].length-P.length=2 from by simp;omega];simp
end
end
section
variable{w0 w:World}{S:Nat->Prop}{A:Option XS}{L L':List abN}{P:Program}{o:Oper}{a:Act}{K:Act->World->Prop}{Q:Exit->Act->World->Prop}{ops:Array Oper}{rest:List Oper}
theorem sU(h:aah w0 S w A L)(s x:Operand)(t e:TypeId)(ZQ:o.op= .call {callee:=.builtin .append,args:= #[s,x],argTypes:= #[t,t]})(sz:Nat)(afq:P.underlying t=some (.slice e))(cC:(P.info? e).map (·.size)=some sz)
 (g m q cap c':Nat)(B:Option Addr)(cs news:List Value)(YF:a.eval s= .slice (some ⟨g,0,none⟩) m cap)(Wy:a.eval x= .slice B q c')(YJ:news.length=q*sz)(Yq:q=0\/∃off,B=some ⟨g,off,none⟩/\∀j u,news[j]? =some u->cs[off+j]? =some u)
 (AH:m+q<=cap)(ed:m*sz+news.length<=cs.length)(h1:news.all (·.oneCell')=true)(XJ:aco L g e cs (cs.take (m*sz)++news++cs.drop (m*sz+news.length)) L')
 (Z7: ∀w',aah w0 S w' A L'->K (a.put o.dst (.slice (some ⟨g,0,none⟩) (m+q) cap)) w'):Oper.wp P o a w K Q:=by
 rcases Yq with rfl|⟨off,rfl,abi⟩
 ·have abk:=ju (P:=P) w t o.type e sz afq cC (fun k=>by rw[afq];simp) (some ⟨g,0,none⟩) B m cap c' J;have:news= []:=dn (by simpa using YJ);subst this;refine Lib.wp_append_run w s x t t ZQ _ _ YF Wy _ _ abk (Z7 w (h.hX XJ ?_ (ce.refl _ _ _)));simpa using h.b XJ.aB
 ·obtain⟨i,hi,dI⟩:=Option.map_eq_some_iff.1 cC;subst dI;have hb:=h.b XJ.aB;have abk:=run_append_room (P:=P) w t o.type e i afq hi g m cap cs.toArray hb ⟨g,off,none⟩ q c' news YJ (fun j u hu=>by rw[iL,hb.cell,aE];exact abi j u hu) (fun u hu=>List.all_eq_true.1 h1 u hu) AH (by simpa using ed);refine Lib.wp_append_run w s x t t ZQ _ _ YF Wy _ _ abk (Z7 _ (h.hX XJ (setRow_heap w g _ _ e _ hb) ⟨rfl,rfl,rfl,by simp[World.setRow],fun k ae3 abi=>setRow_other w g k _ abi⟩))
theorem nW(h:aah w0 S w A L)(dj:o.guard=none)(x:Operand)(t e:TypeId)(ZQ:o.op= .call {callee:=.builtin .clear,args:= #[x],argTypes:= #[t]})(z:Value)(bytes:Nat)(afq:P.underlying t=some (.slice e))(cC:(P.info? e).map (fun i=>(i.zero,i.size,i.bytes))=some (some z,2,bytes))(abg aeC:Value)(aeN:z.cells= #[abg,aeC])(h1:abg.oneCell'=true/\aeC.oneCell'=true)
 (g off abf c:Nat)(abi:abf=1)(Wy:a.eval x= .slice (some ⟨g,off,none⟩) abf c){t':TypeId}(cs:List Value)(ed:off+2<=cs.length)(XJ:aco L g t' cs (cs.take off++ [abg,aeC]++cs.drop (off+2)) L')
 (Z7: ∀w',aah w0 S w' A L'->wpList P ops Q rest (a.put o.dst (.tuple #[])) w'):wpList P ops Q (o::rest) a w:=by
 subst abi;refine wpList_plain dj fun K k=>?_;have hb:=h.b XJ.aB;have abk:=yQ (P:=P) w t e o.type z bytes afq cC abg aeC aeN h1 g off c cs.toArray t' hb (by simpa using ed);have aaV:=k _ _ (Z7 _ (h.hX XJ (setRow_heap w g _ _ t' _ hb) ⟨rfl,rfl,rfl,by simp[World.setRow],fun k ae3 abi=>setRow_other w g k _ abi⟩));unfold Oper.wp execOp;simp only[ZQ,resolve,invoke,builtin,Sem.run_bind,Sem.run_pure,Result.andThen_ok,b8,aS,ck,Wy,abk];exact aaV
theorem wn(w0:World)(rg cap m q:Nat)(pre post:List Ext)(x:Ext)(aei:List Value)(hm:pre.length=m)(VX:post.length=q)(hb:ah w0 rg 130 (bu pre++(.int .i64 x.a:: .int .i64 x.z::(bu post++aei))).toArray)(XP:m+1+q<=cap)(c7:cap<=maxLen)(cV:(bu pre++(.int .i64 x.a:: .int .i64 x.z::(bu post++aei))).length=cap*2):
 Calls prog 319 #[.slice (some ⟨rg,0,none⟩) (m+1+q) cap,.int .i64 m,.int .i64 (m+1)] w0 fun e w'=>e= .returned (.slice (some ⟨rg,0,none⟩) (m+q) cap)/\ah w' rg 130 (bu pre++(bu post++(.int .i64 0:: .int .i64 0::aei))).toArray/\ce w0.heap.size rg w0 w':=by
 unfold maxLen at c7;have U:=aah.g8 hb;have IK:=e3 pre;have Fo:=e3 post;rw[hm]at IK;rw[VX]at Fo;obtain⟨cs,L9⟩: ∃cs,Hid (bu pre++(.int .i64 x.a:: .int .i64 x.z::(bu post++aei))=cs):=⟨_,I rfl⟩
 have O0: ∀j u,(bu post)[j]? =some u->cs[(m+1)*2+j]? =some u:=fun j u hu=>by
  rw[<-L9.out,ay J,IK,show(m+1)*2+j-m*2=j+1+1 from J,cz,cz,aA (List.getElem?_eq_some_iff.1 hu).1];exact hu
 have aal:cs.take (m*2)++bu post++cs.drop (m*2+(bu post).length)=bu pre++bu post++(.int .i64 x.a:: .int .i64 x.z::(bu post++aei)).drop (q*2):=by
  rw[<-L9.out,cJ J,cm J,Fo,List.drop_append,cl J,au,IK];congr 2;omega
 have abF:(bu pre++bu post++(.int .i64 x.a:: .int .i64 x.z::(bu post++aei)).drop (q*2)).take ((m+q)*2)++ [.int .i64 0,.int .i64 0]++(bu pre++bu post++(.int .i64 x.a:: .int .i64 x.z::(bu post++aei)).drop (q*2)).drop ((m+q)*2+2)=bu pre++(bu post++(.int .i64 0:: .int .i64 0::aei)):=by
  have adf:(bu pre++bu post).length=(m+q)*2:=by simp;omega
  rw[cJ J,cm J,List.drop_append,cl J,au,adf,List.drop_drop,show q*2+((m+q)*2+2-(m+q)*2)=q*2+1+1 from J,c8,c8,List.drop_append,cl J,Fo,Nat.sub_self,au,List.drop_zero];simp
 have aej:=I aal;have afZ:=I abF;have yT:=I O0;have WS:=I cV;rw[L9.out]at U WS;have Sj:bu pre++bu post++(.int .i64 x.a:: .int .i64 x.z::(bu post++aei)).drop (q*2)=bu pre++bu post++(.int .i64 x.a:: .int .i64 x.z::(bu post++aei)).drop (q*2):=rfl;obtain⟨ds,O1⟩: ∃ds,Hid (bu pre++bu post++(.int .i64 x.a:: .int .i64 x.z::(bu post++aei)).drop (q*2)=ds):=⟨_,I rfl⟩
 have Fp:ds.length=cap*2:=by
  rw[<-O1.out];simp only[ak,List.length_drop,aI]at cV⊢;omega
 have O2:=I Fp;rw[O1.out]at aej afZ;have afg:(0:Int)<=(m:Int):=J;have acW:(m:Int)<=(m:Int)+1:=J;have abT:(m:Int)+1<=(m:Int)+1+(q:Int):=J;have YR:(m:Int)+1+(q:Int)<=(cap:Int):=J;have adv:(m:Int)<=(cap:Int):=J;have WT:(0:Int)<=(q:Int):=J;have abB:(0:Int)<=(m:Int)+1:=J;have WQ:(0:Int)<=(m:Int)+(q:Int):=J;have aaf:(m:Int)+(q:Int)<=(m:Int)+1+(q:Int):=J;have IL:=I Fo;clear hb aal abF O0 cV Sj Fp IK Fo hm VX;by_cases O3:cap=m+1
 ·obtain rfl:q=0:=by omega
  subst O3;go_enter func319,ntmps319;go_wp2_with fail;replace U:=U.drew;refine wp_region_held_drew (S:=(fun _=>True)) aM ?_ (fun X=>?_)
  ·trivial
  refine az [[0,1,2,3,4,5]] ?_;refine aF 6 fun K Z7=>?_;rw[Z (by rfl)];refine sU U _ _ 58 130 rfl 2 rfl aM rg m 0 (m+1) _ _ cs (bu post) rfl rfl IL.out (.inl rfl) J (by have:=WS.out;have:=IL.out;omega) (wm _) (by rw[aej.out];exact cf) ?_;clear U;intro w U;refine WE Z7 fun X=>?_;refine Xh 7 ?_;refine adB ?_;go_wp2_with(first|(refine nW U rfl _ 58 130 rfl (.agg #[.int .i64 0,.int .i64 0]) 16 rfl aM (.int .i64 0) (.int .i64 0) rfl ⟨rfl,rfl⟩ rg ((m+0)*2) 1 _ J (by first|rfl|simp) ds (by have:=O2.out;omega) (by rw[afZ.out];exact cf) ?_;clear U;intro w U;refine cN ?_));go_ret;exact⟨rfl,U.b (g:=rg) ag,U.mW⟩
 ·have Uy: ¬(cap=m+q):=by omega
  have lj:m+1+q-(m+q)=1:=J;have O4: ¬((m:Int)+1=(cap:Int)):=J;have fc:(m:Int)+1<(cap:Int):=J;go_enter func319,ntmps319;go_wp2_with fail;replace U:=U.drew;refine wp_region_held_drew (S:=(fun _=>True)) aM ?_ (fun X=>?_)
  ·trivial
  refine az [[0,1,2,3,4,5]] ?_;refine aF 6 fun K Z7=>?_;rw[Z (by rfl)];refine sU U _ _ 58 130 rfl 2 rfl aM rg m q cap _ _ cs (bu post) rfl rfl IL.out (.inr ⟨(m+1)*2,by first|rfl|simp,yT.out⟩) J (by have:=WS.out;have:=IL.out;omega) (wm _) (by rw[aej.out];exact cf) ?_;clear U;intro w U;refine WE Z7 fun X=>?_;refine Xh 7 ?_;refine adB ?_;go_wp2_with(first|(refine nW U rfl _ 58 130 rfl (.agg #[.int .i64 0,.int .i64 0]) 16 rfl aM (.int .i64 0) (.int .i64 0) rfl ⟨rfl,rfl⟩ rg ((m+q)*2) (m+1+q-(m+q)) _ J (by first|rfl|simp) ds (by have:=O2.out;omega) (by rw[afZ.out];exact cf) ?_;clear U;intro w U;refine cN ?_));go_ret;exact⟨rfl,U.b (g:=rg) ag,U.mW⟩
end
section
section
variable(w0:World)(aff rg:Nat)(a4 aaY m:Int)(l:List Ext)(hm:8<=m/\m<=65536/\m %8=0)(cV:l.length<=65536)(dU: ∀y,y∈l->y.z<m)
include w0 aff rg a4 aaY m l hm cV dU
theorem Fq(cap:Nat)(rest:List Value)(abk:ah w0 rg 130 (bu l++rest).toArray)(XP:l.length<=cap)(c7:cap<=maxLen)(hb:ah w0 aff 363 ([.int .i64 a4,.int .i64 aaY,.slice (some ⟨rg,0,none⟩) l.length cap]:List Value).toArray):
 Calls prog 265 #[.pointer (some ⟨aff,0,none⟩),.int .i64 m] w0 fun e w'=>e= .returned (.tuple #[.int .i64 0,.bool false])/\Below w0.heap.size w0 w':=by
 have hL:=I (mF abk XP c7);obtain⟨ab1,fH⟩: ∃ab1,Hid (l.length=ab1):=⟨_,I rfl⟩
 rw[fH.out]at hL hb XP cV;have mx:=I dU;have ab7: ∀args w,(callFunc 318 args).run prog w= .ok (.enter 318 args) w:=enters_of func318 aM rfl;have ae6:=I ab7;have rs: ∀(fn:Fn) (first cap:Array Value) (w:World),(Instr.makeFunc fn first cap).run prog w= .ok (.func fn first cap) w:=fun _ _ _ _=>rfl;have U:=aah.g8 hb;have aav:=I hb;have af6:(0:Int)<=m:=J;have adL:decide (m<1)=false:=by simp;omega
 have Yz:(m %8 !=0)=false:=by simp;omega
 clear dU ab7 hb abk;go_enter func265,ntmps265;go_wp2_with(first|(go_at_call 301;have Yq:=U.b (g:=ad2) ag;refine Calls.mono (jw _ (fun b=>b=rg) (.slice (some ⟨rg,0,none⟩) ab1 cap) ab1 (eP l) (fun i=>.agg #[.int .i64 (l.getD i ⟨0,0⟩).a,.int .i64 (l.getD i ⟨0,0⟩).z]) 318 #[.pointer (some ⟨ad2,0,none⟩)] (fun i=>decide (m<=(l.getD i ⟨0,0⟩).z)) ae6.out (hL.out.below (U.ro aav.out ag)) (fun i hi=>iA l i (by rw[fH.out];exact hi)) J (fun i hi w' afl=>pS w' _ m _ _ (Yq.below afl Yq.lt))) ?_;rintro e aaM ⟨r,rfl,abk,N⟩;replace U:=U.below N;clear Yq N;obtain rfl:r= -1:=yR fH.out mx.out abk;clear abk)|(refine aq ?_)|(refine Ws U 3 ?_;clear U;intro ad2 w U j7)|(refine ac2 U ?_;clear U;intro w U));go_ret2;exact⟨rfl,U.ro aav.out ag⟩
theorem Fr(ti:l= [])(hb:ah w0 aff 363 ([.int .i64 a4,.int .i64 aaY,.slice none 0 0]:List Value).toArray):
 Calls prog 265 #[.pointer (some ⟨aff,0,none⟩),.int .i64 m] w0 fun e w'=>e= .returned (.tuple #[.int .i64 0,.bool false])/\Below w0.heap.size w0 w':=by
 have fH:=I (show l.length=0 by rw[ti];rfl);have hL:=I (show acr w0 (fun _=>True) (.slice none 0 0) 0 2 (eP l)from acr.nil _ _ _ _);have mx:=I dU;have ab7: ∀args w,(callFunc 318 args).run prog w= .ok (.enter 318 args) w:=enters_of func318 aM rfl;have ae6:=I ab7;have rs: ∀(fn:Fn) (first cap:Array Value) (w:World),(Instr.makeFunc fn first cap).run prog w= .ok (.func fn first cap) w:=fun _ _ _ _=>rfl;have U:=aah.g8 hb;have aav:=I hb;have af6:(0:Int)<=m:=J;have adL:decide (m<1)=false:=by simp;omega
 have Yz:(m %8 !=0)=false:=by simp;omega
 clear dU ab7 hb ti;go_enter func265,ntmps265;go_wp2_with(first|(go_at_call 301;have Yq:=U.b (g:=ad2) ag;refine Calls.mono (jw _ (fun _=>True) (.slice none 0 0) 0 (eP l) (fun i=>.agg #[.int .i64 (l.getD i ⟨0,0⟩).a,.int .i64 (l.getD i ⟨0,0⟩).z]) 318 #[.pointer (some ⟨ad2,0,none⟩)] (fun i=>decide (m<=(l.getD i ⟨0,0⟩).z)) ae6.out (hL.out.below (U.ro aav.out ag)) (fun i hi=>iA l i (by rw[fH.out];exact hi)) J (fun i hi w' afl=>pS w' _ m _ _ (Yq.below afl Yq.lt))) ?_;rintro e aaM ⟨r,rfl,abk,N⟩;replace U:=U.below N;clear Yq N;obtain rfl:r= -1:=yR fH.out mx.out abk;clear abk)|(refine aq ?_)|(refine Ws U 3 ?_;clear U;intro ad2 w U j7)|(refine ac2 U ?_;clear U;intro w U));go_ret2;exact⟨rfl,U.ro aav.out ag⟩
end
end
section
theorem nX{G:Prop}(h:G:=by
 refine aF 16 fun K Z7=>?_;rw[Z (by rfl)];refine ev U 3 _ _ rfl rg (p*2) _ _ rfl rfl rfl cf (by have:=jx.out;simp;omega) (by kernel_rfl) (by first|rfl|(simp[*];done)) ?_;clear U;intro w U;rw[Fm jx.out]at U;refine WE Z7 fun X=>?_;refine az [[17,18]] ?_;refine aF 19 fun K Z7=>?_;rw[Z (by rfl)];refine ev U 3 _ _ rfl rg (p*2+1) _ _ rfl rfl rfl cf (by have:=jx.out;simp;omega) (by kernel_rfl) (by first|rfl|(simp[*];done)) ?_;clear U;intro w U;rw[AG jx.out]at U;refine WE Z7 fun X=>?_;refine adB ?_;dsimp only[Exit.then]
 apply_assumption
 go_wp2_with(first|(refine fm U rfl 3 _ rfl rg (p*2+1) rfl ag _ (rx jx.out) underlying3 rfl ?_;refine cN ?_)|(go_at_call 319;refine Calls.mono (wn _ rg cap p q pre post ⟨x.a+m,0⟩ rest gv.out sm.out (U.b (g:=rg) r3) YT.out yU.out (by have h:=Fs.out;simp only[ak,aI]at h⊢;exact h)) ?_;rintro e aaM ⟨rfl,N,jT⟩;replace U:=U.hX cf N jT;clear N jT)|(refine aq ?_)|(refine Ws U 3 ?_;clear U;intro ad2 w U j7)|(refine ac2 U ?_;clear U;intro w U));go_ret2;exact⟨rfl,⟨_,U.b (g:=aff) ag,.inr ⟨cap,rest,by rw[ak,aI,gv.out,sm.out];congr 1;omega,by rw[dS,eS,aJ,aU,aU];exact U.b (g:=rg) ag,by rw[ak,aI,gv.out,sm.out];have:=YT.out;omega,Ma.out,by have:=Fs.out;simp[dS,eS]at this⊢;omega,Mb.out⟩⟩,U.Wu⟩):G:=h
theorem nY{G:Prop}(h:G:=by
 refine aF 16 fun K Z7=>?_;rw[Z (by rfl)];refine ev U 3 _ _ rfl rg (p*2) _ _ rfl rfl rfl cf (by have:=jx.out;simp;omega) (by kernel_rfl) (by first|rfl|(simp[*];done)) ?_;clear U;intro w U;rw[Fm jx.out]at U;refine WE Z7 fun X=>?_;refine az [[17,18]] ?_;refine aF 19 fun K Z7=>?_;rw[Z (by rfl)];refine ev U 3 _ _ rfl rg (p*2+1) _ _ rfl rfl rfl cf (by have:=jx.out;simp;omega) (by kernel_rfl) (by first|rfl|(simp[*];done)) ?_;clear U;intro w U;rw[AG jx.out]at U;refine WE Z7 fun X=>?_;refine adB ?_;dsimp only[Exit.then]
 apply_assumption
 go_wp2_with(first|(refine fm U rfl 3 _ rfl rg (p*2+1) rfl ag _ (rx jx.out) underlying3 rfl ?_;refine cN ?_)|(go_at_call 319;refine Calls.mono (wn _ rg cap p q pre post ⟨x.a+m,0⟩ rest gv.out sm.out (U.b (g:=rg) r3) YT.out yU.out (by have h:=Fs.out;simp only[ak,aI]at h⊢;exact h)) ?_;rintro e aaM ⟨rfl,N,jT⟩;replace U:=U.hX cf N jT;clear N jT)|(refine aq ?_)|(refine Ws U 3 ?_;clear U;intro ad2 w U j7)|(refine ac2 U ?_;clear U;intro w U));go_ret2;exact⟨rfl,⟨_,U.b (g:=aff) ag,.inr ⟨cap,.int .i64 0:: .int .i64 0::rest,by rw[ak,gv.out,sm.out],by rw[dS,aJ];exact U.b (g:=rg) ag,by rw[ak,gv.out,sm.out];have:=YT.out;omega,Ma.out,by have:=Fs.out;simp[dS]at this⊢;omega,Mb.out⟩⟩,U.Wu⟩):G:=h
section
variable(w0:World)(aff rg:Nat)(a4 aaY m:Int)(pre post:List Ext)(x:Ext)(hm:8<=m/\m<=65536/\m %8=0)(Wy:0<=x.a/\x.a<=65536/\x.z<=65536)(cV:(pre++x::post).length<=65536)(dU: ∀y,y∈pre->y.z<m)
include w0 aff rg a4 aaY m pre post x hm Wy cV dU
theorem Ft(tc:m<x.z)(afj:cY w0 aff rg a4 aaY (pre++x::post)):
 Calls prog 265 #[.pointer (some ⟨aff,0,none⟩),.int .i64 m] w0 fun e w'=>e= .returned (.tuple #[.int .i64 x.a,.bool true])/\cY w' aff rg a4 aaY (pre++⟨x.a+m,x.z-m⟩::post)/\Z1 (fun b=>b≠aff/\b≠rg) w0 w':=by
 obtain⟨v,hb,hv⟩:=afj.ex;rcases hv with⟨_,abi,_⟩|⟨cap,rest,rfl,abk,XP,c7,h0,l5⟩
 ·simp at abi
 obtain⟨p,gv⟩: ∃p,Hid (pre.length=p):=⟨_,I rfl⟩
 obtain⟨q,sm⟩: ∃q,Hid (post.length=q):=⟨_,I rfl⟩
 have qL:(pre++x::post).length=p+1+q:=by rw[ak,aI,gv.out,sm.out];omega
 have hL: ∀aaM:World,ah aaM rg 130 (bu (pre++x::post)++rest).toArray->acr aaM (fun b=>b=rg) (.slice (some ⟨rg,0,none⟩) (p+1+q) cap) (p+1+q) 2 (eP (pre++x::post)):=fun aaM h=>by
  have:=mF h XP c7;rw[qL]at this;exact this
 replace hL:=I hL;have fH:=I qL;have aal:bu (pre++x::post)++rest=bu pre++(.int .i64 x.a:: .int .i64 x.z::(bu post++rest)):=by rw[dS,eS,aJ];rfl
 have Yl:=I aal;rw[qL]at hb XP cV;rw[aal]at abk h0;have Fu:(bu pre).length=p*2:=by rw[e3,gv.out]
 have jx:=I Fu;have mx:=I dU;have YT:=I XP;have yU:=I (show cap<=maxLen from c7);have Ma:=I c7;have Fs:=I h0;have Mb:=I l5;have CO:=I (show m<=x.z by omega);have ab7: ∀args w,(callFunc 318 args).run prog w= .ok (.enter 318 args) w:=enters_of func318 aM rfl;have ae6:=I ab7;have rs: ∀(fn:Fn) (first cap:Array Value) (w:World),(Instr.makeFunc fn first cap).run prog w= .ok (.func fn first cap) w:=fun _ _ _ _=>rfl;have U:=aah.two hb abk l5;have af6:(0:Int)<=m:=J;have adL:decide (m<1)=false:=by simp;omega
 have Yz:(m %8 !=0)=false:=by simp;omega
 have acF:decide ((p:Int)<0)=false:=aN;have abw:(p:Int)<(p:Int)+1+(q:Int):=J;have VD:(0:Int)<=(p:Int):=J;have Zq:IntKind.i64.wrap ((p:Int)+1)=(p:Int)+1:=by rw[IntKind.wrap_i64];omega
 have acy:IntKind.i64.wrap (x.a+m)=x.a+m:=by rw[IntKind.wrap_i64];omega
 have ZU:IntKind.i64.wrap (x.z-m)=x.z-m:=by rw[IntKind.wrap_i64];omega
 have acv:(x.z-m==0)=false:=by simp;omega
 clear dU ab7 hb abk l5 h0 c7 XP aal afj Fu qL;go_enter func265,ntmps265;go_wp2_with(first|(refine fm U rfl 3 _ rfl rg (p*2) rfl ag _ (rv jx.out) underlying3 rfl ?_;refine cN ?_)|(go_at_call 301;have Yq:=U.b (g:=ad2) ag;refine Calls.mono (jw _ (fun b=>b=rg) (.slice (some ⟨rg,0,none⟩) (p+1+q) cap) (p+1+q) (eP (pre++x::post)) (fun i=>.agg #[.int .i64 ((pre++x::post).getD i ⟨0,0⟩).a,.int .i64 ((pre++x::post).getD i ⟨0,0⟩).z]) 318 #[.pointer (some ⟨ad2,0,none⟩)] (fun i=>decide (m<=((pre++x::post).getD i ⟨0,0⟩).z)) ae6.out (hL.out _ (by rw[Yl.out];exact U.b (g:=rg) ag)) (fun i hi=>iA (pre++x::post) i (by rw[fH.out];exact hi)) J (fun i hi w' afl=>pS w' _ m _ _ (Yq.below afl Yq.lt))) ?_;rintro e aaM ⟨r,rfl,abk,N⟩;replace U:=U.below N;clear Yq N;obtain rfl:r=(p:Int):=yS gv.out J CO.out mx.out abk;clear abk)|(refine aq ?_)|(refine Ws U 3 ?_;clear U;intro ad2 w U j7)|(refine ac2 U ?_;clear U;intro w U));replace U:=U.drew;refine wp_region_held_drew (S:=(c0 [⟨ad2,3,[.int .i64 m]⟩])) aM ?_ (fun X=>?_)
 ·exact U.bG aN
 refine az [[0,1,2,3,4,6,8,9,10,12]] ?_;refine Zj [5,11] ?_;refine ea (fun K Z7=>?_) ?_
 ·rw[Z (by rfl)];refine bU U 3 _ rfl rg (p*2) rfl ag _ (rv jx.out) underlying3 rfl ?_;refine WE Z7 fun X=>?_;refine Xh 7 ?_;refine aF 11 fun K Z7=>?_;rw[Z (by rfl)];refine bU U 3 _ rfl rg (p*2+1) rfl ag _ (rx jx.out) underlying3 rfl ?_;refine WE Z7 fun X=>?_;refine az [[13,14,15]] ?_;exact nX
 refine ei (fun K Z7=>?_);rw[Z (by rfl)];refine bU U 3 _ rfl rg (p*2+1) rfl ag _ (rx jx.out) underlying3 rfl ?_;refine WE Z7 fun X=>?_;refine Xh 13 ?_;refine aF 5 fun K Z7=>?_;rw[Z (by rfl)];refine bU U 3 _ rfl rg (p*2) rfl ag _ (rv jx.out) underlying3 rfl ?_;refine WE Z7 fun X=>?_;refine az [[7,14,15]] ?_;exact nX
theorem Fv(tc:x.z=m)(afj:cY w0 aff rg a4 aaY (pre++x::post)):
 Calls prog 265 #[.pointer (some ⟨aff,0,none⟩),.int .i64 m] w0 fun e w'=>e= .returned (.tuple #[.int .i64 x.a,.bool true])/\cY w' aff rg a4 aaY (pre++post)/\Z1 (fun b=>b≠aff/\b≠rg) w0 w':=by
 obtain⟨v,hb,hv⟩:=afj.ex;rcases hv with⟨_,abi,_⟩|⟨cap,rest,rfl,abk,XP,c7,h0,l5⟩
 ·simp at abi
 obtain⟨p,gv⟩: ∃p,Hid (pre.length=p):=⟨_,I rfl⟩
 obtain⟨q,sm⟩: ∃q,Hid (post.length=q):=⟨_,I rfl⟩
 have qL:(pre++x::post).length=p+1+q:=by rw[ak,aI,gv.out,sm.out];omega
 have hL: ∀aaM:World,ah aaM rg 130 (bu (pre++x::post)++rest).toArray->acr aaM (fun b=>b=rg) (.slice (some ⟨rg,0,none⟩) (p+1+q) cap) (p+1+q) 2 (eP (pre++x::post)):=fun aaM h=>by
  have:=mF h XP c7;rw[qL]at this;exact this
 replace hL:=I hL;have fH:=I qL;have aal:bu (pre++x::post)++rest=bu pre++(.int .i64 x.a:: .int .i64 x.z::(bu post++rest)):=by rw[dS,eS,aJ];rfl
 have Yl:=I aal;rw[qL]at hb XP cV;rw[aal]at abk h0;have Fu:(bu pre).length=p*2:=by rw[e3,gv.out]
 have jx:=I Fu;have mx:=I dU;have YT:=I XP;have yU:=I (show cap<=maxLen from c7);have Ma:=I c7;have Fs:=I h0;have Mb:=I l5;have CO:=I (show m<=x.z by omega);have ab7: ∀args w,(callFunc 318 args).run prog w= .ok (.enter 318 args) w:=enters_of func318 aM rfl;have ae6:=I ab7;have rs: ∀(fn:Fn) (first cap:Array Value) (w:World),(Instr.makeFunc fn first cap).run prog w= .ok (.func fn first cap) w:=fun _ _ _ _=>rfl;have U:=aah.two hb abk l5;have af6:(0:Int)<=m:=J;have adL:decide (m<1)=false:=by simp;omega
 have Yz:(m %8 !=0)=false:=by simp;omega
 have acF:decide ((p:Int)<0)=false:=aN;have abw:(p:Int)<(p:Int)+1+(q:Int):=J;have VD:(0:Int)<=(p:Int):=J;have Zq:IntKind.i64.wrap ((p:Int)+1)=(p:Int)+1:=by rw[IntKind.wrap_i64];omega
 have acy:IntKind.i64.wrap (x.a+m)=x.a+m:=by rw[IntKind.wrap_i64];omega
 have ZU:IntKind.i64.wrap (x.z-m)=x.z-m:=by rw[IntKind.wrap_i64];omega
 have acv:(x.z-m==0)=true:=by simp;omega
 clear dU ab7 hb abk l5 h0 c7 XP aal afj Fu qL;go_enter func265,ntmps265;go_wp2_with(first|(refine fm U rfl 3 _ rfl rg (p*2) rfl ag _ (rv jx.out) underlying3 rfl ?_;refine cN ?_)|(go_at_call 301;have Yq:=U.b (g:=ad2) ag;refine Calls.mono (jw _ (fun b=>b=rg) (.slice (some ⟨rg,0,none⟩) (p+1+q) cap) (p+1+q) (eP (pre++x::post)) (fun i=>.agg #[.int .i64 ((pre++x::post).getD i ⟨0,0⟩).a,.int .i64 ((pre++x::post).getD i ⟨0,0⟩).z]) 318 #[.pointer (some ⟨ad2,0,none⟩)] (fun i=>decide (m<=((pre++x::post).getD i ⟨0,0⟩).z)) ae6.out (hL.out _ (by rw[Yl.out];exact U.b (g:=rg) ag)) (fun i hi=>iA (pre++x::post) i (by rw[fH.out];exact hi)) J (fun i hi w' afl=>pS w' _ m _ _ (Yq.below afl Yq.lt))) ?_;rintro e aaM ⟨r,rfl,abk,N⟩;replace U:=U.below N;clear Yq N;obtain rfl:r=(p:Int):=yS gv.out J CO.out mx.out abk;clear abk)|(refine aq ?_)|(refine Ws U 3 ?_;clear U;intro ad2 w U j7)|(refine ac2 U ?_;clear U;intro w U));replace U:=U.drew;refine wp_region_held_drew (S:=(c0 [⟨ad2,3,[.int .i64 m]⟩])) aM ?_ (fun X=>?_)
 ·exact U.bG aN
 refine az [[0,1,2,3,4,6,8,9,10,12]] ?_;refine Zj [5,11] ?_;refine ea (fun K Z7=>?_) ?_
 ·rw[Z (by rfl)];refine bU U 3 _ rfl rg (p*2) rfl ag _ (rv jx.out) underlying3 rfl ?_;refine WE Z7 fun X=>?_;refine Xh 7 ?_;refine aF 11 fun K Z7=>?_;rw[Z (by rfl)];refine bU U 3 _ rfl rg (p*2+1) rfl ag _ (rx jx.out) underlying3 rfl ?_;refine WE Z7 fun X=>?_;refine az [[13,14,15]] ?_;exact nY
 refine ei (fun K Z7=>?_);rw[Z (by rfl)];refine bU U 3 _ rfl rg (p*2+1) rfl ag _ (rx jx.out) underlying3 rfl ?_;refine WE Z7 fun X=>?_;refine Xh 13 ?_;refine aF 5 fun K Z7=>?_;rw[Z (by rfl)];refine bU U 3 _ rfl rg (p*2) rfl ag _ (rv jx.out) underlying3 rfl ?_;refine WE Z7 fun X=>?_;refine az [[7,14,15]] ?_;exact nY
end
end
end Go.Proofs.YtcimojgkeoecfaaGreat
