import Derived.Test.YtcimojgkeoecfaaGreatVau
set_option linter.all false
set_option maxHeartbeats 16000000
set_option maxRecDepth 100000
namespace Go.Proofs.YtcimojgkeoecfaaGreat
open Go.RowKit Tryz
structure lv(o:jc):Prop where
 op:0<=o.op/\o.op<=4
 a:0<=o.a/\(o.op=0->o.a<=99)/\(o.op≠0->o.a<=5)/\(o.op=4->o.a=0)
 b:0<=o.b/\(o.op=0\/o.op=1\/o.op=4->o.b=0)/\(o.op=2->o.b<=5)/\(o.op=3->o.b<=8)
theorem sj(w0:World)(S:Nat->Prop)(v:Value)(F:b1)(Vs:Nat->Value)(h:eF w0 S v F Vs)(hF:F.length<=8)(z: ∀l,l∈F->l.length<=8/\∀o,o∈l->lv o):
 Calls prog 70 #[v] w0 fun e w'=>e= .returned (.bool true)/\Below w0.heap.size w0 w':=by
 obtain⟨A,c,rfl,h1,Tw,ZV⟩:=id h.row;obtain⟨n,j⟩: ∃n,F.length=n:=⟨_,rfl⟩
 rw[j]at hF;rw[j]at h1 ZV⊢;have Yl:=I h.each;have afJ:=I ZV;have ZG:=I j;replace z:=I z;have U:=Bx.a0 w0;clear h h1 Tw ZV j;go_enter func70,ntmps70;go_upto_region 1 with(first|(refine aq ?_)|(refine VP U js ?_;clear U;intro s w U C)|(refine aT ?_;clear U;intro B w U d))
 have aaQ:decide ((n:Int)<=8)=true:=by simp;omega
 go_wp2_with(first|(go_at_call 126;refine a6 U (l3 _) ?_;clear U;intro EH U)|(refine aq ?_)|(refine VP U js ?_;clear U;intro s w U C)|(refine aT ?_;clear U;intro B w U d));have L:=I U;clear U;go_loopw [11] (fun i wr=> ∃k:Nat,k<=n/\i= .int .i64 k/\Bx w0 (fun _=>True) wr none [⟨s,236,[.int .i64 99,.int .i64 0,.func (.func 202) #[] #[],.int .i64 5,.int .i64 0,.func (.func 203) #[] #[],.int .i64 5,.int .i64 5,.func (.func 205) #[] #[],.int .i64 5,.int .i64 8,.func (.func 206) #[] #[],.int .i64 0,.int .i64 0,.func (.func 207) #[] #[]]⟩]) (fun i _=>n-(intOf i).toNat)
 case atStart=>exact⟨0,J,rfl,L.out⟩
 case round=>
  obtain⟨k,TS,rfl,U⟩:=hrel;clear L;by_cases bV:k<n
  ·obtain⟨b,off,rfl,YF,fC,XP⟩:=afJ.out J;have H:=(U.all.cell (p:=⟨b,off+k,none⟩) fC).trans (by simpa using XP k 0 _ bV rfl);have vB:k<F.length:=by rw[ZG.out];exact bV
   have YJ:=Yl.out k F[k] (an vB);obtain⟨Tz,tM,u,-,-,V⟩:=id YJ;have r:=z.out F[k] (bA vB);generalize F[k]=l at YJ u V r;rw[u]at H;obtain⟨m,hm⟩: ∃m,l.length=m:=⟨_,rfl⟩
   have L4:=r.1;rw[hm]at H V L4;have Wm:=I hm;have L5:=I r.2;have L6:=I V;have WU:(k:Int)<(n:Int):=J;have tV:(0:Int)<=(k:Int):=J;have YK:decide ((m:Int)>8)=false:=by simp;omega
   clear hm r V XP YJ u vB;go_wp2_with(first|(refine aq ?_)|(refine VP U js ?_;clear U;intro s w U C)|(refine aT ?_;clear U;intro B w U d));have L:=I U;clear U H;go_loopw [17] (fun i wr=> ∃q:Nat,q<=m/\i= .int .i64 q/\Bx w0 (fun _=>True) wr none [⟨s,236,[.int .i64 99,.int .i64 0,.func (.func 202) #[] #[],.int .i64 5,.int .i64 0,.func (.func 203) #[] #[],.int .i64 5,.int .i64 5,.func (.func 205) #[] #[],.int .i64 5,.int .i64 8,.func (.func 206) #[] #[],.int .i64 0,.int .i64 0,.func (.func 207) #[] #[]]⟩]) (fun i _=>m-(intOf i).toNat)
   case atStart=>exact⟨0,J,rfl,L.out⟩
   case round=>
    obtain⟨q,VX,rfl,U⟩:=hrel;clear L;by_cases R:q<m
    ·obtain⟨y,wl,rfl,lg,be,T⟩:=L6.out J;have W:q<l.length:=by rw[Wm.out];exact R
     have ZQ:=L5.out l[q] (bA W);have f:jQ l q= [.int .u8 l[q].op,.int .i64 l[q].a,.int .i64 l[q].b]:=by unfold jQ;rw[an W]
     generalize l[q]=o at ZQ f;have P:=(U.all.cell (p:=⟨y,wl+q*3,none⟩) be).trans (T q 0 _ R (by rw[f];rfl));have Q:=(U.all.cell (p:=⟨y,wl+q*3+1,none⟩) be).trans (T q 1 _ R (by rw[f];rfl));have O:=(U.all.cell (p:=⟨y,wl+q*3+2,none⟩) be).trans (T q 2 _ R (by rw[f];rfl));have Zh:(q:Int)<(m:Int):=J;have q1:(0:Int)<=(q:Int):=J;obtain⟨op,a,b'⟩:=o;obtain⟨vz,⟨aH,ru,G,L7⟩,N,M,fB,h3⟩:=ZQ;simp only at vz aH ru G L7 N M fB h3 P Q O;have tH:=I (show op=0/\a<=99/\b'<=0\/op=1/\a<=5/\b'<=0\/op=2/\a<=5/\b'<=5\/op=3/\a<=5/\b'<=8\/op=4/\a<=0/\b'<=0 by
      rcases(by omega:op=0\/op=1\/op=2\/op=3\/op=4)with e|e|e|e|e
      ·have:=ru e;have:=M (.inl e);omega
      ·have:=G J;have:=M (.inr (.inl e));omega
      ·have:=G J;have:=fB e;omega
      ·have:=G J;have:=h3 e;omega
      ·have:=L7 e;have:=M (.inr (.inr e));omega)
     clear T f W ru G L7 M fB h3;go_upto_region 8 with(first|(refine aq ?_)|(refine VP U js ?_;clear U;intro s w U C)|(refine aT ?_;clear U;intro B w U d))
     clear P Q O;have UR:IntKind.i64.wrap op=op:=by rw[IntKind.wrap_i64];omega
     rcases tH.out with⟨rfl,ba,bb⟩|⟨rfl,ba,bb⟩|⟨rfl,ba,bb⟩|⟨rfl,ba,bb⟩|⟨rfl,ba,bb⟩<;>(
      replace U:=U.drew;refine b0 ?_;intro X;refine az [[0,1,2,3,4,5,6,7,8,9,10,11]] ?_;refine aF 12 fun K Z7=>?_;go_simp
      (first|(go_at_call 104;refine(bm _ _ _ _ J J).mono ?_;rintro e w' ⟨rfl,rfl⟩)|skip)
      (try go_wp2_with fail)
      refine PK Z7 fun X=>?_;refine az [[13,14,15,16,17,18,19,20,21,22]] ?_;refine aF 23 fun K Z7=>?_;go_simp
      (first|(go_at_call 104;refine(bm _ _ _ _ J J).mono ?_;rintro e w' ⟨rfl,rfl⟩)|skip)
      (try go_wp2_with fail)
      refine PK Z7 fun X=>?_;refine az [[24,25]] ?_;dsimp only[Exit.then]
      apply_assumption
      go_wp2_with(first|(refine aq ?_)|(refine VP U js ?_;clear U;intro s w U C)|(refine aT ?_;clear U;intro B w U d));go_roundw
      case rel=>exact⟨q+1,J,by go_num,U.drop (fun x H=>ao _ H) (List.nodup_cons.1 U.UH).2⟩
      case measure=>simp[intOf];omega)
    ·obtain rfl:q=m:=by omega
     have Zh: ¬(q:Int)<(q:Int):=J;go_wp2_with(first|(refine aq ?_)|(refine VP U js ?_;clear U;intro s w U C)|(refine aT ?_;clear U;intro B w U d));go_roundw
     case rel=>exact⟨k+1,J,by go_num,U⟩
     case measure=>simp[intOf];omega
  ·obtain rfl:k=n:=by omega
   have Zh: ¬(k:Int)<(k:Int):=J;go_wp2_with(first|(refine aq ?_)|(refine VP U js ?_;clear U;intro s w U C)|(refine aT ?_;clear U;intro B w U d));go_ret;exact⟨rfl,U.all⟩
section
theorem nT{G:Prop}(h:G:=by
 rcases h with h|⟨i,_,hi,Tw,_⟩
 ·exact h.1
 ·have hm:l.getD i ⟨0,0⟩∈l:=by
   rw[ae,an (by omega)];exact bA _
  have:=dU _ hm;simp only[decide_eq_true_eq]at Tw;omega):G:=h
theorem nU{G:Prop}(h:G:=by
 rw[ae,aA (by omega),an (by omega)];exact dU _ (bA _)):G:=h
theorem nV{G:Prop}(h:G:=by
 rcases h with⟨_,h⟩|⟨i,YM,hi,Tw,ZV⟩
 ·have:=h p U4;rw[Wy]at this;simp only[decide_eq_false_iff_not]at this;omega
 ·rw[YM];simp only[decide_eq_true_eq]at Tw;rcases Nat.lt_trichotomy i p with c|c|c
  ·have:=bV i c;omega
  ·rw[c]
  ·have:=ZV p c;rw[Wy]at this;simp only[decide_eq_false_iff_not]at this;omega):G:=h
def bu(l:List Ext):List Value:=l.flatMap fun x=> [.int .i64 x.a,.int .i64 x.z]
theorem eS(x:Ext)(l:List Ext):bu (x::l)= .int .i64 x.a:: .int .i64 x.z::bu l:=rfl
theorem dS(l m:List Ext):bu (l++m)=bu l++bu m:=by simp[bu]
theorem e3(l:List Ext):(bu l).length=l.length*2:=by
 induction l with
 |nil=>rfl
 |cons x l a=>rw[eS];simp[a];omega
theorem wm(l:List Ext):(bu l).all (·.oneCell')=true:=by
 induction l with
 |nil=>rfl
 |cons x l a=>rw[eS,List.all_cons,List.all_cons,a];rfl
def eP(l:List Ext)(i:Nat):List Value:=match l[i]? with
 |some x=> [.int .i64 x.a,.int .i64 x.z]
 |none=> [.int .i64 0,.int .i64 0]
theorem kn(l:List Ext)(n:Nat):hl n 2 (eP l):=by
 intro i _;unfold eP;cases l[i]? with
 |none=>exact⟨rfl,fun u hu=>by simp at hu;subst hu;rfl⟩
 |some e=>exact⟨rfl,fun u hu=>by simp at hu;rcases hu with rfl|rfl<;>rfl⟩
theorem sk(l:List Ext)(i j:Nat)(u:Value)(hi:i<l.length)(h:(eP l i)[j]? =some u):(bu l)[i*2+j]? =some u:=by
 induction l generalizing i with
 |nil=>simp at hi
 |cons x l a=>
  cases i with
  |zero=>
   have b:j<2:=by
    have:=(List.getElem?_eq_some_iff.1 h).1;simpa [eP]using this
   rw[eS];rcases(by omega:j=0\/j=1)with rfl|rfl<;>simpa [eP]using h
  |succ i=>
   rw[eS];have:=a i (by simpa using hi) (by simpa [eP]using h);rw[show(i+1)*2+j=(i*2+j)+1+1 from J];simpa using this
structure cY(w:World)(L8 rg:Nat)(a4 U2:Int)(l:List Ext):Prop where
 ex: ∃v,ah w L8 363 ([.int .i64 a4,.int .i64 U2,v]:List Value).toArray/\(v= .slice none 0 0/\l= []/\rg=L8/\U2<=a4\/
  ∃cap rest,v= .slice (some ⟨rg,0,none⟩) l.length cap/\ah w rg 130 (bu l++rest).toArray/\l.length<=cap/\cap<=maxLen/\(bu l++rest).length=cap*2/\L8≠rg)
theorem mF{w:World}{rg cap:Nat}{l:List Ext}{rest:List Value}(h:ah w rg 130 (bu l++rest).toArray)(h1:l.length<=cap)(a:cap<=maxLen):KC w (fun b=>b=rg) (.slice (some ⟨rg,0,none⟩) l.length cap) l.length 2 (eP l):=
 ⟨_,_,rfl,h1,a,fun _=>⟨rg,0,rfl,rfl,h.lt,fun i j u hi hu=>by
   have c:=sk l i j u hi hu
   rw[ax,h.cell,aE,aA (List.getElem?_eq_some_iff.1 c).1]
   exact c⟩⟩
theorem cY.lt{w:World}{a rg:Nat}{e c:Int}{l:List Ext}(h:cY w a rg e c l):a<w.heap.size/\rg<w.heap.size:=by
 obtain⟨v,h1,b|⟨cap,rest,_,d,_⟩⟩:=h.ex
 ·exact⟨h1.lt,by rw[b.2.2.1];exact h1.lt⟩
 ·exact⟨h1.lt,d.lt⟩
theorem cY.Wu{w w':World}{a rg:Nat}{g c:Int}{l:List Ext}(h:cY w a rg g c l)(d:w'.heap[a]? =w.heap[a]?)(e:w'.heap[rg]? =w.heap[rg]?):cY w' a rg g c l:=by
 obtain⟨v,h1,b⟩:=h.ex;refine⟨v,d.trans h1,?_⟩;rcases b with b|⟨cap,rest,j,i,f⟩
 ·exact .inl b
 ·exact .inr ⟨cap,rest,j,e.trans i,f⟩
section
variable(w:World)(b:Nat)(m a z:Int)(hb:ah w b 3 #[.int .i64 m])
include w b m a z hb
theorem pS:
 Calls prog 318 #[.agg #[.int .i64 a,.int .i64 z],.pointer (some ⟨b,0,none⟩)] w fun e w'=>e= .returned (.bool (decide (m<=z)))/\Below w.heap.size w w':=by
 have c:=(hb.alloc (.cells #[.int .i64 a,.int .i64 z] 130)).cell 0;go_enter func318,ntmps318;go_wp2_with fail;go_ret;exact⟨rfl,(Below.refl _ _).alloc (ai _) _⟩
theorem uv(c:0<=a/\a<=65536/\0<=z/\z<=65536):
 Calls prog 337 #[.agg #[.int .i64 a,.int .i64 z],.pointer (some ⟨b,0,none⟩)] w fun e w'=>e= .returned (.bool (decide (m<a+z)))/\Below w.heap.size w w':=by
 have d:=(hb.alloc (.cells #[.int .i64 a,.int .i64 z] 130)).cell 0;go_enter func337,ntmps337;go_wp2_with fail;go_ret;exact⟨rfl,(Below.refl _ _).alloc (ai _) _⟩
end
theorem act{P:Program}(w:World)(t e r:TypeId)(z:Value)(bytes:Nat)(k:P.underlying t=some (.slice e))(s:(P.info? e).map (fun i=>(i.zero,i.size,i.bytes))=some (some z,2,bytes))(a b:Value)(h:z.cells= #[a,b])(m:a.oneCell'=true/\b.oneCell'=true)(g o c:Nat)(d:Array Value)(l:TypeId)(j:w.heap[g]? =some (.cells d l (0,0)))(u:o+2<=d.size):
 (Builtin.clear_ #[t] r #[.slice (some ⟨g,o,none⟩) 1 c]).run P w= .ok (.tuple #[]) (w.setRow g (d.toList.take o++ [a,b]++d.toList.drop (o+2)).toArray):=by
 obtain⟨i,hi,p,x,y⟩:=info_parts s;have n:=run_storeCells_at P g o l [a,b] 0 d w j (by simpa using u) (fun v hv=>by simp at hv;rcases hv with rfl|rfl;exact m.1;exact m.2);simp only[cZ]at n;have q:(Builtin.zeroCells #[a,b] 1).toList= [a,b]:=by
  unfold Builtin.zeroCells;have f:(1*(#[a,b]:Array Value).size)=2:=rfl;rw[f,show Array.range 2= #[0,1]from am,b8];rfl
 simp[Builtin.clear_,run_underlying k,zeroValue,typeInfo,hi,p,h,q,n]
theorem iA(l:List Ext)(i:Nat)(hi:i<l.length): ∃a b,eP l i= [a,b]/\(.agg #[.int .i64 (l.getD i ⟨0,0⟩).a,.int .i64 (l.getD i ⟨0,0⟩).z]:Value)= .agg #[a,b]:=by
 refine⟨_,_,?_,rfl⟩;unfold eP;rw[ae,an hi];rfl
theorem yR{l:List Ext}{n:Nat}{m r:Int}(a:l.length=n)(dU: ∀y,y∈l->y.z<m)(h:r= -1/\(∀i,i<n->(decide (m<=(l.getD i ⟨0,0⟩).z))=false)\/∃i:Nat,r=i/\i<n/\decide (m<=(l.getD i ⟨0,0⟩).z)=true/\∀j,j<i->decide (m<=(l.getD j ⟨0,0⟩).z)=false):r= -1:=by
 exact nT
theorem yS{pre post:List Ext}{x:Ext}{p n:Nat}{m r:Int}(a:pre.length=p)(U4:p<n)(b:m<=x.z)(dU: ∀y,y∈pre->y.z<m)(h:r= -1/\(∀i,i<n->(decide (m<=((pre++x::post).getD i ⟨0,0⟩).z))=false)\/∃i:Nat,r=i/\i<n/\decide (m<=((pre++x::post).getD i ⟨0,0⟩).z)=true/\∀j,j<i->decide (m<=((pre++x::post).getD j ⟨0,0⟩).z)=false):r=p:=by
 have Wy:(pre++x::post).getD p ⟨0,0⟩=x:=by
  rw[ae,ay J,a,Nat.sub_self];rfl
 have bV: ∀i,i<p->((pre++x::post).getD i ⟨0,0⟩).z<m:=fun i hi=>by
  exact nU
 exact nV
section
variable{P T:List Value}
include P T
theorem rv{u v:Value}{n:Nat}(h:P.length=n):(P++u::v::T)[n]? =some u:=by
 rw[ay J,h,Nat.sub_self];rfl
theorem rx{u v:Value}{n:Nat}(h:P.length=n):(P++u::v::T)[n+1]? =some v:=by
 rw[ay J,h,show n+1-n=1 from J];rfl
theorem Fm{u v x:Value}{n:Nat}(h:P.length=n):er (P++u::v::T) n [x]=P++x::v::T:=by
 subst h;unfold er;simp
theorem AG{u v x:Value}{n:Nat}(h:P.length=n):er (P++u::v::T) (n+1) [x]=P++u::x::T:=by
 subst h;unfold er;rw[List.take_append,cm J,show P.length+1-P.length=1 from J,List.drop_append,cl (by simp;omega),show P.length+1+ [x].length-P.length=2 from by simp;omega];simp
end
end
section
variable{w0 w:World}{S:Nat->Prop}{A:Option XS}{L L':List PL}{P:Program}{o:Oper}{a:Act}{K:Act->World->Prop}{Q:Exit->Act->World->Prop}{ops:Array Oper}{rest:List Oper}
theorem sU(h:Bx w0 S w A L)(s x:Operand)(t e:TypeId)(y:o.op= .call {callee:=.builtin .append,args:= #[s,x],argTypes:= #[t,t]})(sz:Nat)(f:P.underlying t=some (.slice e))(z:(P.info? e).map (·.size)=some sz)
 (g m q cap c':Nat)(B:Option Addr)(cs news:List Value)(p:a.eval s= .slice (some ⟨g,0,none⟩) m cap)(n:a.eval x= .slice B q c')(r:news.length=q*sz)(F:q=0\/∃off,B=some ⟨g,off,none⟩/\∀j u,news[j]? =some u->cs[off+j]? =some u)
 (C:m+q<=cap)(H:m*sz+news.length<=cs.length)(h1:news.all (·.oneCell')=true)(l:Tr L g e cs (cs.take (m*sz)++news++cs.drop (m*sz+news.length)) L')
 (v: ∀w',Bx w0 S w' A L'->K (a.put o.dst (.slice (some ⟨g,0,none⟩) (m+q) cap)) w'):Oper.wp P o a w K Q:=by
 rcases F with rfl|⟨off,rfl,c⟩
 ·have d:=ju (P:=P) w t o.type e sz f z (fun k=>by rw[f];simp) (some ⟨g,0,none⟩) B m cap c' J;have:news= []:=dn (by simpa using r);subst this;refine Lib.wp_append_run w s x t t y _ _ p n _ _ d (v w (h.hX l ?_ (ce.refl _ _ _)));simpa using h.b l.aB
 ·obtain⟨i,hi,G⟩:=Option.map_eq_some_iff.1 z;subst G;have hb:=h.b l.aB;have d:=run_append_room (P:=P) w t o.type e i f hi g m cap cs.toArray hb ⟨g,off,none⟩ q c' news r (fun j u hu=>by rw[iL,hb.cell,aE];exact c j u hu) (fun u hu=>List.all_eq_true.1 h1 u hu) C (by simpa using H);refine Lib.wp_append_run w s x t t y _ _ p n _ _ d (v _ (h.hX l (setRow_heap w g _ _ e _ hb) ⟨rfl,rfl,rfl,by simp[World.setRow],fun k M c=>setRow_other w g k _ c⟩))
theorem nW(h:Bx w0 S w A L)(B:o.guard=none)(x:Operand)(t e:TypeId)(v:o.op= .call {callee:=.builtin .clear,args:= #[x],argTypes:= #[t]})(z:Value)(bytes:Nat)(q:P.underlying t=some (.slice e))(y:(P.info? e).map (fun i=>(i.zero,i.size,i.bytes))=some (some z,2,bytes))(d f:Value)(p:z.cells= #[d,f])(h1:d.oneCell'=true/\f.oneCell'=true)
 (g off l c:Nat)(j:l=1)(s:a.eval x= .slice (some ⟨g,off,none⟩) l c){t':TypeId}(cs:List Value)(C:off+2<=cs.length)(r:Tr L g t' cs (cs.take off++ [d,f]++cs.drop (off+2)) L')
 (u: ∀w',Bx w0 S w' A L'->wpList P ops Q rest (a.put o.dst (.tuple #[])) w'):wpList P ops Q (o::rest) a w:=by
 subst j;refine wpList_plain B fun K k=>?_;have hb:=h.b r.aB;have n:=act (P:=P) w t e o.type z bytes q y d f p h1 g off c cs.toArray t' hb (by simpa using C);have m:=k _ _ (u _ (h.hX r (setRow_heap w g _ _ t' _ hb) ⟨rfl,rfl,rfl,by simp[World.setRow],fun k F j=>setRow_other w g k _ j⟩));unfold Oper.wp execOp;simp only[v,resolve,invoke,builtin,Sem.run_bind,Sem.run_pure,Result.andThen_ok,b8,aS,ck,s,n];exact m
theorem wn(w0:World)(rg cap m q:Nat)(pre post:List Ext)(x:Ext)(c:List Value)(hm:pre.length=m)(N:post.length=q)(hb:ah w0 rg 130 (bu pre++(.int .i64 x.a:: .int .i64 x.z::(bu post++c))).toArray)(XP:m+1+q<=cap)(T:cap<=maxLen)(B:(bu pre++(.int .i64 x.a:: .int .i64 x.z::(bu post++c))).length=cap*2):
 Calls prog 319 #[.slice (some ⟨rg,0,none⟩) (m+1+q) cap,.int .i64 m,.int .i64 (m+1)] w0 fun e w'=>e= .returned (.slice (some ⟨rg,0,none⟩) (m+q) cap)/\ah w' rg 130 (bu pre++(bu post++(.int .i64 0:: .int .i64 0::c))).toArray/\ce w0.heap.size rg w0 w':=by
 unfold maxLen at T;have U:=Bx.g8 hb;have p:=e3 pre;have i:=e3 post;rw[hm]at p;rw[N]at i;obtain⟨cs,s⟩: ∃cs,Hid (bu pre++(.int .i64 x.a:: .int .i64 x.z::(bu post++c))=cs):=⟨_,I rfl⟩
 have G: ∀j u,(bu post)[j]? =some u->cs[(m+1)*2+j]? =some u:=fun j u hu=>by
  rw[<-s.out,ay J,p,show(m+1)*2+j-m*2=j+1+1 from J,cz,cz,aA (List.getElem?_eq_some_iff.1 hu).1];exact hu
 have l:cs.take (m*2)++bu post++cs.drop (m*2+(bu post).length)=bu pre++bu post++(.int .i64 x.a:: .int .i64 x.z::(bu post++c)).drop (q*2):=by
  rw[<-s.out,cJ J,cm J,i,List.drop_append,cl J,au,p];congr 2;omega
 have n:(bu pre++bu post++(.int .i64 x.a:: .int .i64 x.z::(bu post++c)).drop (q*2)).take ((m+q)*2)++ [.int .i64 0,.int .i64 0]++(bu pre++bu post++(.int .i64 x.a:: .int .i64 x.z::(bu post++c)).drop (q*2)).drop ((m+q)*2+2)=bu pre++(bu post++(.int .i64 0:: .int .i64 0::c)):=by
  have C:(bu pre++bu post).length=(m+q)*2:=by simp;omega
  rw[cJ J,cm J,List.drop_append,cl J,au,C,List.drop_drop,show q*2+((m+q)*2+2-(m+q)*2)=q*2+1+1 from J,c8,c8,List.drop_append,cl J,i,Nat.sub_self,au,List.drop_zero];simp
 have d:=I l;have f:=I n;have V:=I G;have v:=I B;rw[s.out]at U v;have R:bu pre++bu post++(.int .i64 x.a:: .int .i64 x.z::(bu post++c)).drop (q*2)=bu pre++bu post++(.int .i64 x.a:: .int .i64 x.z::(bu post++c)).drop (q*2):=rfl;obtain⟨ds,H⟩: ∃ds,Hid (bu pre++bu post++(.int .i64 x.a:: .int .i64 x.z::(bu post++c)).drop (q*2)=ds):=⟨_,I rfl⟩
 have F:ds.length=cap*2:=by
  rw[<-H.out];simp only[ak,List.length_drop,aI]at B⊢;omega
 have M:=I F;rw[H.out]at d f;have xC:(0:Int)<=(m:Int):=J;have vN:(m:Int)<=(m:Int)+1:=J;have ZF:(m:Int)+1<=(m:Int)+1+(q:Int):=J;have YR:(m:Int)+1+(q:Int)<=(cap:Int):=J;have adv:(m:Int)<=(cap:Int):=J;have WT:(0:Int)<=(q:Int):=J;have abB:(0:Int)<=(m:Int)+1:=J;have WQ:(0:Int)<=(m:Int)+(q:Int):=J;have W:(m:Int)+(q:Int)<=(m:Int)+1+(q:Int):=J;have r:=I i;clear hb l n G B R F p i hm N;by_cases O:cap=m+1
 ·obtain rfl:q=0:=by omega
  subst O;go_enter func319,ntmps319;go_wp2_with fail;replace U:=U.drew;refine wp_region_held_drew (S:=(fun _=>True)) aM ?_ (fun X=>?_)
  ·trivial
  refine az [[0,1,2,3,4,5]] ?_;refine aF 6 fun K y=>?_;rw[Z (by rfl)];refine sU U _ _ 58 130 rfl 2 rfl aM rg m 0 (m+1) _ _ cs (bu post) rfl rfl r.out (.inl rfl) J (by have:=v.out;have:=r.out;omega) (wm _) (by rw[d.out];exact cf) ?_;clear U;intro w U;refine WE y fun X=>?_;refine Xh 7 ?_;refine UF ?_;go_wp2_with(first|(refine nW U rfl _ 58 130 rfl (.agg #[.int .i64 0,.int .i64 0]) 16 rfl aM (.int .i64 0) (.int .i64 0) rfl ⟨rfl,rfl⟩ rg ((m+0)*2) 1 _ J (by first|rfl|simp) ds (by have:=M.out;omega) (by rw[f.out];exact cf) ?_;clear U;intro w U;refine cN ?_));go_ret;exact⟨rfl,U.b (g:=rg) ag,U.mW⟩
 ·have afI: ¬(cap=m+q):=by omega
  have afy:m+1+q-(m+q)=1:=J;have adl: ¬((m:Int)+1=(cap:Int)):=J;have fc:(m:Int)+1<(cap:Int):=J;go_enter func319,ntmps319;go_wp2_with fail;replace U:=U.drew;refine wp_region_held_drew (S:=(fun _=>True)) aM ?_ (fun X=>?_)
  ·trivial
  refine az [[0,1,2,3,4,5]] ?_;refine aF 6 fun K y=>?_;rw[Z (by rfl)];refine sU U _ _ 58 130 rfl 2 rfl aM rg m q cap _ _ cs (bu post) rfl rfl r.out (.inr ⟨(m+1)*2,by first|rfl|simp,V.out⟩) J (by have:=v.out;have:=r.out;omega) (wm _) (by rw[d.out];exact cf) ?_;clear U;intro w U;refine WE y fun X=>?_;refine Xh 7 ?_;refine UF ?_;go_wp2_with(first|(refine nW U rfl _ 58 130 rfl (.agg #[.int .i64 0,.int .i64 0]) 16 rfl aM (.int .i64 0) (.int .i64 0) rfl ⟨rfl,rfl⟩ rg ((m+q)*2) (m+1+q-(m+q)) _ J (by first|rfl|simp) ds (by have:=M.out;omega) (by rw[f.out];exact cf) ?_;clear U;intro w U;refine cN ?_));go_ret;exact⟨rfl,U.b (g:=rg) ag,U.mW⟩
end
section
section
variable(w0:World)(c rg:Nat)(h d m:Int)(l:List Ext)(hm:8<=m/\m<=65536/\m %8=0)(j:l.length<=65536)(f: ∀y,y∈l->y.z<m)
include w0 c rg h d m l hm j f
theorem Fq(cap:Nat)(rest:List Value)(n:ah w0 rg 130 (bu l++rest).toArray)(A:l.length<=cap)(C:cap<=maxLen)(hb:ah w0 c 363 ([.int .i64 h,.int .i64 d,.slice (some ⟨rg,0,none⟩) l.length cap]:List Value).toArray):
 Calls prog 265 #[.pointer (some ⟨c,0,none⟩),.int .i64 m] w0 fun e w'=>e= .returned (.tuple #[.int .i64 0,.bool false])/\Below w0.heap.size w0 w':=by
 have B:=I (mF n A C);obtain⟨o,u⟩: ∃o,Hid (l.length=o):=⟨_,I rfl⟩
 rw[u.out]at B hb A j;have F:=I f;have q: ∀args w,(callFunc 318 args).run prog w= .ok (.enter 318 args) w:=enters_of func318 aM rfl;have v:=I q;have O: ∀(fn:Fn) (first cap:Array Value) (w:World),(Instr.makeFunc fn first cap).run prog w= .ok (.func fn first cap) w:=fun _ _ _ _=>rfl;have U:=Bx.g8 hb;have p:=I hb;have K:(0:Int)<=m:=J;have H:decide (m<1)=false:=by simp;omega
 have L:(m %8 !=0)=false:=by simp;omega
 clear f q hb n;go_enter func265,ntmps265;go_wp2_with(first|(go_at_call 301;have t:=U.b (g:=s) ag;refine Calls.mono (jw _ (fun b=>b=rg) (.slice (some ⟨rg,0,none⟩) o cap) o (eP l) (fun i=>.agg #[.int .i64 (l.getD i ⟨0,0⟩).a,.int .i64 (l.getD i ⟨0,0⟩).z]) 318 #[.pointer (some ⟨s,0,none⟩)] (fun i=>decide (m<=(l.getD i ⟨0,0⟩).z)) v.out (B.out.below (U.ro p.out ag)) (fun i hi=>iA l i (by rw[u.out];exact hi)) J (fun i hi w' x=>pS w' _ m _ _ (t.below x t.lt))) ?_;rintro e G ⟨r,rfl,n,N⟩;replace U:=U.below N;clear t N;obtain rfl:r= -1:=yR u.out F.out n;clear n)|(refine aq ?_)|(refine Ws U 3 ?_;clear U;intro s w U M)|(refine Po U ?_;clear U;intro w U));go_ret2;exact⟨rfl,U.ro p.out ag⟩
theorem Fr(x:l= [])(hb:ah w0 c 363 ([.int .i64 h,.int .i64 d,.slice none 0 0]:List Value).toArray):
 Calls prog 265 #[.pointer (some ⟨c,0,none⟩),.int .i64 m] w0 fun e w'=>e= .returned (.tuple #[.int .i64 0,.bool false])/\Below w0.heap.size w0 w':=by
 have v:=I (show l.length=0 by rw[x];rfl);have A:=I (show KC w0 (fun _=>True) (.slice none 0 0) 0 2 (eP l)from KC.nil _ _ _ _);have B:=I f;have o: ∀args w,(callFunc 318 args).run prog w= .ok (.enter 318 args) w:=enters_of func318 aM rfl;have t:=I o;have L: ∀(fn:Fn) (first cap:Array Value) (w:World),(Instr.makeFunc fn first cap).run prog w= .ok (.func fn first cap) w:=fun _ _ _ _=>rfl;have U:=Bx.g8 hb;have n:=I hb;have G:(0:Int)<=m:=J;have F:decide (m<1)=false:=by simp;omega
 have H:(m %8 !=0)=false:=by simp;omega
 clear f o hb x;go_enter func265,ntmps265;go_wp2_with(first|(go_at_call 301;have s:=U.b (g:=q) ag;refine Calls.mono (jw _ (fun _=>True) (.slice none 0 0) 0 (eP l) (fun i=>.agg #[.int .i64 (l.getD i ⟨0,0⟩).a,.int .i64 (l.getD i ⟨0,0⟩).z]) 318 #[.pointer (some ⟨q,0,none⟩)] (fun i=>decide (m<=(l.getD i ⟨0,0⟩).z)) t.out (A.out.below (U.ro n.out ag)) (fun i hi=>iA l i (by rw[v.out];exact hi)) J (fun i hi w' u=>pS w' _ m _ _ (s.below u s.lt))) ?_;rintro e C ⟨r,rfl,p,N⟩;replace U:=U.below N;clear s N;obtain rfl:r= -1:=yR v.out B.out p;clear p)|(refine aq ?_)|(refine Ws U 3 ?_;clear U;intro q w U K)|(refine Po U ?_;clear U;intro w U));go_ret2;exact⟨rfl,U.ro n.out ag⟩
end
end
section
theorem nX{G:Prop}(h:G:=by
 refine aF 16 fun K Z7=>?_;rw[Z (by rfl)];refine ev U 3 _ _ rfl rg (p*2) _ _ rfl rfl rfl cf (by have:=jx.out;simp;omega) (by kernel_rfl) (by first|rfl|(simp[*];done)) ?_;clear U;intro w U;rw[Fm jx.out]at U;refine WE Z7 fun X=>?_;refine az [[17,18]] ?_;refine aF 19 fun K Z7=>?_;rw[Z (by rfl)];refine ev U 3 _ _ rfl rg (p*2+1) _ _ rfl rfl rfl cf (by have:=jx.out;simp;omega) (by kernel_rfl) (by first|rfl|(simp[*];done)) ?_;clear U;intro w U;rw[AG jx.out]at U;refine WE Z7 fun X=>?_;refine UF ?_;dsimp only[Exit.then]
 apply_assumption
 go_wp2_with(first|(refine fm U rfl 3 _ rfl rg (p*2+1) rfl ag _ (rx jx.out) underlying3 rfl ?_;refine cN ?_)|(go_at_call 319;refine Calls.mono (wn _ rg cap p q pre post ⟨x.a+m,0⟩ rest gv.out sm.out (U.b (g:=rg) r3) YT.out yU.out (by have h:=Fs.out;simp only[ak,aI]at h⊢;exact h)) ?_;rintro e EH ⟨rfl,N,jT⟩;replace U:=U.hX cf N jT;clear N jT)|(refine aq ?_)|(refine Ws U 3 ?_;clear U;intro UI w U j7)|(refine Po U ?_;clear U;intro w U));go_ret2;exact⟨rfl,⟨_,U.b (g:=L8) ag,.inr ⟨cap,rest,by rw[ak,aI,gv.out,sm.out];congr 1;omega,by rw[dS,eS,aJ,aU,aU];exact U.b (g:=rg) ag,by rw[ak,aI,gv.out,sm.out];have:=YT.out;omega,Ma.out,by have:=Fs.out;simp[dS,eS]at this⊢;omega,Mb.out⟩⟩,U.Wu⟩):G:=h
theorem nY{G:Prop}(h:G:=by
 refine aF 16 fun K Z7=>?_;rw[Z (by rfl)];refine ev U 3 _ _ rfl rg (p*2) _ _ rfl rfl rfl cf (by have:=jx.out;simp;omega) (by kernel_rfl) (by first|rfl|(simp[*];done)) ?_;clear U;intro w U;rw[Fm jx.out]at U;refine WE Z7 fun X=>?_;refine az [[17,18]] ?_;refine aF 19 fun K Z7=>?_;rw[Z (by rfl)];refine ev U 3 _ _ rfl rg (p*2+1) _ _ rfl rfl rfl cf (by have:=jx.out;simp;omega) (by kernel_rfl) (by first|rfl|(simp[*];done)) ?_;clear U;intro w U;rw[AG jx.out]at U;refine WE Z7 fun X=>?_;refine UF ?_;dsimp only[Exit.then]
 apply_assumption
 go_wp2_with(first|(refine fm U rfl 3 _ rfl rg (p*2+1) rfl ag _ (rx jx.out) underlying3 rfl ?_;refine cN ?_)|(go_at_call 319;refine Calls.mono (wn _ rg cap p q pre post ⟨x.a+m,0⟩ rest gv.out sm.out (U.b (g:=rg) r3) YT.out yU.out (by have h:=Fs.out;simp only[ak,aI]at h⊢;exact h)) ?_;rintro e EH ⟨rfl,N,jT⟩;replace U:=U.hX cf N jT;clear N jT)|(refine aq ?_)|(refine Ws U 3 ?_;clear U;intro UI w U j7)|(refine Po U ?_;clear U;intro w U));go_ret2;exact⟨rfl,⟨_,U.b (g:=L8) ag,.inr ⟨cap,.int .i64 0:: .int .i64 0::rest,by rw[ak,gv.out,sm.out],by rw[dS,aJ];exact U.b (g:=rg) ag,by rw[ak,gv.out,sm.out];have:=YT.out;omega,Ma.out,by have:=Fs.out;simp[dS]at this⊢;omega,Mb.out⟩⟩,U.Wu⟩):G:=h
section
variable(w0:World)(L8 rg:Nat)(d c m:Int)(pre post:List Ext)(x:Ext)(hm:8<=m/\m<=65536/\m %8=0)(l:0<=x.a/\x.a<=65536/\x.z<=65536)(j:(pre++x::post).length<=65536)(f: ∀y,y∈pre->y.z<m)
include w0 L8 rg d c m pre post x hm l j f
theorem Ft(tc:m<x.z)(u:cY w0 L8 rg d c (pre++x::post)):
 Calls prog 265 #[.pointer (some ⟨L8,0,none⟩),.int .i64 m] w0 fun e w'=>e= .returned (.tuple #[.int .i64 x.a,.bool true])/\cY w' L8 rg d c (pre++⟨x.a+m,x.z-m⟩::post)/\Z1 (fun b=>b≠L8/\b≠rg) w0 w':=by
 obtain⟨v,hb,hv⟩:=u.ex;rcases hv with⟨_,M,_⟩|⟨cap,rest,rfl,n,A,B,G,L⟩
 ·simp at M
 obtain⟨p,gv⟩: ∃p,Hid (pre.length=p):=⟨_,I rfl⟩
 obtain⟨q,sm⟩: ∃q,Hid (post.length=q):=⟨_,I rfl⟩
 have C:(pre++x::post).length=p+1+q:=by rw[ak,aI,gv.out,sm.out];omega
 have H: ∀EH:World,ah EH rg 130 (bu (pre++x::post)++rest).toArray->KC EH (fun b=>b=rg) (.slice (some ⟨rg,0,none⟩) (p+1+q) cap) (p+1+q) 2 (eP (pre++x::post)):=fun EH h=>by
  have:=mF h A B;rw[C]at this;exact this
 replace H:=I H;have V:=I C;have o:bu (pre++x::post)++rest=bu pre++(.int .i64 x.a:: .int .i64 x.z::(bu post++rest)):=by rw[dS,eS,aJ];rfl
 have T:=I o;rw[C]at hb A j;rw[o]at n G;have Q:(bu pre).length=p*2:=by rw[e3,gv.out]
 have jx:=I Q;have W:=I f;have YT:=I A;have yU:=I (show cap<=maxLen from B);have Ma:=I B;have Fs:=I G;have Mb:=I L;have R:=I (show m<=x.z by omega);have s: ∀args w,(callFunc 318 args).run prog w= .ok (.enter 318 args) w:=enters_of func318 aM rfl;have O:=I s;have rs: ∀(fn:Fn) (first cap:Array Value) (w:World),(Instr.makeFunc fn first cap).run prog w= .ok (.func fn first cap) w:=fun _ _ _ _=>rfl;have U:=Bx.two hb n L;have zk:(0:Int)<=m:=J;have VQ:decide (m<1)=false:=by simp;omega
 have Yz:(m %8 !=0)=false:=by simp;omega
 have acF:decide ((p:Int)<0)=false:=aN;have ya:(p:Int)<(p:Int)+1+(q:Int):=J;have VD:(0:Int)<=(p:Int):=J;have Zq:IntKind.i64.wrap ((p:Int)+1)=(p:Int)+1:=by rw[IntKind.wrap_i64];omega
 have x4:IntKind.i64.wrap (x.a+m)=x.a+m:=by rw[IntKind.wrap_i64];omega
 have aag:IntKind.i64.wrap (x.z-m)=x.z-m:=by rw[IntKind.wrap_i64];omega
 have z0:(x.z-m==0)=false:=by simp;omega
 clear f s hb n L G B A o u Q C;go_enter func265,ntmps265;go_wp2_with(first|(refine fm U rfl 3 _ rfl rg (p*2) rfl ag _ (rv jx.out) underlying3 rfl ?_;refine cN ?_)|(go_at_call 301;have F:=U.b (g:=UI) ag;refine Calls.mono (jw _ (fun b=>b=rg) (.slice (some ⟨rg,0,none⟩) (p+1+q) cap) (p+1+q) (eP (pre++x::post)) (fun i=>.agg #[.int .i64 ((pre++x::post).getD i ⟨0,0⟩).a,.int .i64 ((pre++x::post).getD i ⟨0,0⟩).z]) 318 #[.pointer (some ⟨UI,0,none⟩)] (fun i=>decide (m<=((pre++x::post).getD i ⟨0,0⟩).z)) O.out (H.out _ (by rw[T.out];exact U.b (g:=rg) ag)) (fun i hi=>iA (pre++x::post) i (by rw[V.out];exact hi)) J (fun i hi w' P=>pS w' _ m _ _ (F.below P F.lt))) ?_;rintro e EH ⟨r,rfl,n,N⟩;replace U:=U.below N;clear F N;obtain rfl:r=(p:Int):=yS gv.out J R.out W.out n;clear n)|(refine aq ?_)|(refine Ws U 3 ?_;clear U;intro UI w U j7)|(refine Po U ?_;clear U;intro w U));replace U:=U.drew;refine wp_region_held_drew (S:=(c0 [⟨UI,3,[.int .i64 m]⟩])) aM ?_ (fun X=>?_)
 ·exact U.bG aN
 refine az [[0,1,2,3,4,6,8,9,10,12]] ?_;refine Zj [5,11] ?_;refine ea (fun K Z7=>?_) ?_
 ·rw[Z (by rfl)];refine bU U 3 _ rfl rg (p*2) rfl ag _ (rv jx.out) underlying3 rfl ?_;refine WE Z7 fun X=>?_;refine Xh 7 ?_;refine aF 11 fun K Z7=>?_;rw[Z (by rfl)];refine bU U 3 _ rfl rg (p*2+1) rfl ag _ (rx jx.out) underlying3 rfl ?_;refine WE Z7 fun X=>?_;refine az [[13,14,15]] ?_;exact nX
 refine ei (fun K Z7=>?_);rw[Z (by rfl)];refine bU U 3 _ rfl rg (p*2+1) rfl ag _ (rx jx.out) underlying3 rfl ?_;refine WE Z7 fun X=>?_;refine Xh 13 ?_;refine aF 5 fun K Z7=>?_;rw[Z (by rfl)];refine bU U 3 _ rfl rg (p*2) rfl ag _ (rv jx.out) underlying3 rfl ?_;refine WE Z7 fun X=>?_;refine az [[7,14,15]] ?_;exact nX
theorem Fv(tc:x.z=m)(u:cY w0 L8 rg d c (pre++x::post)):
 Calls prog 265 #[.pointer (some ⟨L8,0,none⟩),.int .i64 m] w0 fun e w'=>e= .returned (.tuple #[.int .i64 x.a,.bool true])/\cY w' L8 rg d c (pre++post)/\Z1 (fun b=>b≠L8/\b≠rg) w0 w':=by
 obtain⟨v,hb,hv⟩:=u.ex;rcases hv with⟨_,M,_⟩|⟨cap,rest,rfl,n,A,B,G,L⟩
 ·simp at M
 obtain⟨p,gv⟩: ∃p,Hid (pre.length=p):=⟨_,I rfl⟩
 obtain⟨q,sm⟩: ∃q,Hid (post.length=q):=⟨_,I rfl⟩
 have C:(pre++x::post).length=p+1+q:=by rw[ak,aI,gv.out,sm.out];omega
 have H: ∀EH:World,ah EH rg 130 (bu (pre++x::post)++rest).toArray->KC EH (fun b=>b=rg) (.slice (some ⟨rg,0,none⟩) (p+1+q) cap) (p+1+q) 2 (eP (pre++x::post)):=fun EH h=>by
  have:=mF h A B;rw[C]at this;exact this
 replace H:=I H;have V:=I C;have o:bu (pre++x::post)++rest=bu pre++(.int .i64 x.a:: .int .i64 x.z::(bu post++rest)):=by rw[dS,eS,aJ];rfl
 have T:=I o;rw[C]at hb A j;rw[o]at n G;have Q:(bu pre).length=p*2:=by rw[e3,gv.out]
 have jx:=I Q;have W:=I f;have YT:=I A;have yU:=I (show cap<=maxLen from B);have Ma:=I B;have Fs:=I G;have Mb:=I L;have R:=I (show m<=x.z by omega);have s: ∀args w,(callFunc 318 args).run prog w= .ok (.enter 318 args) w:=enters_of func318 aM rfl;have O:=I s;have rs: ∀(fn:Fn) (first cap:Array Value) (w:World),(Instr.makeFunc fn first cap).run prog w= .ok (.func fn first cap) w:=fun _ _ _ _=>rfl;have U:=Bx.two hb n L;have zk:(0:Int)<=m:=J;have VQ:decide (m<1)=false:=by simp;omega
 have Yz:(m %8 !=0)=false:=by simp;omega
 have acF:decide ((p:Int)<0)=false:=aN;have ya:(p:Int)<(p:Int)+1+(q:Int):=J;have VD:(0:Int)<=(p:Int):=J;have Zq:IntKind.i64.wrap ((p:Int)+1)=(p:Int)+1:=by rw[IntKind.wrap_i64];omega
 have x4:IntKind.i64.wrap (x.a+m)=x.a+m:=by rw[IntKind.wrap_i64];omega
 have aag:IntKind.i64.wrap (x.z-m)=x.z-m:=by rw[IntKind.wrap_i64];omega
 have z0:(x.z-m==0)=true:=by simp;omega
 clear f s hb n L G B A o u Q C;go_enter func265,ntmps265;go_wp2_with(first|(refine fm U rfl 3 _ rfl rg (p*2) rfl ag _ (rv jx.out) underlying3 rfl ?_;refine cN ?_)|(go_at_call 301;have F:=U.b (g:=UI) ag;refine Calls.mono (jw _ (fun b=>b=rg) (.slice (some ⟨rg,0,none⟩) (p+1+q) cap) (p+1+q) (eP (pre++x::post)) (fun i=>.agg #[.int .i64 ((pre++x::post).getD i ⟨0,0⟩).a,.int .i64 ((pre++x::post).getD i ⟨0,0⟩).z]) 318 #[.pointer (some ⟨UI,0,none⟩)] (fun i=>decide (m<=((pre++x::post).getD i ⟨0,0⟩).z)) O.out (H.out _ (by rw[T.out];exact U.b (g:=rg) ag)) (fun i hi=>iA (pre++x::post) i (by rw[V.out];exact hi)) J (fun i hi w' P=>pS w' _ m _ _ (F.below P F.lt))) ?_;rintro e EH ⟨r,rfl,n,N⟩;replace U:=U.below N;clear F N;obtain rfl:r=(p:Int):=yS gv.out J R.out W.out n;clear n)|(refine aq ?_)|(refine Ws U 3 ?_;clear U;intro UI w U j7)|(refine Po U ?_;clear U;intro w U));replace U:=U.drew;refine wp_region_held_drew (S:=(c0 [⟨UI,3,[.int .i64 m]⟩])) aM ?_ (fun X=>?_)
 ·exact U.bG aN
 refine az [[0,1,2,3,4,6,8,9,10,12]] ?_;refine Zj [5,11] ?_;refine ea (fun K Z7=>?_) ?_
 ·rw[Z (by rfl)];refine bU U 3 _ rfl rg (p*2) rfl ag _ (rv jx.out) underlying3 rfl ?_;refine WE Z7 fun X=>?_;refine Xh 7 ?_;refine aF 11 fun K Z7=>?_;rw[Z (by rfl)];refine bU U 3 _ rfl rg (p*2+1) rfl ag _ (rx jx.out) underlying3 rfl ?_;refine WE Z7 fun X=>?_;refine az [[13,14,15]] ?_;exact nY
 refine ei (fun K Z7=>?_);rw[Z (by rfl)];refine bU U 3 _ rfl rg (p*2+1) rfl ag _ (rx jx.out) underlying3 rfl ?_;refine WE Z7 fun X=>?_;refine Xh 13 ?_;refine aF 5 fun K Z7=>?_;rw[Z (by rfl)];refine bU U 3 _ rfl rg (p*2) rfl ag _ (rv jx.out) underlying3 rfl ?_;refine WE Z7 fun X=>?_;refine az [[7,14,15]] ?_;exact nY
end
end
end Go.Proofs.YtcimojgkeoecfaaGreat
