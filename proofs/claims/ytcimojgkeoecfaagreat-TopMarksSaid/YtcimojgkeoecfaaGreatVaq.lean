import Derived.Test.YtcimojgkeoecfaaGreatVap
import Derived.Maps.AppendAt
import Derived.Great.BuildSlice
import Derived.Lib.AppendZeros
set_option linter.all false
set_option maxHeartbeats 16000000
set_option maxRecDepth 100000
namespace Go.Proofs.YtcimojgkeoecfaaGreat
section
open Go.RowKit
variable{w0 C w w':World}{S:Nat->Prop}{A M:Option XS}{L L' L1:List PL}
theorem qa{G:Prop}(h:G:=by
 rcases UJ with UJ|UJ
 ·exact te.fresh j (UJ▸OV)
 ·rw[UJ]at OV;injection OV with OV
  have:=(Yq.hO (b:=j) (by omega)).2;refine⟨this,fun a Xg abe=>?_⟩;subst Xg;have:=ar.c9 (w:=w) Yq.VB;omega):G:=h
theorem nF{G:Prop}(h:G:=by
 rcases T9.own.2 with⟨rfl,rfl⟩|⟨g,cap,cS,rfl,_,_,ZV,_⟩
 ·exact⟨_,_,rfl,ai _⟩
 ·exact⟨_,_,rfl,ZV⟩):G:=h
def l1:Option XS->Option (Nat×Nat):=Option.map fun a=>(a.p,a.g)
theorem ar.j3{w w':World}{p g n:Nat}{F:Nat->Int}(h:ar w p g n F)(c:w'.heap[p]? =w.heap[p]?)(d:w'.heap[g]? =w.heap[g]?):ar w' p g n F:=by
 obtain⟨f,a,b⟩:=h;exact⟨f,⟨c.trans a.head,d.trans a.row,a.ne,a.cE,a.fits⟩,b⟩
theorem Bx.grown(h:Bx w0 S w A L){r:Option Nat}(b:w.grownBy w' r)(c: ∀j,r=some j->w0.heap.size<=j/\bq A L j/\∀a,A=some a->j≠a.p):Bx w0 S w' A L:=by
 have i: ∀k,r≠some k->k<w.heap.size->w'.heap[k]? =w.heap[k]? :=fun k d f=>b.block k f fun e=>d e.symm;refine⟨fun x l=>?_,h.UH,h.fr,⟨b.os.trans h.Wu.os,b.tape.trans h.Wu.tape,b.output.trans h.Wu.output,D h.Wu.size b.size,fun k d m=>?_⟩,?_,h.WN⟩
 ·exact(i x.g (fun e=>(c _ e).2.1.1 x l rfl) (h.bC x l).lt).trans (h.bC x l)
 ·exact(i k (fun e=>by have:=(c _ e).1;omega) (aj d h.Wu.size)).trans (h.Wu.block k d m)
 ·cases A with
  |none=>exact trivial
  |some a=>
   have f:=ar.c9 (w:=w) h.VB;exact ar.j3 h.VB (i a.p (fun e=>(c _ e).2.2 a rfl rfl) f.1) (i a.g (fun e=>(c _ e).2.1.2 a rfl rfl) f.2.1)
structure UC(w0 w:World)(A:Option XS)(L:List PL)(e:TypeId)(sz:Nat)(v:Value)(n:Nat)(xs:List Value):Prop where
 own:w.ownsRow w0.heap.size e sz v n xs
 fresh: ∀j,v.ownBlock=some j->bq A L j/\∀a,A=some a->j≠a.p
variable{e:TypeId}{sz n:Nat}{v:Value}{xs:List Value}
theorem UC.nil(w0 w:World)(A:Option XS)(L:List PL)(e:TypeId)(sz:Nat):UC w0 w A L e sz (.slice none 0 0) 0 []:=
 ⟨World.ownsRow_nil _ _ _ _,fun j h=>by simp[Value.ownBlock]at h⟩
theorem fT{w w':World}{B:Nat}(h:w.ownsRow B e sz v n xs)(hb: ∀j,v.ownBlock=some j->w'.heap[j]? =w.heap[j]?):w'.ownsRow B e sz v n xs:=by
 refine⟨h.1,?_⟩;rcases h.2 with h|⟨g,cap,c,rfl,h1,a,b⟩
 ·exact .inl h
 ·exact .inr ⟨g,cap,c,rfl,h1,(hb g rfl).trans a,b⟩
theorem UC.lt(h:UC w0 w A L e sz v n xs): ∀j,v.ownBlock=some j->w0.heap.size<=j/\j<w.heap.size:=h.own.lt
theorem UC.on(h:UC w0 C M L1 e sz v n xs)(o:Bx w0 S C M L1)(U:Bx C (bq M L1) w A L)(c:l1 A=l1 M):UC w0 w A L e sz v n xs:=by
 refine⟨fT h.own fun j b=>U.Wu.block j (h.lt j b).2 (h.fresh j b).1,fun j b=>?_⟩;have p:=(h.lt j b).2;have f:=(h.fresh j b).1;refine⟨⟨fun x l k=>?_,fun a g i=>?_⟩,fun a g i=>?_⟩
 ·subst k;rcases U.fr x l with d|d
  ·omega
  ·exact d f
 ·subst i;rcases(U.WN a g).2.2 with d|d
  ·omega
  ·exact d f
 ·subst g;cases M with
  |none=>cases c
  |some m=>
   simp only[l1,bt,Option.some.injEq,Prod.mk.injEq]at c;exact(h.fresh j b).2 m rfl (i.trans c.1)
theorem UC.made(b:Bx w0 S w A L)(hb:Below w.heap.size w C)(own:C.ownsRow w.heap.size e sz v n xs):UC w0 C A L e sz v n xs:=by
 refine⟨?_,fun j d=>?_⟩
 ·refine⟨own.1,?_⟩;rcases own.2 with h|⟨g,cap,i,rfl,h1,c⟩
  ·exact .inl h
  ·exact .inr ⟨g,cap,i,rfl,D b.size h1,c⟩
 ·have:=(own.lt j d).1;refine⟨(b.hO this).2,fun a f k=>?_⟩;subst f;have:=ar.c9 (w:=w) b.VB;omega
theorem UC.sl{F:Nat->List Value}(h:UC w0 w A L e sz v n (bx n sz F))(hF: ∀i,i<n->(F i).length=sz):KC w (fun b=>w0.heap.size<=b/\bq A L b) v n sz F:=by
 rcases h.own.2 with⟨rfl,rfl⟩|⟨g,cap,cS,rfl,h1,Tw,c,a,f,XX⟩
 ·exact KC.nil _ _ _ _
 ·refine⟨_,cap,rfl,c,a,fun d=>⟨g,0,rfl,⟨h1,(h.fresh g rfl).1⟩,(Array.getElem?_eq_some_iff.1 Tw).1,fun i j u hi hu=>?_⟩⟩;exact nj
theorem UC.form(h:UC w0 w A L e sz v n xs): ∃A' c,v= .slice A' n c:=by
 rcases h.own.2 with⟨rfl,rfl⟩|⟨g,cap,a,rfl,_⟩
 ·exact⟨_,_,rfl⟩
 ·exact⟨_,_,rfl⟩
theorem UC.Ai{m:Nat}(h:UC w0 w A L e sz v (0+m) xs): ∃A' c,v= .slice A' m c:=by
 obtain⟨A',c,h⟩:=h.form;exact⟨A',c,by rw[h,ax]⟩
theorem jM{n sz:Nat}{F:Nat->List Value}(f:0<sz)(hF:(F n).length=sz):bx (n+1) sz F=bx n sz F++F n:=by
 apply List.ext_getElem?;intro j;unfold bx;rw[a3,List.getElem?_append];simp only[bJ,List.length_range];by_cases c:j<n*sz
 ·rw[Z c,a3,a1 c,a1 (by rw[Nat.add_mul];omega)]
 ·rw[Y c];by_cases d:j<(n+1)*sz
  ·rw[a1 d];have hd:j-n*sz<sz:=by rw[Nat.add_mul]at d;omega
   have a:j/sz=n:=by
    apply Nat.div_eq_of_lt_le
    ·omega
    ·exact d
   have b:j %sz=j-n*sz:=by
    have:=Nat.div_add_mod j sz;rw[a,Nat.mul_comm]at this;omega
   rw[bt,a,b,ae,an J];simp
  ·rw[aV (by simp;omega),aV (by rw[Nat.add_mul]at d;omega)];rfl
theorem qF{n sz:Nat}{F G:Nat->List Value}(b:0<sz)(h: ∀i,i<n->F i=G i):bx n sz F=bx n sz G:=by
 unfold bx;apply List.map_congr_left;intro j a;rw[h (j/sz) ((Nat.div_lt_iff_lt_mul b).2 (List.mem_range.1 a))]
variable{P:Program}{o:Oper}{a:Act}{K:Act->World->Prop}{Q:Exit->Act->World->Prop}{ops:Array Oper}{rest:List Oper}
section
variable(d:Bx w0 S C M L1)(U:Bx C (bq M L1) w A L)(f:UC w0 C M L1 e sz v n xs)(g:l1 A=l1 M)
include d U f g
theorem gG(s x:Operand)(t:TypeId)(H:o.op= .call {callee:=.builtin .append,args:= #[s,x],argTypes:= #[t,t]})
 (z:Value)(bytes:Nat)(q:P.underlying t=some (.slice e))(O:(P.info? e).map (fun i=>(i.zero,i.size,i.bytes))=some (some z,sz,bytes))(qG:z.cells.size=sz)(R:0<sz)
 (B:a.eval s=v)(h:Addr)(m c:Nat)(news:List Value)(y:a.eval x= .slice (some h) m c)(F:news.length=m*sz)(W: ∀j u,news[j]? =some u->w.cell? (h.add j)=some u)(h1:news.all (·.oneCell')=true)(qH:n+m<=maxLen)(T:(n+m)*bytes<=140737488355328)
 (G: ∀v' w',Bx w0 S w' A L->UC w0 w' A L e sz v' (n+m) (xs++news)->K (a.put o.dst v') w'):Oper.wp P o a w K Q:=by
 obtain⟨i,hi,p,X,V⟩:=info_parts O;have te:=f.on d U g;have Yq:=d.back U;obtain⟨v',w',l,k,N,Ya,UJ⟩:=run_append_own_at (P:=P) w w0.heap.size t o.type e i z sz bytes q hi p X V qG R v n xs te.own h m c news F W (fun u hu=>List.all_eq_true.1 h1 u hu) qH T Yq.size;unfold Oper.wp execOp;simp only[H,resolve,invoke,builtin,Sem.run_bind,Sem.run_pure,Result.andThen_ok,b8,aS,ck,B,y,l];have r:=Yq.grown N fun j OV=>⟨(te.lt j OV).1,te.fresh j OV⟩
 refine G v' w' r ⟨k,fun j OV=>?_⟩;exact qa
theorem j4(H:o.guard=none)(s x:Operand)(t:TypeId)(B:o.op= .call {callee:=.builtin .append,args:= #[s,x],argTypes:= #[t,t]})
 (z:Value)(bytes:Nat)(l:P.underlying t=some (.slice e))(F:(P.info? e).map (fun i=>(i.zero,i.size,i.bytes))=some (some z,sz,bytes))(R:z.cells.size=sz)(G:0<sz)
 (q:a.eval s=v)(b:Addr)(m c:Nat)(news:List Value)(p:a.eval x= .slice (some b) m c)(r:news.length=m*sz)(O: ∀j u,news[j]? =some u->w.cell? (b.add j)=some u)(h1:news.all (·.oneCell')=true)(T:n+m<=maxLen)(N:(n+m)*bytes<=140737488355328)
 (y: ∀v' w',Bx w0 S w' A L->UC w0 w' A L e sz v' (n+m) (xs++news)->wpList P ops Q rest (a.put o.dst v') w'):wpList P ops Q (o::rest) a w:=
 wpList_plain H fun K k=>gG d U f g s x t B z bytes l F R G q b m c news p r O h1 T N fun v' w' h1 h=>k _ _ (y v' w' h1 h)
end
section
variable(h:Bx w0 S w A L)
include h
theorem Bx.news{g:Nat}{t:TypeId}{cs:List Value}(hi:In L g t cs): ∀j u,cs[j]? =some u->w.cell? ((⟨g,0,none⟩:Addr).add j)=some u:=by
 intro j u hu;rw[iL,ax,(h.b hi).cell,aE];exact hu
theorem qI(t e:TypeId)(len:Nat)(parts:Array (Nat×Operand))(f:o.op= .buildSlice t len parts)(ds:List Value)(z:Value)(sz bytes:Nat)
 (hu:P.underlying t=some (.slice e))(j:(P.info? e).map (fun i=>(i.zero,i.size,i.bytes))=some (some z,sz,bytes))(l:len*sz<=2^24)(p:0<len*sz)
 (b:Instr.fill (fun i=>some (i*sz,sz)) ((Array.range (len*sz)).map (z.cells[· %z.cells.size]!)) (parts.map fun(i,x)=>(i,a.eval x)).toList=some ds.toArray)
 (d: ∀g w',Bx w0 S w' A (⟨g,e,ds⟩::L)->w0.heap.size<=g->K (a.put o.dst (.slice (some ⟨g,0,none⟩) len len)) w'):Oper.wp P o a w K Q:=by
 obtain⟨i,hi,c,k,m⟩:=info_parts j;subst k;exact wp_buildSlice t e len parts f ds.toArray i z hu hi c J J b (d _ _ (h.new e ds) h.size)
theorem abR(m:o.guard=none)(t e:TypeId)(len:Nat)(parts:Array (Nat×Operand))(j:o.op= .buildSlice t len parts)(ds:List Value)(z:Value)(sz bytes:Nat)
 (hu:P.underlying t=some (.slice e))(l:(P.info? e).map (fun i=>(i.zero,i.size,i.bytes))=some (some z,sz,bytes))(d:len*sz<=2^24)(p:0<len*sz)
 (b:Instr.fill (fun i=>some (i*sz,sz)) ((Array.range (len*sz)).map (z.cells[· %z.cells.size]!)) (parts.map fun(i,x)=>(i,a.eval x)).toList=some ds.toArray)
 (f: ∀g w',Bx w0 S w' A (⟨g,e,ds⟩::L)->w0.heap.size<=g->wpList P ops Q rest (a.put o.dst (.slice (some ⟨g,0,none⟩) len len)) w'):wpList P ops Q (o::rest) a w:=
 wpList_plain m fun K k=>qI h t e len parts j ds z sz bytes hu l d p b fun g w' s c=>k _ _ (f g w' s c)
end
def bN(k:IntKind)(n:Nat)(f:Nat->Int):List Value:=(List.range n).map fun i=>.int k (f i)
theorem eG(k:IntKind)(n:Nat)(f:Nat->Int):(bN k n f).length=n:=by simp[bN]
theorem gX{k:IntKind}{n:Nat}{f:Nat->Int}{j:Nat}(h:j<n):(bN k n f)[j]? =some (.int k (f j)):=by
 unfold bN;rw[a3,a1 h];rfl
theorem yk{k:IntKind}{n:Nat}{f:Nat->Int}{j:Nat}{v:Int}(h:j<n):er (bN k n f) j [.int k v]=bN k n (upd f j v):=by
 have b:(bN k n f).length=n:=eG _ _ _;apply List.ext_getElem?;intro i;unfold er;rw[aJ];by_cases c:i<j
 ·rw[aA (by simp;omega),List.getElem?_take_of_lt c,gX J,gX J];unfold upd;rw[aB]
 ·rw[ay (by simp;omega)];simp only[List.length_take,b,Nat.min_eq_left (Nat.le_of_lt h)];by_cases d:i=j
  ·subst d;simp only[Nat.sub_self,List.singleton_append,List.getElem?_cons_zero];rw[gX h];unfold upd;rw[Z rfl]
  ·rw[List.singleton_append,show i-j=(i-j-1)+1 from J,cz,List.getElem?_drop];simp only[dh];by_cases q:i<n
   ·rw[show j+1+(i-j-1)=i from J,gX q,gX q];unfold upd;rw[Y d]
   ·rw[aV (by rw[b];omega),aV (by rw[eG];omega)]
theorem rc{k:IntKind}{n:Nat}{f g:Nat->Int}(h: ∀i,i<n->f i=g i):bN k n f=bN k n g:=by
 unfold bN;apply List.map_congr_left;intro i hi;rw[h i (List.mem_range.1 hi)]
theorem nG(k:IntKind)(n:Nat)(f:Nat->Int):(bN k n f).all (·.oneCell')=true:=by
 rw[List.all_eq_true];intro v hv;unfold bN at hv;obtain⟨i,_,rfl⟩:=List.mem_map.1 hv;rfl
theorem abT(k:IntKind)(n:Nat):madeCells #[.int k 0] n=(bN k n fun _=>0).toArray:=by
 unfold madeCells bN;apply Array.ext';simp;intro a _;rw[Nat.mod_one];rfl
section
variable(h:Bx w0 S w A L)
include h
theorem g5(u:o.guard=none)(l c:Operand)(t:TypeId)(q:o.op=Op.makeSlice t l c)(e:TypeId)(k:IntKind)(bytes:Nat)(f:P.underlying t=some (.slice e))
 (s:(P.info? e).map (fun i=>(i.zero,i.size,i.bytes))=some (some (.int k 0),1,bytes))(n:Nat)(m:a.eval l= .int .i64 n)(j:a.eval c= .int .i64 n)(d:n<=65536)(x:bytes<=8)
 (p: ∀g w',Bx w0 S w' A (⟨g,e,bN k n fun _=>0⟩::L)->w0.heap.size<=g->wpList P ops Q rest (a.put o.dst (.slice (some ⟨g,0,none⟩) n n)) w'):wpList P ops Q (o::rest) a w:=by
 refine wpList_plain u fun K k'=>?_;have hb:bytes*n<=281474976710656:=D (Nat.mul_le_mul x d) am;have y:=run_make_row' (P:=P) t e (.int k 0) bytes f s rfl .i64 .i64 n hb J w;have b:=p _ _ (h.new e (bN k n fun _=>0)) h.size;have r:=k' _ _ b;unfold Oper.wp execOp;simp only[q,m,j,Sem.run_bind,y,abT];simpa [go_sem]using r
theorem abf(p:o.guard=none)(b:TypeId)(x:Operand)(m:o.op= .load b x)(g off:Nat)(j:a.eval x= .pointer (some ⟨g,off,none⟩)){t:TypeId}{k:IntKind}{n:Nat}{f:Nat->Int}(hi:In L g t (bN k n f))(c:off<n)
 {d:TypeDesc}(hu:P.underlying b=some d)(i:d.isRow=false)(l:wpList P ops Q rest (a.put o.dst (.int k (f off))) w):wpList P ops Q (o::rest) a w:=
 fm h p b x m g off j hi _ (gX c) hu i l
theorem mA(c:TypeId)(x y:Operand)(l:o.op= .store c x y)(g off:Nat)(k:IntKind)(v:Int)(d:a.eval x= .pointer (some ⟨g,off,none⟩))(hy:dt a y=some (.int k v)){t:TypeId}{n:Nat}{f:Nat->Int}
 (i:Tr L g t (bN k n f) (bN k n (upd f off v)) L')(b:off<n)(hi:(P.info? c).map (·.size)=some 1)(j: ∀w',Bx w0 S w' A L'->K (a.put o.dst undef) w'):Oper.wp P o a w K Q:=
 ev h c x y l g off _ [.int k v] d hy rfl (by rw[yk b];exact i) (by rw[eG];exact b) hi rfl j
theorem abU(m:o.guard=none)(b:TypeId)(x y:Operand)(l:o.op= .store b x y)(g off:Nat)(k:IntKind)(v:Int)(d:a.eval x= .pointer (some ⟨g,off,none⟩))(hy:dt a y=some (.int k v)){t:TypeId}{n:Nat}{f:Nat->Int}
 (i:Tr L g t (bN k n f) (bN k n (upd f off v)) L')(c:off<n)(hi:(P.info? b).map (·.size)=some 1)(j: ∀w',Bx w0 S w' A L'->wpList P ops Q rest (a.put o.dst undef) w'):wpList P ops Q (o::rest) a w:=
 wpList_plain m fun K k'=>mA h b x y l g off k v d hy i c hi fun w' s=>k' _ _ (j w' s)
end
theorem UC.yl{l:List Int}{x:Int}(h:UC w0 w A L e 1 v (l.length+1) (bx l.length 1 (hq l)++ [.int .i64 x])):cF w (fun b=>w0.heap.size<=b/\bq A L b) v (l++ [x]):=by
 have c:bx (l.length+1) 1 (hq (l++ [x]))=bx l.length 1 (hq l)++ [.int .i64 x]:=by
  rw[jM (sz:=1) am rfl];congr 1
  ·refine qF am fun i hi=>?_;unfold hq;rw[ae,ae,aA hi]
  ·unfold hq;rw[ae,ay (ai _)];simp
 rw[<-c]at h;have:=h.sl (F:=hq (l++ [x])) fun i _=>rfl;unfold cF;rw[ak];exact this
theorem Cw: ∀(ds:List Value) (k:Nat) (cs:List Value),k+ds.length<=cs.length->
 (ds.zipIdx k).foldl (fun(c:Array Value) (x:Value×Nat)=>c.setIfInBounds x.2 x.1) cs.toArray=(cs.take k++ds++cs.drop (k+ds.length)).toArray:=by
 intro ds;induction ds with
 |nil=>intro k cs h;simp
 |cons d ds f=>
  intro k cs h;rw[List.zipIdx_cons,dy];simp only[List.setIfInBounds_toArray];rw[f (k+1) (cs.set k d) (by simp at h⊢;omega)];congr 1;simp at h;have b:(cs.set k d).take (k+1)=cs.take k++ [d]:=by
   rw[List.take_add_one,List.take_set_of_le (ai _),List.getElem?_set_self J];rfl
  rw[b,List.drop_set_of_lt J];simp;congr 1;omega
theorem Cx(z v:Value)(sz:Nat)(ds:List Value)(hv:v.cells=ds.toArray)(c:ds.length=sz):
 Instr.fill (fun i=>some (i*sz,sz)) ((Array.range (1*sz)).map (z.cells[· %z.cells.size]!)) [(0,v)]=some ds.toArray:=by
 have h1:((Array.range (1*sz)).map (z.cells[· %z.cells.size]!)).size=sz:=aN;unfold Instr.fill;simp only[Nat.zero_mul,hv,List.size_toArray,c,ne_eq,not_true_eq_false,decide_false,Bool.false_or,ax,h1];rw[Y aN];unfold Instr.fill;obtain⟨cs,b⟩: ∃cs:List Value,(Array.range (1*sz)).map (z.cells[· %z.cells.size]!)=cs.toArray:=⟨_,(Array.toArray_toList).symm⟩
 have d:cs.length=sz:=by rw[b]at h1;simpa using h1
 rw[b];have:=Cw ds 0 cs J;simp only[List.take_zero,au,ax]at this;rw[cl J,br]at this;rw[<-Array.foldl_toList];simp only[Array.toList_zipIdx];rw[this]
section
variable(h:Bx w0 S w A L)
include h
theorem bK(t e:TypeId)(x:Operand)(f:o.op= .buildSlice t 1 #[(0,x)])(v:Value)(ds:List Value)(b:dt a x=some v)(hv:v.cells=ds.toArray)(z:Value)(sz bytes:Nat)
 (hu:P.underlying t=some (.slice e))(j:(P.info? e).map (fun i=>(i.zero,i.size,i.bytes))=some (some z,sz,bytes))(c:ds.length=sz)(l:0<sz)(k:sz<=1000)
 (d: ∀g w',Bx w0 S w' A (⟨g,e,ds⟩::L)->w0.heap.size<=g->K (a.put o.dst (.slice (some ⟨g,0,none⟩) 1 1)) w'):Oper.wp P o a w K Q:=
 qI h t e 1 _ f ds z sz bytes hu j J J (by simp only[b8,aS,ck,gF b];exact Cx z v sz ds hv c) d
theorem dE(p:o.guard=none)(t e:TypeId)(x:Operand)(j:o.op= .buildSlice t 1 #[(0,x)])(v:Value)(ds:List Value)(c:dt a x=some v)(hv:v.cells=ds.toArray)(z:Value)(sz bytes:Nat)
 (hu:P.underlying t=some (.slice e))(l:(P.info? e).map (fun i=>(i.zero,i.size,i.bytes))=some (some z,sz,bytes))(d:ds.length=sz)(q:0<sz)(m:sz<=1000)
 (f: ∀g w',Bx w0 S w' A (⟨g,e,ds⟩::L)->w0.heap.size<=g->wpList P ops Q rest (a.put o.dst (.slice (some ⟨g,0,none⟩) 1 1)) w'):wpList P ops Q (o::rest) a w:=
 wpList_plain p fun K k=>bK h t e x j v ds c hv z sz bytes hu l d q m fun g w' s b=>k _ _ (f g w' s b)
theorem mB(t e:TypeId)(x y:Operand)(j:o.op= .buildSlice t 2 #[(0,x),(1,y)])(v u:Value)(d:dt a x=some v)(hy:dt a y=some u)(hv:v.cells= #[v])(c:u.cells= #[u])(z:Value)(bytes:Nat)
 (hu:P.underlying t=some (.slice e))(k:(P.info? e).map (fun i=>(i.zero,i.size,i.bytes))=some (some z,1,bytes))
 (f: ∀g w',Bx w0 S w' A (⟨g,e,[v,u]⟩::L)->w0.heap.size<=g->K (a.put o.dst (.slice (some ⟨g,0,none⟩) 2 2)) w'):Oper.wp P o a w K Q:=
 qI h t e 2 _ j [v,u] z 1 bytes hu k J J (by
  simp only[b8,aS,ck,gF d,gF hy]
  have b:(Array.range 2).map (z.cells[· %z.cells.size]!)= #[z.cells[0 %z.cells.size]!,z.cells[1 %z.cells.size]!]:=by rw[show Array.range 2= #[0,1]from am,b8];rfl
  simp[Instr.fill,hv,c,b]) f
theorem kB(m:o.guard=none)(t e:TypeId)(x y:Operand)(j:o.op= .buildSlice t 2 #[(0,x),(1,y)])(v u:Value)(d:dt a x=some v)(hy:dt a y=some u)(hv:v.cells= #[v])(c:u.cells= #[u])(z:Value)(bytes:Nat)
 (hu:P.underlying t=some (.slice e))(l:(P.info? e).map (fun i=>(i.zero,i.size,i.bytes))=some (some z,1,bytes))
 (f: ∀g w',Bx w0 S w' A (⟨g,e,[v,u]⟩::L)->w0.heap.size<=g->wpList P ops Q rest (a.put o.dst (.slice (some ⟨g,0,none⟩) 2 2)) w'):wpList P ops Q (o::rest) a w:=
 wpList_plain m fun K k=>mB h t e x y j v u d hy hv c z bytes hu l fun g w' s b=>k _ _ (f g w' s b)
end
theorem r9{k:IntKind}{n:Nat}{f:Nat->Int}{rest:List Value}{j:Nat}(h:j<n):(bN k n f++rest)[j]? =some (.int k (f j)):=by
 rw[aA (by rw[eG];exact h),gX h]
theorem Cy{k:IntKind}{n:Nat}{f:Nat->Int}{rest:List Value}{j:Nat}{v:Int}(h:j<n):er (bN k n f++rest) j [.int k v]=bN k n (upd f j v)++rest:=by
 have b:(bN k n f).length=n:=eG _ _ _;rw[<-yk h];unfold er;rw[cJ J,List.drop_append_of_le_length (by simp;omega)];simp
theorem Cz(h:Bx w0 S w A L)(b:TypeId)(x:Operand)(p:o.op= .load b x)(g off:Nat)(l:a.eval x= .pointer (some ⟨g,off,none⟩)){t:TypeId}{k:IntKind}{n:Nat}{f:Nat->Int}{j:List Value}(hi:In L g t (bN k n f++j))(c:off<n)
 {d:TypeDesc}(hu:P.underlying b=some d)(i:d.isRow=false)(m:K (a.put o.dst (.int k (f off))) w):Oper.wp P o a w K Q:=
 bU h b x p g off l hi _ (r9 c) hu i m
theorem ug(h:Bx w0 S w A L)(c:TypeId)(x y:Operand)(m:o.op= .store c x y)(g off:Nat)(k:IntKind)(v:Int)(i:a.eval x= .pointer (some ⟨g,off,none⟩))(hy:dt a y=some (.int k v)){t:TypeId}{n:Nat}{f:Nat->Int}{b:List Value}
 (j:Tr L g t (bN k n f++b) (bN k n (upd f off v)++b) L')(d:off<n)(hi:(P.info? c).map (·.size)=some 1)(l: ∀w',Bx w0 S w' A L'->K (a.put o.dst undef) w'):Oper.wp P o a w K Q:=
 ev h c x y m g off _ [.int k v] i hy rfl (by rw[Cy d];exact j) (by rw[ak,eG];simp;omega) hi rfl l
theorem c0.RH{L:List PL}{g:Nat}{t:TypeId}{k:IntKind}{n:Nat}{f:Nat->Int}{b:List Value}(hi:In L g t (bN k n f++b)){x:Nat}(c:x<n): ∀w,c0 L w->w.cell? ⟨g,x,none⟩=some (.int k (f x)):=fun w h=>by
 rw[(h _ hi.mem).cell,aE];exact r9 c
theorem Bx.bG(h:Bx w0 S w A L){L2:List PL}(c: ∀x,x∈L2->x∈L):c0 L2 w:=fun x b=>h.bC x (c x b)
theorem Bx.two{g c:Nat}{t t2:TypeId}{cs f:List Value}(hb:ah w g t cs.toArray)(i:ah w c t2 f.toArray)(d:g≠c):Bx w (fun b=>b≠g/\b≠c) w none [⟨g,t,cs⟩,⟨c,t2,f⟩]:=by
 have h:Bx w (fun b=>b≠g/\b≠c) w none []:=Bx.start (A:=none) _ w trivial fun a e=>(by cases e)
 have h1:=h.jY i (je.nil _) (.inr fun k=>k.2 rfl) fun a e=>(by cases e)
 exact h1.jY hb ((je.nil _).cons (fun e=>d e.symm)) (.inr fun k=>k.1 rfl) fun a e=>(by cases e)
theorem Bx.Aj(h:Bx w0 S w A L){g:Nat}{t:TypeId}{cs:List Value}(hi:In L g t cs)(n:Nat){k:IntKind}(f:Nat->Int)(l: ∀i,i<n->cs[i]? =some (.int k (f i)))(c:n<=maxLen):KC w (fun b=>b=g) (.slice (some ⟨g,0,none⟩) n n) n 1 (fun i=> [.int k (f i)]):=
 ⟨_,_,rfl,ai _,c,fun _=>⟨g,0,rfl,rfl,(h.b hi).lt,fun i j u m hu=>by
   have d:j=0:=by
    have:=(List.getElem?_eq_some_iff.1 hu).1;simp at this;omega
   subst d;simp at hu;rw[Nat.mul_one,cZ,ax,(h.b hi).cell,aE,l i m,hu]⟩⟩
theorem UC.nn{k:IntKind}{f:Nat->Int}{n:Nat}(h:UC w0 w A L e 1 v n (bN k n f))(U:Bx w0 S w A L):v= .slice none 0 0/\n=0\/∃g cap j,v= .slice (some ⟨g,0,none⟩) n cap/\n<=cap/\cap<=maxLen/\w0.heap.size<=g/\Bx w0 S w A (⟨g,e,bN k n f++j⟩::L):=by
 rcases h.own.2 with⟨rfl,rfl⟩|⟨g,cap,c,rfl,h1,d,q,p,r,l⟩
 ·exact .inl ⟨rfl,rfl⟩
 ·refine .inr ⟨g,cap,c.toList.drop n,rfl,q,p,h1,?_⟩;have i:bN k n f++c.toList.drop n=c.toList:=by
   rw[Nat.mul_one]at l;rw[<-l];exact b9 _ _
  have b:=h.fresh g rfl;refine U.jY (by rw[i];exact d) b.1.1 (.inl h1) fun a m=>⟨b.2 a m,b.1.2 a m⟩
theorem gY(f:Bx w0 S C M L1)(U:Bx C (bq M L1) w A L)(l:UC w0 C M L1 e sz v n xs)(iR:v≠ .slice none 0 0)(p:l1 A=l1 M)(W:o.guard=none)(s x:Operand)(t:TypeId)(O:o.op= .call {callee:=.builtin .append,args:= #[s,x],argTypes:= #[t,t]})
 (z:Value)(bytes:Nat)(r:P.underlying t=some (.slice e))(T:(P.info? e).map (fun i=>(i.zero,i.size,i.bytes))=some (some z,sz,bytes))(qG:z.cells.size=sz)(V:0<sz)
 (F:a.eval s=v)(d:Addr)(m c:Nat)(news:List Value)(B:a.eval x= .slice (some d) m c)(G:news.length=m*sz)(kz: ∀j u,news[j]? =some u->w.cell? (d.add j)=some u)(h1:news.all (·.oneCell')=true)(qH:n+m<=maxLen)(X:(n+m)*bytes<=140737488355328)
 (N: ∀v' w',Bx w0 S w' A L->UC w0 w' A L e sz v' (n+m) (xs++news)->v'≠ .slice none 0 0->wpList P ops Q rest (a.put o.dst v') w'):wpList P ops Q (o::rest) a w:=by
 refine wpList_plain W fun K k=>?_;obtain⟨i,hi,q,lG,jt⟩:=info_parts T;have te:=l.on f U p;have Yq:=f.back U;obtain⟨v',w',h,g,R,H,UJ⟩:=run_append_own_at (P:=P) w w0.heap.size t o.type e i z sz bytes r hi q lG jt qG V v n xs te.own d m c news G kz (fun u hu=>List.all_eq_true.1 h1 u hu) qH X Yq.size;unfold Oper.wp execOp;simp only[O,resolve,invoke,builtin,Sem.run_bind,Sem.run_pure,Result.andThen_ok,b8,aS,ck,F,B,h];have y:=Yq.grown R fun j OV=>⟨(te.lt j OV).1,te.fresh j OV⟩
 refine k _ _ (N v' w' y ⟨g,fun j OV=>?_⟩ fun hv=>iR (H.1 hv).1);exact qa
theorem hr(h:Bx w0 S w A L)(l:o.guard=none)(t e:TypeId)(d:o.op= .buildSlice t 0 #[])(sz:Nat)(hu:P.underlying t=some (.slice e))(j:(P.info? e).map (·.size)=some sz)
 (c: ∀g w',Bx w0 S w' A L->UC w0 w' A L e sz (.slice (some ⟨g,0,none⟩) 0 0) 0 []->wpList P ops Q rest (a.put o.dst (.slice (some ⟨g,0,none⟩) 0 0)) w'):wpList P ops Q (o::rest) a w:=by
 refine wpList_plain l fun K k=>?_;obtain⟨i,hi,m⟩:=Option.map_eq_some_iff.1 j;have hb:Below w.heap.size w (w.alloc (.cells #[] e)):=(Below.refl _ _).alloc (ai _) _;have b:=c w.heap.size _ (h.below hb) (UC.made h hb (World.ownsRow_made w #[] 0 (ai _) (aL _) aN));have f:=k _ _ b;unfold Oper.wp execOp;simp only[d,Instr.buildSlice];simpa [go_sem,run_underlying hu,sizeOf,typeInfo,hi,Instr.fill,newRow]using f
theorem UC.ym{k:IntKind}{f:Nat->Int}{n:Nat}(h:UC w0 w A L e 1 v n (bN k n f))(U:Bx w0 S w A L)(b:v≠ .slice none 0 0): ∃g cap c,v= .slice (some ⟨g,0,none⟩) n cap/\n<=cap/\cap<=maxLen/\w0.heap.size<=g/\Bx w0 S w A (⟨g,e,bN k n f++c⟩::L):=by
 rcases h.nn U with⟨h1,_⟩|h1
 ·exact absurd h1 b
 ·exact h1
theorem Bx.RI(h:Bx w0 S w A L){g:Nat}{t:TypeId}{k:IntKind}{n cap:Nat}{f:Nat->Int}{l:List Value}(hi:In L g t (bN k n f++l))(c:n<=cap)(m:cap<=maxLen):KC w (fun b=>b=g) (.slice (some ⟨g,0,none⟩) n cap) n 1 (fun i=> [.int k (f i)]):=
 ⟨_,_,rfl,c,m,fun _=>⟨g,0,rfl,rfl,(h.b hi).lt,fun i j u p hu=>by
   have d:j=0:=by
    have:=(List.getElem?_eq_some_iff.1 hu).1;simp at this;omega
   subst d;simp at hu;rw[Nat.mul_one,cZ,ax,(h.b hi).cell,aE,r9 p,hu]⟩⟩
theorem Bx.swap{x y:PL}(h:Bx w0 S w A (x::y::L)):Bx w0 S w A (y::x::L):=
 h.drop (fun z b=>by simp only[ad]at b⊢;rcases b with h|h|h<;>simp[h]) (by
  have:=h.UH
  simp only[aS,bS,ad,not_or]at this⊢
  exact⟨⟨fun e=>this.1.1 e.symm,this.2.1⟩,this.1.2,this.2.2⟩)
theorem Bx.wa{x y:PL}(h:Bx w0 S w A (x::y::L)):x.g≠y.g:=by
 have:=h.UH;simp only[aS,bS,ad,not_or]at this;exact this.1.1
theorem Bx.call2{g f:Nat}{t t2:TypeId}{cs cs' B l:List Value}{L2:List PL}(h:Bx w0 S w none L)(k:Tr L g t cs cs' L1)(m:Tr L1 f t2 B l L2)(r:g≠f)(hb:ah w' g t cs'.toArray)(N:ah w' f t2 l.toArray)(c:Z1 (fun b=>b≠g/\b≠f) w w'):Bx w0 S w' none L2:=by
 have R:=k.gs;have F:=m.gs;have s:(L1.map PL.g).Nodup:=by rw[R];exact h.UH
 have O:=k.aB.mem;have u:=h.fr _ O;have G:=m.aB.mem;have key: ∀x,x∈L2->x=⟨f,t2,l⟩\/x=⟨g,t,cs'⟩\/x∈L/\x.g≠g/\x.g≠f:=by
  intro x j;rcases m.mem s x j with e|⟨h1,i⟩
  ·exact .inl e
  ·rcases k.mem h.UH x h1 with e|⟨d,H⟩
   ·exact .inr (.inl e)
   ·exact .inr (.inr ⟨d,H,i⟩)
 have y:w0.heap.size<=f\/¬S f:=by
  rcases k.mem h.UH _ G with e|⟨h1,_⟩
  ·injection e with q _ _
   exact absurd q.symm r
  ·exact h.fr _ h1
 refine⟨fun x j=>?_,by rw[F];exact s,fun x j=>?_,⟨c.os.trans h.Wu.os,c.tape.trans h.Wu.tape,c.output.trans h.Wu.output,D h.Wu.size c.size,fun b z p=>?_⟩,trivial,fun a e=>by cases e⟩
 ·rcases key x j with rfl|rfl|⟨h1,i,d⟩
  ·exact N
  ·exact hb
  ·exact(c.block x.g (h.bC x h1).lt ⟨i,d⟩).trans (h.bC x h1)
 ·rcases key x j with rfl|rfl|⟨h1,_,_⟩
  ·exact y
  ·exact u
  ·exact h.fr x h1
 ·refine(c.block b (aj z h.Wu.size) ⟨fun e=>?_,fun e=>?_⟩).trans (h.Wu.block b z p)
  ·subst e;rcases u with d|d
   ·simp only at d;omega
   ·exact d p
  ·subst e;rcases y with d|d
   ·omega
   ·exact d p
theorem uh{k:IntKind}{l b o:Nat}{f:Nat->Int}(h: ∀j,j<l->w.cell? ⟨b,o+j,none⟩=some (.int k (f j))): ∀j u,(bN k l f)[j]? =some u->w.cell? ((⟨b,o,none⟩:Addr).add j)=some u:=fun j u hu=>by
 have c:j<l:=by have:=(List.getElem?_eq_some_iff.1 hu).1;rwa[eG]at this
 rw[gX c]at hu;injection hu with hu
 rw[iL,<-hu];exact h j c
theorem ju{P:Program}(w:World)(t j e:TypeId)(sz:Nat)(f:P.underlying t=some (.slice e))(l:(P.info? e).map (·.size)=some sz)(m: ∀k,P.underlying t≠some (.int k))(B A:Option Addr)(n c c':Nat)(d:n<=c):
 (Builtin.append_ #[t,t] j #[.slice B n c,.slice A 0 c']).run P w= .ok (.slice B n c) w:=by
 obtain⟨i,hi,p⟩:=Option.map_eq_some_iff.1 l;have g:(Builtin.firstCells i.size 0 (.slice A 0 c')).run P w= .ok #[] w:=by
  cases A with
  |none=>simp[Builtin.firstCells]
  |some a=>
   have h:=run_loadCells_list (P:=P) w a [] aN;simp at h;simp[Builtin.firstCells,h]
 cases B with
 |none=>simp[Builtin.append_,run_underlying f,sizeOf,typeInfo,hi,Builtin.lenOf,g,d]
 |some b=>simp[Builtin.append_,run_underlying f,sizeOf,typeInfo,hi,Builtin.lenOf,g,d,storeCells]
theorem gZ(d:Bx w0 S C M L1)(U:Bx C (bq M L1) w A L)(T9:UC w0 C M L1 e sz v n xs)(h:l1 A=l1 M)(R:o.guard=none)(s x:Operand)(t:TypeId)(N:o.op= .call {callee:=.builtin .append,args:= #[s,x],argTypes:= #[t,t]})
 (z:Value)(bytes:Nat)(f:P.underlying t=some (.slice e))(O:(P.info? e).map (fun i=>(i.zero,i.size,i.bytes))=some (some z,sz,bytes))(qG:z.cells.size=sz)(l:0<sz)
 (G:a.eval s=v)(B:Option Addr)(m c:Nat)(y:a.eval x= .slice B m c){S':Nat->Prop}{F:Nat->List Value}(X:KC w S' (.slice B m c) m sz F)(hF:hl m sz F)(qH:n+m<=maxLen)(W:(n+m)*bytes<=140737488355328)
 (H: ∀v' w',Bx w0 S w' A L->UC w0 w' A L e sz v' (n+m) (xs++bx m sz F)->wpList P ops Q rest (a.put o.dst v') w'):wpList P ops Q (o::rest) a w:=by
 rcases aQ m with rfl|hm
 ·have te:=T9.on d U h;have V:=d.back U;have q: ∃B' j,v= .slice B' n j/\n<=j:=by
   exact nF
  obtain⟨B',j,rfl,p⟩:=q;have nC:=ju (P:=P) w t o.type e sz f (by obtain⟨i,hi,r⟩:=Option.map_eq_some_iff.1 O;simp only[Prod.mk.injEq]at r;rw[hi,bt,r.2.1]) (fun k=>by rw[f];simp) B' B n j c p;refine Lib.wpList_append_run w R s x t t N _ _ G y _ _ nC (H _ _ V ?_);have:bx 0 sz F= []:=by unfold bx;simp
  rw[this,br];exact te
 ·obtain⟨b,off,rfl,_,_,T⟩:=X.cells hm l fun i hi=>(hF i hi).1;exact j4 d U T9 h R s x t N z bytes f O qG l G ⟨b,off,none⟩ m c (bx m sz F) y (cv _ _ _) T (List.all_eq_true.2 fun u hu=>hF.flat l u hu) qH W H
theorem ui{m n sz:Nat}{F G H:Nat->List Value}(c:0<sz)(h1: ∀i,i<m->F i=H i)(b: ∀i,i<n->G i=H (m+i))(d: ∀i,i<n->(G i).length=sz):bx m sz F++bx n sz G=bx (m+n) sz H:=by
 induction n with
 |zero=>
  have:bx 0 sz G= []:=by unfold bx;simp
  rw[this,br,cZ];exact qF c h1
 |succ n f=>
  rw[jM c (d n J),<-aJ,f (fun i hi=>b i J) (fun i hi=>d i J),<-Nat.add_assoc,jM c (by rw[<-b n J];exact d n J),b n J]
end
section
variable{w0 d w w':World}{S T:Nat->Prop}{A f:Option XS}{L L' L1:List PL}
theorem Bx.kept(h:Bx w0 S w A L)(k:Z1 T w w')(n: ∀b,b<w.heap.size->¬T b->je L b/\(w0.heap.size<=b\/¬S b)/\∀a,A=some a->b≠a.p/\b≠a.g):Bx w0 S w' A L:=by
 have l: ∀b,b<w.heap.size->(¬je L b\/(b<w0.heap.size/\S b)\/∃a,A=some a/\(b=a.p\/b=a.g))->w'.heap[b]? =w.heap[b]? :=fun b hb i=>by
  refine k.block b hb (Classical.byContradiction fun m=>?_);obtain⟨h1,j,r⟩:=n b hb m;rcases i with i|⟨i,hy⟩|⟨a,e,i⟩
  ·exact i h1
  ·rcases j with j|j
   ·omega
   ·exact j hy
  ·have:=r a e;rcases i with i|i
   ·exact this.1 i
   ·exact this.2 i
 refine⟨fun x i=>?_,h.UH,h.fr,⟨k.os.trans h.Wu.os,k.tape.trans h.Wu.tape,k.output.trans h.Wu.output,D h.Wu.size k.size,fun b hb o=>?_⟩,?_,h.WN⟩
 ·exact(l x.g (h.bC x i).lt (.inl fun c=>c x i rfl)).trans (h.bC x i)
 ·exact(l b (aj hb h.Wu.size) (.inr (.inl ⟨hb,o⟩))).trans (h.Wu.block b hb o)
 ·cases A with
  |none=>exact trivial
  |some a=>
   have q:=ar.c9 (w:=w) h.VB;exact ar.j3 h.VB (l a.p q.1 (.inr (.inr ⟨a,rfl,.inl rfl⟩))) (l a.g q.2.1 (.inr (.inr ⟨a,rfl,.inr rfl⟩)))
theorem Bx.Ot(h:Bx w0 (fun _=>True) w none L){p g n:Nat}{V:Nat->Int}(k:ar w0 p g n V)(hS: ¬S g):Bx w0 S w (some ⟨p,g,n,V⟩) L:=by
 have l:=ar.c9 k;have j: ∀x,x∈L->w0.heap.size<=x.g:=fun x i=>by
  rcases h.fr x i with c|c
  ·exact c
  ·exact absurd trivial c
 refine⟨h.bC,h.UH,fun x i=>.inl (j x i),h.Wu.mono fun b _ _=>trivial,h.jZ k,fun a e=>?_⟩;cases e;exact⟨fun x i e=>by have:=j x i;simp only at e;rw[e]at this;omega,fun x i e=>by have:=j x i;simp only at e;rw[e]at this;omega,.inr hS⟩
theorem Bx.weak(h:Bx w0 (fun _=>True) w none L):Bx w0 S w none L:=
 ⟨h.bC,h.UH,fun x g=>.inl (by
   rcases h.fr x g with c|c
   ·exact c
   ·exact absurd trivial c),h.Wu.mono fun b _ _=>trivial,trivial,fun a e=>by cases e⟩
end
section
open Go.RowKit
variable{w0 w w':World}{S:Nat->Prop}{L:List PL}{e:TypeId}{sz:Nat}
variable{P:Program}{o:Oper}{a:Act}{K:Act->World->Prop}{Q:Exit->Act->World->Prop}
section
variable{n:Nat}{v:Value}{xs:List Value}(h:Bx w0 S w none L)(d:w0.ownsRow 0 e sz v n xs)(hS: ∀j,v.ownBlock=some j->S j)
include n v xs h d hS
theorem eX(s x:Operand)(t:TypeId)(ZQ:o.op= .call {callee:=.builtin .append,args:= #[s,x],argTypes:= #[t,t]})
 (z:Value)(bytes:Nat)(U:P.underlying t=some (.slice e))(aas:(P.info? e).map (fun i=>(i.zero,i.size,i.bytes))=some (some z,sz,bytes))(qG:z.cells.size=sz)(dI:0<sz)
 (YF:a.eval s=v)(A:Addr)(m c:Nat)(news:List Value)(l:a.eval x= .slice (some A) m c)(YJ:news.length=m*sz)(hm:0<m)(kz: ∀j u,news[j]? =some u->w.cell? (A.add j)=some u)(h1:news.all (·.oneCell')=true)(qH:n+m<=maxLen)(gR:(n+m)*bytes<=140737488355328)
 (Z7: ∀g' B rest w',Bx w0 (fun b=>S b/\v.ownBlock≠some b) w' none (⟨g',e,(xs++news)++rest⟩::L)->v.ownBlock=some g'\/w.heap.size<=g'->n+m<=B/\B<=maxLen/\((xs++news)++rest).length=B*sz->K (a.put o.dst (.slice (some ⟨g',0,none⟩) (n+m) B)) w'):Oper.wp P o a w K Q:=by
 obtain⟨i,hi,T,lG,jt⟩:=info_parts aas;have W: ∀j,v.ownBlock=some j->j<w0.heap.size:=fun j r=>(d.lt j r).2;have h2:w.ownsRow 0 e sz v n xs:=fT d fun j r=>h.Wu.block j (W j r) (hS j r);have X: ∀y,y∈L->v.ownBlock≠some y.g:=fun y hy p=>by
  rcases h.fr y hy with q|q
  ·have:=W _ p;omega
  ·exact q (hS _ p)
 obtain⟨v',w',rd,H,C,Ya,k⟩:=run_append_own_at (P:=P) w 0 t o.type e i z sz bytes U hi T lG jt qG dI _ n xs h2 A m c news YJ kz (fun u hu=>List.all_eq_true.1 h1 u hu) qH gR (aL _);unfold Oper.wp execOp;simp only[ZQ,resolve,invoke,builtin,Sem.run_bind,Sem.run_pure,Result.andThen_ok,b8,aS,ck,YF,l,rd];have f:Z1 (fun b=>v.ownBlock≠some b) w w':=⟨C.os,C.tape,C.output,C.size,fun b be kd=>C.block b be fun e=>kd e.symm⟩
 have N:Bx w0 (fun b=>S b/\v.ownBlock≠some b) w' none L:=by
  have BK: ∀x,x∈L->x.g<w.heap.size:=fun x l=>(h.bC x l).lt;refine⟨fun x l=>(f.block x.g (BK x l) (X x l)).trans (h.bC x l),h.UH,fun x l=>?_,⟨f.os.trans h.Wu.os,f.tape.trans h.Wu.tape,f.output.trans h.Wu.output,D h.Wu.size f.size,fun b hb lg=>?_⟩,trivial,fun a e=>by cases e⟩
  ·rcases h.fr x l with q|q
   ·exact .inl q
   ·exact .inr fun c=>q c.1
  ·exact(f.block b (aj hb h.Wu.size) lg.2).trans (h.Wu.block b hb lg.1)
 rcases H.2 with⟨_,V⟩|⟨g',B,F,rfl,_,V,O,Vy,R,m4⟩
 ·omega
 ·have G:v.ownBlock=some g'\/g'=w.heap.size:=by
   rcases k with k|k
   ·left;rw[<-k];rfl
   ·right;simpa [Value.ownBlock]using k
  have M:F=((xs++news)++F.toList.drop ((n+m)*sz)).toArray:=by rw[<-m4,b9]
  refine Z7 g' B (F.toList.drop ((n+m)*sz)) w' (N.jY (by rw[<-M];exact V) ?_ ?_ fun a e=>by cases e) (G.imp id fun e=>Nat.le_of_eq e.symm) ⟨O,Vy,by rw[<-m4,b9,Array.length_toList];exact R⟩
  ·rcases G with q|rfl
   ·exact fun y hy p=>X y hy (by rw[p];exact q)
   ·exact h.nx (ai _)
  ·rcases G with q|rfl
   ·exact .inr fun c=>c.2 q
   ·exact .inl h.size
theorem g0{ops:Array Oper}{rest:List Oper}(M:o.guard=none)(s x:Operand)(t:TypeId)(F:o.op= .call {callee:=.builtin .append,args:= #[s,x],argTypes:= #[t,t]})
 (z:Value)(bytes:Nat)(q:P.underlying t=some (.slice e))(G:(P.info? e).map (fun i=>(i.zero,i.size,i.bytes))=some (some z,sz,bytes))(R:z.cells.size=sz)(H:0<sz)
 (A:a.eval s=v)(g:Addr)(m c:Nat)(news:List Value)(r:a.eval x= .slice (some g) m c)(B:news.length=m*sz)(hm:0<m)(O: ∀j u,news[j]? =some u->w.cell? (g.add j)=some u)(h1:news.all (·.oneCell')=true)(T:n+m<=maxLen)(N:(n+m)*bytes<=140737488355328)
 (C: ∀g' l f w',Bx w0 (fun b=>S b/\v.ownBlock≠some b) w' none (⟨g',e,(xs++news)++f⟩::L)->v.ownBlock=some g'\/w.heap.size<=g'->n+m<=l/\l<=maxLen/\((xs++news)++f).length=l*sz->wpList P ops Q rest (a.put o.dst (.slice (some ⟨g',0,none⟩) (n+m) l)) w'):wpList P ops Q (o::rest) a w:=
 wpList_plain M fun K k=>eX h d hS s x t F z bytes q G R H A g m c news r B hm O h1 T N fun g' l f w' q1 y p=>k _ _ (C g' l f w' q1 y p)
end
theorem Bx.j5{T:Nat->Prop}{f:World}{L1:List PL}(h:Bx w0 S w none L1)(k:Bx w (fun b=>bq none L1 b/\T b) f none L):Bx w0 (fun b=>S b/\T b) f none L:=by
 have hY: ∀b,w.heap.size<=b\/¬(bq none L1 b/\T b)->w0.heap.size<=b\/¬(S b/\T b):=fun b hb=>by
  rcases hb with hb|hb
  ·exact .inl (D h.size hb)
  ·by_cases c:T b
   ·have: ∃x,x∈L1/\x.g=b:=by
     apply Classical.byContradiction;intro U4;exact hb ⟨⟨fun x d e=>U4 ⟨x,d,e⟩,fun a e=>by cases e⟩,c⟩
    obtain⟨x,d,rfl⟩:=this;exact(h.fr x d).imp id fun q z=>q z.1
   ·exact .inr fun z=>c z.2
 refine⟨k.bC,k.UH,fun x d=>hY _ (k.fr x d),⟨k.Wu.os.trans h.Wu.os,k.Wu.tape.trans h.Wu.tape,k.Wu.output.trans h.Wu.output,D h.Wu.size k.Wu.size,fun b hb YF=>?_⟩,trivial,fun a e=>by cases e⟩;refine(k.Wu.block b (aj hb h.Wu.size) ?_).trans (h.Wu.block b hb YF.1);exact nv
theorem Bx.keeps{w0 w:World}{S:Nat->Prop}{L:List PL}(h:Bx w0 S w none L){j:Nat}(d:j<w0.heap.size)(c:S j):bq none L j:=
 ⟨fun x b e=>by
   rcases h.fr x b with q|q
   ·omega
   ·rw[e]at q;exact q c,fun a e=>by cases e⟩
end
section
open Go.RowKit
variable{w0 q w w':World}{S:Nat->Prop}{A A':Option XS}{L L' L1:List PL}
variable{P:Program}{o:Oper}{a a':Act}{K:Act->World->Prop}{Q:Exit->Act->World->Prop}{ops:Array Oper}{rest:List Oper}
variable{f:Region.Mode}{b:World->Prop}{l i:Nat}{ls m:Array Bool}{e:Oper}{is:List Nat}{j:List (List Nat)}
structure qJ(j:List (List Nat))(G:Prop):Prop where
 out:G
structure sa(j:List (List Nat))(G:Prop):Prop where
 out:G
theorem Ou{G:Prop}(h:sa j G):qJ ([]::j) G:=⟨h.out⟩
theorem Ov{G:Prop}(h:qJ j G):sa ([]::j) G:=⟨h.out⟩
theorem Ow{G:Prop}(h:G):qJ [] G:=⟨h⟩
theorem Ox{G:Prop}(h:G):sa [] G:=⟨h⟩
theorem Oy{c:TypeId}{z:Value}(h:(Tryz.prog.info? c).bind (·.zero)=some z:=by with_reducible first|exact jj|exact gg|exact tW|exact BI|exact ny|exact nz|exact yf|exact EQ|exact gW|exact r5|exact eK|exact r6|exact xc|exact nA|exact adr|exact js|exact ER|exact nB|exact Ag|exact Ls|exact Lt|exact tX):(Tryz.prog.info? c).bind (·.zero)=some z:=h
theorem WG(h:Bx w0 S w A L){n:Nat}{c:TypeId}{x:Operand}{g off:Nat}{t:TypeId}{cs ds:List Value}(z:wpList P ops Q rest a' w)(s:Region.wanted o (yielded ops a.tmps)=true:=by rfl)
 (B:o.op= .load c x:=by exact rfl)(r:ye P c n:=by exact Im)(u:a.eval x= .pointer (some ⟨g,off,none⟩):=by exact rfl)(hi:In L g t cs:=by exact ag)
 (hd:(cs.drop off).take n=ds:=by exact lT)(p:ds.length=n:=by exact rfl)
 (v:a.put o.dst (.agg ds.toArray)=a':=by exact fa):wpList P ops Q (o::rest) a w:=by
 obtain⟨⟨d,hu,C⟩,y⟩:=r;exact wpList_step fun K k=>by rw[Z s];exact r4 h c x B g off n u hi ds hd hu C (by rw[y,p]) (k _ _ (v▸z))
section
variable(h:qJ (is::j) (wpAnyH P f ops Q b l m a' w))
include h
theorem RK{r:TypeId}{x:Operand}{g off:Nat}{t:TypeId}{cs:List Value}{v:Value}(hi:ops[i]? =some e:=by exact rfl)(C:e.op= .load r x:=by exact rfl)(z:Region.noSelect ops=true:=by kernel_rfl)(k:Region.free f ops ls i=true:=by kernel_rfl)(d:(Region.ready f ops ls).contains i=true:=by kernel_rfl)(n:Region.wanted e (yielded ops a.tmps)=true:=by rfl)
 (p:(P.underlying r).map TypeDesc.isRow=some false:=by decide+kernel)(u:a.eval x= .pointer (some ⟨g,off,none⟩):=by exact rfl)(hb: ∀w,b w->ah w g t cs.toArray:=by exact c0.at_ ag)(hv:cs[off]? =some v:=by rfl)(s: ∀c a w,Q (.panic c) (a.put e.dst v) w->Q (.panic c) a w:=by first|exact fun _ _ _ h=>h|exact fun _ _ _ h=>dZ (fun t w=>results_none (by kernel_rfl) t _ w) _ _ _ _ _ h)(hS:b w:=by assumption)
 (y:a.put e.dst v=a':=by exact et)(B:ls.setIfInBounds i true=m:=by exact eu):qJ ((i::is)::j) (wpAnyH P f ops Q b (l+1) ls a w):=
 ⟨RC i h.out hi z k d n C p u hb hv s hS y B⟩
theorem RL{n:TypeId}{x:Operand}{g off:Nat}{v:Value}(hi:ops[i]? =some e:=by exact rfl)(G:e.op= .load n x:=by exact rfl)(C:Region.noSelect ops=true:=by kernel_rfl)(r:Region.free f ops ls i=true:=by kernel_rfl)(p:(Region.ready f ops ls).contains i=true:=by kernel_rfl)(s:Region.wanted e (yielded ops a.tmps)=true:=by rfl)
 (k:(P.underlying n).map TypeDesc.isRow=some false:=by decide+kernel)(y:a.eval x= .pointer (some ⟨g,off,none⟩):=by exact rfl)(z: ∀w,b w->w.cell? ⟨g,off,none⟩=some v:=by exact fun w h=>h)(u: ∀c a w,Q (.panic c) (a.put e.dst v) w->Q (.panic c) a w:=by first|exact fun _ _ _ h=>h|exact fun _ _ _ h=>dZ (fun t w=>results_none (by kernel_rfl) t _ w) _ _ _ _ _ h)(hS:b w:=by assumption)
 (B:a.put e.dst v=a':=by exact et)(F:ls.setIfInBounds i true=m:=by exact eu):qJ ((i::is)::j) (wpAnyH P f ops Q b (l+1) ls a w):=by
 cases hu:P.underlying n with
 |none=>simp[hu]at k
 |some d=>exact⟨eE i hi (bl s n x G g off y v z hu (by simpa [hu]using k)) h.out C r p u hS B F⟩
theorem Oz{n:Nat}{v:TypeId}{x:Operand}{g off:Nat}{t:TypeId}{cs ds:List Value}(hi:ops[i]? =some e:=by exact rfl)(G:e.op= .load v x:=by exact rfl)(s:ye P v n:=by exact Im)(C:Region.noSelect ops=true:=by kernel_rfl)(r:Region.free f ops ls i=true:=by kernel_rfl)(p:(Region.ready f ops ls).contains i=true:=by kernel_rfl)(u:Region.wanted e (yielded ops a.tmps)=true:=by rfl)
 (z:a.eval x= .pointer (some ⟨g,off,none⟩):=by exact rfl)(hb: ∀w,b w->ah w g t cs.toArray:=by exact c0.at_ ag)
 (hd:(cs.drop off).take n=ds:=by exact lT)(k:ds.length=n:=by exact rfl)(y: ∀c a w,Q (.panic c) (a.put e.dst (.agg ds.toArray)) w->Q (.panic c) a w:=by first|exact fun _ _ _ h=>h|exact fun _ _ _ h=>dZ (fun t w=>results_none (by kernel_rfl) t _ w) _ _ _ _ _ h)(hS:b w:=by assumption)
 (B:a.put e.dst (.agg ds.toArray)=a':=by exact et)(F:ls.setIfInBounds i true=m:=by exact eu):qJ ((i::is)::j) (wpAnyH P f ops Q b (l+1) ls a w):=by
 obtain⟨⟨d,hu,M⟩,H⟩:=s;exact⟨RD i n h.out hi C r p u G (by rw[hu];simp[M]) H z hb hd k y hS B F⟩
end
theorem OA{v:Value}(h:qJ (is::j) (wpAnyH P f ops Q b l m a' w))(hi:ops[i]? =some e:=by exact rfl)(k:Region.wanted e (yielded ops a.tmps)=true:=by rfl)(r:Region.noSelect ops=true:=by kernel_rfl)(g:Region.free f ops ls i=true:=by kernel_rfl)(d:(Region.ready f ops ls).contains i=true:=by kernel_rfl)
 (hy: ∀w,b w->(execOp a.eval e).run P w= .ok (.value v) w:=by intro w Cp;(try dsimp only at Cp);go_simp;(try with_reducible rfl))(n: ∀c a w,Q (.panic c) (a.put e.dst v) w->Q (.panic c) a w:=by first|exact fun _ _ _ h=>h|exact fun _ _ _ h=>dZ (fun t w=>results_none (by kernel_rfl) t _ w) _ _ _ _ _ h)(hS:b w:=by assumption)
 (p:a.put e.dst v=a':=by exact et)(s:ls.setIfInBounds i true=m:=by exact eu):qJ ((i::is)::j) (wpAnyH P f ops Q b (l+1) ls a w):=
 ⟨Xh i h.out hi r g d k hy n hS p s⟩
theorem OB(h:qJ (is::j) (wpAnyH P f ops Q b l m a' w))(hi:ops[i]? =some e:=by exact rfl)(k:Region.wanted e (yielded ops a.tmps)=false:=by rfl)(r:Region.noSelect ops=true:=by kernel_rfl)(g:Region.free f ops ls i=true:=by kernel_rfl)(d:(Region.ready f ops ls).contains i=true:=by kernel_rfl)
 (n: ∀c a w,Q (.panic c) (a.put e.dst undef) w->Q (.panic c) a w:=by first|exact fun _ _ _ h=>h|exact fun _ _ _ h=>dZ (fun t w=>results_none (by kernel_rfl) t _ w) _ _ _ _ _ h)(hS:b w:=by assumption)
 (p:a.put e.dst undef=a':=by exact et)(s:ls.setIfInBounds i true=m:=by exact eu):qJ ((i::is)::j) (wpAnyH P f ops Q b (l+1) ls a w):=
 ⟨ub i h.out hi r g d k n hS p s⟩
section
variable(h:Bx w0 S w A L){c:TypeId}
include h c
theorem OC{x y:Operand}{g off:Nat}{v:Value}{ds:List Value}{t:TypeId}{cs:List Value}{L0:List PL}(G: ∀w',Bx w0 S w' A L'->b w'->sa (is::j) (wpAnyH P f ops Q b l m a' w'))(hi:ops[i]? =some e:=by exact rfl)(H:e.op= .store c x y:=by exact rfl)(d:Region.ready f ops ls= [i]:=by kernel_rfl)(r:Region.wanted e (yielded ops a.tmps)=true:=by rfl)
 (u:a.eval x= .pointer (some ⟨g,off,none⟩):=by exact rfl)(hy:dt a y=some v:=by exact rfl)(hv:v.cells=ds.toArray:=by exact rfl)
 (z:Tr L g t cs (er cs off ds) L0:=by exact cf)(n:L0=L':=by exact qZ)
 (M:off+ds.length<=cs.length:=by exact bQ rfl)(p:(P.info? c).map (·.size)=some ds.length:=by kernel_rfl)(h1:ds.all (·.oneCell')=true:=by first|rfl|(simp[*];done))
 (B:a.put e.dst undef=a':=by exact et)(F:ls.setIfInBounds i true=m:=by exact eu)(keep: ∀w',Bx w0 S w' A L'->b w':=by intro w U;first|exact U.has|exact U.bG (by simp)|trivial|exact EY.out _ _ U):sa ((i::is)::j) (wpAnyH P f ops Q b (l+1) ls a w):=
 ⟨wpAnyH_ready d aN (.cons hi (fun K k=>Uy h (L0:=L0) (fun w' s=>k.out _ _ (keep w' s) fun C=>by rw[B,F];exact(G w' s C).out) r H u hy hv z n M p h1) .nil)⟩
theorem OD{x:Operand}{v:Value}{ds:List Value}{a':Nat->Act}(z: ∀g w',Bx w0 S w' A (⟨g,c,ds⟩::L)->w0.heap.size<=g->b w'->sa (is::j) (wpAnyH P f ops Q b l m (a' g) w'))(hi:ops[i]? =some e:=by exact rfl)(B:e.op= .box c x:=by exact rfl)(d:Region.ready f ops ls= [i]:=by kernel_rfl)(p:Region.wanted e (yielded ops a.tmps)=true:=by rfl)
 (r:dt a x=some v:=by exact rfl)(hv:v.cells=ds.toArray:=by exact rfl)
 (t: ∀g,a.put e.dst (.pointer (some ⟨g,0,none⟩))=a' g:=by intro g;exact et)(y:ls.setIfInBounds i true=m:=by exact eu)(keep: ∀g w',Bx w0 S w' A (⟨g,c,ds⟩::L)->b w':=by intro g w U;first|exact U.l0|exact U.bG (by simp)|trivial|exact EY.out _ _ U):sa ((i::is)::j) (wpAnyH P f ops Q b (l+1) ls a w):=
 ⟨wpAnyH_ready d aN (.cons hi (fun K k=>adV h c (fun g w' s n=>k.out _ _ (keep g w' s) fun u=>by rw[t,y];exact(z g w' s n u).out) p B r hv) .nil)⟩
theorem OE{z:Value}{ds:List Value}{a':Nat->Act}(x: ∀g w',Bx w0 S w' A (⟨g,c,ds⟩::L)->w0.heap.size<=g->b w'->sa (is::j) (wpAnyH P f ops Q b l m (a' g) w'))(hi:ops[i]? =some e:=by exact rfl)(y:e.op= .alloc c:=by exact rfl)(d:Region.ready f ops ls= [i]:=by kernel_rfl)(r:Region.wanted e (yielded ops a.tmps)=true:=by rfl)
 (n:(P.info? c).bind (·.zero)=some z:=by exact Oy)(hv:z.cells=ds.toArray:=by exact rfl)
 (t: ∀g,a.put e.dst (.pointer (some ⟨g,0,none⟩))=a' g:=by intro g;exact et)(v:ls.setIfInBounds i true=m:=by exact eu)(keep: ∀g w',Bx w0 S w' A (⟨g,c,ds⟩::L)->b w':=by intro g w U;first|exact U.l0|exact U.bG (by simp)|trivial|exact EY.out _ _ U):sa ((i::is)::j) (wpAnyH P f ops Q b (l+1) ls a w):=
 ⟨wpAnyH_ready d aN (.cons hi (fun K k=>ZZ h n (fun g w' s p=>k.out _ _ (keep g w' s) fun u=>by rw[t,v];exact(x g w' s p u).out) r y hv) .nil)⟩
theorem OG{x:Operand}{g off:Nat}{t:TypeId}{cs:List Value}{v:Value}(z:sa (is::j) (wpAnyH P f ops Q b l m a' w))(hi:ops[i]? =some e:=by exact rfl)(B:e.op= .load c x:=by exact rfl)(k:Region.ready f ops ls= [i]:=by kernel_rfl)(p:Region.wanted e (yielded ops a.tmps)=true:=by rfl)
 (r:(P.underlying c).map TypeDesc.isRow=some false:=by decide+kernel)(s:a.eval x= .pointer (some ⟨g,off,none⟩):=by exact rfl)(d:In L g t cs:=by exact ag)(hv:cs[off]? =some v:=by rfl)(hS:b w:=by assumption)
 (u:a.put e.dst v=a':=by exact et)(y:ls.setIfInBounds i true=m:=by exact eu):sa ((i::is)::j) (wpAnyH P f ops Q b (l+1) ls a w):=
 ⟨wpAnyH_ready k aN (.cons hi (fun K n=>YL h (n.out _ _ hS fun C=>by rw[u,y];exact z.out) p B r s d hv) .nil)⟩
end
theorem OH{v:Value}(n:sa (is::j) (wpAnyH P f ops Q b l m a' w))(hi:ops[i]? =some e:=by exact rfl)(c:Region.ready f ops ls= [i]:=by kernel_rfl)(g:Region.wanted e (yielded ops a.tmps)=true:=by rfl)
 (hy:(execOp a.eval e).run P w= .ok (.value v) w:=by go_simp;(try with_reducible rfl))(hS:b w:=by assumption)
 (h:a.put e.dst v=a':=by exact et)(k:ls.setIfInBounds i true=m:=by exact eu):sa ((i::is)::j) (wpAnyH P f ops Q b (l+1) ls a w):=
 ⟨wpAnyH_ready c aN (.cons hi (fun K d=>by
   rw[Z g]
   unfold Oper.wp
   rw[hy]
   exact d.out _ _ hS fun p=>by rw[h,k];exact n.out) .nil)⟩
theorem Yt(h: ∀K:Act->World->Prop,Shut (∀a w,b w->(b w->wpAnyH P f ops Q b l (ls.setIfInBounds i true) a w)->K a w)->Oper.wp P e a w K Q)(c:Region.ready f ops ls= [i]:=by first
 |(show _= [0];decide+kernel)|(show _= [1];decide+kernel)|(show _= [2];decide+kernel)|(show _= [3];decide+kernel)|(show _= [4];decide+kernel)|(show _= [5];decide+kernel)|(show _= [6];decide+kernel)|(show _= [7];decide+kernel)|(show _= [8];decide+kernel)|(show _= [9];decide+kernel)
 |(show _= [10];decide+kernel)|(show _= [11];decide+kernel)|(show _= [12];decide+kernel)|(show _= [13];decide+kernel)|(show _= [14];decide+kernel)|(show _= [15];decide+kernel)|(show _= [16];decide+kernel)|(show _= [17];decide+kernel)|(show _= [18];decide+kernel)|(show _= [19];decide+kernel)
 |(show _= [20];decide+kernel)|(show _= [21];decide+kernel)|(show _= [22];decide+kernel)|(show _= [23];decide+kernel)|(show _= [24];decide+kernel)|(show _= [25];decide+kernel)|(show _= [26];decide+kernel)|(show _= [27];decide+kernel)|(show _= [28];decide+kernel)|(show _= [29];decide+kernel)
 |(show _= [30];decide+kernel)|(show _= [31];decide+kernel)|(show _= [32];decide+kernel)|(show _= [33];decide+kernel)|(show _= [34];decide+kernel)|(show _= [35];decide+kernel)|(show _= [36];decide+kernel)|(show _= [37];decide+kernel)|(show _= [38];decide+kernel)|(show _= [39];decide+kernel))(hi:ops[i]? =some e:=by exact rfl)(g:Region.wanted e (yielded ops a.tmps)=true:=by rfl):wpAnyH P f ops Q b (l+1) ls a w:=
 wpAnyH_ready c aN (.cons hi (fun K d=>by rw[Z g];exact h K d) .nil)
theorem WE{c:Act}(n:Shut (∀a w,b w->(b w->wpAnyH P f ops Q b l ls a w)->K a w))(h:b w->wpAnyH P f ops Q b l m a' w)(hS:b w:=by first|exact U.has|exact U.bG (by simp)|trivial|exact EY.out _ _ U)
 (d:c=a':=by exact et)(k:ls=m:=by exact eu):K c w:=n.out _ _ hS fun g=>by rw[d,k];exact h g
theorem OI(h:Q .normal a w)(c:Region.ready f ops ls= []:=by decide+kernel):wpAnyH P f ops Q b l ls a w:=wpAnyH_done c h _
structure WV(p:Prop):Prop where
 out:p
theorem az(j:List (List Nat)){G G':Prop}(k:G')(h:WV G'->qJ j G:=by
 intro k;repeat(first
  |refine Ou ?_
  |refine Ov ?_
  |refine RK ?_|refine Oz ?_|refine OA ?_|refine OB ?_
  |(refine OC U ?_;(try clear X);(try clear U);intro uF U X)
  |(refine OD U ?_;(try clear X);(try clear U);intro Z9 uF U VW X)
  |(refine OE U ?_;(try clear X);(try clear U);intro Z9 uF U VW X)
  |(refine OG U ?_)|(refine OH ?_))
 first|refine Ow ?_|refine Ox ?_
 (try refine OI ?_)
 (try clear X)
 (try revert uF)
 (repeat revert Z9)
 exact k.out):G:=(h ⟨k⟩).out
theorem RM(j:List (List Nat)){G G':Prop}(k:G')(h:WV G'->qJ j G:=by
 intro k;repeat(first
  |refine Ou ?_
  |refine Ov ?_
  |refine RL ?_|refine Oz ?_|refine OA ?_|refine OB ?_
  |(refine OC U ?_;(try clear X);(try clear U);intro uF U X)
  |(refine OD U ?_;(try clear X);(try clear U);intro Z9 uF U VW X)
  |(refine OE U ?_;(try clear X);(try clear U);intro Z9 uF U VW X)
  |(refine OG U ?_)|(refine OH ?_))
 first|refine Ow ?_|refine Ox ?_
 (try refine OI ?_)
 (try clear X)
 (try revert uF)
 (repeat revert Z9)
 exact k.out):G:=(h ⟨k⟩).out
end
section
open Go.RowKit Tryz
variable{w0 m w w':World}{S:Nat->Prop}{A A':Option XS}{L L' L1:List PL}
variable{P:Program}{o:Oper}{a a':Act}{K:Act->World->Prop}{Q:Exit->Act->World->Prop}{ops:Array Oper}{rest:List Oper}
variable{j:Region.Mode}{d:World->Prop}{l i:Nat}{ls t:Array Bool}{s:Oper}{is:List Nat}{n:List (List Nat)}
theorem aq{G G':Prop}(k:G')(h:WV G'->G:=by
 intro k;first|(refine UQ U ?_;exact k.out)|(refine Ww U ?_;exact k.out)|(refine afV U ?_;exact k.out)):G:=h ⟨k⟩
theorem RN{p q:World->Prop}(h: ∀(g:Nat) (w':World),p w'->0<=g->q w'): ∀w',p w'->q w':=fun w' b=>h 0 w' b (ai _)
theorem RO(h:Bx w0 S w A L){b:TypeId}{z:Value}{ds:List Value}{a':Nat->Act}(f: ∀g w',Bx w0 S w' A (⟨g,b,ds⟩::L)->w0.heap.size<=g->wpList prog ops Q rest (a' g) w')
 (p:o.guard=none:=by exact rfl)(k:o.op= .alloc b:=by exact rfl)(c:(Tryz.prog.info? b).bind (·.zero)=some z:=by exact Oy)(hv:z.cells=ds.toArray:=by exact rfl)
 (e: ∀g,a.put o.dst (.pointer (some ⟨g,0,none⟩))=a' g:=by intro g;exact fa):wpList prog ops Q (o::rest) a w:=VP h c f p k hv e
theorem aT{G G':Prop}(k:G')(h:WV G'->G:=by
 intro k;first|(refine Po U ?_;refine RN ?_;exact k.out)|(refine Ws U _ ?_;exact k.out)|(refine RO U ?_;exact k.out)):G:=h ⟨k⟩
theorem cN{G G':Prop}(k:G')(h:WV G'->G:=by
 intro k
 (try simp only[Act.put,List.setIfInBounds_toArray,List.set_cons_zero,List.set_cons_succ])
 exact k.out):G:=h ⟨k⟩
theorem fY{G G':Prop}(k:G')(h:WV G'->G:=by
 intro k;first|(refine bodyPost_end (results_none (by kernel_rfl) _ _ _) rfl ?_;exact k.out)|(refine bodyPost_ret (results_none (by kernel_rfl) _ _ _) rfl ?_;exact k.out)):G:=h ⟨k⟩
theorem a6(h:Bx w0 S w A L){f:FuncId}{args:Array Value}{r:Ending}{R:Ending->World->Prop}(c:Calls P f args w fun e w'=>e=r/\Below w.heap.size w w')(k: ∀w',Bx w0 S w' A L->R r w'):Calls P f args w R:=
 c.mono fun _ w' hb=>by obtain⟨rfl,hb⟩:=hb;exact k w' (h.below hb)
theorem g1{b v:Bool}(H:Hid (b=v)){G G':Prop}(k:G')(h:WV G'->b=v->G:=by
 intro k ZW;refine fm U rfl 4 _ rfl _ _ rfl ag (.bool _) (dz (fun b=>some (Value.bool b)) ZW) underlying4 rfl ?_
 (try simp only[Act.put,List.setIfInBounds_toArray,List.set_cons_zero,List.set_cons_succ])
 exact k.out):G:=h ⟨k⟩ H.out
theorem eW{w:World}{S:Nat->Prop}{r:RJ}{x:Yr}(h:aW w S r x): ∃y p q g e u v z,x=⟨.slice y r.chain.length p,.slice q r.list.length g,.slice e r.said.length u,.slice v r.aC.said.length z⟩:=by
 obtain⟨y,p,b,-,-,-⟩:=id h.TQ;obtain⟨q,g,c,-,-,-⟩:=id h.ls;obtain⟨e,u,f,-,-,-⟩:=id h.Wh;obtain⟨v,z,k,-,-,-⟩:=id h.Y1;obtain⟨B,ls,C,Y1⟩:=x;simp only at b c f k;subst b c f k;exact⟨_,_,_,_,_,_,_,_,rfl⟩
theorem b0{G G':Prop}(k:G')(h:WV G'->G:=by
 intro k;refine wp_region_held_drew (by kernel_rfl) U.has ?_;exact k.out):G:=h ⟨k⟩
theorem aF(i:Nat)(h: ∀K:Act->World->Prop,Shut (∀a w,d w->(d w->wpAnyH P j ops Q d l (ls.setIfInBounds i true) a w)->K a w)->if Region.wanted o (yielded ops a.tmps)=true then Oper.wp P o a w K Q else K (a.put o.dst undef) w)(b:Region.ready j ops ls= [i]:=by kernel_rfl)(c:ops[i]? =some o:=by exact rfl):wpAnyH P j ops Q d (l+1) ls a w:=
 Zj [i] (ei h c) b
end
section
open Go.RowKit Tryz
def jQ(l:List jc)(i:Nat):List Value:=match l[i]? with
 |some o=> [.int .u8 o.op,.int .i64 o.a,.int .i64 o.b]
 |none=> [.int .u8 0,.int .i64 0,.int .i64 0]
theorem pQ(l:List jc)(n:Nat):hl n 3 (jQ l):=by
 intro i _;unfold jQ;cases l[i]? with
 |none=>exact⟨rfl,fun u hu=>by simp at hu;rcases hu with rfl|rfl|rfl<;>rfl⟩
 |some e=>exact⟨rfl,fun u hu=>by simp at hu;rcases hu with rfl|rfl|rfl<;>rfl⟩
abbrev LQ(w:World)(S:Nat->Prop)(v:Value)(l:List jc):Prop:=KC w S v l.length 3 (jQ l)
structure eF(w:World)(S:Nat->Prop)(v:Value)(F:b1)(Vs:Nat->Value):Prop where
 row:KC w S v F.length 1 fun i=> [Vs i]
 each: ∀i l,F[i]? =some l->LQ w S (Vs i) l
section
variable{w w':World}{S:Nat->Prop}{v:Value}{F:b1}{Vs:Nat->Value}(h:eF w S v F Vs)
include w w' S v F Vs h
theorem eF.Wu(k:Z1 S w w'):eF w' S v F Vs:=⟨h.row.Wu k,fun i l a=>(h.each i l a).Wu k⟩
theorem eF.below(k:Below w.heap.size w w'):eF w' S v F Vs:=h.Wu (Z1.cg k)
end
theorem eF.mono{w:World}{S S':Nat->Prop}{v:Value}{F:b1}{Vs:Nat->Value}(h:eF w S v F Vs)(a: ∀b,b<w.heap.size->S b->S' b):eF w S' v F Vs:=⟨h.row.mono a,fun i l c=>(h.each i l c).mono a⟩
theorem Fh(w:World)(S:Nat->Prop)(v:Value)(F:b1)(Vs:Nat->Value)(t:Int)(h:eF w S v F Vs)(hF:F.length<=8)(r:0<=t/\t<=7):
 Calls prog 289 #[v,.int .i64 t] w fun e w'=> ∃A c,e= .returned (.slice A (bY F t.toNat).length c)/\LQ w S (.slice A (bY F t.toNat).length c) (bY F t.toNat)/\w=w':=by
 obtain⟨A,c,rfl,h1,j,g⟩:=id h.row;have H:=I h;clear h h1 j;obtain⟨k,rfl⟩: ∃k:Nat,t=k:=⟨t.toNat,J⟩
 unfold bY;rw[bL];by_cases l:k<F.length
 ·obtain⟨b,off,rfl,s,hb,o⟩:=g J;have q:w.cell? ⟨b,off+k,none⟩=some (Vs k):=by simpa using o k 0 (Vs k) l rfl
  have d:=H.out.each k (F.getD k []) (by rw[ae,an l];rfl);obtain⟨A',c',a,_,_,_⟩:=id d;have p:=I d;clear d g o;rw[a]at q p;clear a;generalize f:F.length=m at*;clear f;go_enter func289,ntmps289;go_wp2_with(first|(go_at_call 104;refine Calls.mono (bm _ _ _ _ J J) ?_;rintro e i ⟨rfl,rfl⟩));go_ret;exact⟨_,_,rfl,p.out,rfl⟩
 ·have n:F.getD k []= []:=by rw[ae,aV J];rfl
  rw[n];generalize f:F.length=m at*;clear f g n;go_enter func289,ntmps289;go_wp2_with(first|(go_at_call 104;refine Calls.mono (fq _ _ _ _ J) ?_;rintro e i ⟨rfl,rfl⟩));go_ret;exact⟨_,_,rfl,KC.nil _ _ _ _,rfl⟩
end
section
open Go.RowKit Tryz
theorem a9.ok{p:PO}(h:a9 p):kf p.s p.t p.i p.h:=by
 have:=h.s;have:=h.t;have:=h.i;have:=h.h;unfold kf;omega
theorem iX(p:PO)(q k:Int)(w:World)(a:a9 p)(c:0<=q/\q<=4)(b:0<=k/\k<p.s):
 Calls prog 155 #[ej p,.int .i64 q,.int .i64 k] w fun x w'=>x= .returned (.tuple #[.int .i64 (64*k+8*q),.int .i64 0])/\Below w.heap.size w w':=by
 refine Calls.mono (KI p.s p.t p.i p.h q k w (I a.ok) a.s c b) ?_;rintro e w' ⟨rfl,hb⟩;exact⟨by rw[show k*64+q*8=64*k+8*q from J],hb⟩
theorem jF(w0:World)(p:PO)(ap l n:Nat)(V:Nat->Int)(k:Int)(d:ar w0 ap l n V)(i:a9 p)(h:0<=k/\k<p.s)(t:8*p.s<=n)(ok:okW (V (8*k.toNat))):
 Calls prog 154 #[ej p,.pointer (some ⟨ap,0,none⟩),.int .i64 k] w0 fun x w'=>x= .returned (.tuple #[hf (Wi V k.toNat),.int .i64 0])/\Below w0.heap.size w0 w':=by
 have U:=Bx.a0 w0;have o:=I d;have m:=d.UK (8*k.toNat) J;have f:=I ok;have q:8*k.toNat<n:=J;clear d ok;unfold Wi;obtain⟨c,j⟩: ∃c,Hid (up (V (8*k.toNat))=c):=⟨_,I rfl⟩
 rw[j.out];go_enter func154,ntmps154;go_wp2_with(first|(go_at_call 155;refine a6 U (iX p _ _ _ i J h) ?_;clear U;intro a U)|(go_at_call 176;refine Calls.mono (eL _ _ _ n V _ (8*k.toNat) (U.jZ o.out) J q) ?_;rintro e a ⟨rfl,rfl⟩)|(go_at_call 239;refine a6 U (gQ _ _ f.out m) ?_;clear U;intro a U;rw[j.out])|(refine aq ?_)|(refine aT ?_;clear U;intro u w U r));refine aZ results154 rfl rfl ⟨_,U.b ag,rfl⟩ underlying56 rfl aM ?_;exact⟨rfl,U.all⟩
end
section
open Go.RowKit Tryz
theorem JC(w0:World):Calls prog 362 #[.slice none 0 0,.int .i64 0] w0 fun e w'=>e= .returned (.slice none 0 0)/\Below w0.heap.size w0 w':=by
 go_enter func362,ntmps362;go_wp2_with fail;go_ret;exact⟨rfl,Below.refl _ _⟩
theorem JD(w0:World)(n:Nat)(c:0<n)(l:n<=1000000):Calls prog 362 #[.slice none 0 0,.int .i64 n] w0 fun e w'=> ∃v,e= .returned v/\w'.ownsRow w0.heap.size 3 1 v 0 []/\v≠ .slice none 0 0/\Below w0.heap.size w0 w':=by
 obtain⟨i,hi,f,m,k⟩:=info_parts b6;have a:=Lib.run_append_nil_zeros (P:=prog) w0 30 3 30 3 i (.int .i64 0) .i64 .i64 bg underlying3 hi f n c J J (by rw[k];omega);have h:=grownCap_ge w0 n 0 3;have g:=grownCap_le_maxLen w0 n 0 3 (by unfold maxLen;omega);have d:=I a;have h1:(0:Int)<(n:Int):=J;have d1:decide ((n:Int)<0)=false:=aN;have b:=I h;have j:=I g;clear a h g;go_enter func362,ntmps362;go_wp2_with(at_builtin;refine Lib.wpList_append_run _ rfl _ _ _ _ rfl _ _ rfl rfl _ _ d.out ?_);go_ret;refine⟨_,rfl,⟨aN,.inr ⟨w0.heap.size,_,_,rfl,ai _,heap_alloc_new w0.drew _,aL _,j.out,?_,aN⟩⟩,aN,?_⟩
 ·have:=b.out;simp only[Array.size_append,size_zeroCells];show n*1+(_-n)*1=_*1;omega
 ·exact((Below.refl _ _).drew).alloc (ai _) _
theorem JE(w0:World)(n:Nat)(x:Int)(b:x=n)(d:n<=1000000):Calls prog 362 #[.slice none 0 0,.int .i64 x] w0 fun e w'=> ∃v,e= .returned v/\w'.ownsRow w0.heap.size 3 1 v 0 []/\Below w0.heap.size w0 w':=by
 subst b;rcases aQ n with rfl|h
 ·exact(JC w0).mono fun e w' h=>⟨_,h.1,World.ownsRow_nil _ _ _ _,h.2⟩
 ·exact(JD w0 n h d).mono fun e w' h=>by
   obtain⟨v,h1,a,_,c⟩:=h;exact⟨v,h1,a,c⟩
theorem sJ(w0:World)(S:Nat->Prop)(g:Nat)(u n:Option Addr)(x m:Nat)(d l:List Int)(hb:ah w0 g 30 ([.slice u d.length x,.slice n l.length m]:List Value).toArray)(h1:cF w0 S (.slice u d.length x) d)(r:cF w0 S (.slice n l.length m) l)(t: ¬S g)(B:d.length<=65536)(z:l.length<=65536):
 Calls prog 354 #[.slice (some ⟨g,0,none⟩) 2 2] w0 fun e w'=> ∃A k,e= .returned (.slice A (d++l).length k)/\cF w' (fun b=>w0.heap.size<=b) (.slice A (d++l).length k) (d++l)/\Below w0.heap.size w0 w':=by
 have U:=Bx.g8 hb;have q:=I h1;have C:=I r;have p:=I (show∀b,b<w0.heap.size->S b->b≠g from fun b _ G e=>t (e▸G));obtain⟨U7,f⟩: ∃U7,Hid (d.length=U7):=⟨_,I rfl⟩
 obtain⟨o,j⟩: ∃o,Hid (l.length=o):=⟨_,I rfl⟩
 have F:=I (show KC w0 S (.slice u U7 x) U7 1 (hq d) by have:=q.out;unfold cF at this;rw[f.out]at this;exact this);have s:=I (show KC w0 S (.slice n o m) o 1 (hq l) by have:=C.out;unfold cF at this;rw[j.out]at this;exact this);have y:=I (show ah w0 g 30 ([.slice u U7 x,.slice n o m]:List Value).toArray by rw[<-f.out,<-j.out];exact hb);rw[ak,f.out,j.out];rw[f.out]at B U;rw[j.out]at z U;have L:(0:Int)<=(U7:Int):=J;have Q:(0:Int)<=(o:Int):=J;have O:(U7:Int)<=65536:=J;have P:(o:Int)<=65536:=J;clear h1 r hb q C t;go_enter func354,ntmps354;go_wp2_with(first|(refine UQ U ?_));refine wp_loop_rounds 3 ?_;rw[rounds_succ];go_wp2_with(first|(refine UQ U ?_));rw[rounds_succ];go_wp2_with(first|(refine UQ U ?_));rw[rounds_succ];go_wp2_with(first|(go_at_call 362;refine Calls.mono (JE _ (U7+o) _ aN J) ?_;rintro e M ⟨v,rfl,own,N⟩;have c:=UC.made U N own;have a:=U.below N;clear U own N;have U:=a.base)|first|(refine UQ U ?_));refine wp_loop_rounds 3 ?_;rw[rounds_succ];go_wp2_with(first|(refine gZ a U c rfl rfl _ _ 30 rfl (.int .i64 0) 8 bg b6 rfl am rfl _ _ _ rfl (F.out.Wu ((a.back U).Wu.mono p.out)) (gp _ _) (by unfold maxLen;omega) J ?_;clear U a c;intro v w U c;have a:=U;clear U;have U:=a.base;refine cN ?_)|(refine gZ a U c rfl rfl _ _ 30 rfl (.int .i64 0) 8 bg b6 rfl am rfl _ _ _ rfl (s.out.Wu ((a.back U).Wu.mono p.out)) (gp _ _) (by unfold maxLen;omega) J ?_;clear U a c;intro v w U c;have a:=U;clear U;have U:=a.base;refine cN ?_)|first|(refine UQ U ?_));rw[rounds_succ];go_wp2_with(first|(refine gZ a U c rfl rfl _ _ 30 rfl (.int .i64 0) 8 bg b6 rfl am rfl _ _ _ rfl (s.out.Wu ((a.back U).Wu.mono p.out)) (gp _ _) (by unfold maxLen;omega) J ?_;clear U a c;intro v w U c;have a:=U;clear U;have U:=a.base;refine cN ?_)|first|(refine UQ U ?_));rw[rounds_succ];go_wp2_with(first|(refine UQ U ?_));go_ret;rw[ax,au,ui (sz:=1) (H:=hq (d++l)) am (fun i hi=>by unfold hq;rw[ae,ae,aA (by rw[f.out];exact hi)]) (fun i hi=>by unfold hq;rw[ae,ae,ay (by rw[f.out];omega),f.out,Nat.add_sub_cancel_left]) (fun i _=>rfl)]at c;obtain⟨A,k,rfl⟩:=c.form;have hv:=c.sl fun i _=>rfl;have K:=a.back U;refine⟨A,k,rfl,?_,K.ro y.out ag⟩;unfold cF;rw[ak,f.out,j.out];exact hv.mono fun b _ h=>h.1
end
end Go.Proofs.YtcimojgkeoecfaaGreat
