import Derived.Test.YtcimojgkeoecfaaGreatVam
import Derived.Test.YtcimojgkeoecfaaGreatVan
import Derived.Test.YtcimojgkeoecfaaGreatVao
set_option linter.all false
set_option maxHeartbeats 16000000
set_option maxRecDepth 100000
namespace Go.Proofs.YtcimojgkeoecfaaGreat
open Go.RowKit Tryz
variable{w0 w w':World}{S:Nat->Prop}{A:Option XS}{L L':List PL}
theorem nE{G:Prop}(h:G:=by
 refine wpList_plain dj fun K Z7=>?_;have ZV:=Z7 _ _ Tw;unfold Oper.wp execOp;simp only[ZQ,Instr.makeMap];simpa [go_sem]using ZV):G:=h
theorem Bx.lf(h:Bx w0 S w A L){g:Nat}(b:ce w.heap.size g w w')(f:je L g)(i:w0.heap.size<=g\/¬S g)(m: ∀a,A=some a->g≠a.p/\g≠a.g):Bx w0 S w' A L:=by
 refine⟨fun x d=>ah.lf (h.bC x d) b (h.bC x d).lt (f x d),h.UH,h.fr,⟨b.os.trans h.Wu.os,b.tape.trans h.Wu.tape,b.output.trans h.Wu.output,D h.Wu.size b.size,fun k c j=>?_⟩,h.VB.lf b m,h.WN⟩;refine(b.block k (aj c h.Wu.size) fun e=>?_).trans (h.Wu.block k c j);subst e;rcases i with l|l
 ·omega
 ·exact l j
theorem Bx.mW{d:Nat}(h:Bx w0 (fun b=>b≠d) w A L):ce w0.heap.size d w0 w:=⟨h.Wu.os,h.Wu.tape,h.Wu.output,h.Wu.size,fun k c a=>h.Wu.block k c a⟩
theorem Bx.ra{p c n:Nat}{V V':Nat->Int}(h:Bx w0 S w (some ⟨p,c,n,V⟩) L){g:Nat}{t:TypeId}{cs cs':List Value}(f:Tr L g t cs cs' L'){d:World}{v:Value}{m sz:Nat}{F:Nat->List Value}(hv:KC d (fun b=>w.heap.size<=b/\b≠g/\b≠c) v m sz F):
 KC d (fun b=>w0.heap.size<=b/\bq (some ⟨p,c,n,V'⟩) L' b) v m sz F:=hv.mono fun b _ hb=>by
 have:=h.hO hb.1
 exact⟨this.1,ho f.gs this.2.1,fun a e=>by cases e;exact this.2.2 ⟨p,c,n,V⟩ rfl⟩
theorem aW.h4{r:RJ}{x:Yr}{a:Nat}{c:Nat->Prop}(h:aW w0 c r x)(hS: ∀b,b<w0.heap.size->c b->b≠a)(k:Z1 (fun b=>b≠a) w0 w):aW w (fun b=>(c b\/w0.heap.size<=b)/\b≠a) r x:=
 (h.mono fun b hb h=>⟨.inl h,hS b hb h⟩).Wu (k.mono fun b _ h=>h.2)
structure v9(w0:World)(S:Nat->Prop)(w:World)(A:Option XS)(L:List PL)(b:Nat)(l:List (Int×Value)):Prop where
 map:ew w b l
 st:Bx w0 S w A L
 V5:je L b
 fr:w0.heap.size<=b
 ys: ∀a,A=some a->b≠a.p/\b≠a.g
variable{P:Program}{o:Oper}{a:Act}{K:Act->World->Prop}{Q:Exit->Act->World->Prop}{ops:Array Oper}{rest:List Oper}
theorem v9.new(h:Bx w0 S w A L):v9 w0 S (w.alloc (.map #[] 0)) A L w.heap.size []:=by
 have hb:Below w.heap.size w (w.alloc (.map #[] 0)):=(Below.refl _ _).alloc (ai _) _;refine⟨ew.new w,h.below hb,h.nx (ai _),h.size,fun a e=>?_⟩;subst e;have:=ar.c9 (w:=w) h.VB;constructor<;>omega
theorem c1(h:Bx w0 S w A L)(dj:o.guard=none)(t:TypeId)(ZQ:o.op= .makeMap t none)
 (Z7: ∀b w',v9 w0 S w' A L b []->wpList P ops Q rest (a.put o.dst (.map (some b))) w'):wpList P ops Q (o::rest) a w:=by
 have Tw:=Z7 _ _ (v9.new h);exact nE
theorem ey{b:Nat}{l:List (Int×Value)}(h:v9 w0 S w A L b l)(n:o.guard=none)(t:TypeId)(m x v:Operand)(hop:o.op=Op.insert t m x v)(k e:TypeId)(f:P.underlying t=some (.map k e))(d:P.underlying k=some (.int .i64))
 (hm:a.eval m= .map (some b))(key:Int)(val:Value)(g:a.eval x= .int .i64 key)(hv:dt a v=some val)(c:(l.findIdx? fun x=>key==x.1)=none)
 (j: ∀w',v9 w0 S w' A L b (l++ [(key,val)])->wpList P ops Q rest (a.put o.dst undef) w'):wpList P ops Q (o::rest) a w:=
 aca w n m x v t hop k e f d b l hm h.map key val g (gF hv) c fun w' p i=>
  j w' ⟨p,h.st.lf i h.V5 (.inl h.fr) h.ys,h.V5,h.fr,h.ys⟩
theorem dH{b:Nat}{l:List (Int×Value)}(h:ew w b l)(n:o.guard=none)(t:TypeId)(m x:Operand)(hop:o.op=Op.lookup t m x true){k e:TypeId}(f:P.underlying t=some (.map k e))(d:P.underlying k=some (.int .i64))
 (hm:a.eval m= .map (some b))(key:Int)(v:Value)(g:a.eval x= .int .i64 key)(c:l.find? (fun x=>key==x.1)=some (key,v))
 (i:wpList P ops Q rest (a.put o.dst (.tuple #[v,.bool true])) w):wpList P ops Q (o::rest) a w:=by
 refine wpList_plain n fun K k=>?_;have j:=k _ _ i;unfold Oper.wp execOp;simp only[hop,hm,g];simpa [go_sem,p8 f d h key v c]using j
theorem abN(h:Bx w0 S w A L)(e:Region.wanted o (yielded ops a.tmps)=true)(b:TypeId)(x:Operand)(j:o.op= .load b x)(g off:Nat)(f:a.eval x= .pointer (some ⟨g,off,none⟩)){t:TypeId}{cs:List Value}(hi:In L g t cs)(v:Value)(hv:cs[off]? =some v)
 {d:TypeDesc}(hu:P.underlying b=some d)(c:d.isRow=false)(i:wpList P ops Q rest (a.put o.dst v) w):wpList P ops Q (o::rest) a w:=
 wpList_step fun K k=>by rw[Z e];exact bU h b x j g off f hi v hv hu c (k _ _ i)
theorem Bx.rb{b c:PL}(h:Bx w0 S w A (b::c::L)):c0 (b::L) w:=fun x d=>by
 rcases List.mem_cons.1 d with rfl|d
 ·exact h.bC x a8
 ·exact h.bC x (ao _ (ao _ d))
def ix(xs:List Nat)(L:List PL)(w:World):Prop:= ∀x,x∈L->∀(off:Nat) (v:Value),xs.contains off=false->x.cs[off]? =some v->w.cell? ⟨x.g,off,none⟩=some v
section
variable{xs:List Nat}
include xs
theorem Bx.h5(h:Bx w0 S w A L):ix xs L w:=fun x b off v _ hv=>by rw[(h.bC x b).cell,aE];exact hv
theorem ix.sub(h:ix xs L w)(c: ∀x,x∈L'->x∈L):ix xs L' w:=fun x b=>h x (c x b)
theorem Bx.j1{b:PL}(h:Bx w0 S w A (b::L)):ix xs L w:=h.h5.sub fun x c=>ao _ c
theorem Bx.j2{b c:PL}(h:Bx w0 S w A (b::c::L)):ix xs L w:=h.h5.sub fun x d=>ao _ (ao _ d)
theorem ix.at_{L:List PL}{g:Nat}{t:TypeId}{cs:List Value}(hi:In L g t cs){off:Nat}(b:xs.contains off=false){v:Value}(hv:cs[off]? =some v): ∀w,ix xs L w->w.cell? ⟨g,off,none⟩=some v:=fun w h=>h _ hi.mem off v b hv
end
def r8(g off n:Nat)(w w':World):Prop:= ∀k i,(k≠g\/i<off\/off+n<=i)->k<w.heap.size->w'.cell? ⟨k,i,none⟩=w.cell? ⟨k,i,none⟩
theorem ix.store{xs:List Nat}{g off n:Nat}(h:ix xs L w)(k:r8 g off n w w')(b:((List.range n).all fun j=>xs.contains (off+j))=true):ix xs L w':=fun x f i v e hv=>by
 have d:=h x f i v e hv;refine(k x.g i ?_ (World.block_lt_of_cell? w _ d)).trans d;by_cases c:off<=i/\i<off+n
 ·rw[List.all_eq_true]at b;have:=b (i-off) (List.mem_range.2 J);rw[show off+(i-off)=i from J,e]at this;cases this
 ·omega
theorem Ah(h:Bx w0 S w A L)(d:TypeId)(x y:Operand)(n:o.op= .store d x y)(g off:Nat)(v:Value)(ds:List Value)(l:a.eval x= .pointer (some ⟨g,off,none⟩))(hy:dt a y=some v)(hv:v.cells=ds.toArray)
 {t:TypeId}{cs:List Value}(j:Tr L g t cs (er cs off ds) L')(p:off+ds.length<=cs.length)(hi:(P.info? d).map (·.size)=some ds.length)(h1:ds.all (·.oneCell')=true)
 (m: ∀w',Bx w0 S w' A L'->r8 g off ds.length w w'->K (a.put o.dst undef) w'):Oper.wp P o a w K Q:=by
 have hb:=h.b j.aB;refine tJ d x y n g off v ds.toArray l (gF hy) hv hb (er cs off ds).toArray (by rw[sP]) (by simpa using p) (by simpa using hi) (by simpa using h1) fun w' b u z=>m w' (h.hX j b u) fun k i c f=>?_;by_cases e:k=g
 ·subst e;rw[b.cell,hb.cell,aE,aE];unfold er;rcases c with c|c|c
  ·exact absurd rfl c
  ·rw[aJ,aA (by simp;omega),List.getElem?_take_of_lt c]
  ·rw[ay (by simp;omega),List.getElem?_drop];congr 1;simp;omega
 ·exact World.cell?_of_block (w:=w) (u.block k f e)
theorem bl{S':World->Prop}(e:Region.wanted o (yielded ops a.tmps)=true)(c:TypeId)(x:Operand)(h:o.op= .load c x)(g off:Nat)(f:a.eval x= .pointer (some ⟨g,off,none⟩))(v:Value)
 (b: ∀w,S' w->w.cell? ⟨g,off,none⟩=some v){d:TypeDesc}(hu:P.underlying c=some d)(k:d.isRow=false):YieldsIf P ops S' o v a:=
 .inl ⟨e,fun w i=>by
  have b:=b w i
  have j:(isAgg c).run P w= .ok false w:=by
   unfold isAgg;rw[Sem.run_bind,run_underlying hu w];cases d<;>simp_all
  unfold execOp;simp only[h,f,Instr.loadAt,Instr.sureAddr,loadVar];simp[go_sem,Sem.run_bind,j,b]⟩
theorem abP{xs:List Nat}{L:List PL}(b:Region.wanted o (yielded ops a.tmps)=true)(c:TypeId)(x:Operand)(l:o.op= .load c x)(g off n:Nat)(i:a.eval x= .pointer (some ⟨g,off,none⟩)){t:TypeId}{cs:List Value}
 (m:In L g t cs)(ds:List Value)(hd:(cs.drop off).take n=ds)(h:((List.range n).all fun j=> !xs.contains (off+j))=true){d:TypeDesc}(hu:P.underlying c=some d)(e:d.isRow=true)(k:(P.info? c).map (·.size)=some ds.length):YieldsIf P ops (ix xs L) o (.agg ds.toArray) a:=
 yieldsIf_load_mid (P:=P) (S:=ix xs L) b c x l g off i ds d (fun w b j v hv=>by
  have p:cs[off+j]? =some v:=by
   have:=xb hd j v (by simpa using hv);simpa using this
  have f:j<n:=by
   have:=(List.getElem?_eq_some_iff.1 hv).1;rw[<-hd]at this;simp at this;omega
  refine b _ m.mem (off+j) v ?_ p;rw[List.all_eq_true]at h;have:=h j (List.mem_range.2 f);simpa using this) hu e k
variable{a':Act}{q:Region.Mode}{s i:Nat}{ls B:Array Bool}{f:Oper}
theorem afV(h:Bx w0 S w A L){b:TypeId}{x:Operand}{g off:Nat}{t:TypeId}{cs:List Value}{v:Value}(l:wpList prog ops Q rest a' w)
 (e:Region.wanted o (yielded ops a.tmps)=true:=by rfl)(m:o.op= .load b x:=by exact rfl)(c:yd prog b:=by exact N9)(j:a.eval x= .pointer (some ⟨g,off,none⟩):=by exact rfl)(hi:In L g t cs:=by exact ag)(hv:cs[off]? =some v:=by rfl)
 (k:a.put o.dst v=a':=by exact fa):wpList prog ops Q (o::rest) a w:=by
 obtain⟨d,hu,hd⟩:=c;exact abN h e b x m g off j hi v hv hu hd (k▸l)
theorem uN(h:Bx w0 S w A L){b:TypeId}{x y:Operand}{g off:Nat}{v:Value}{ds:List Value}{t:TypeId}{cs:List Value}{L0:List PL}(k: ∀w',Bx w0 S w' A L'->r8 g off ds.length w w'->K (a.put o.dst undef) w')(d:Region.wanted o (yielded ops a.tmps)=true:=by rfl)
 (l:o.op= .store b x y:=by exact rfl)(e:a.eval x= .pointer (some ⟨g,off,none⟩):=by exact rfl)(hy:dt a y=some v:=by exact rfl)(hv:v.cells=ds.toArray:=by exact rfl)
 (j:Tr L g t cs (er cs off ds) L0:=by exact cf)(c:L0=L':=by exact qZ)
 (m:off+ds.length<=cs.length:=by exact bQ rfl)(hi:(P.info? b).map (·.size)=some ds.length:=by kernel_rfl)(h1:ds.all (·.oneCell')=true:=by first|rfl|(simp[*];done)):if Region.wanted o (yielded ops a.tmps)=true then Oper.wp P o a w K Q else K (a.put o.dst undef) w:=by
 rw[Z d];exact Ah h b x y l g off v ds e hy hv (c▸j) m hi h1 k
theorem td{xs:List Nat}(i:Nat){e:TypeId}{x:Operand}{g off:Nat}{t:TypeId}{cs:List Value}{v:Value}(h:wpAnyH P q ops Q (ix xs L) s B a' w)(hi:ops[i]? =some f:=by exact rfl)(u:Region.noSelect ops=true:=by kernel_rfl)(k:Region.free q ops ls i=true:=by kernel_rfl)(j:(Region.ready q ops ls).contains i=true:=by kernel_rfl)(l:Region.wanted f (yielded ops a.tmps)=true:=by rfl)
 (z:f.op= .load e x:=by exact rfl)(b:(P.underlying e).map TypeDesc.isRow=some false:=by kernel_rfl)(p:a.eval x= .pointer (some ⟨g,off,none⟩):=by exact rfl)(C:In L g t cs:=by exact ag)(m:xs.contains off=false:=by rfl)(hv:cs[off]? =some v:=by rfl)(n: ∀c a w,Q (.panic c) (a.put f.dst v) w->Q (.panic c) a w:=by first|exact fun _ _ _ h=>h|exact fun _ _ _ h=>dZ (fun t w=>results_none (by kernel_rfl) t _ w) _ _ _ _ _ h)(hS:(ix xs L) w:=by assumption)
 (r:a.put f.dst v=a':=by exact et)(y:ls.setIfInBounds i true=B:=by exact eu):wpAnyH P q ops Q (ix xs L) (s+1) ls a w:=by
 cases hu:P.underlying e with
 |none=>simp[hu]at b
 |some d=>exact wpAnyH_take hi u k j n (bl l e x z g off p v (ix.at_ C m hv) hu (by simpa [hu]using b)) hS (by rw[r,y];exact h)
theorem Oj{xs:List Nat}(i n:Nat){b:TypeId}{x:Operand}{g off:Nat}{t:TypeId}{cs ds:List Value}(h:wpAnyH P q ops Q (ix xs L) s B a' w)(hi:ops[i]? =some f:=by exact rfl)(C:Region.noSelect ops=true:=by kernel_rfl)(m:Region.free q ops ls i=true:=by kernel_rfl)(l:(Region.ready q ops ls).contains i=true:=by kernel_rfl)(r:Region.wanted f (yielded ops a.tmps)=true:=by rfl)
 (G:f.op= .load b x:=by exact rfl)(e:(P.underlying b).map TypeDesc.isRow=some true:=by kernel_rfl)(p:(P.info? b).map (·.size)=some n:=by kernel_rfl)(y:a.eval x= .pointer (some ⟨g,off,none⟩):=by exact rfl)(H:In L g t cs:=by exact ag)
 (hd:(cs.drop off).take n=ds:=by exact lT)(k:ds.length=n:=by exact rfl)(u:((List.range n).all fun j=> !xs.contains (off+j))=true:=by rfl)(v: ∀c a w,Q (.panic c) (a.put f.dst (.agg ds.toArray)) w->Q (.panic c) a w:=by first|exact fun _ _ _ h=>h|exact fun _ _ _ h=>dZ (fun t w=>results_none (by kernel_rfl) t _ w) _ _ _ _ _ h)(hS:(ix xs L) w:=by assumption)
 (z:a.put f.dst (.agg ds.toArray)=a':=by exact et)(F:ls.setIfInBounds i true=B:=by exact eu):wpAnyH P q ops Q (ix xs L) (s+1) ls a w:=by
 cases hu:P.underlying b with
 |none=>simp[hu]at e
 |some d=>exact wpAnyH_take hi C m l v (abP r b x G g off n y H ds hd u hu (by simpa [hu]using e) (by rw[p,k])) hS (by rw[z,F];exact h)
end Go.Proofs.YtcimojgkeoecfaaGreat
