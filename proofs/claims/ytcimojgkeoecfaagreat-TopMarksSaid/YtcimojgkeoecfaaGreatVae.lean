import Derived.Test.YtcimojgkeoecfaaGreatVad
import Derived.Deep.QuietTactic
set_option linter.all false
set_option maxHeartbeats 16000000
set_option maxRecDepth 100000
namespace Go.Proofs.YtcimojgkeoecfaaGreat
open Go.RowKit
section
theorem abx{B:Nat}{a w:World}(h:Below B a w)(n:Nat):Below B a (w.drewN n):=⟨h.os,h.tape,h.output,h.size,h.block⟩
theorem a2{B:Nat}{a w:World}(h:Below B a w:=by repeat(first|(with_reducible exact Below.refl _ _)|((with_reducible refine Below.setCell ?_ ?_ _);rotate_left;(focus(first|omega|(simp;done)|(simp;omega))))|((with_reducible refine Below.alloc ?_ ?_ _);rotate_left;(focus(first|omega|(simp;done)|(simp;omega))))|(with_reducible refine Below.drew ?_)|(with_reducible refine abx ?_ _)|((refine Below.trans ?_ (Below.mono (by with_reducible assumption) ?_));rotate_left;(focus(first|omega|(simp;done)|(simp;omega)))))):Below B a w:=h
def bi(d:Bool):Int:=if d then 1 else 0
theorem tG:bi true=1:=rfl
theorem pN:bi false=0:=rfl
theorem Ew(d:Bool):0<=bi d/\bi d<=1:=by cases d<;>decide
theorem eC{w:World}{g i:Nat}{v:Value}{cs:Array Value}{t:TypeId}{fr:Nat×Nat}(h:w.heap[g]? =some (.cells cs t fr)):
 (w.setCell ⟨g,i,none⟩ v).heap[g]? =some (.cells (cs.setIfInBounds i v) t fr):=by
 simp[World.setCell,Array.getElem?_modify,h]
theorem cQ{w:World}{g b i:Nat}{v:Value}{o:Option Obj}(a:g≠b)(h:w.heap[g]? =o):(w.setCell ⟨b,i,none⟩ v).heap[g]? =o:=by
 rw[Below.heap_setCell _ _ _ _ a];exact h
theorem dL(w:World)(o:Obj):(w.alloc o).heap[w.heap.size]? =some o:=by
 show(w.heap.push o)[w.heap.size]? =some o;simp
theorem eg{w:World}{o:Obj}{n:Nat}(a:n=w.heap.size):(w.alloc o).heap[n]? =some o:=by
 subst a;exact dL w o
theorem eQ{w:World}{g:Nat}{b:Obj}{o:Option Obj}(a:g<w.heap.size)(h:w.heap[g]? =o):(w.alloc b).heap[g]? =o:=by
 rw[Below.heap_alloc _ _ _ a];exact h
theorem dA{B:Nat}{w a:World}{g:Nat}{o:Option Obj}(hb:Below B w a)(b:g<B)(h:w.heap[g]? =o):a.heap[g]? =o:=by
 rw[hb.block _ b];exact h
section
variable{P:Program}{fn:Func}{R:Ending->World->Prop}{a:Act}{w:World}
include P fn R a w
theorem aZ{p u:Tmp}{c:TypeId}{g:Nat}{t:TypeId}{cs:Array Value}{fr:Nat×Nat}{d:TypeDesc}
 (h:fn.results= #[.cell p c,.tmp u])(i:a.defers= [])(f:a.tmps.getD p undef= .pointer (some ⟨g,0,none⟩))(b: ∃cs',w.heap[g]? =some (.cells cs' t fr)/\cs'=cs)
 (hu:P.underlying c=some d)(hd:(match d with|.struct _|.array _ _=>true|_=>false)=true)(hi:(P.info? c).map (·.size)=some cs.size)
 (e:R (.returned (.tuple #[.agg cs,a.tmps.getD u undef])) w):bodyPost P fn R .ret a w:=by
 obtain⟨cs',b,rfl⟩:=b;exact bodyPost_ret (by rw[results_cell_tmp h,f];simp[asAddr,run_loadVar_row w g t c cs' fr d b hu hd hi]) i e
theorem cw{p:Tmp}{c:TypeId}{g:Nat}{t:TypeId}{cs:Array Value}{fr:Nat×Nat}{d:TypeDesc}
 (h:fn.results= #[.cell p c])(i:a.defers= [])(f:a.tmps.getD p undef= .pointer (some ⟨g,0,none⟩))(b: ∃cs',w.heap[g]? =some (.cells cs' t fr)/\cs'=cs)
 (hu:P.underlying c=some d)(hd:(match d with|.struct _|.array _ _=>true|_=>false)=true)(hi:(P.info? c).map (·.size)=some cs.size)
 (e:R (.returned (.agg cs)) w):bodyPost P fn R .ret a w:=by
 obtain⟨cs',b,rfl⟩:=b;exact bodyPost_ret (results_cell_row h _ w g t cs' fr d f b hu hd hi) i e
end
end
section
def gN(k:IntKind)(n:Nat)(f:Nat->Int):Array Value:=Array.ofFn fun(i:Fin n)=>Value.int k (f i)
section
variable(k:IntKind)(n:Nat)(f:Nat->Int)
include k n f
theorem q2:(gN k n f).size=n:=by simp[gN]
theorem lq(j:Nat)(h:j<n):(gN k n f)[j]? =some (.int k (f j)):=by
 simp[gN,h]
theorem mo(j:Nat)(h:n<=j):(gN k n f)[j]? =none:=by
 simp[gN];omega
end
def upd(f:Nat->Int)(j:Nat)(v:Int):Nat->Int:=fun i=>if i=j then v else f i
theorem acS(k:IntKind)(n:Nat)(f:Nat->Int)(j:Nat)(v:Int):(gN k n f).setIfInBounds j (.int k v)=gN k n (upd f j v):=by
 apply Array.ext_getElem?;intro i;rw[Array.getElem?_setIfInBounds];by_cases hi:i<n
 ·rw[lq k n f i hi,lq k n _ i hi,q2];unfold upd;by_cases h:j=i
  ·subst h;simp[hi]
  ·rw[Y h,Y (fun e=>h e.symm)]
 ·rw[mo k n f i J,mo k n _ i J,q2];split
  ·split
   ·omega
   ·rfl
  ·rfl
theorem acW(k:IntKind)(n:Nat)(f g:Nat->Int)(h: ∀i,i<n->f i=g i):gN k n f=gN k n g:=by
 unfold gN;congr 1;funext i;rw[h i i.2]
def isRow(w:World)(g:Nat)(k:IntKind)(t:TypeId)(n:Nat)(f:Nat->Int):Prop:=w.heap[g]? =some (.cells (gN k n f) t (0,0))
section
variable{w:World}{g:Nat}{k:IntKind}{t:TypeId}{n:Nat}{f:Nat->Int}(h:isRow w g k t n f)
include w g k t n f h
theorem isRow.cell(j:Nat)(a:j<n):w.cell? ⟨g,j,none⟩=some (.int k (f j)):=by
 have:=cell_of_row w g j _ _ _ h;rw[this,lq _ _ _ _ a]
theorem isRow.free(j:Nat):w.frozen? ⟨g,j,none⟩=false:=by
 unfold isRow at h;simp[World.frozen?,h]
theorem isRow.lt:g<w.heap.size:=by
 unfold isRow at h;exact(Array.getElem?_eq_some_iff.1 h).1
theorem isRow.set(j:Nat)(v:Int):isRow (w.setCell ⟨g,j,none⟩ (.int k v)) g k t n (upd f j v):=by
 unfold isRow at*;rw[eC h,acS]
theorem isRow.drew:isRow w.drew g k t n f:=h
end
theorem isRow.ext{w:World}{g:Nat}{k:IntKind}{t:TypeId}{n:Nat}{f f':Nat->Int}(h:isRow w g k t n f)(e: ∀i,i<n->f i=f' i):isRow w g k t n f':=by
 unfold isRow at*;rw[h,acW _ _ _ _ e]
structure ce(B g:Nat)(w w':World):Prop where
 os:w'.os=w.os
 tape:w'.tape=w.tape
 output:w'.output=w.output
 size:w.heap.size<=w'.heap.size
 block: ∀k,k<B->k≠g->w'.heap[k]? =w.heap[k]?
theorem ce.refl(B g:Nat)(w:World):ce B g w w:=⟨rfl,rfl,rfl,ai _,fun _ _ _=>rfl⟩
theorem ce.trans{B g:Nat}{a b c:World}(h:ce B g a b)(k:ce B g b c):ce B g a c:=
 ⟨k.os.trans h.os,k.tape.trans h.tape,k.output.trans h.output,D h.size k.size,fun i hi d=>(k.block i hi d).trans (h.block i hi d)⟩
theorem ce.mono{B B' g:Nat}{w w':World}(h:ce B g w w')(b:B'<=B):ce B' g w w':=⟨h.os,h.tape,h.output,h.size,fun k a=>h.block k (aj a b)⟩
section
variable{B g:Nat}{a w:World}(h:ce B g a w)
include B g a w h
theorem ce.drew:ce B g a w.drew:=⟨h.os,h.tape,h.output,h.size,h.block⟩
theorem ce.set(j:Nat)(v:Value):ce B g a (w.setCell ⟨g,j,none⟩ v):=
 h.trans ⟨rfl,rfl,rfl,by simp[World.setCell],fun k _ b=>Below.heap_setCell _ _ _ _ b⟩
theorem ce.alloc(c:B<=w.heap.size)(o:Obj):ce B g a (w.alloc o):=
 h.trans ⟨rfl,rfl,rfl,aN,fun k b _=>Below.heap_alloc _ _ _ J⟩
end
theorem ce.cg{B g:Nat}{w w':World}(h:Below B w w'):ce B g w w':=⟨h.os,h.tape,h.output,h.size,fun k a _=>h.block k a⟩
theorem ce.below{B B' g:Nat}{w w':World}(h:ce B g w w')(c:B'<=B)(b:B'<=g):Below B' w w':=⟨h.os,h.tape,h.output,h.size,fun k a=>h.block k J J⟩
section
variable{B g:Nat}{w w':World}(h:ce B g w w')
include B g w w' h
theorem ce.cell{p:Addr}(b:p.block<B)(a:p.block≠g):w'.cell? p=w.cell? p:=World.cell?_of_block (w:=w) (h.block p.block b a)
theorem ce.frozen{p:Addr}(b:p.block<B)(a:p.block≠g):w'.frozen? p=w.frozen? p:=World.frozen?_of_block (w:=w) (h.block p.block b a)
theorem ce.row{r:Nat}{k:IntKind}{t:TypeId}{n:Nat}{f:Nat->Int}(b:isRow w r k t n f)(c:r<B)(a:r≠g):isRow w' r k t n f:=by
 unfold isRow at*;rw[h.block r c a];exact b
end
theorem Below.row{B:Nat}{w w':World}(h:Below B w w'){r:Nat}{k:IntKind}{t:TypeId}{n:Nat}{f:Nat->Int}(a:isRow w r k t n f)(b:r<B):isRow w' r k t n f:=by
 unfold isRow at*;rw[h.block r b];exact a
end
section
def ah(w:World)(g:Nat)(t:TypeId)(cs:Array Value):Prop:=w.heap[g]? =some (.cells cs t (0,0))
section
variable{w w':World}{g:Nat}{t:TypeId}{cs:Array Value}
theorem ah.lt(h:ah w g t cs):g<w.heap.size:=by
 unfold ah at h;exact(Array.getElem?_eq_some_iff.1 h).1
theorem ah.cell(h:ah w g t cs)(i:Nat):w.cell? ⟨g,i,none⟩=cs[i]? :=cell_of_row w g i cs t (0,0) h
theorem ah.frozen(h:ah w g t cs)(i:Nat):w.frozen? ⟨g,i,none⟩=false:=by
 unfold ah at h;simp[World.frozen?,h]
theorem ah.new(w:World)(t:TypeId)(cs:Array Value):ah (w.alloc (.cells cs t)) w.heap.size t cs:=heap_alloc_new w _
theorem ah.q3{n:Nat}(w:World)(t:TypeId)(cs:Array Value)(a:n=w.heap.size):ah (w.alloc (.cells cs t)) n t cs:=a▸heap_alloc_new w _
section
variable(h:ah w g t cs)
include h
theorem ah.drew:ah w.drew g t cs:=h
theorem ah.drewN(n:Nat):ah (w.drewN n) g t cs:=h
theorem ah.alloc(o:Obj):ah (w.alloc o) g t cs:=(Below.heap_alloc w o g h.lt).trans h
theorem ah.hX(i:Nat)(u:Value):ah (w.setCell ⟨g,i,none⟩ u) g t (cs.setIfInBounds i u):=by
 unfold ah at h⊢;simp[World.setCell,Array.getElem?_modify,h]
theorem ah.hY{p:Addr}(a:g≠p.block)(u:Value):ah (w.setCell p u) g t cs:=(Below.heap_setCell w p u g a).trans h
end
theorem ah.below{B:Nat}(h:ah w g t cs)(hb:Below B w w')(a:g<B):ah w' g t cs:=(hb.block g a).trans h
theorem ah.lf{B c:Nat}(h:ah w g t cs)(hb:ce B c w w')(a:g<B)(b:g≠c):ah w' g t cs:=(hb.block g a b).trans h
end
theorem isRow.bC{w:World}{g:Nat}{k:IntKind}{t:TypeId}{n:Nat}{f:Nat->Int}(h:isRow w g k t n f):ah w g t (gN k n f):=h
theorem ah.row{w:World}{g:Nat}{k:IntKind}{t:TypeId}{n:Nat}{f:Nat->Int}(h:ah w g t (gN k n f)):isRow w g k t n f:=h
end
end Go.Proofs.YtcimojgkeoecfaaGreat
