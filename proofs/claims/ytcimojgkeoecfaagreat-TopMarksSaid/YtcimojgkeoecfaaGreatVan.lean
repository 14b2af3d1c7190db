import Derived.Test.YtcimojgkeoecfaaGreatVae
import Derived.Maps.OwnSet
import Derived.WideMake
set_option linter.all false
set_option maxHeartbeats 16000000
set_option maxRecDepth 100000
namespace Go.Proofs.YtcimojgkeoecfaaGreat
open Go.RowKit
def ew(w:World)(b:Nat)(l:List (Int×Value)):Prop:=
 ∃a c,w.heap[b]? =some (.map a c)/\a.toList.map (fun e=>(e.key,e.val))=l.map fun x=>(.int .i64 x.1,x.2)
theorem ew.lt{w:World}{b:Nat}{l:List (Int×Value)}(h:ew w b l):b<w.heap.size:=by
 obtain⟨a,c,h,_⟩:=h;exact(Array.getElem?_eq_some_iff.1 h).1
theorem ew.lf{w w':World}{b B c:Nat}{l:List (Int×Value)}(h:ew w b l)(k:ce B c w w')(hb:b<B)(d:b≠c):ew w' b l:=by
 obtain⟨a,f,h,e⟩:=h;exact⟨a,f,(k.block b hb d).trans h,e⟩
theorem ew.below{w w':World}{b B:Nat}{l:List (Int×Value)}(h:ew w b l)(k:Below B w w')(hb:b<B):ew w' b l:=by
 obtain⟨a,c,h,e⟩:=h;exact⟨a,c,(k.block b hb).trans h,e⟩
theorem ew.new(w:World):ew (w.alloc (.map #[] 0)) w.heap.size []:=⟨#[],0,heap_alloc_new w _,rfl⟩
section
variable{w:World}{b:Nat}{l:List (Int×Value)}(h:ew w b l)
include w b l h
theorem ew.alloc(o:Obj):ew (w.alloc o) b l:=by
 have hb:=h.lt;obtain⟨a,c,h,e⟩:=h;exact⟨a,c,(Below.heap_alloc w o b hb).trans h,e⟩
theorem ew.hY{p:Addr}(c:b≠p.block)(u:Value):ew (w.setCell p u) b l:=by
 obtain⟨a,d,h,e⟩:=h;exact⟨a,d,(Below.heap_setCell w p u b c).trans h,e⟩
theorem ew.drew:ew w.drew b l:=h
end
theorem tY(k:Int): ∀(b:List MapEntry) (l:List (Int×Value)) (i:Nat),b.map (fun e=>(e.key,e.val))=l.map (fun x=>((.int .i64 x.1,x.2):Value×Value))->
 Instr.findNow (.int .i64) (.int .i64 k) b i=some ((l.findIdx? fun x=>k==x.1).bind fun j=>(l[j]?).map fun x=>(i+j,x.2)):=by
 intro b;induction b with
 |nil=>
  intro l i h;cases l with
  |nil=>rfl
  |cons a l=>simp at h
 |cons e b g=>
  intro l i h;cases l with
  |nil=>simp at h
  |cons a l=>
   rw[aS,aS]at h;injection h with h1 d
   injection h1 with n m
   unfold Instr.findNow;rw[n];by_cases c:k=a.1
   ·subst c;simp[Instr.sameNow,List.findIdx?_cons,m]
   ·have f:(k==a.1)=false:=by simpa using c
    simp only[Instr.sameNow,if_true,f,List.findIdx?_cons];rw[g l (i+1) d];cases o:l.findIdx? (fun x=>k==x.1)with
    |none=>simp
    |some j=>simp[Nat.add_comm,Nat.add_left_comm,Nat.add_assoc]
theorem aca{P:Program}(w:World){ops:Array Oper}{rest:List Oper}{o:Oper}{a:Act}{Q:Exit->Act->World->Prop}
 (j:o.guard=none)(m x v:Operand)(t:TypeId)(hop:o.op=Op.insert t m x v)(k e:TypeId)(n:P.underlying t=some (.map k e))(f:P.underlying k=some (.int .i64))
 (b:Nat)(l:List (Int×Value))(hm:a.eval m= .map (some b))(q:ew w b l)(key:Int)(val:Value)(s:a.eval x= .int .i64 key)(hv:a.eval v=val)(h:(l.findIdx? fun x=>key==x.1)=none)
 (y: ∀w',ew w' b (l++ [(key,val)])->ce w.heap.size b w w'->wpList P ops Q rest (a.put o.dst undef) w'):
 wpList P ops Q (o::rest) a w:=by
 obtain⟨c,d,hb,p⟩:=id q;refine wpList_plain j fun K' r=>?_;have A:Instr.findNow (.int .i64) (.int .i64 key) c.toList 0=some none:=by rw[tY key c.toList l 0 p,h];rfl
 have u:(Instr.checkKey false 10000 k (.int .i64 key)).run P w= .ok () w:=MapKept.run_checkKey (k:=.int .i64 key) f (by simp[MapKept.IsKey]) false 9999;have z:(Instr.mapUpdate t (.map (some b)) (.int .i64 key) val).run P w= .ok () {w with heap:=w.heap.setIfInBounds b (.map (c.push {key:=.int .i64 key,val:=val,born:=d}) (d+1))}:=by
  simp[Instr.mapUpdate,run_underlying n,MapKept.run_getObj_map hb,u,MapKept.run_findKey f A,MapKept.run_setObj_map _ hb,Result.andThen]
 unfold Oper.wp;simp[execOp,hop,hm,s,hv,z,Result.andThen];refine r _ _ (y {w with heap:=w.heap.setIfInBounds b (.map (c.push {key:=.int .i64 key,val:=val,born:=d}) (d+1))} ⟨c.push {key:=.int .i64 key,val:=val,born:=d},d+1,?_,?_⟩ ⟨rfl,rfl,rfl,?_,?_⟩)
 ·show(w.heap.setIfInBounds b _)[b]? =_;rw[cr q.lt]
 ·simp[p]
 ·show w.heap.size<=(w.heap.setIfInBounds b _).size;simp
 ·intro i hi g;show(w.heap.setIfInBounds b _)[i]? =_;rw[bk (Ne.symm g)]
theorem p8{P:Program}{w:World}{t k e:TypeId}(n:P.underlying t=some (.map k e))(f:P.underlying k=some (.int .i64)){b:Nat}{l:List (Int×Value)}(h:ew w b l)(key:Int)(v:Value)(c:l.find? (fun x=>key==x.1)=some (key,v)):
 (Instr.lookup t (.map (some b)) (.int .i64 key) true).run P w= .ok (.tuple #[v,.bool true]) w:=by
 obtain⟨d,s,hb,o⟩:=h;have g: ∃i,Instr.findNow (.int .i64) (.int .i64 key) d.toList 0=some (some (i,v)):=by
  rw[tY key d.toList l 0 o];rw[List.find?_eq_some_iff_getElem]at c;obtain⟨h1,i,hi,a,r⟩:=c;have:l.findIdx? (fun x=>key==x.1)=some i:=by
   rw[List.findIdx?_eq_some_iff_getElem];exact⟨hi,by rw[a];simp,fun j m=>by have:=r j m;simpa using this⟩
  rw[this];exact⟨0+i,by simp[a,hi]⟩
 obtain⟨i,g⟩:=g;have p: ∀q,(Instr.checkKey q 10000 k (.int .i64 key)).run P w= .ok () w:=fun q=>MapKept.run_checkKey (k:=.int .i64 key) f (by simp[MapKept.IsKey]) q 9999;simp[Instr.lookup,run_underlying n,MapKept.run_getObj_map hb,p,MapKept.run_findKey f g,Result.andThen]
end Go.Proofs.YtcimojgkeoecfaaGreat
