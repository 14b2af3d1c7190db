import Derived.Test.YtcimojgkeoecfaaGreatXae
import Derived.Maps.OwnSet
import Derived.WideMake
set_option linter.all false
set_option maxHeartbeats 16000000
set_option maxRecDepth 100000
namespace Go.Proofs.YtcimojgkeoecfaaGreat
open Go.RowKit
def ew(w:World)(b:Nat)(l:List (Int×Value)):Prop:=
 ∃ae1 my,w.heap[b]? =some (.map ae1 my)/\ae1.toList.map (fun e=>(e.key,e.val))=l.map fun x=>(.int .i64 x.1,x.2)
theorem ew.lt{w:World}{b:Nat}{l:List (Int×Value)}(h:ew w b l):b<w.heap.size:=by
 obtain⟨ae1,c,h,_⟩:=h;exact(Array.getElem?_eq_some_iff.1 h).1
theorem ew.lf{w w':World}{b B c:Nat}{l:List (Int×Value)}(h:ew w b l)(k:ce B c w w')(hb:b<B)(XP:b≠c):ew w' b l:=by
 obtain⟨ae1,ZS,h,e⟩:=h;exact⟨ae1,ZS,(k.block b hb XP).trans h,e⟩
theorem ew.below{w w':World}{b B:Nat}{l:List (Int×Value)}(h:ew w b l)(k:Below B w w')(hb:b<B):ew w' b l:=by
 obtain⟨ae1,ZS,h,e⟩:=h;exact⟨ae1,ZS,(k.block b hb).trans h,e⟩
theorem ew.new(w:World):ew (w.alloc (.map #[] 0)) w.heap.size []:=⟨#[],0,heap_alloc_new w _,rfl⟩
section
variable{w:World}{b:Nat}{l:List (Int×Value)}(h:ew w b l)
include w b l h
theorem ew.alloc(o:Obj):ew (w.alloc o) b l:=by
 have hb:=h.lt;obtain⟨ae1,ZS,h,e⟩:=h;exact⟨ae1,ZS,(Below.heap_alloc w o b hb).trans h,e⟩
theorem ew.hY{p:Addr}(aeJ:b≠p.block)(u:Value):ew (w.setCell p u) b l:=by
 obtain⟨ae1,ZS,h,e⟩:=h;exact⟨ae1,ZS,(Below.heap_setCell w p u b aeJ).trans h,e⟩
theorem ew.drew:ew w.drew b l:=h
end
theorem tY(k:Int): ∀(ae1:List MapEntry) (l:List (Int×Value)) (i:Nat),ae1.map (fun e=>(e.key,e.val))=l.map (fun x=>((.int .i64 x.1,x.2):Value×Value))->
 Instr.findNow (.int .i64) (.int .i64 k) ae1 i=some ((l.findIdx? fun x=>k==x.1).bind fun j=>(l[j]?).map fun x=>(i+j,x.2)):=by
 intro ae1;induction ae1 with
 |nil=>
  intro l i h;cases l with
  |nil=>rfl
  |cons a l=>simp at h
 |cons e ae1 aes=>
  intro l i h;cases l with
  |nil=>simp at h
  |cons a l=>
   rw[aS,aS]at h;injection h with h1 aaV
   injection h1 with ZV Ya
   unfold Instr.findNow;rw[ZV];by_cases c:k=a.1
   ·subst c;simp[Instr.sameNow,List.findIdx?_cons,Ya]
   ·have adr:(k==a.1)=false:=by simpa using c
    simp only[Instr.sameNow,if_true,adr,List.findIdx?_cons];rw[aes l (i+1) aaV];cases VX:l.findIdx? (fun x=>k==x.1)with
    |none=>simp
    |some j=>simp[Nat.add_comm,Nat.add_left_comm,Nat.add_assoc]
theorem xd{P:Program}(w:World){ops:Array Oper}{rest:List Oper}{o:Oper}{a:Act}{Q:Exit->Act->World->Prop}
 (afj:o.guard=none)(m x v:Operand)(t:TypeId)(hop:o.op=Op.insert t m x v)(k e:TypeId)(afq:P.underlying t=some (.map k e))(ae3:P.underlying k=some (.int .i64))
 (b:Nat)(l:List (Int×Value))(hm:a.eval m= .map (some b))(h2:ew w b l)(key:Int)(val:Value)(Wy:a.eval x= .int .i64 key)(hv:a.eval v=val)(acA:(l.findIdx? fun x=>key==x.1)=none)
 (Z7: ∀w',ew w' b (l++ [(key,val)])->ce w.heap.size b w w'->wpList P ops Q rest (a.put o.dst undef) w'):
 wpList P ops Q (o::rest) a w:=by
 obtain⟨ae1,my,hb,V1⟩:=id h2;refine wpList_plain afj fun K' Lu=>?_;have tZ:Instr.findNow (.int .i64) (.int .i64 key) ae1.toList 0=some none:=by rw[tY key ae1.toList l 0 V1,acA];rfl
 have XP:(Instr.checkKey false 10000 k (.int .i64 key)).run P w= .ok () w:=MapKept.run_checkKey (k:=.int .i64 key) ae3 (by simp[MapKept.IsKey]) false 9999;have nC:(Instr.mapUpdate t (.map (some b)) (.int .i64 key) val).run P w= .ok () {w with heap:=w.heap.setIfInBounds b (.map (ae1.push {key:=.int .i64 key,val:=val,born:=my}) (my+1))}:=by
  simp[Instr.mapUpdate,run_underlying afq,MapKept.run_getObj_map hb,XP,MapKept.run_findKey ae3 tZ,MapKept.run_setObj_map _ hb,Result.andThen]
 unfold Oper.wp;simp[execOp,hop,hm,Wy,hv,nC,Result.andThen];refine Lu _ _ (Z7 {w with heap:=w.heap.setIfInBounds b (.map (ae1.push {key:=.int .i64 key,val:=val,born:=my}) (my+1))} ⟨ae1.push {key:=.int .i64 key,val:=val,born:=my},my+1,?_,?_⟩ ⟨rfl,rfl,rfl,?_,?_⟩)
 ·show(w.heap.setIfInBounds b _)[b]? =_;rw[cr h2.lt]
 ·simp[V1]
 ·show w.heap.size<=(w.heap.setIfInBounds b _).size;simp
 ·intro i hi abi;show(w.heap.setIfInBounds b _)[i]? =_;rw[bk (Ne.symm abi)]
theorem p8{P:Program}{w:World}{t k e:TypeId}(afq:P.underlying t=some (.map k e))(ae3:P.underlying k=some (.int .i64)){b:Nat}{l:List (Int×Value)}(h:ew w b l)(key:Int)(v:Value)(acA:l.find? (fun x=>key==x.1)=some (key,v)):
 (Instr.lookup t (.map (some b)) (.int .i64 key) true).run P w= .ok (.tuple #[v,.bool true]) w:=by
 obtain⟨ae1,my,hb,V1⟩:=h;have tZ: ∃i,Instr.findNow (.int .i64) (.int .i64 key) ae1.toList 0=some (some (i,v)):=by
  rw[tY key ae1.toList l 0 V1];rw[List.find?_eq_some_iff_getElem]at acA;obtain⟨h1,i,hi,aaV,ZV⟩:=acA;have:l.findIdx? (fun x=>key==x.1)=some i:=by
   rw[List.findIdx?_eq_some_iff_getElem];exact⟨hi,by rw[aaV];simp,fun j aeD=>by have:=ZV j aeD;simpa using this⟩
  rw[this];exact⟨0+i,by simp[aaV,hi]⟩
 obtain⟨i,tZ⟩:=tZ;have XP: ∀q,(Instr.checkKey q 10000 k (.int .i64 key)).run P w= .ok () w:=fun q=>MapKept.run_checkKey (k:=.int .i64 key) ae3 (by simp[MapKept.IsKey]) q 9999;simp[Instr.lookup,run_underlying afq,MapKept.run_getObj_map hb,XP,MapKept.run_findKey ae3 tZ,Result.andThen]
end Go.Proofs.YtcimojgkeoecfaaGreat
