import Derived.Test.YtcimojgkeoecfaaGreatXam
import Derived.Test.YtcimojgkeoecfaaGreatXan
import Derived.Test.YtcimojgkeoecfaaGreatXao
set_option linter.all false
set_option maxHeartbeats 16000000
set_option maxRecDepth 100000
namespace Go.Proofs.YtcimojgkeoecfaaGreat
open Go.RowKit Tryz
variable{w0 w w':World}{S:Nat->Prop}{A:Option XS}{L L':List abN}
theorem nE{G:Prop}(h:G:=by
 refine wpList_plain dj fun K Z7=>?_;have ZV:=Z7 _ _ aaV;unfold Oper.wp execOp;simp only[ZQ,Instr.makeMap];simpa [go_sem]using ZV):G:=h
theorem aah.lf(h:aah w0 S w A L){g:Nat}(Yq:ce w.heap.size g w w')(abi:je L g)(acA:w0.heap.size<=g\/¬S g)(Xg: ∀a,A=some a->g≠a.p/\g≠a.g):aah w0 S w' A L:=by
 refine⟨fun x Wy=>ah.lf (h.bC x Wy) Yq (h.bC x Wy).lt (abi x Wy),h.aed,h.fr,⟨Yq.os.trans h.Wu.os,Yq.tape.trans h.Wu.tape,Yq.output.trans h.Wu.output,D h.Wu.size Yq.size,fun k ae3 YF=>?_⟩,h.VB.lf Yq Xg,h.WN⟩;refine(Yq.block k (aj ae3 h.Wu.size) fun e=>?_).trans (h.Wu.block k ae3 YF);subst e;rcases acA with ZV|ZV
 ·omega
 ·exact ZV YF
theorem aah.mW{WC:Nat}(h:aah w0 (fun b=>b≠WC) w A L):ce w0.heap.size WC w0 w:=⟨h.Wu.os,h.Wu.tape,h.Wu.output,h.Wu.size,fun k ae3 abi=>h.Wu.block k ae3 abi⟩
theorem aah.ra{p aa2 n:Nat}{V V':Nat->Int}(h:aah w0 S w (some ⟨p,aa2,n,V⟩) L){g:Nat}{t:TypeId}{cs cs':List Value}(XJ:aco L g t cs cs' L'){aaM:World}{v:Value}{m sz:Nat}{F:Nat->List Value}(hv:acr aaM (fun b=>w.heap.size<=b/\b≠g/\b≠aa2) v m sz F):
 acr aaM (fun b=>w0.heap.size<=b/\bq (some ⟨p,aa2,n,V'⟩) L' b) v m sz F:=hv.mono fun b _ hb=>by
 have:=h.hO hb.1
 exact⟨this.1,ho XJ.gs this.2.1,fun a e=>by cases e;exact this.2.2 ⟨p,aa2,n,V⟩ rfl⟩
theorem aW.h4{r:aax}{x:Yr}{WC:Nat}{XZ:Nat->Prop}(h:aW w0 XZ r x)(hS: ∀b,b<w0.heap.size->XZ b->b≠WC)(k:Z1 (fun b=>b≠WC) w0 w):aW w (fun b=>(XZ b\/w0.heap.size<=b)/\b≠WC) r x:=
 (h.mono fun b hb h=>⟨.inl h,hS b hb h⟩).Wu (k.mono fun b _ h=>h.2)
structure v9(w0:World)(S:Nat->Prop)(w:World)(A:Option XS)(L:List abN)(b:Nat)(l:List (Int×Value)):Prop where
 map:ew w b l
 st:aah w0 S w A L
 V5:je L b
 fr:w0.heap.size<=b
 ac6: ∀a,A=some a->b≠a.p/\b≠a.g
variable{P:Program}{o:Oper}{a:Act}{K:Act->World->Prop}{Q:Exit->Act->World->Prop}{ops:Array Oper}{rest:List Oper}
theorem v9.new(h:aah w0 S w A L):v9 w0 S (w.alloc (.map #[] 0)) A L w.heap.size []:=by
 have hb:Below w.heap.size w (w.alloc (.map #[] 0)):=(Below.refl _ _).alloc (ai _) _;refine⟨ew.new w,h.below hb,h.nx (ai _),h.size,fun a e=>?_⟩;subst e;have:=ar.c9 (w:=w) h.VB;constructor<;>omega
theorem c1(h:aah w0 S w A L)(dj:o.guard=none)(t:TypeId)(ZQ:o.op= .makeMap t none)
 (Z7: ∀b w',v9 w0 S w' A L b []->wpList P ops Q rest (a.put o.dst (.map (some b))) w'):wpList P ops Q (o::rest) a w:=by
 have aaV:=Z7 _ _ (v9.new h);exact nE
theorem ey{b:Nat}{l:List (Int×Value)}(h:v9 w0 S w A L b l)(dj:o.guard=none)(t:TypeId)(m x v:Operand)(hop:o.op=Op.insert t m x v)(k e:TypeId)(afq:P.underlying t=some (.map k e))(ae3:P.underlying k=some (.int .i64))
 (hm:a.eval m= .map (some b))(key:Int)(val:Value)(Wy:a.eval x= .int .i64 key)(hv:dt a v=some val)(acA:(l.findIdx? fun x=>key==x.1)=none)
 (Z7: ∀w',v9 w0 S w' A L b (l++ [(key,val)])->wpList P ops Q rest (a.put o.dst undef) w'):wpList P ops Q (o::rest) a w:=
 xd w dj m x v t hop k e afq ae3 b l hm h.map key val Wy (gF hv) acA fun w' w2 Yq=>
  Z7 w' ⟨w2,h.st.lf Yq h.V5 (.inl h.fr) h.ac6,h.V5,h.fr,h.ac6⟩
theorem dH{b:Nat}{l:List (Int×Value)}(h:ew w b l)(dj:o.guard=none)(t:TypeId)(m x:Operand)(hop:o.op=Op.lookup t m x true){k e:TypeId}(afq:P.underlying t=some (.map k e))(ae3:P.underlying k=some (.int .i64))
 (hm:a.eval m= .map (some b))(key:Int)(v:Value)(Wy:a.eval x= .int .i64 key)(acA:l.find? (fun x=>key==x.1)=some (key,v))
 (Z7:wpList P ops Q rest (a.put o.dst (.tuple #[v,.bool true])) w):wpList P ops Q (o::rest) a w:=by
 refine wpList_plain dj fun K k=>?_;have ZV:=k _ _ Z7;unfold Oper.wp execOp;simp only[hop,hm,Wy];simpa [go_sem,p8 afq ae3 h key v acA]using ZV
theorem ub(h:aah w0 S w A L)(afl:Region.wanted o (yielded ops a.tmps)=true)(Yn:TypeId)(x:Operand)(ZQ:o.op= .load Yn x)(g off:Nat)(Wy:a.eval x= .pointer (some ⟨g,off,none⟩)){t:TypeId}{cs:List Value}(hi:In L g t cs)(v:Value)(hv:cs[off]? =some v)
 {d:TypeDesc}(hu:P.underlying Yn=some d)(abk:d.isRow=false)(Z7:wpList P ops Q rest (a.put o.dst v) w):wpList P ops Q (o::rest) a w:=
 wpList_step fun K k=>by rw[Z afl];exact bU h Yn x ZQ g off Wy hi v hv hu abk (k _ _ Z7)
theorem aah.rb{b c:abN}(h:aah w0 S w A (b::c::L)):c0 (b::L) w:=fun x Wy=>by
 rcases List.mem_cons.1 Wy with rfl|Wy
 ·exact h.bC x a8
 ·exact h.bC x (ao _ (ao _ Wy))
def ix(xs:List Nat)(L:List abN)(w:World):Prop:= ∀x,x∈L->∀(off:Nat) (v:Value),xs.contains off=false->x.cs[off]? =some v->w.cell? ⟨x.g,off,none⟩=some v
section
variable{xs:List Nat}
include xs
theorem aah.h5(h:aah w0 S w A L):ix xs L w:=fun x Wy off v _ hv=>by rw[(h.bC x Wy).cell,aE];exact hv
theorem ix.sub(h:ix xs L w)(YF: ∀x,x∈L'->x∈L):ix xs L' w:=fun x Wy=>h x (YF x Wy)
theorem aah.j1{b:abN}(h:aah w0 S w A (b::L)):ix xs L w:=h.h5.sub fun x Wy=>ao _ Wy
theorem aah.j2{b c:abN}(h:aah w0 S w A (b::c::L)):ix xs L w:=h.h5.sub fun x Wy=>ao _ (ao _ Wy)
theorem ix.at_{L:List abN}{g:Nat}{t:TypeId}{cs:List Value}(hi:In L g t cs){off:Nat}(Wy:xs.contains off=false){v:Value}(hv:cs[off]? =some v): ∀w,ix xs L w->w.cell? ⟨g,off,none⟩=some v:=fun w h=>h _ hi.mem off v Wy hv
end
def r8(g off n:Nat)(w w':World):Prop:= ∀k i,(k≠g\/i<off\/off+n<=i)->k<w.heap.size->w'.cell? ⟨k,i,none⟩=w.cell? ⟨k,i,none⟩
theorem ix.store{xs:List Nat}{g off n:Nat}(h:ix xs L w)(VG:r8 g off n w w')(Wy:((List.range n).all fun j=>xs.contains (off+j))=true):ix xs L w':=fun x Cu i v ZQ hv=>by
 have XP:=h x Cu i v ZQ hv;refine(VG x.g i ?_ (World.block_lt_of_cell? w _ XP)).trans XP;by_cases c:off<=i/\i<off+n
 ·rw[List.all_eq_true]at Wy;have:=Wy (i-off) (List.mem_range.2 J);rw[show off+(i-off)=i from J,ZQ]at this;cases this
 ·omega
theorem Ah(h:aah w0 S w A L)(Yn:TypeId)(x y:Operand)(ZQ:o.op= .store Yn x y)(g off:Nat)(v:Value)(ds:List Value)(Wy:a.eval x= .pointer (some ⟨g,off,none⟩))(hy:dt a y=some v)(hv:v.cells=ds.toArray)
 {t:TypeId}{cs:List Value}(XJ:aco L g t cs (er cs off ds) L')(ed:off+ds.length<=cs.length)(hi:(P.info? Yn).map (·.size)=some ds.length)(h1:ds.all (·.oneCell')=true)
 (Z7: ∀w',aah w0 S w' A L'->r8 g off ds.length w w'->K (a.put o.dst undef) w'):Oper.wp P o a w K Q:=by
 have hb:=h.b XJ.aB;refine tJ Yn x y ZQ g off v ds.toArray Wy (gF hy) hv hb (er cs off ds).toArray (by rw[sP]) (by simpa using ed) (by simpa using hi) (by simpa using h1) fun w' b u z=>Z7 w' (h.hX XJ b u) fun k i yj ae3=>?_;by_cases e:k=g
 ·subst e;rw[b.cell,hb.cell,aE,aE];unfold er;rcases yj with yj|yj|yj
  ·exact absurd rfl yj
  ·rw[aJ,aA (by simp;omega),List.getElem?_take_of_lt yj]
  ·rw[ay (by simp;omega),List.getElem?_drop];congr 1;simp;omega
 ·exact World.cell?_of_block (w:=w) (u.block k ae3 e)
theorem bl{S':World->Prop}(afl:Region.wanted o (yielded ops a.tmps)=true)(Yn:TypeId)(x:Operand)(ZQ:o.op= .load Yn x)(g off:Nat)(Wy:a.eval x= .pointer (some ⟨g,off,none⟩))(v:Value)
 (XP: ∀w,S' w->w.cell? ⟨g,off,none⟩=some v){d:TypeDesc}(hu:P.underlying Yn=some d)(abk:d.isRow=false):YieldsIf P ops S' o v a:=
 .inl ⟨afl,fun w ky=>by
  have XP:=XP w ky
  have yc:(isAgg Yn).run P w= .ok false w:=by
   unfold isAgg;rw[Sem.run_bind,run_underlying hu w];cases d<;>simp_all
  unfold execOp;simp only[ZQ,Wy,Instr.loadAt,Instr.sureAddr,loadVar];simp[go_sem,Sem.run_bind,yc,XP]⟩
theorem uc{xs:List Nat}{L:List abN}(afl:Region.wanted o (yielded ops a.tmps)=true)(Yn:TypeId)(x:Operand)(ZQ:o.op= .load Yn x)(g off n:Nat)(Wy:a.eval x= .pointer (some ⟨g,off,none⟩)){t:TypeId}{cs:List Value}
 (lF:In L g t cs)(ds:List Value)(hd:(cs.drop off).take n=ds)(Cv:((List.range n).all fun j=> !xs.contains (off+j))=true){d:TypeDesc}(hu:P.underlying Yn=some d)(abk:d.isRow=true)(YF:(P.info? Yn).map (·.size)=some ds.length):YieldsIf P ops (ix xs L) o (.agg ds.toArray) a:=
 yieldsIf_load_mid (P:=P) (S:=ix xs L) afl Yn x ZQ g off Wy ds d (fun w afl j v hv=>by
  have tU:cs[off+j]? =some v:=by
   have:=xb hd j v (by simpa using hv);simpa using this
  have aeD:j<n:=by
   have:=(List.getElem?_eq_some_iff.1 hv).1;rw[<-hd]at this;simp at this;omega
  refine afl _ lF.mem (off+j) v ?_ tU;rw[List.all_eq_true]at Cv;have:=Cv j (List.mem_range.2 aeD);simpa using this) hu abk YF
variable{a':Act}{XC:Region.Mode}{cM i:Nat}{ls gn:Array Bool}{Wv:Oper}
theorem afV(h:aah w0 S w A L){Yn:TypeId}{x:Operand}{g off:Nat}{t:TypeId}{cs:List Value}{v:Value}(Z7:wpList prog ops Q rest a' w)
 (afl:Region.wanted o (yielded ops a.tmps)=true:=by rfl)(ZQ:o.op= .load Yn x:=by exact rfl)(abk:yd prog Yn:=by exact N9)(Wy:a.eval x= .pointer (some ⟨g,off,none⟩):=by exact rfl)(hi:In L g t cs:=by exact ag)(hv:cs[off]? =some v:=by rfl)
 (Xg:a.put o.dst v=a':=by exact fa):wpList prog ops Q (o::rest) a w:=by
 obtain⟨d,hu,hd⟩:=abk;exact ub h afl Yn x ZQ g off Wy hi v hv hu hd (Xg▸Z7)
theorem adk(h:aah w0 S w A L){Yn:TypeId}{x y:Operand}{g off:Nat}{v:Value}{ds:List Value}{t:TypeId}{cs:List Value}{L0:List abN}(Z7: ∀w',aah w0 S w' A L'->r8 g off ds.length w w'->K (a.put o.dst undef) w')(afl:Region.wanted o (yielded ops a.tmps)=true:=by rfl)
 (ZQ:o.op= .store Yn x y:=by exact rfl)(Wy:a.eval x= .pointer (some ⟨g,off,none⟩):=by exact rfl)(hy:dt a y=some v:=by exact rfl)(hv:v.cells=ds.toArray:=by exact rfl)
 (XJ:aco L g t cs (er cs off ds) L0:=by exact cf)(aeJ:L0=L':=by exact qZ)
 (ed:off+ds.length<=cs.length:=by exact bQ rfl)(hi:(P.info? Yn).map (·.size)=some ds.length:=by kernel_rfl)(h1:ds.all (·.oneCell')=true:=by first|rfl|(simp[*];done)):if Region.wanted o (yielded ops a.tmps)=true then Oper.wp P o a w K Q else K (a.put o.dst undef) w:=by
 rw[Z afl];exact Ah h Yn x y ZQ g off v ds Wy hy hv (aeJ▸XJ) ed hi h1 Z7
theorem td{xs:List Nat}(i:Nat){Yn:TypeId}{x:Operand}{g off:Nat}{t:TypeId}{cs:List Value}{v:Value}(h:wpAnyH P XC ops Q (ix xs L) cM gn a' w)(hi:ops[i]? =some Wv:=by exact rfl)(YF:Region.noSelect ops=true:=by kernel_rfl)(acA:Region.free XC ops ls i=true:=by kernel_rfl)(abk:(Region.ready XC ops ls).contains i=true:=by kernel_rfl)(afl:Region.wanted Wv (yielded ops a.tmps)=true:=by rfl)
 (ZQ:Wv.op= .load Yn x:=by exact rfl)(afq:(P.underlying Yn).map TypeDesc.isRow=some false:=by kernel_rfl)(Wy:a.eval x= .pointer (some ⟨g,off,none⟩):=by exact rfl)(lF:In L g t cs:=by exact ag)(Cv:xs.contains off=false:=by rfl)(hv:cs[off]? =some v:=by rfl)(WO: ∀c a w,Q (.panic c) (a.put Wv.dst v) w->Q (.panic c) a w:=by first|exact fun _ _ _ h=>h|exact fun _ _ _ h=>dZ (fun t w=>results_none (by kernel_rfl) t _ w) _ _ _ _ _ h)(hS:(ix xs L) w:=by assumption)
 (Xg:a.put Wv.dst v=a':=by exact et)(YJ:ls.setIfInBounds i true=gn:=by exact eu):wpAnyH P XC ops Q (ix xs L) (cM+1) ls a w:=by
 cases hu:P.underlying Yn with
 |none=>simp[hu]at afq
 |some d=>exact wpAnyH_take hi YF acA abk WO (bl afl Yn x ZQ g off Wy v (ix.at_ lF Cv hv) hu (by simpa [hu]using afq)) hS (by rw[Xg,YJ];exact h)
theorem Oj{xs:List Nat}(i n:Nat){Yn:TypeId}{x:Operand}{g off:Nat}{t:TypeId}{cs ds:List Value}(h:wpAnyH P XC ops Q (ix xs L) cM gn a' w)(hi:ops[i]? =some Wv:=by exact rfl)(YF:Region.noSelect ops=true:=by kernel_rfl)(acA:Region.free XC ops ls i=true:=by kernel_rfl)(abk:(Region.ready XC ops ls).contains i=true:=by kernel_rfl)(afl:Region.wanted Wv (yielded ops a.tmps)=true:=by rfl)
 (ZQ:Wv.op= .load Yn x:=by exact rfl)(afq:(P.underlying Yn).map TypeDesc.isRow=some true:=by kernel_rfl)(aeN:(P.info? Yn).map (·.size)=some n:=by kernel_rfl)(Wy:a.eval x= .pointer (some ⟨g,off,none⟩):=by exact rfl)(lF:In L g t cs:=by exact ag)
 (hd:(cs.drop off).take n=ds:=by exact lT)(abi:ds.length=n:=by exact rfl)(Cv:((List.range n).all fun j=> !xs.contains (off+j))=true:=by rfl)(WO: ∀c a w,Q (.panic c) (a.put Wv.dst (.agg ds.toArray)) w->Q (.panic c) a w:=by first|exact fun _ _ _ h=>h|exact fun _ _ _ h=>dZ (fun t w=>results_none (by kernel_rfl) t _ w) _ _ _ _ _ h)(hS:(ix xs L) w:=by assumption)
 (Xg:a.put Wv.dst (.agg ds.toArray)=a':=by exact et)(YJ:ls.setIfInBounds i true=gn:=by exact eu):wpAnyH P XC ops Q (ix xs L) (cM+1) ls a w:=by
 cases hu:P.underlying Yn with
 |none=>simp[hu]at afq
 |some d=>exact wpAnyH_take hi YF acA abk WO (uc afl Yn x ZQ g off n Wy lF ds hd Cv hu (by simpa [hu]using afq) (by rw[aeN,abi])) hS (by rw[Xg,YJ];exact h)
end Go.Proofs.YtcimojgkeoecfaaGreat
