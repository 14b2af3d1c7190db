import Derived.Test.YtcimojgkeoecfaaGreatXac
import Derived.Test.YtcimojgkeoecfaaGreatXah
import Derived.Deep.RegionHeld3
import Derived.Lib.SliceRun
set_option linter.all false
set_option maxHeartbeats 16000000
set_option maxRecDepth 100000
namespace Go.Proofs.YtcimojgkeoecfaaGreat
open Go.RowKit Tryz
section
theorem nj{G:Prop}(h:G:=by
 have adH:=pO hF hi hu;rw[cell_of_row w g _ cS _ _ aaV,ax,<-Array.getElem?_toList];rw[<-XX,List.getElem?_take]at adH;split at adH
 ·exact adH
 ·cases adH):G:=h
theorem fw{G:Prop}(h:G:=by
 go_ret;exact⟨v',rfl,acr.own ZQ lZ.out,Below.grown ((Below.refl _ _).alloc (ai _) _) (by simp) afj (fun j aeD=>by injection aeD with aeD;exact Nat.le_of_eq aeD)⟩):G:=h
def acr(w:World)(S:Nat->Prop)(v:Value)(n sz:Nat)(F:Nat->List Value):Prop:=
 ∃A c,v= .slice A n c/\n<=c/\c<=maxLen/\(0<n->∃b off,A=some ⟨b,off,none⟩/\S b/\b<w.heap.size/\∀i j u,i<n->(F i)[j]? =some u->w.cell? ⟨b,off+(i*sz+j),none⟩=some u)
structure Z1(S:Nat->Prop)(w w':World):Prop where
 os:w'.os=w.os
 tape:w'.tape=w.tape
 output:w'.output=w.output
 size:w.heap.size<=w'.heap.size
 block: ∀k,k<w.heap.size->S k->w'.heap[k]? =w.heap[k]?
theorem Z1.refl(S:Nat->Prop)(w:World):Z1 S w w:=⟨rfl,rfl,rfl,ai _,fun _ _ _=>rfl⟩
theorem Z1.trans{S:Nat->Prop}{a b c:World}(h:Z1 S a b)(k:Z1 S b c):Z1 S a c:=
 ⟨k.os.trans h.os,k.tape.trans h.tape,k.output.trans h.output,D h.size k.size,fun i hi YF=>(k.block i (aj hi h.size) YF).trans (h.block i hi YF)⟩
theorem Z1.mono{S S':Nat->Prop}{a b:World}(h:Z1 S a b)(YF: ∀k,k<a.heap.size->S' k->S k):Z1 S' a b:=⟨h.os,h.tape,h.output,h.size,fun i hi aaV=>h.block i hi (YF i hi aaV)⟩
theorem Z1.cg{S:Nat->Prop}{a b:World}(h:Below a.heap.size a b):Z1 S a b:=⟨h.os,h.tape,h.output,h.size,fun i hi _=>h.block i hi⟩
theorem Z1.w6{g:Nat}{a b:World}(h:ce a.heap.size g a b):Z1 (fun k=>k≠g) a b:=⟨h.os,h.tape,h.output,h.size,fun i hi aaV=>h.block i hi aaV⟩
section
variable{S:Nat->Prop}{w w':World}(h:Z1 S w w'){p:Addr}(aeJ:p.block<w.heap.size)(YF:S p.block)
include S w w' h p aeJ YF
theorem Z1.cell:w'.cell? p=w.cell? p:=World.cell?_of_block (w:=w) (h.block p.block aeJ YF)
theorem Z1.frozen:w'.frozen? p=w.frozen? p:=World.frozen?_of_block (w:=w) (h.block p.block aeJ YF)
end
section
variable{w w':World}{S:Nat->Prop}{v:Value}{n sz:Nat}{F:Nat->List Value}(h:acr w S v n sz F)
include w w' S v n sz F h
theorem acr.Wu(k:Z1 S w w'):acr w' S v n sz F:=by
 obtain⟨A,c,e,h1,aaV,ZV⟩:=h;refine⟨A,c,e,h1,aaV,fun abi=>?_⟩;obtain⟨b,off,abF,YF,hb,XP⟩:=ZV abi;exact⟨b,off,abF,YF,aj hb k.size,fun i j u hi hu=>(k.cell (p:=⟨b,_,none⟩) hb YF).trans (XP i j u hi hu)⟩
theorem acr.below(k:Below w.heap.size w w'):acr w' S v n sz F:=h.Wu (Z1.cg k)
end
theorem acr.mono{w:World}{S S':Nat->Prop}{v:Value}{n sz:Nat}{F:Nat->List Value}(h:acr w S v n sz F)(YF: ∀b,b<w.heap.size->S b->S' b):acr w S' v n sz F:=by
 obtain⟨A,c,e,h1,aaV,ZV⟩:=h;refine⟨A,c,e,h1,aaV,fun abi=>?_⟩;obtain⟨b,off,abF,lg,hb,XP⟩:=ZV abi;exact⟨b,off,abF,YF b hb lg,hb,XP⟩
section
variable{w:World}{S:Nat->Prop}{v:Value}{n sz:Nat}
include w S v n sz
section
variable{F:Nat->List Value}(h:acr w S v n sz F)
include F h
theorem acr.alloc(o:Obj):acr (w.alloc o) S v n sz F:=h.below ((Below.refl _ _).alloc (ai _) _)
theorem acr.drew:acr w.drew S v n sz F:=h
end
theorem acr.ext{F F':Nat->List Value}(h:acr w S v n sz F)(e: ∀i,i<n->F i=F' i):acr w S v n sz F':=by
 obtain⟨A,c,aal,h1,aaV,ZV⟩:=h;refine⟨A,c,aal,h1,aaV,fun abi=>?_⟩;obtain⟨b,off,abF,lg,hb,XP⟩:=ZV abi;exact⟨b,off,abF,lg,hb,fun i j u hi hu=>XP i j u hi (by rw[e i hi];exact hu)⟩
end
theorem acr.nil(w:World)(S:Nat->Prop)(sz:Nat)(F:Nat->List Value):acr w S (.slice none 0 0) 0 sz F:=⟨none,0,rfl,ai _,aL _,fun h=>absurd h am⟩
def bx(n sz:Nat)(F:Nat->List Value):List Value:=(List.range (n*sz)).map fun j=>(F (j/sz)).getD (j %sz) (.bool false)
theorem cv(n sz:Nat)(F:Nat->List Value):(bx n sz F).length=n*sz:=by simp[bx]
theorem qA{n sz:Nat}{F:Nat->List Value}(aeN:0<sz)(hF: ∀i,i<n->(F i).length=sz){j:Nat}{u:Value}(h:(bx n sz F)[j]? =some u):j/sz<n/\(F (j/sz))[j %sz]? =some u:=by
 unfold bx at h;rw[a3]at h;by_cases c:j<n*sz
 ·have hi:j/sz<n:=(Nat.div_lt_iff_lt_mul aeN).2 c;rw[a1 c]at h;simp at h;refine⟨hi,?_⟩;have YJ:j %sz<(F (j/sz)).length:=by rw[hF _ hi];exact Nat.mod_lt _ aeN
  rw[an YJ]at h⊢;simpa using h
 ·rw[aV (by simp;omega)]at h;cases h
theorem pO{n sz:Nat}{F:Nat->List Value}(hF: ∀i,i<n->(F i).length=sz){i j:Nat}{u:Value}(hi:i<n)(h:(F i)[j]? =some u):(bx n sz F)[i*sz+j]? =some u:=by
 have aeD:j<sz:=by rw[<-hF i hi];exact(List.getElem?_eq_some_iff.1 h).1
 unfold bx;have bV:i*sz+j<n*sz:=by
  calc i*sz+j<i*sz+sz:=by omega
   _=(i+1)*sz:=by rw[Nat.add_mul,Nat.one_mul]
   _<=n*sz:=Nat.mul_le_mul_right _ hi
 have aal:(i*sz+j)/sz=i:=by rw[Nat.mul_comm,Nat.mul_add_div J];rw[Nat.div_eq_of_lt aeD];omega
 have abF:(i*sz+j)%sz=j:=by rw[Nat.mul_comm,Nat.mul_add_mod];exact Nat.mod_eq_of_lt aeD
 rw[a3,a1 bV];simp[aal,abF,h]
theorem acr.own{w:World}{B e sz n:Nat}{v:Value}{F:Nat->List Value}(h:w.ownsRow B e sz v n (bx n sz F))(hF: ∀i,i<n->(F i).length=sz):acr w (fun b=>B<=b) v n sz F:=by
 rcases h.2 with⟨rfl,rfl⟩|⟨g,cap,cS,rfl,h1,aaV,ZV,Ya,afY,XX⟩
 ·exact acr.nil _ _ _ _
 ·refine⟨_,cap,rfl,ZV,Ya,fun abi=>⟨g,0,rfl,h1,(Array.getElem?_eq_some_iff.1 aaV).1,fun i j u hi hu=>?_⟩⟩;exact nj
theorem iL(b off j:Nat):(⟨b,off,none⟩:Addr).add j=⟨b,off+j,none⟩:=by
 unfold Addr.add;split
 ·next h=>subst h;rfl
 ·rfl
theorem acr.cells{w:World}{S:Nat->Prop}{A:Option Addr}{c n sz:Nat}{F:Nat->List Value}(h:acr w S (.slice A n c) n sz F)(abi:0<n)(aeN:0<sz)(hF: ∀i,i<n->(F i).length=sz):
 ∃b off,A=some ⟨b,off,none⟩/\S b/\b<w.heap.size/\∀j u,(bx n sz F)[j]? =some u->w.cell? ((⟨b,off,none⟩:Addr).add j)=some u:=by
 obtain⟨A',c',e,h1,aaV,ZV⟩:=h;injection e with aal abF acL
 subst aal;obtain⟨b,off,abF,YF,hb,XP⟩:=ZV abi;refine⟨b,off,abF,YF,hb,fun j u hu=>?_⟩;have:=qA aeN hF hu;rw[iL,<-XP _ _ _ this.1 this.2];congr 2;have:=Nat.div_add_mod j sz;rw[Nat.mul_comm]at this;omega
theorem acr.news{w:World}{S:Nat->Prop}{afF:Addr}{c n sz:Nat}{F:Nat->List Value}(h:acr w S (.slice (some afF) n c) n sz F)(hF: ∀i,i<n->(F i).length=sz)(aeN:0<sz):
 ∀w',Below w.heap.size w w'->∀j u,(bx n sz F)[j]? =some u->w'.cell? (afF.add j)=some u:=by
 intro w' hb j u hu;have hi:=(qA aeN hF hu).1;obtain⟨b,off,e,YF,bV,XP⟩:=h.cells (Nat.lt_of_le_of_lt (aL _) hi) aeN hF;injection e with e
 subst e;have:=XP j u hu;rw[iL]at this⊢;exact(hb.cell (p:=⟨b,off+j,none⟩) bV).trans this
theorem World.dY(w:World)(o:Obj):Below w.heap.size w (w.alloc o):=(Below.refl _ _).alloc (ai _) _
theorem Below.grown{w0 w w':World}{r:Option Nat}{B:Nat}(hb:Below B w0 w)(Yq:B<=w.heap.size)(afj:w.grownBy w' r)(hv: ∀j,r=some j->B<=j):Below B w0 w':=
 hb.trans ⟨afj.os,afj.tape,afj.output,afj.size,fun k ae3=>afj.block k (aj ae3 Yq) fun e=>by have:=hv k e.symm;omega⟩
def hl(n:Nat)(sz:Nat)(F:Nat->List Value):Prop:= ∀i,i<n->(F i).length=sz/\∀u,u∈F i->u.oneCell'=true
theorem hl.flat{n sz:Nat}{F:Nat->List Value}(h:hl n sz F)(aeN:0<sz): ∀u,u∈bx n sz F->u.oneCell'=true:=by
 intro u hu;obtain⟨j,aeD⟩:=bZ hu;have:=qA aeN (fun i hi=>(h i hi).1) aeD;exact(h _ this.1).2 u (bf this.2)
theorem nk:(Tryz.prog.info? 125).map (fun i=>(i.zero,i.size,i.bytes))=some (some (.agg #[.int .i64 0,.bool false]),2,16):=aM
theorem g4:Tryz.prog.underlying 62=some (.slice 125):=aM
theorem jD(w:World)(S:Nat->Prop)(v:Value)(n:Nat)(F:Nat->List Value)(h:acr w S v n 2 F)(abi:n<=65536)(hF:hl n 2 F):
 Calls prog 179 #[v] w fun e w'=> ∃v',e= .returned v'/\acr w' (fun b=>w.heap.size<=b) v' n 2 F/\Below w.heap.size w w':=by
 obtain⟨aaX,iM,iN,iO,iP⟩:=info_parts nk;have gP:=fun i hi=>(hF i hi).1;have fh:=hF.flat (by decide:0<2);obtain⟨A,c,rfl,h1,aaV,ZV⟩:=id h;have gC:n<=maxLen:=by unfold maxLen;omega
 cases A with
 |none=>
  have eN:n=0:=by
   rcases aQ n with h|h
   ·exact h
   ·obtain⟨b,off,e,_⟩:=ZV h;cases e
  subst eN;clear h ZV hF gP fh abi h1 aaV gC iM iN iO iP;have mq:=fun w=>Lib.run_eql_slice_nil (P:=prog) w _ _ none 0 c 0 0 g4;go_enter func179,ntmps179;go_wp2_with fail;go_ret;exact⟨_,rfl,acr.nil _ _ _ _,by
   exact a2⟩
 |some afF=>
  have H:=I h;have lZ:=I gP;have mr:=I fh;have ZG:=I abi;have ms:=I gC;clear h ZV hF gP fh abi h1 aaV gC;have mq:=fun w=>Lib.run_eql_slice_nil (P:=prog) w _ _ (some afF) n c 0 0 g4;have mv:=I (H.out.news lZ.out am);go_enter func179,ntmps179;go_wp2_with(at_builtin;refine wpList_append_own _ rfl _ _ 62 rfl w.heap.size 125 aaX (.agg #[.int .i64 0,.bool false]) 2 16 g4 iM iN iO iP rfl am _ _ _ rfl (World.ownsRow_made w #[] 0 (ai _) (aL _) rfl) afF n c (bx n 2 F) rfl (cv _ _ _) (mv.out _ (World.dY _ _)) mr.out (by rw[ax];exact ms.out) (by have:=ZG.out;omega) aN ?_;intro v' w' ZQ afj _;rw[au,ax]at ZQ);exact fw
theorem b6:(Tryz.prog.info? 3).map (fun i=>(i.zero,i.size,i.bytes))=some (some (.int .i64 0),1,8):=aM
theorem bg:Tryz.prog.underlying 30=some (.slice 3):=aM
theorem lu(w:World)(S:Nat->Prop)(v:Value)(n:Nat)(F:Nat->List Value)(h:acr w S v n 1 F)(abi:n<=65536)(hF:hl n 1 F):
 Calls prog 59 #[v] w fun e w'=> ∃v',e= .returned v'/\acr w' (fun b=>w.heap.size<=b) v' n 1 F/\Below w.heap.size w w':=by
 obtain⟨aaX,iM,iN,iO,iP⟩:=info_parts b6;have gP:=fun i hi=>(hF i hi).1;have fh:=hF.flat (by decide:0<1);obtain⟨A,c,rfl,h1,aaV,ZV⟩:=id h;have gC:n<=maxLen:=by unfold maxLen;omega
 cases A with
 |none=>
  have eN:n=0:=by
   rcases aQ n with h|h
   ·exact h
   ·obtain⟨b,off,e,_⟩:=ZV h;cases e
  subst eN;clear h ZV hF gP fh abi h1 aaV gC iM iN iO iP;have mq:=fun w=>Lib.run_eql_slice_nil (P:=prog) w _ _ none 0 c 0 0 bg;go_enter func59,ntmps59;go_wp2_with fail;go_ret;exact⟨_,rfl,acr.nil _ _ _ _,by
   exact a2⟩
 |some afF=>
  have H:=I h;have lZ:=I gP;have mr:=I fh;have ZG:=I abi;have ms:=I gC;clear h ZV hF gP fh abi h1 aaV gC;have mq:=fun w=>Lib.run_eql_slice_nil (P:=prog) w _ _ (some afF) n c 0 0 bg;have mv:=I (H.out.news lZ.out am);go_enter func59,ntmps59;go_wp2_with(at_builtin;refine wpList_append_own _ rfl _ _ 30 rfl w.heap.size 3 aaX (.int .i64 0) 1 8 bg iM iN iO iP rfl am _ _ _ rfl (World.ownsRow_made w #[] 0 (ai _) (aL _) rfl) afF n c (bx n 1 F) rfl (cv _ _ _) (mv.out _ (World.dY _ _)) mr.out (by rw[ax];exact ms.out) (by have:=ZG.out;omega) aN ?_;intro v' w' ZQ afj _;rw[au,ax]at ZQ);exact fw
theorem fK:(Tryz.prog.info? 59).map (fun i=>(i.zero,i.size,i.bytes))=some (some (.int .u64 0),1,8):=aM
theorem cL:Tryz.prog.underlying 54=some (.slice 59):=aM
theorem x4(w:World)(S:Nat->Prop)(v:Value)(n:Nat)(F:Nat->List Value)(h:acr w S v n 1 F)(abi:n<=65536)(hF:hl n 1 F):
 Calls prog 178 #[v] w fun e w'=> ∃v',e= .returned v'/\acr w' (fun b=>w.heap.size<=b) v' n 1 F/\Below w.heap.size w w':=by
 obtain⟨aaX,iM,iN,iO,iP⟩:=info_parts fK;have gP:=fun i hi=>(hF i hi).1;have fh:=hF.flat (by decide:0<1);obtain⟨A,c,rfl,h1,aaV,ZV⟩:=id h;have gC:n<=maxLen:=by unfold maxLen;omega
 cases A with
 |none=>
  have eN:n=0:=by
   rcases aQ n with h|h
   ·exact h
   ·obtain⟨b,off,e,_⟩:=ZV h;cases e
  subst eN;clear h ZV hF gP fh abi h1 aaV gC iM iN iO iP;have mq:=fun w=>Lib.run_eql_slice_nil (P:=prog) w _ _ none 0 c 0 0 cL;go_enter func178,ntmps178;go_wp2_with fail;go_ret;exact⟨_,rfl,acr.nil _ _ _ _,by
   exact a2⟩
 |some afF=>
  have H:=I h;have lZ:=I gP;have mr:=I fh;have ZG:=I abi;have ms:=I gC;clear h ZV hF gP fh abi h1 aaV gC;have mq:=fun w=>Lib.run_eql_slice_nil (P:=prog) w _ _ (some afF) n c 0 0 cL;have mv:=I (H.out.news lZ.out am);go_enter func178,ntmps178;go_wp2_with(at_builtin;refine wpList_append_own _ rfl _ _ 54 rfl w.heap.size 59 aaX (.int .u64 0) 1 8 cL iM iN iO iP rfl am _ _ _ rfl (World.ownsRow_made w #[] 0 (ai _) (aL _) rfl) afF n c (bx n 1 F) rfl (cv _ _ _) (mv.out _ (World.dY _ _)) mr.out (by rw[ax];exact ms.out) (by have:=ZG.out;omega) aN ?_;intro v' w' ZQ afj _;rw[au,ax]at ZQ);exact fw
theorem cj:(Tryz.prog.info? 130).map (fun i=>(i.zero,i.size,i.bytes))=some (some (.agg #[.int .i64 0,.int .i64 0]),2,16):=aM
theorem bw:Tryz.prog.underlying 58=some (.slice 130):=aM
theorem tM(w:World)(S:Nat->Prop)(v:Value)(n:Nat)(F:Nat->List Value)(h:acr w S v n 2 F)(abi:n<=65536)(hF:hl n 2 F):
 Calls prog 254 #[v] w fun e w'=> ∃v',e= .returned v'/\acr w' (fun b=>w.heap.size<=b) v' n 2 F/\Below w.heap.size w w':=by
 obtain⟨aaX,iM,iN,iO,iP⟩:=info_parts cj;have gP:=fun i hi=>(hF i hi).1;have fh:=hF.flat (by decide:0<2);obtain⟨A,c,rfl,h1,aaV,ZV⟩:=id h;have gC:n<=maxLen:=by unfold maxLen;omega
 cases A with
 |none=>
  have eN:n=0:=by
   rcases aQ n with h|h
   ·exact h
   ·obtain⟨b,off,e,_⟩:=ZV h;cases e
  subst eN;clear h ZV hF gP fh abi h1 aaV gC iM iN iO iP;have mq:=fun w=>Lib.run_eql_slice_nil (P:=prog) w _ _ none 0 c 0 0 bw;go_enter func254,ntmps254;go_wp2_with fail;go_ret;exact⟨_,rfl,acr.nil _ _ _ _,by
   exact a2⟩
 |some afF=>
  have H:=I h;have lZ:=I gP;have mr:=I fh;have ZG:=I abi;have ms:=I gC;clear h ZV hF gP fh abi h1 aaV gC;have mq:=fun w=>Lib.run_eql_slice_nil (P:=prog) w _ _ (some afF) n c 0 0 bw;have mv:=I (H.out.news lZ.out am);go_enter func254,ntmps254;go_wp2_with(at_builtin;refine wpList_append_own _ rfl _ _ 58 rfl w.heap.size 130 aaX (.agg #[.int .i64 0,.int .i64 0]) 2 16 bw iM iN iO iP rfl am _ _ _ rfl (World.ownsRow_made w #[] 0 (ai _) (aL _) rfl) afF n c (bx n 2 F) rfl (cv _ _ _) (mv.out _ (World.dY _ _)) mr.out (by rw[ax];exact ms.out) (by have:=ZG.out;omega) aN ?_;intro v' w' ZQ afj _;rw[au,ax]at ZQ);exact fw
theorem ii:(Tryz.prog.info? 42).map (fun i=>(i.zero,i.size,i.bytes))=some (some (.agg #[.int .u8 0,.int .u8 0,.int .u8 0,.int .u8 0,.int .i64 0,.int .i64 0,.int .i64 0]),7,32):=aM
theorem fi:Tryz.prog.underlying 47=some (.slice 42):=aM
theorem w7(w:World)(S:Nat->Prop)(v:Value)(n:Nat)(F:Nat->List Value)(h:acr w S v n 7 F)(abi:n<=65536)(hF:hl n 7 F):
 Calls prog 121 #[v] w fun e w'=> ∃v',e= .returned v'/\acr w' (fun b=>w.heap.size<=b) v' n 7 F/\Below w.heap.size w w':=by
 obtain⟨aaX,iM,iN,iO,iP⟩:=info_parts ii;have gP:=fun i hi=>(hF i hi).1;have fh:=hF.flat (by decide:0<7);obtain⟨A,c,rfl,h1,aaV,ZV⟩:=id h;have gC:n<=maxLen:=by unfold maxLen;omega
 cases A with
 |none=>
  have eN:n=0:=by
   rcases aQ n with h|h
   ·exact h
   ·obtain⟨b,off,e,_⟩:=ZV h;cases e
  subst eN;clear h ZV hF gP fh abi h1 aaV gC iM iN iO iP;have mq:=fun w=>Lib.run_eql_slice_nil (P:=prog) w _ _ none 0 c 0 0 fi;go_enter func121,ntmps121;go_wp2_with fail;go_ret;exact⟨_,rfl,acr.nil _ _ _ _,by
   exact a2⟩
 |some afF=>
  have H:=I h;have lZ:=I gP;have mr:=I fh;have ZG:=I abi;have ms:=I gC;clear h ZV hF gP fh abi h1 aaV gC;have mq:=fun w=>Lib.run_eql_slice_nil (P:=prog) w _ _ (some afF) n c 0 0 fi;have mv:=I (H.out.news lZ.out am);go_enter func121,ntmps121;go_wp2_with(at_builtin;refine wpList_append_own _ rfl _ _ 47 rfl w.heap.size 42 aaX (.agg #[.int .u8 0,.int .u8 0,.int .u8 0,.int .u8 0,.int .i64 0,.int .i64 0,.int .i64 0]) 7 32 fi iM iN iO iP rfl am _ _ _ rfl (World.ownsRow_made w #[] 0 (ai _) (aL _) rfl) afF n c (bx n 7 F) rfl (cv _ _ _) (mv.out _ (World.dY _ _)) mr.out (by rw[ax];exact ms.out) (by have:=ZG.out;omega) aN ?_;intro v' w' ZQ afj _;rw[au,ax]at ZQ);exact fw
theorem jp:(Tryz.prog.info? 100).map (fun i=>(i.zero,i.size,i.bytes))=some (some (.agg #[.int .u8 0,.int .i64 0,.int .i64 0]),3,24):=aM
theorem fP:Tryz.prog.underlying 95=some (.slice 100):=aM
theorem nl(w:World)(S:Nat->Prop)(v:Value)(n:Nat)(F:Nat->List Value)(h:acr w S v n 3 F)(abi:n<=65536)(hF:hl n 3 F):
 Calls prog 120 #[v] w fun e w'=> ∃v',e= .returned v'/\acr w' (fun b=>w.heap.size<=b) v' n 3 F/\Below w.heap.size w w':=by
 obtain⟨aaX,iM,iN,iO,iP⟩:=info_parts jp;have gP:=fun i hi=>(hF i hi).1;have fh:=hF.flat (by decide:0<3);obtain⟨A,c,rfl,h1,aaV,ZV⟩:=id h;have gC:n<=maxLen:=by unfold maxLen;omega
 cases A with
 |none=>
  have eN:n=0:=by
   rcases aQ n with h|h
   ·exact h
   ·obtain⟨b,off,e,_⟩:=ZV h;cases e
  subst eN;clear h ZV hF gP fh abi h1 aaV gC iM iN iO iP;have mq:=fun w=>Lib.run_eql_slice_nil (P:=prog) w _ _ none 0 c 0 0 fP;go_enter func120,ntmps120;go_wp2_with fail;go_ret;exact⟨_,rfl,acr.nil _ _ _ _,by
   exact a2⟩
 |some afF=>
  have H:=I h;have lZ:=I gP;have mr:=I fh;have ZG:=I abi;have ms:=I gC;clear h ZV hF gP fh abi h1 aaV gC;have mq:=fun w=>Lib.run_eql_slice_nil (P:=prog) w _ _ (some afF) n c 0 0 fP;have mv:=I (H.out.news lZ.out am);go_enter func120,ntmps120;go_wp2_with(at_builtin;refine wpList_append_own _ rfl _ _ 95 rfl w.heap.size 100 aaX (.agg #[.int .u8 0,.int .i64 0,.int .i64 0]) 3 24 fP iM iN iO iP rfl am _ _ _ rfl (World.ownsRow_made w #[] 0 (ai _) (aL _) rfl) afF n c (bx n 3 F) rfl (cv _ _ _) (mv.out _ (World.dY _ _)) mr.out (by rw[ax];exact ms.out) (by have:=ZG.out;omega) aN ?_;intro v' w' ZQ afj _;rw[au,ax]at ZQ);exact fw
theorem jK:(Tryz.prog.info? 46).map (fun i=>(i.zero,i.size,i.bytes))=some (some (.agg #[.int .i64 0,.int .u8 0,.int .u8 0,.int .u8 0,.int .u8 0,.int .i64 0,.int .i64 0,.int .i64 0,.int .i64 0,.int .i64 0,.int .i64 0,.int .i64 0,.int .i64 0,.slice none 0 0]),14,104):=aM
theorem e7:Tryz.prog.underlying 34=some (.slice 46):=aM
theorem Ad(w:World)(S:Nat->Prop)(v:Value)(n:Nat)(F:Nat->List Value)(h:acr w S v n 14 F)(abi:n<=65536)(hF:hl n 14 F):
 Calls prog 58 #[v] w fun e w'=> ∃v',e= .returned v'/\acr w' (fun b=>w.heap.size<=b) v' n 14 F/\Below w.heap.size w w':=by
 obtain⟨aaX,iM,iN,iO,iP⟩:=info_parts jK;have gP:=fun i hi=>(hF i hi).1;have fh:=hF.flat (by decide:0<14);obtain⟨A,c,rfl,h1,aaV,ZV⟩:=id h;have gC:n<=maxLen:=by unfold maxLen;omega
 cases A with
 |none=>
  have eN:n=0:=by
   rcases aQ n with h|h
   ·exact h
   ·obtain⟨b,off,e,_⟩:=ZV h;cases e
  subst eN;clear h ZV hF gP fh abi h1 aaV gC iM iN iO iP;have mq:=fun w=>Lib.run_eql_slice_nil (P:=prog) w _ _ none 0 c 0 0 e7;go_enter func58,ntmps58;go_wp2_with fail;go_ret;exact⟨_,rfl,acr.nil _ _ _ _,by
   exact a2⟩
 |some afF=>
  have H:=I h;have lZ:=I gP;have mr:=I fh;have ZG:=I abi;have ms:=I gC;clear h ZV hF gP fh abi h1 aaV gC;have mq:=fun w=>Lib.run_eql_slice_nil (P:=prog) w _ _ (some afF) n c 0 0 e7;have mv:=I (H.out.news lZ.out am);go_enter func58,ntmps58;go_wp2_with(at_builtin;refine wpList_append_own _ rfl _ _ 34 rfl w.heap.size 46 aaX (.agg #[.int .i64 0,.int .u8 0,.int .u8 0,.int .u8 0,.int .u8 0,.int .i64 0,.int .i64 0,.int .i64 0,.int .i64 0,.int .i64 0,.int .i64 0,.int .i64 0,.int .i64 0,.slice none 0 0]) 14 104 e7 iM iN iO iP rfl am _ _ _ rfl (World.ownsRow_made w #[] 0 (ai _) (aL _) rfl) afF n c (bx n 14 F) rfl (cv _ _ _) (mv.out _ (World.dY _ _)) mr.out (by rw[ax];exact ms.out) (by have:=ZG.out;omega) aN ?_;intro v' w' ZQ afj _;rw[au,ax]at ZQ);exact fw
end
section
def iw(l:List bO)(i:Nat):List Value:=match l[i]? with
 |some e=> [.int .i64 e.s,.bool e.c]
 |none=> [.int .i64 0,.bool false]
theorem hJ(l:List bO)(n:Nat):hl n 2 (iw l):=by
 intro i _;unfold iw;cases l[i]? with
 |none=>exact⟨rfl,fun u hu=>by simp at hu;rcases hu with rfl|rfl<;>rfl⟩
 |some e=>exact⟨rfl,fun u hu=>by simp at hu;rcases hu with rfl|rfl<;>rfl⟩
abbrev de(w:World)(S:Nat->Prop)(v:Value)(l:List bO):Prop:=acr w S v l.length 2 (iw l)
theorem de.at_{w:World}{S:Nat->Prop}{A:Option Addr}{n c:Nat}{l:List bO}(h:de w S (.slice A n c) l){i:Nat}{e:bO}(V1:l[i]? =some e):
 n=l.length/\∃b off,A=some ⟨b,off,none⟩/\S b/\b<w.heap.size/\w.cell? ⟨b,off+i*2,none⟩=some (.int .i64 e.s)/\w.cell? ⟨b,off+i*2+1,none⟩=some (.bool e.c):=by
 obtain⟨A',c',aal,h1,aaV,ZV⟩:=h;injection aal with aal abF acL
 subst aal;have hi:i<l.length:=(List.getElem?_eq_some_iff.1 V1).1;obtain⟨b,off,acS,YF,hb,XP⟩:=ZV J;have hF:iw l i= [.int .i64 e.s,.bool e.c]:=by unfold iw;rw[V1]
 exact⟨abF,b,off,acS,YF,hb,XP i 0 _ hi (by rw[hF];rfl),XP i 1 _ hi (by rw[hF];rfl)⟩
theorem w8(w:World)(S:Nat->Prop)(v:Value)(l:List bO)(h:de w S v l)(YJ:l.length<=65536):
 Calls prog 181 #[v] w fun e w'=>e= .returned (.int .i64 (da l))/\w=w':=by
 obtain⟨A,c,rfl,h1,aaV,ZV⟩:=id h;rcases ct l with rfl|⟨pre,e,rfl⟩
 ·clear h h1 aaV ZV YJ;go_enter func181,ntmps181;go_wp2_with fail;go_ret;exact⟨rfl,rfl⟩
 ·rw[cu]at*;rw[hn];obtain⟨_,b,off,rfl,YF,hb,XP,_⟩:=h.at_ (i:=pre.length) (e:=e) aN;clear h h1 aaV ZV;rw[ak,dh]at*;generalize pre.length=m at*;go_enter func181,ntmps181;go_wp2_with fail;go_ret;exact⟨rfl,rfl⟩
theorem x5(a b:Int)(c d:Bool)(w:World):
 (binOp .eql 125 (.agg #[.int .i64 a,.bool c]) (.agg #[.int .i64 b,.bool d])).run prog w= .ok (.bool (decide ((⟨a,c⟩:bO)=⟨b,d⟩))) w:=by
 have e:decide ((⟨a,c⟩:bO)=⟨b,d⟩)=(a==b&&c==d):=by
  rw[Bool.eq_iff_iff];simp
 rw[e];go_simp;by_cases h1:a=b
 ·by_cases aaV:c=d
  ·simp[h1,aaV]
  ·simp[h1,aaV]
 ·simp[h1]
theorem x6{l:List bO}{e x:bO}{i:Nat}(h:l[i]? =some x)(Wy:x=e)(abi: ∀j:Nat,j<i->l[j]? ≠some e):l.findIdx? (fun x=>decide (x=e))=some i:=by
 subst Wy;obtain⟨hi,h⟩:=List.getElem?_eq_some_iff.1 h;rw[List.findIdx?_eq_some_iff_getElem];refine⟨hi,by simp[h],fun j aeD=>?_⟩;have:=abi j aeD;rw[an J]at this;simpa using this
theorem vA{l:List bO}{e:bO}(abi: ∀j:Nat,j<l.length->l[j]? ≠some e):l.findIdx? (fun x=>decide (x=e))=none:=by
 rw[List.findIdx?_eq_none_iff];intro x Wy;obtain⟨j,aeD⟩:=bZ Wy;have:=abi j (List.getElem?_eq_some_iff.1 aeD).1;rw[aeD]at this;simpa using this
def tR(l:List bO)(e:bO):Int:=match l.findIdx? (fun x=>decide (x=e))with
 |some i=>i
 |none=> -1
section
variable(w:World)(S:Nat->Prop)(v:Value)(l:List bO)(s:Int)
include w S v l s
theorem EL(d:Bool)(h:de w S v l)(YJ:l.length<=65536):
 Calls prog 341 #[v,.agg #[.int .i64 s,.bool d]] w fun e w'=>e= .returned (.int .i64 (tR l ⟨s,d⟩))/\Below w.heap.size w w':=by
 obtain⟨A,c,rfl,h1,aaV,ZV⟩:=id h;have H:=I h;clear h h1 aaV ZV;generalize abi:l.length=n at*;have ZG:=I abi;clear abi;go_enter func341,ntmps341;go_wp2_with fail;go_loopw [8] (fun i wr=> ∃k:Nat,k<=n/\i= .int .i64 k/\(∀j:Nat,j<k->l[j]? ≠some ⟨s,d⟩)/\Below w.heap.size w wr/\ah wr w.heap.size 125 #[.int .i64 s,.bool d]) (fun i _=>n-(intOf i).toNat)
 case atStart=>exact⟨0,J,rfl,fun j aeD=>J,by
  exact a2,dL _ _⟩
 case round=>
  obtain⟨k,ae3,rfl,dU,Yq,hb⟩:=hrel;have mx:=I dU;have aav:=I Yq;have abz:=hb.cell 0;have aa1:=hb.cell 1;clear dU Yq;by_cases bV:k<n
  ·have vB:k<l.length:=by rw[ZG.out];exact bV
   obtain⟨x,Wy⟩: ∃x,l[k]? =some x:=⟨_,an vB⟩
   have VN:=I Wy;obtain⟨_,b,off,rfl,YF,fC,Ae,eR⟩:=H.out.at_ Wy;clear Wy vB;have Ae:=(aav.out.cell (p:=⟨b,off+k*2,none⟩) fC).trans Ae;have eR:=(aav.out.cell (p:=⟨b,off+k*2+1,none⟩) fC).trans eR;by_cases e:(⟨s,d⟩:bO)=⟨x.s,x.c⟩
   ·have VX:=fun w=>(x5 s x.s d x.c w).trans (by rw[decide_eq_true e]);have eV:=I e;clear e;go_wp2_with fail;go_region;go_wp2_with fail;go_ret;refine⟨lC ?_,aav.out.drew⟩;unfold tR;rw[x6 (i:=k) VN.out eV.out.symm mx.out]
   ·have VX:=fun w=>(x5 s x.s d x.c w).trans (by rw[decide_eq_false e]);have eV:=I e;clear e;go_wp2_with fail;go_region;go_wp2_with fail;go_roundw
    case rel=>exact⟨k+1,J,by go_num,fun j aeD=>by
     by_cases c:j=k
     ·subst c;rw[VN.out];intro abF;injection abF with abF;exact eV.out abF.symm
     ·exact mx.out j J,aav.out.drew,hb⟩
    case measure=>simp[intOf];omega
  ·obtain rfl:k=n:=by omega
   go_wp2_with fail;go_ret;refine⟨lC ?_,aav.out⟩;unfold tR;rw[vA (l:=l) (e:=⟨s,d⟩) (fun j aeD=>mx.out j (by have:=ZG.out;omega))]
theorem Ky(h:de w S v l)(YJ:l.length<=65536):
 Calls prog 293 #[v,.int .i64 s] w fun e w'=>e= .returned (.int .i64 (tR l ⟨s,true⟩))/\Below w.heap.size w w':=by
 go_enter func293,ntmps293;go_wp2_with(go_at_call 341;refine(EL _ S _ l _ _ h YJ).mono ?_;rintro e w' ⟨rfl,hb⟩);go_ret;exact⟨rfl,hb⟩
end
theorem x7(l:List bO)(s:Int):0<=tR l ⟨s,true⟩↔(⟨s,true⟩:bO)∈l:=by
 unfold tR;cases h:l.findIdx? (fun x=>decide (x=(⟨s,true⟩:bO)))with
 |none=>
  rw[List.findIdx?_eq_none_iff]at h;simp at h;show(0:Int)<= -1↔_;constructor
  ·intro aaV;omega
  ·intro aaV;exact absurd rfl (h _ aaV)
 |some i=>
  show(0:Int)<=i↔_;constructor
  ·intro _;have:=List.findIdx?_eq_some_iff_getElem.1 h;obtain⟨hi,ZV,_⟩:=this;simp at ZV;rw[<-ZV];exact bA _
  ·intro _;omega
theorem tS(w:World)(S:Nat->Prop)(v:Value)(l:List bO)(s:Int)(h:de w S v l)(YJ:l.length<=65536):
 Calls prog 218 #[v,.int .i64 s] w fun e w'=>e= .returned (.bool (decide (reach l s)))/\Below w.heap.size w w':=by
 by_cases c:s=0
 ·subst c;go_enter func218,ntmps218;go_wp2_with fail;go_ret;exact⟨qx (by simp[reach]),Below.refl _ _⟩
 ·have adr:(s==0)=false:=by simpa using c
  have aeO:=I c;clear c;go_enter func218,ntmps218;go_wp2_with(go_at_call 293;refine(Ky _ S _ l _ h YJ).mono ?_;rintro e w' ⟨rfl,hb⟩);go_ret;refine⟨qx ?_,hb⟩;rw[decide_eq_decide];rw[x7];unfold reach;simp[aeO.out]
end
theorem kL{G:Prop}(h:G:=by
 go_ret;exact⟨v',rfl,ZQ,Below.grown ((Below.refl _ _).alloc (ai _) _) (by simp) afj (fun j aeD=>by injection aeD with aeD;exact Nat.le_of_eq aeD)⟩):G:=h
theorem sY(w:World)(S:Nat->Prop)(v:Value)(n:Nat)(F:Nat->List Value)(h:acr w S v n 1 F)(abi:n<=65536)(hF:hl n 1 F):
 Calls prog 59 #[v] w fun e w'=> ∃v',e= .returned v'/\w'.ownsRow w.heap.size 3 1 v' n (bx n 1 F)/\Below w.heap.size w w':=by
 obtain⟨aaX,iM,iN,iO,iP⟩:=info_parts b6;have gP:=fun i hi=>(hF i hi).1;have fh:=hF.flat (by decide:0<1);obtain⟨A,c,rfl,h1,aaV,ZV⟩:=id h;have gC:n<=maxLen:=by unfold maxLen;omega
 cases A with
 |none=>
  have eN:n=0:=by
   rcases aQ n with h|h
   ·exact h
   ·obtain⟨b,off,e,_⟩:=ZV h;cases e
  subst eN;clear h ZV hF gP fh abi h1 aaV gC iM iN iO iP;have mq:=fun w=>Lib.run_eql_slice_nil (P:=prog) w _ _ none 0 c 0 0 bg;go_enter func59,ntmps59;go_wp2_with fail;go_ret;exact⟨_,rfl,World.ownsRow_nil _ _ _ _,by
   exact a2⟩
 |some afF=>
  have H:=I h;have lZ:=I gP;have mr:=I fh;have ZG:=I abi;have ms:=I gC;clear h ZV hF gP fh abi h1 aaV gC;have mq:=fun w=>Lib.run_eql_slice_nil (P:=prog) w _ _ (some afF) n c 0 0 bg;have mv:=I (H.out.news lZ.out am);go_enter func59,ntmps59;go_wp2_with(at_builtin;refine wpList_append_own _ rfl _ _ 30 rfl w.heap.size 3 aaX (.int .i64 0) 1 8 bg iM iN iO iP rfl am _ _ _ rfl (World.ownsRow_made w #[] 0 (ai _) (aL _) rfl) afF n c (bx n 1 F) rfl (cv _ _ _) (mv.out _ (World.dY _ _)) mr.out (by rw[ax];exact ms.out) (by have:=ZG.out;omega) aN ?_;intro v' w' ZQ afj _;rw[au,ax]at ZQ);exact kL
end Go.Proofs.YtcimojgkeoecfaaGreat
