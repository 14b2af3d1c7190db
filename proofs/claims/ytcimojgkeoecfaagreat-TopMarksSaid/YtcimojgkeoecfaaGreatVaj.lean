import Derived.Test.YtcimojgkeoecfaaGreatVac
import Derived.Test.YtcimojgkeoecfaaGreatVah
import Derived.Deep.RegionHeld3
import Derived.Lib.SliceRun
set_option linter.all false
set_option maxHeartbeats 16000000
set_option maxRecDepth 100000
namespace Go.Proofs.YtcimojgkeoecfaaGreat
open Go.RowKit Tryz
section
theorem nj{G:Prop}(h:G:=by
 have Un:=pO hF hi hu;rw[cell_of_row w g _ cS _ _ Tw,ax,<-Array.getElem?_toList];rw[<-XX,List.getElem?_take]at Un;split at Un
 ·exact Un
 ·cases Un):G:=h
theorem fw{G:Prop}(h:G:=by
 go_ret;exact⟨v',rfl,KC.own ZQ lZ.out,Below.grown ((Below.refl _ _).alloc (ai _) _) (by simp) UW (fun j OV=>by injection OV with OV;exact Nat.le_of_eq OV)⟩):G:=h
def KC(w:World)(S:Nat->Prop)(v:Value)(n sz:Nat)(F:Nat->List Value):Prop:=
 ∃A c,v= .slice A n c/\n<=c/\c<=maxLen/\(0<n->∃b off,A=some ⟨b,off,none⟩/\S b/\b<w.heap.size/\∀i j u,i<n->(F i)[j]? =some u->w.cell? ⟨b,off+(i*sz+j),none⟩=some u)
structure Z1(S:Nat->Prop)(w w':World):Prop where
 os:w'.os=w.os
 tape:w'.tape=w.tape
 output:w'.output=w.output
 size:w.heap.size<=w'.heap.size
 block: ∀k,k<w.heap.size->S k->w'.heap[k]? =w.heap[k]?
theorem Z1.refl(S:Nat->Prop)(w:World):Z1 S w w:=⟨rfl,rfl,rfl,ai _,fun _ _ _=>rfl⟩
theorem Z1.trans{S:Nat->Prop}{a b c:World}(h:Z1 S a b)(k:Z1 S b c):Z1 S a c:=
 ⟨k.os.trans h.os,k.tape.trans h.tape,k.output.trans h.output,D h.size k.size,fun i hi d=>(k.block i (aj hi h.size) d).trans (h.block i hi d)⟩
theorem Z1.mono{S S':Nat->Prop}{a b:World}(h:Z1 S a b)(d: ∀k,k<a.heap.size->S' k->S k):Z1 S' a b:=⟨h.os,h.tape,h.output,h.size,fun i hi c=>h.block i hi (d i hi c)⟩
theorem Z1.cg{S:Nat->Prop}{a b:World}(h:Below a.heap.size a b):Z1 S a b:=⟨h.os,h.tape,h.output,h.size,fun i hi _=>h.block i hi⟩
theorem Z1.w6{g:Nat}{a b:World}(h:ce a.heap.size g a b):Z1 (fun k=>k≠g) a b:=⟨h.os,h.tape,h.output,h.size,fun i hi c=>h.block i hi c⟩
section
variable{S:Nat->Prop}{w w':World}(h:Z1 S w w'){p:Addr}(a:p.block<w.heap.size)(b:S p.block)
include S w w' h p a b
theorem Z1.cell:w'.cell? p=w.cell? p:=World.cell?_of_block (w:=w) (h.block p.block a b)
theorem Z1.frozen:w'.frozen? p=w.frozen? p:=World.frozen?_of_block (w:=w) (h.block p.block a b)
end
section
variable{w w':World}{S:Nat->Prop}{v:Value}{n sz:Nat}{F:Nat->List Value}(h:KC w S v n sz F)
include w w' S v n sz F h
theorem KC.Wu(k:Z1 S w w'):KC w' S v n sz F:=by
 obtain⟨A,c,e,h1,a,m⟩:=h;refine⟨A,c,e,h1,a,fun f=>?_⟩;obtain⟨b,off,d,g,hb,l⟩:=m f;exact⟨b,off,d,g,aj hb k.size,fun i j u hi hu=>(k.cell (p:=⟨b,_,none⟩) hb g).trans (l i j u hi hu)⟩
theorem KC.below(k:Below w.heap.size w w'):KC w' S v n sz F:=h.Wu (Z1.cg k)
end
theorem KC.mono{w:World}{S S':Nat->Prop}{v:Value}{n sz:Nat}{F:Nat->List Value}(h:KC w S v n sz F)(i: ∀b,b<w.heap.size->S b->S' b):KC w S' v n sz F:=by
 obtain⟨A,c,e,h1,a,j⟩:=h;refine⟨A,c,e,h1,a,fun f=>?_⟩;obtain⟨b,off,d,k,hb,g⟩:=j f;exact⟨b,off,d,i b hb k,hb,g⟩
section
variable{w:World}{S:Nat->Prop}{v:Value}{n sz:Nat}
include w S v n sz
section
variable{F:Nat->List Value}(h:KC w S v n sz F)
include F h
theorem KC.alloc(o:Obj):KC (w.alloc o) S v n sz F:=h.below ((Below.refl _ _).alloc (ai _) _)
theorem KC.drew:KC w.drew S v n sz F:=h
end
theorem KC.ext{F F':Nat->List Value}(h:KC w S v n sz F)(e: ∀i,i<n->F i=F' i):KC w S v n sz F':=by
 obtain⟨A,c,d,h1,a,l⟩:=h;refine⟨A,c,d,h1,a,fun g=>?_⟩;obtain⟨b,off,f,m,hb,k⟩:=l g;exact⟨b,off,f,m,hb,fun i j u hi hu=>k i j u hi (by rw[e i hi];exact hu)⟩
end
theorem KC.nil(w:World)(S:Nat->Prop)(sz:Nat)(F:Nat->List Value):KC w S (.slice none 0 0) 0 sz F:=⟨none,0,rfl,ai _,aL _,fun h=>absurd h am⟩
def bx(n sz:Nat)(F:Nat->List Value):List Value:=(List.range (n*sz)).map fun j=>(F (j/sz)).getD (j %sz) (.bool false)
theorem cv(n sz:Nat)(F:Nat->List Value):(bx n sz F).length=n*sz:=by simp[bx]
theorem qA{n sz:Nat}{F:Nat->List Value}(a:0<sz)(hF: ∀i,i<n->(F i).length=sz){j:Nat}{u:Value}(h:(bx n sz F)[j]? =some u):j/sz<n/\(F (j/sz))[j %sz]? =some u:=by
 unfold bx at h;rw[a3]at h;by_cases c:j<n*sz
 ·have hi:j/sz<n:=(Nat.div_lt_iff_lt_mul a).2 c;rw[a1 c]at h;simp at h;refine⟨hi,?_⟩;have b:j %sz<(F (j/sz)).length:=by rw[hF _ hi];exact Nat.mod_lt _ a
  rw[an b]at h⊢;simpa using h
 ·rw[aV (by simp;omega)]at h;cases h
theorem pO{n sz:Nat}{F:Nat->List Value}(hF: ∀i,i<n->(F i).length=sz){i j:Nat}{u:Value}(hi:i<n)(h:(F i)[j]? =some u):(bx n sz F)[i*sz+j]? =some u:=by
 have a:j<sz:=by rw[<-hF i hi];exact(List.getElem?_eq_some_iff.1 h).1
 unfold bx;have d:i*sz+j<n*sz:=by
  calc i*sz+j<i*sz+sz:=by omega
   _=(i+1)*sz:=by rw[Nat.add_mul,Nat.one_mul]
   _<=n*sz:=Nat.mul_le_mul_right _ hi
 have b:(i*sz+j)/sz=i:=by rw[Nat.mul_comm,Nat.mul_add_div J];rw[Nat.div_eq_of_lt a];omega
 have c:(i*sz+j)%sz=j:=by rw[Nat.mul_comm,Nat.mul_add_mod];exact Nat.mod_eq_of_lt a
 rw[a3,a1 d];simp[b,c,h]
theorem KC.own{w:World}{B e sz n:Nat}{v:Value}{F:Nat->List Value}(h:w.ownsRow B e sz v n (bx n sz F))(hF: ∀i,i<n->(F i).length=sz):KC w (fun b=>B<=b) v n sz F:=by
 rcases h.2 with⟨rfl,rfl⟩|⟨g,cap,cS,rfl,h1,Tw,c,a,f,XX⟩
 ·exact KC.nil _ _ _ _
 ·refine⟨_,cap,rfl,c,a,fun d=>⟨g,0,rfl,h1,(Array.getElem?_eq_some_iff.1 Tw).1,fun i j u hi hu=>?_⟩⟩;exact nj
theorem iL(b off j:Nat):(⟨b,off,none⟩:Addr).add j=⟨b,off+j,none⟩:=by
 unfold Addr.add;split
 ·next h=>subst h;rfl
 ·rfl
theorem KC.cells{w:World}{S:Nat->Prop}{A:Option Addr}{c n sz:Nat}{F:Nat->List Value}(h:KC w S (.slice A n c) n sz F)(f:0<n)(g:0<sz)(hF: ∀i,i<n->(F i).length=sz):
 ∃b off,A=some ⟨b,off,none⟩/\S b/\b<w.heap.size/\∀j u,(bx n sz F)[j]? =some u->w.cell? ((⟨b,off,none⟩:Addr).add j)=some u:=by
 obtain⟨A',c',e,h1,o,m⟩:=h;injection e with d a p
 subst d;obtain⟨b,off,a,l,hb,k⟩:=m f;refine⟨b,off,a,l,hb,fun j u hu=>?_⟩;have:=qA g hF hu;rw[iL,<-k _ _ _ this.1 this.2];congr 2;have:=Nat.div_add_mod j sz;rw[Nat.mul_comm]at this;omega
theorem KC.news{w:World}{S:Nat->Prop}{d:Addr}{c n sz:Nat}{F:Nat->List Value}(h:KC w S (.slice (some d) n c) n sz F)(hF: ∀i,i<n->(F i).length=sz)(a:0<sz):
 ∀w',Below w.heap.size w w'->∀j u,(bx n sz F)[j]? =some u->w'.cell? (d.add j)=some u:=by
 intro w' hb j u hu;have hi:=(qA a hF hu).1;obtain⟨b,off,e,k,g,f⟩:=h.cells (Nat.lt_of_le_of_lt (aL _) hi) a hF;injection e with e
 subst e;have:=f j u hu;rw[iL]at this⊢;exact(hb.cell (p:=⟨b,off+j,none⟩) g).trans this
theorem World.dY(w:World)(o:Obj):Below w.heap.size w (w.alloc o):=(Below.refl _ _).alloc (ai _) _
theorem Below.grown{w0 w w':World}{r:Option Nat}{B:Nat}(hb:Below B w0 w)(c:B<=w.heap.size)(a:w.grownBy w' r)(hv: ∀j,r=some j->B<=j):Below B w0 w':=
 hb.trans ⟨a.os,a.tape,a.output,a.size,fun k b=>a.block k (aj b c) fun e=>by have:=hv k e.symm;omega⟩
def hl(n:Nat)(sz:Nat)(F:Nat->List Value):Prop:= ∀i,i<n->(F i).length=sz/\∀u,u∈F i->u.oneCell'=true
theorem hl.flat{n sz:Nat}{F:Nat->List Value}(h:hl n sz F)(b:0<sz): ∀u,u∈bx n sz F->u.oneCell'=true:=by
 intro u hu;obtain⟨j,a⟩:=bZ hu;have:=qA b (fun i hi=>(h i hi).1) a;exact(h _ this.1).2 u (bf this.2)
theorem nk:(Tryz.prog.info? 125).map (fun i=>(i.zero,i.size,i.bytes))=some (some (.agg #[.int .i64 0,.bool false]),2,16):=aM
theorem g4:Tryz.prog.underlying 62=some (.slice 125):=aM
theorem jD(w:World)(S:Nat->Prop)(v:Value)(n:Nat)(F:Nat->List Value)(h:KC w S v n 2 F)(a:n<=65536)(hF:hl n 2 F):
 Calls prog 179 #[v] w fun e w'=> ∃v',e= .returned v'/\KC w' (fun b=>w.heap.size<=b) v' n 2 F/\Below w.heap.size w w':=by
 obtain⟨o,p,q,r,s⟩:=info_parts nk;have m:=fun i hi=>(hF i hi).1;have k:=hF.flat (by decide:0<2);obtain⟨A,c,rfl,h1,d,g⟩:=id h;have l:n<=maxLen:=by unfold maxLen;omega
 cases A with
 |none=>
  have u:n=0:=by
   rcases aQ n with h|h
   ·exact h
   ·obtain⟨b,off,e,_⟩:=g h;cases e
  subst u;clear h g hF m k a h1 d l p q r s;have x:=fun w=>Lib.run_eql_slice_nil (P:=prog) w _ _ none 0 c 0 0 g4;go_enter func179,ntmps179;go_wp2_with fail;go_ret;exact⟨_,rfl,KC.nil _ _ _ _,by
   exact a2⟩
 |some f=>
  have H:=I h;have lZ:=I m;have y:=I k;have t:=I a;have z:=I l;clear h g hF m k a h1 d l;have x:=fun w=>Lib.run_eql_slice_nil (P:=prog) w _ _ (some f) n c 0 0 g4;have B:=I (H.out.news lZ.out am);go_enter func179,ntmps179;go_wp2_with(at_builtin;refine wpList_append_own _ rfl _ _ 62 rfl w.heap.size 125 o (.agg #[.int .i64 0,.bool false]) 2 16 g4 p q r s rfl am _ _ _ rfl (World.ownsRow_made w #[] 0 (ai _) (aL _) rfl) f n c (bx n 2 F) rfl (cv _ _ _) (B.out _ (World.dY _ _)) y.out (by rw[ax];exact z.out) (by have:=t.out;omega) aN ?_;intro v' w' ZQ UW _;rw[au,ax]at ZQ);exact fw
theorem b6:(Tryz.prog.info? 3).map (fun i=>(i.zero,i.size,i.bytes))=some (some (.int .i64 0),1,8):=aM
theorem bg:Tryz.prog.underlying 30=some (.slice 3):=aM
theorem lu(w:World)(S:Nat->Prop)(v:Value)(n:Nat)(F:Nat->List Value)(h:KC w S v n 1 F)(a:n<=65536)(hF:hl n 1 F):
 Calls prog 59 #[v] w fun e w'=> ∃v',e= .returned v'/\KC w' (fun b=>w.heap.size<=b) v' n 1 F/\Below w.heap.size w w':=by
 obtain⟨o,p,q,r,s⟩:=info_parts b6;have m:=fun i hi=>(hF i hi).1;have k:=hF.flat (by decide:0<1);obtain⟨A,c,rfl,h1,d,g⟩:=id h;have l:n<=maxLen:=by unfold maxLen;omega
 cases A with
 |none=>
  have u:n=0:=by
   rcases aQ n with h|h
   ·exact h
   ·obtain⟨b,off,e,_⟩:=g h;cases e
  subst u;clear h g hF m k a h1 d l p q r s;have x:=fun w=>Lib.run_eql_slice_nil (P:=prog) w _ _ none 0 c 0 0 bg;go_enter func59,ntmps59;go_wp2_with fail;go_ret;exact⟨_,rfl,KC.nil _ _ _ _,by
   exact a2⟩
 |some f=>
  have H:=I h;have lZ:=I m;have y:=I k;have t:=I a;have z:=I l;clear h g hF m k a h1 d l;have x:=fun w=>Lib.run_eql_slice_nil (P:=prog) w _ _ (some f) n c 0 0 bg;have B:=I (H.out.news lZ.out am);go_enter func59,ntmps59;go_wp2_with(at_builtin;refine wpList_append_own _ rfl _ _ 30 rfl w.heap.size 3 o (.int .i64 0) 1 8 bg p q r s rfl am _ _ _ rfl (World.ownsRow_made w #[] 0 (ai _) (aL _) rfl) f n c (bx n 1 F) rfl (cv _ _ _) (B.out _ (World.dY _ _)) y.out (by rw[ax];exact z.out) (by have:=t.out;omega) aN ?_;intro v' w' ZQ UW _;rw[au,ax]at ZQ);exact fw
theorem fK:(Tryz.prog.info? 59).map (fun i=>(i.zero,i.size,i.bytes))=some (some (.int .u64 0),1,8):=aM
theorem cL:Tryz.prog.underlying 54=some (.slice 59):=aM
theorem acB(w:World)(S:Nat->Prop)(v:Value)(n:Nat)(F:Nat->List Value)(h:KC w S v n 1 F)(a:n<=65536)(hF:hl n 1 F):
 Calls prog 178 #[v] w fun e w'=> ∃v',e= .returned v'/\KC w' (fun b=>w.heap.size<=b) v' n 1 F/\Below w.heap.size w w':=by
 obtain⟨o,p,q,r,s⟩:=info_parts fK;have m:=fun i hi=>(hF i hi).1;have k:=hF.flat (by decide:0<1);obtain⟨A,c,rfl,h1,d,g⟩:=id h;have l:n<=maxLen:=by unfold maxLen;omega
 cases A with
 |none=>
  have u:n=0:=by
   rcases aQ n with h|h
   ·exact h
   ·obtain⟨b,off,e,_⟩:=g h;cases e
  subst u;clear h g hF m k a h1 d l p q r s;have x:=fun w=>Lib.run_eql_slice_nil (P:=prog) w _ _ none 0 c 0 0 cL;go_enter func178,ntmps178;go_wp2_with fail;go_ret;exact⟨_,rfl,KC.nil _ _ _ _,by
   exact a2⟩
 |some f=>
  have H:=I h;have lZ:=I m;have y:=I k;have t:=I a;have z:=I l;clear h g hF m k a h1 d l;have x:=fun w=>Lib.run_eql_slice_nil (P:=prog) w _ _ (some f) n c 0 0 cL;have B:=I (H.out.news lZ.out am);go_enter func178,ntmps178;go_wp2_with(at_builtin;refine wpList_append_own _ rfl _ _ 54 rfl w.heap.size 59 o (.int .u64 0) 1 8 cL p q r s rfl am _ _ _ rfl (World.ownsRow_made w #[] 0 (ai _) (aL _) rfl) f n c (bx n 1 F) rfl (cv _ _ _) (B.out _ (World.dY _ _)) y.out (by rw[ax];exact z.out) (by have:=t.out;omega) aN ?_;intro v' w' ZQ UW _;rw[au,ax]at ZQ);exact fw
theorem cj:(Tryz.prog.info? 130).map (fun i=>(i.zero,i.size,i.bytes))=some (some (.agg #[.int .i64 0,.int .i64 0]),2,16):=aM
theorem bw:Tryz.prog.underlying 58=some (.slice 130):=aM
theorem ab4(w:World)(S:Nat->Prop)(v:Value)(n:Nat)(F:Nat->List Value)(h:KC w S v n 2 F)(a:n<=65536)(hF:hl n 2 F):
 Calls prog 254 #[v] w fun e w'=> ∃v',e= .returned v'/\KC w' (fun b=>w.heap.size<=b) v' n 2 F/\Below w.heap.size w w':=by
 obtain⟨o,p,q,r,s⟩:=info_parts cj;have m:=fun i hi=>(hF i hi).1;have k:=hF.flat (by decide:0<2);obtain⟨A,c,rfl,h1,d,g⟩:=id h;have l:n<=maxLen:=by unfold maxLen;omega
 cases A with
 |none=>
  have u:n=0:=by
   rcases aQ n with h|h
   ·exact h
   ·obtain⟨b,off,e,_⟩:=g h;cases e
  subst u;clear h g hF m k a h1 d l p q r s;have x:=fun w=>Lib.run_eql_slice_nil (P:=prog) w _ _ none 0 c 0 0 bw;go_enter func254,ntmps254;go_wp2_with fail;go_ret;exact⟨_,rfl,KC.nil _ _ _ _,by
   exact a2⟩
 |some f=>
  have H:=I h;have lZ:=I m;have y:=I k;have t:=I a;have z:=I l;clear h g hF m k a h1 d l;have x:=fun w=>Lib.run_eql_slice_nil (P:=prog) w _ _ (some f) n c 0 0 bw;have B:=I (H.out.news lZ.out am);go_enter func254,ntmps254;go_wp2_with(at_builtin;refine wpList_append_own _ rfl _ _ 58 rfl w.heap.size 130 o (.agg #[.int .i64 0,.int .i64 0]) 2 16 bw p q r s rfl am _ _ _ rfl (World.ownsRow_made w #[] 0 (ai _) (aL _) rfl) f n c (bx n 2 F) rfl (cv _ _ _) (B.out _ (World.dY _ _)) y.out (by rw[ax];exact z.out) (by have:=t.out;omega) aN ?_;intro v' w' ZQ UW _;rw[au,ax]at ZQ);exact fw
theorem ii:(Tryz.prog.info? 42).map (fun i=>(i.zero,i.size,i.bytes))=some (some (.agg #[.int .u8 0,.int .u8 0,.int .u8 0,.int .u8 0,.int .i64 0,.int .i64 0,.int .i64 0]),7,32):=aM
theorem fi:Tryz.prog.underlying 47=some (.slice 42):=aM
theorem ac6(w:World)(S:Nat->Prop)(v:Value)(n:Nat)(F:Nat->List Value)(h:KC w S v n 7 F)(a:n<=65536)(hF:hl n 7 F):
 Calls prog 121 #[v] w fun e w'=> ∃v',e= .returned v'/\KC w' (fun b=>w.heap.size<=b) v' n 7 F/\Below w.heap.size w w':=by
 obtain⟨o,p,q,r,s⟩:=info_parts ii;have m:=fun i hi=>(hF i hi).1;have k:=hF.flat (by decide:0<7);obtain⟨A,c,rfl,h1,d,g⟩:=id h;have l:n<=maxLen:=by unfold maxLen;omega
 cases A with
 |none=>
  have u:n=0:=by
   rcases aQ n with h|h
   ·exact h
   ·obtain⟨b,off,e,_⟩:=g h;cases e
  subst u;clear h g hF m k a h1 d l p q r s;have x:=fun w=>Lib.run_eql_slice_nil (P:=prog) w _ _ none 0 c 0 0 fi;go_enter func121,ntmps121;go_wp2_with fail;go_ret;exact⟨_,rfl,KC.nil _ _ _ _,by
   exact a2⟩
 |some f=>
  have H:=I h;have lZ:=I m;have y:=I k;have t:=I a;have z:=I l;clear h g hF m k a h1 d l;have x:=fun w=>Lib.run_eql_slice_nil (P:=prog) w _ _ (some f) n c 0 0 fi;have B:=I (H.out.news lZ.out am);go_enter func121,ntmps121;go_wp2_with(at_builtin;refine wpList_append_own _ rfl _ _ 47 rfl w.heap.size 42 o (.agg #[.int .u8 0,.int .u8 0,.int .u8 0,.int .u8 0,.int .i64 0,.int .i64 0,.int .i64 0]) 7 32 fi p q r s rfl am _ _ _ rfl (World.ownsRow_made w #[] 0 (ai _) (aL _) rfl) f n c (bx n 7 F) rfl (cv _ _ _) (B.out _ (World.dY _ _)) y.out (by rw[ax];exact z.out) (by have:=t.out;omega) aN ?_;intro v' w' ZQ UW _;rw[au,ax]at ZQ);exact fw
theorem jp:(Tryz.prog.info? 100).map (fun i=>(i.zero,i.size,i.bytes))=some (some (.agg #[.int .u8 0,.int .i64 0,.int .i64 0]),3,24):=aM
theorem fP:Tryz.prog.underlying 95=some (.slice 100):=aM
theorem nl(w:World)(S:Nat->Prop)(v:Value)(n:Nat)(F:Nat->List Value)(h:KC w S v n 3 F)(a:n<=65536)(hF:hl n 3 F):
 Calls prog 120 #[v] w fun e w'=> ∃v',e= .returned v'/\KC w' (fun b=>w.heap.size<=b) v' n 3 F/\Below w.heap.size w w':=by
 obtain⟨o,p,q,r,s⟩:=info_parts jp;have m:=fun i hi=>(hF i hi).1;have k:=hF.flat (by decide:0<3);obtain⟨A,c,rfl,h1,d,g⟩:=id h;have l:n<=maxLen:=by unfold maxLen;omega
 cases A with
 |none=>
  have u:n=0:=by
   rcases aQ n with h|h
   ·exact h
   ·obtain⟨b,off,e,_⟩:=g h;cases e
  subst u;clear h g hF m k a h1 d l p q r s;have x:=fun w=>Lib.run_eql_slice_nil (P:=prog) w _ _ none 0 c 0 0 fP;go_enter func120,ntmps120;go_wp2_with fail;go_ret;exact⟨_,rfl,KC.nil _ _ _ _,by
   exact a2⟩
 |some f=>
  have H:=I h;have lZ:=I m;have y:=I k;have t:=I a;have z:=I l;clear h g hF m k a h1 d l;have x:=fun w=>Lib.run_eql_slice_nil (P:=prog) w _ _ (some f) n c 0 0 fP;have B:=I (H.out.news lZ.out am);go_enter func120,ntmps120;go_wp2_with(at_builtin;refine wpList_append_own _ rfl _ _ 95 rfl w.heap.size 100 o (.agg #[.int .u8 0,.int .i64 0,.int .i64 0]) 3 24 fP p q r s rfl am _ _ _ rfl (World.ownsRow_made w #[] 0 (ai _) (aL _) rfl) f n c (bx n 3 F) rfl (cv _ _ _) (B.out _ (World.dY _ _)) y.out (by rw[ax];exact z.out) (by have:=t.out;omega) aN ?_;intro v' w' ZQ UW _;rw[au,ax]at ZQ);exact fw
theorem jK:(Tryz.prog.info? 46).map (fun i=>(i.zero,i.size,i.bytes))=some (some (.agg #[.int .i64 0,.int .u8 0,.int .u8 0,.int .u8 0,.int .u8 0,.int .i64 0,.int .i64 0,.int .i64 0,.int .i64 0,.int .i64 0,.int .i64 0,.int .i64 0,.int .i64 0,.slice none 0 0]),14,104):=aM
theorem e7:Tryz.prog.underlying 34=some (.slice 46):=aM
theorem Ad(w:World)(S:Nat->Prop)(v:Value)(n:Nat)(F:Nat->List Value)(h:KC w S v n 14 F)(a:n<=65536)(hF:hl n 14 F):
 Calls prog 58 #[v] w fun e w'=> ∃v',e= .returned v'/\KC w' (fun b=>w.heap.size<=b) v' n 14 F/\Below w.heap.size w w':=by
 obtain⟨o,p,q,r,s⟩:=info_parts jK;have m:=fun i hi=>(hF i hi).1;have k:=hF.flat (by decide:0<14);obtain⟨A,c,rfl,h1,d,g⟩:=id h;have l:n<=maxLen:=by unfold maxLen;omega
 cases A with
 |none=>
  have u:n=0:=by
   rcases aQ n with h|h
   ·exact h
   ·obtain⟨b,off,e,_⟩:=g h;cases e
  subst u;clear h g hF m k a h1 d l p q r s;have x:=fun w=>Lib.run_eql_slice_nil (P:=prog) w _ _ none 0 c 0 0 e7;go_enter func58,ntmps58;go_wp2_with fail;go_ret;exact⟨_,rfl,KC.nil _ _ _ _,by
   exact a2⟩
 |some f=>
  have H:=I h;have lZ:=I m;have y:=I k;have t:=I a;have z:=I l;clear h g hF m k a h1 d l;have x:=fun w=>Lib.run_eql_slice_nil (P:=prog) w _ _ (some f) n c 0 0 e7;have B:=I (H.out.news lZ.out am);go_enter func58,ntmps58;go_wp2_with(at_builtin;refine wpList_append_own _ rfl _ _ 34 rfl w.heap.size 46 o (.agg #[.int .i64 0,.int .u8 0,.int .u8 0,.int .u8 0,.int .u8 0,.int .i64 0,.int .i64 0,.int .i64 0,.int .i64 0,.int .i64 0,.int .i64 0,.int .i64 0,.int .i64 0,.slice none 0 0]) 14 104 e7 p q r s rfl am _ _ _ rfl (World.ownsRow_made w #[] 0 (ai _) (aL _) rfl) f n c (bx n 14 F) rfl (cv _ _ _) (B.out _ (World.dY _ _)) y.out (by rw[ax];exact z.out) (by have:=t.out;omega) aN ?_;intro v' w' ZQ UW _;rw[au,ax]at ZQ);exact fw
end
section
def iw(l:List bO)(i:Nat):List Value:=match l[i]? with
 |some e=> [.int .i64 e.s,.bool e.c]
 |none=> [.int .i64 0,.bool false]
theorem hJ(l:List bO)(n:Nat):hl n 2 (iw l):=by
 intro i _;unfold iw;cases l[i]? with
 |none=>exact⟨rfl,fun u hu=>by simp at hu;rcases hu with rfl|rfl<;>rfl⟩
 |some e=>exact⟨rfl,fun u hu=>by simp at hu;rcases hu with rfl|rfl<;>rfl⟩
abbrev de(w:World)(S:Nat->Prop)(v:Value)(l:List bO):Prop:=KC w S v l.length 2 (iw l)
theorem de.at_{w:World}{S:Nat->Prop}{A:Option Addr}{n c:Nat}{l:List bO}(h:de w S (.slice A n c) l){i:Nat}{e:bO}(g:l[i]? =some e):
 n=l.length/\∃b off,A=some ⟨b,off,none⟩/\S b/\b<w.heap.size/\w.cell? ⟨b,off+i*2,none⟩=some (.int .i64 e.s)/\w.cell? ⟨b,off+i*2+1,none⟩=some (.bool e.c):=by
 obtain⟨A',c',a,h1,o,m⟩:=h;injection a with a d p
 subst a;have hi:i<l.length:=(List.getElem?_eq_some_iff.1 g).1;obtain⟨b,off,f,k,hb,j⟩:=m J;have hF:iw l i= [.int .i64 e.s,.bool e.c]:=by unfold iw;rw[g]
 exact⟨d,b,off,f,k,hb,j i 0 _ hi (by rw[hF];rfl),j i 1 _ hi (by rw[hF];rfl)⟩
theorem w8(w:World)(S:Nat->Prop)(v:Value)(l:List bO)(h:de w S v l)(f:l.length<=65536):
 Calls prog 181 #[v] w fun e w'=>e= .returned (.int .i64 (da l))/\w=w':=by
 obtain⟨A,c,rfl,h1,a,d⟩:=id h;rcases ct l with rfl|⟨pre,e,rfl⟩
 ·clear h h1 a d f;go_enter func181,ntmps181;go_wp2_with fail;go_ret;exact⟨rfl,rfl⟩
 ·rw[cu]at*;rw[hn];obtain⟨_,b,off,rfl,j,hb,g,_⟩:=h.at_ (i:=pre.length) (e:=e) aN;clear h h1 a d;rw[ak,dh]at*;generalize pre.length=m at*;go_enter func181,ntmps181;go_wp2_with fail;go_ret;exact⟨rfl,rfl⟩
theorem x5(a b:Int)(c d:Bool)(w:World):
 (binOp .eql 125 (.agg #[.int .i64 a,.bool c]) (.agg #[.int .i64 b,.bool d])).run prog w= .ok (.bool (decide ((⟨a,c⟩:bO)=⟨b,d⟩))) w:=by
 have e:decide ((⟨a,c⟩:bO)=⟨b,d⟩)=(a==b&&c==d):=by
  rw[Bool.eq_iff_iff];simp
 rw[e];go_simp;by_cases h1:a=b
 ·by_cases f:c=d
  ·simp[h1,f]
  ·simp[h1,f]
 ·simp[h1]
theorem acC{l:List bO}{e x:bO}{i:Nat}(h:l[i]? =some x)(c:x=e)(a: ∀j:Nat,j<i->l[j]? ≠some e):l.findIdx? (fun x=>decide (x=e))=some i:=by
 subst c;obtain⟨hi,h⟩:=List.getElem?_eq_some_iff.1 h;rw[List.findIdx?_eq_some_iff_getElem];refine⟨hi,by simp[h],fun j b=>?_⟩;have:=a j b;rw[an J]at this;simpa using this
theorem abZ{l:List bO}{e:bO}(b: ∀j:Nat,j<l.length->l[j]? ≠some e):l.findIdx? (fun x=>decide (x=e))=none:=by
 rw[List.findIdx?_eq_none_iff];intro x c;obtain⟨j,a⟩:=bZ c;have:=b j (List.getElem?_eq_some_iff.1 a).1;rw[a]at this;simpa using this
def tR(l:List bO)(e:bO):Int:=match l.findIdx? (fun x=>decide (x=e))with
 |some i=>i
 |none=> -1
section
variable(w:World)(S:Nat->Prop)(v:Value)(l:List bO)(s:Int)
include w S v l s
theorem EL(d:Bool)(h:de w S v l)(T:l.length<=65536):
 Calls prog 341 #[v,.agg #[.int .i64 s,.bool d]] w fun e w'=>e= .returned (.int .i64 (tR l ⟨s,d⟩))/\Below w.heap.size w w':=by
 obtain⟨A,c,rfl,h1,t,M⟩:=id h;have H:=I h;clear h h1 t M;generalize g:l.length=n at*;have B:=I g;clear g;go_enter func341,ntmps341;go_wp2_with fail;go_loopw [8] (fun i wr=> ∃k:Nat,k<=n/\i= .int .i64 k/\(∀j:Nat,j<k->l[j]? ≠some ⟨s,d⟩)/\Below w.heap.size w wr/\ah wr w.heap.size 125 #[.int .i64 s,.bool d]) (fun i _=>n-(intOf i).toNat)
 case atStart=>exact⟨0,J,rfl,fun j m=>J,by
  exact a2,dL _ _⟩
 case round=>
  obtain⟨k,Q,rfl,C,z,hb⟩:=hrel;have r:=I C;have a:=I z;have P:=hb.cell 0;have O:=hb.cell 1;clear C z;by_cases N:k<n
  ·have K:k<l.length:=by rw[B.out];exact N
   obtain⟨x,o⟩: ∃x,l[k]? =some x:=⟨_,an K⟩
   have y:=I o;obtain⟨_,b,off,rfl,R,G,u,F⟩:=H.out.at_ o;clear o K;have u:=(a.out.cell (p:=⟨b,off+k*2,none⟩) G).trans u;have F:=(a.out.cell (p:=⟨b,off+k*2+1,none⟩) G).trans F;by_cases e:(⟨s,d⟩:bO)=⟨x.s,x.c⟩
   ·have L:=fun w=>(x5 s x.s d x.c w).trans (by rw[decide_eq_true e]);have q:=I e;clear e;go_wp2_with fail;go_region;go_wp2_with fail;go_ret;refine⟨lC ?_,a.out.drew⟩;unfold tR;rw[acC (i:=k) y.out q.out.symm r.out]
   ·have L:=fun w=>(x5 s x.s d x.c w).trans (by rw[decide_eq_false e]);have q:=I e;clear e;go_wp2_with fail;go_region;go_wp2_with fail;go_roundw
    case rel=>exact⟨k+1,J,by go_num,fun j m=>by
     by_cases c:j=k
     ·subst c;rw[y.out];intro f;injection f with f;exact q.out f.symm
     ·exact r.out j J,a.out.drew,hb⟩
    case measure=>simp[intOf];omega
  ·obtain rfl:k=n:=by omega
   go_wp2_with fail;go_ret;refine⟨lC ?_,a.out⟩;unfold tR;rw[abZ (l:=l) (e:=⟨s,d⟩) (fun j m=>r.out j (by have:=B.out;omega))]
theorem Ky(h:de w S v l)(a:l.length<=65536):
 Calls prog 293 #[v,.int .i64 s] w fun e w'=>e= .returned (.int .i64 (tR l ⟨s,true⟩))/\Below w.heap.size w w':=by
 go_enter func293,ntmps293;go_wp2_with(go_at_call 341;refine(EL _ S _ l _ _ h a).mono ?_;rintro e w' ⟨rfl,hb⟩);go_ret;exact⟨rfl,hb⟩
end
theorem acD(l:List bO)(s:Int):0<=tR l ⟨s,true⟩↔(⟨s,true⟩:bO)∈l:=by
 unfold tR;cases h:l.findIdx? (fun x=>decide (x=(⟨s,true⟩:bO)))with
 |none=>
  rw[List.findIdx?_eq_none_iff]at h;simp at h;show(0:Int)<= -1↔_;constructor
  ·intro a;omega
  ·intro a;exact absurd rfl (h _ a)
 |some i=>
  show(0:Int)<=i↔_;constructor
  ·intro _;have:=List.findIdx?_eq_some_iff_getElem.1 h;obtain⟨hi,b,_⟩:=this;simp at b;rw[<-b];exact bA _
  ·intro _;omega
theorem tS(w:World)(S:Nat->Prop)(v:Value)(l:List bO)(s:Int)(h:de w S v l)(b:l.length<=65536):
 Calls prog 218 #[v,.int .i64 s] w fun e w'=>e= .returned (.bool (decide (reach l s)))/\Below w.heap.size w w':=by
 by_cases c:s=0
 ·subst c;go_enter func218,ntmps218;go_wp2_with fail;go_ret;exact⟨qx (by simp[reach]),Below.refl _ _⟩
 ·have d:(s==0)=false:=by simpa using c
  have a:=I c;clear c;go_enter func218,ntmps218;go_wp2_with(go_at_call 293;refine(Ky _ S _ l _ h b).mono ?_;rintro e w' ⟨rfl,hb⟩);go_ret;refine⟨qx ?_,hb⟩;rw[decide_eq_decide];rw[acD];unfold reach;simp[a.out]
end
theorem kL{G:Prop}(h:G:=by
 go_ret;exact⟨v',rfl,ZQ,Below.grown ((Below.refl _ _).alloc (ai _) _) (by simp) UW (fun j OV=>by injection OV with OV;exact Nat.le_of_eq OV)⟩):G:=h
theorem sY(w:World)(S:Nat->Prop)(v:Value)(n:Nat)(F:Nat->List Value)(h:KC w S v n 1 F)(a:n<=65536)(hF:hl n 1 F):
 Calls prog 59 #[v] w fun e w'=> ∃v',e= .returned v'/\w'.ownsRow w.heap.size 3 1 v' n (bx n 1 F)/\Below w.heap.size w w':=by
 obtain⟨o,p,q,r,s⟩:=info_parts b6;have m:=fun i hi=>(hF i hi).1;have k:=hF.flat (by decide:0<1);obtain⟨A,c,rfl,h1,d,g⟩:=id h;have l:n<=maxLen:=by unfold maxLen;omega
 cases A with
 |none=>
  have u:n=0:=by
   rcases aQ n with h|h
   ·exact h
   ·obtain⟨b,off,e,_⟩:=g h;cases e
  subst u;clear h g hF m k a h1 d l p q r s;have y:=fun w=>Lib.run_eql_slice_nil (P:=prog) w _ _ none 0 c 0 0 bg;go_enter func59,ntmps59;go_wp2_with fail;go_ret;exact⟨_,rfl,World.ownsRow_nil _ _ _ _,by
   exact a2⟩
 |some f=>
  have H:=I h;have x:=I m;have z:=I k;have t:=I a;have B:=I l;clear h g hF m k a h1 d l;have y:=fun w=>Lib.run_eql_slice_nil (P:=prog) w _ _ (some f) n c 0 0 bg;have C:=I (H.out.news x.out am);go_enter func59,ntmps59;go_wp2_with(at_builtin;refine wpList_append_own _ rfl _ _ 30 rfl w.heap.size 3 o (.int .i64 0) 1 8 bg p q r s rfl am _ _ _ rfl (World.ownsRow_made w #[] 0 (ai _) (aL _) rfl) f n c (bx n 1 F) rfl (cv _ _ _) (C.out _ (World.dY _ _)) z.out (by rw[ax];exact B.out) (by have:=t.out;omega) aN ?_;intro v' w' ZQ UW _;rw[au,ax]at ZQ);exact kL
end Go.Proofs.YtcimojgkeoecfaaGreat
