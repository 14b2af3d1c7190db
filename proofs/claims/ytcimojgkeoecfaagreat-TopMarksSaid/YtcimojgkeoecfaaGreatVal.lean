import Derived.Test.YtcimojgkeoecfaaGreatVaj
import Derived.Test.YtcimojgkeoecfaaGreatVak
import Derived.Test.YtcimojgkeoecfaaGreatVaf
import Derived.Deep.OwnRows
set_option linter.all false
set_option maxHeartbeats 16000000
set_option maxRecDepth 100000
namespace Go.Proofs.YtcimojgkeoecfaaGreat
open Go.RowKit Tryz
section
theorem abb(l:List bO)(s:Int): ∀pre,lX l s pre=match l.findIdx? (fun x=>decide (x=(⟨s,true⟩:bO)))with|some i=>da (pre++l.take i)|none=> -1:=by
 induction l with
 |nil=>intro pre;rfl
 |cons e l b=>
  intro pre;rw[lX,List.findIdx?_cons];by_cases c:e=⟨s,true⟩
  ·simp[c]
  ·have a:decide (e=(⟨s,true⟩:bO))=false:=decide_eq_false c;rw[Y c,b (pre++ [e]),a];cases l.findIdx? (fun x=>decide (x=(⟨s,true⟩:bO)))with
   |none=>rfl
   |some i=>simp
theorem KC.take{w:World}{S:Nat->Prop}{A:Option Addr}{n c sz:Nat}{F:Nat->List Value}(h:KC w S (.slice A n c) n sz F){i k:Nat}(hi:i<=n)(l:i<=k)(t:k<=c):KC w S (.slice A i k) i sz F:=by
 obtain⟨A',c',e,h1,q,p⟩:=h;injection e with d r f
 subst d f;refine⟨_,_,rfl,l,J,fun s=>?_⟩;obtain⟨b,off,g,o,hb,m⟩:=p J;exact⟨b,off,g,o,hb,fun a j u v hu=>m a j u J hu⟩
theorem de.take{w:World}{S:Nat->Prop}{A:Option Addr}{c:Nat}{l:List bO}(h:de w S (.slice A l.length c) l){i k:Nat}(hi:i<=l.length)(d:i<=k)(a:k<=c):de w S (.slice A i k) (l.take i):=by
 have e:(l.take i).length=i:=by simp[hi]
 show KC w S (.slice A i k) (l.take i).length 2 (iw (l.take i));rw[e];refine(KC.take h hi d a).ext fun j b=>?_;unfold iw;rw[List.getElem?_take];simp[b]
section
variable(w:World)(S:Nat->Prop)(v:Value)(l:List bO)
include w S v l
theorem Cm(s:Int)(h:de w S v l)(q:l.length<=65536):
 Calls prog 342 #[v,.int .i64 s] w fun e w'=>e= .returned (.int .i64 (lX l s []))/\Below w.heap.size w w':=by
 have d:=fun w (h:de w S v l)=>Ky w S v l s h q;rw[abb];unfold tR at d;cases a:l.findIdx? (fun x=>decide (x=(⟨s,true⟩:bO)))with
 |none=>
  rw[a]at d;simp only at d⊢;clear a;go_enter func342,ntmps342;go_wp2_with(go_at_call 293;refine(d _ h).mono ?_;rintro e w' ⟨rfl,hb⟩);go_ret;exact⟨rfl,hb⟩
 |some i=>
  rw[a]at d;simp only[au]at d⊢;have hi:i<l.length:=(List.findIdx?_eq_some_iff_getElem.1 a).1;clear a;obtain⟨A,c,rfl,h1,g,m⟩:=id h;obtain⟨b,off,rfl,p,hb,o⟩:=m J;have H:=I h;have r:=I (de.take h (i:=i) (k:=i) J J J);have t:=I d;have f:(l.take i).length<=65536:=by simp;omega
  clear h d m o p;unfold maxLen at g;generalize j:l.length=n at*;clear j;go_enter func342,ntmps342;go_wp2_with(go_at_call 293;refine(t.out _ H.out).mono ?_;rintro e u ⟨rfl,N⟩);refine(w8 _ S _ _ (r.out.below N) f).mono ?_;rintro e y ⟨rfl,rfl⟩;go_wp2_with fail;go_ret;exact⟨rfl,N⟩
theorem x9(s b:Int)(h:de w S v l)(g:l.length<=65536):
 Calls prog 296 #[v,.int .i64 s,.int .i64 b] w fun e w'=>e= .returned (.bool (kt l s b))/\Below w.heap.size w w':=by
 unfold kt;by_cases c:s=0
 ·subst c;go_enter func296,ntmps296;go_wp2_with fail;go_ret;exact⟨rfl,Below.refl _ _⟩
 ·rw[Y c];have o:(s==0)=false:=by simpa using c
  have r:=I c;clear c;have H:=I h;clear h;obtain⟨R,d⟩: ∃R,Hid (R=rY l s 9 b):=⟨_,I rfl⟩
  rw[<-d.out];go_enter func296,ntmps296;go_wp2_with fail;go_loopw [2,9] (fun x i wr=> ∃(k:Nat) (q:Int),k<=9/\i= .int .i64 k/\x= .int .i64 q/\Hid (R=rY l s (9-k) q)/\Below w.heap.size w wr) (fun _ i _=>9-(intOf i).toNat)
  case atStart=>exact⟨0,b,J,rfl,rfl,d,Below.refl _ _⟩
  case round=>
   obtain⟨k,q,p,rfl,rfl,f,a⟩:=hrel;by_cases t:k<9
   ·by_cases e:q=s
    ·subst e;go_wp2_with fail;go_ret;refine⟨qx ?_,a⟩;rw[f.out,show 9-k=(8-k)+1 from J,rY,Z rfl]
    ·have n:(q==s)=false:=by simpa using e
     have j:=I e;clear e;go_wp2_with fail;refine(Cm _ S _ l _ (H.out.below a) g).mono ?_;rintro e m ⟨rfl,N⟩;go_wp2_with fail;go_roundw
     case rel=>exact⟨k+1,_,J,by go_num,rfl,I (by rw[f.out,show 9-k=(9-(k+1))+1 from J,rY,Y j.out]),a.trans (N.mono a.size)⟩
     case measure=>simp[intOf];omega
   ·obtain rfl:k=9:=by omega
    go_wp2_with fail;go_ret;refine⟨qx ?_,a⟩;rw[f.out];rfl
end
section
variable{cs:Array Value}{off:Nat}{ds:Array Value}(h:off+ds.size<=cs.size)
include cs off ds h
theorem nu:(hT cs off ds).size=cs.size:=by
 unfold hT;simp;omega
theorem Cn{j:Nat}(a:j<ds.size):(hT cs off ds)[off+j]? =ds[j]? :=by
 unfold hT;rw[aE,aJ,ay (by simp;omega),aA (by simp;omega)];simp;congr 1;omega
end
theorem Lq{w:World}{S:Nat->Prop}{A:Option Addr}{n c sz:Nat}{F:Nat->List Value}(h:KC w S (.slice A n c) n sz F)(hF:hl n sz F)(f:0<sz)(j m o l:TypeId)
 (hu:Tryz.prog.underlying j=some (.slice l))(p:(Tryz.prog.info? l).map (·.size)=some sz){g dLen dCap:Nat}{a:Array Value}{t:TypeId}(hb:ah w g t a)(x:n<=dLen)(v:n*sz<=a.size):
 ∃w',(Builtin.copy_ #[j,m] o #[.slice (some ⟨g,0,none⟩) dLen dCap,.slice A n c]).run prog w= .ok (goInt n) w'/\ah w' g t (hT a 0 (bx n sz F).toArray)/\ce w.heap.size g w w'/\w'.heap.size=w.heap.size:=by
 have r:=cv n sz F;rcases aQ n with rfl|d
 ·refine⟨w,mV w j m o l g 0 dLen dCap A c sz hu p,?_,ce.refl _ _ _,rfl⟩;have e:hT a 0 (bx 0 sz F).toArray=a:=by
   have:bx 0 sz F= []:=by simp[bx]
   rw[this];simp[hT]
  rw[e];exact hb
 ·obtain⟨b,off,rfl,h1,s,q⟩:=h.cells d f fun i hi=>(hF i hi).1;have:=nt (P:=prog) w j m o l g 0 dLen dCap ⟨b,off,none⟩ n c sz n a t (bx n sz F) hu p hb (by simp[Nat.min_def];omega) r q J (hF.flat f);refine⟨_,this,?_,⟨rfl,rfl,rfl,by simp[World.setRow],fun k u d=>setRow_other w g k _ d⟩,by simp[World.setRow]⟩;have e:=acG (cs:=(a.toList.take 0++bx n sz F++a.toList.drop (0+(bx n sz F).length)).toArray) hb;unfold hT ah at*;simpa using e
theorem Af:(Tryz.prog.info? 125).map (·.size)=some 2:=aM
theorem Co(n:Nat)(c:n<=1000)(w:World):(Instr.makeSlice 62 (.int .i64 n) (.int .i64 n)).run prog w= .ok (.slice (some ⟨w.heap.size,0,none⟩) n n) (w.alloc (.cells (madeCells #[.int .i64 0,.bool false] (n*2)) 125)):=by
 obtain⟨i,hi,a⟩:=Option.map_eq_some_iff.1 nk;simp only[Prod.mk.injEq]at a;have b:=run_make (P:=prog) w 62 125 i _ g4 hi a.1 .i64 .i64 n n J (Int.le_refl _) (by rw[a.2.2];omega) J;simpa [a.2.1,Value.cells]using b
section
variable(w:World)(S:Nat->Prop)(v:Value)(l:List bO)(s:Int)(d:Bool)(h:de w S v l)
include w S v l s d h
theorem Il(a:6<=l.length)(b:l.length<=65536):
 Calls prog 191 #[v,.agg #[.int .i64 s,.bool d]] w fun e w'=>e= .returned (.tuple #[.slice none 0 0,.int .i64 24])/\Below w.heap.size w w':=by
 obtain⟨A,c,rfl,_,_,_⟩:=h;go_enter func191,ntmps191;go_wp2_with fail;go_ret2;exact⟨rfl,by
  exact a2⟩
theorem BH(W:l.length<6):
 Calls prog 191 #[v,.agg #[.int .i64 s,.bool d]] w fun e w'=> ∃v',e= .returned (.tuple #[v',.int .i64 0])/\de w' (fun b=>w.heap.size<=b) v' (l++ [⟨s,d⟩])/\Below w.heap.size w w':=by
 have P:=fun w=>Co (l.length+1) J w;rw[show((l.length+1:Nat):Int)=(l.length:Int)+1 from rfl]at P;obtain⟨A,c,rfl,h1,q,O⟩:=id h;have H:=I h;clear h h1 q O;generalize k:l.length=n at*;have t:=I k;clear k;go_enter func191,ntmps191;have x:KC w S (.slice A n c) n 2 (iw l):=by have:=H.out;unfold de at this;rw[t.out]at this;exact this
 have M:=I x;clear x;have p:=ah.new (w.alloc (.cells #[.int .i64 s,.bool d] 125)) 125 (madeCells #[.int .i64 0,.bool false] ((n+1)*2));obtain⟨w3,G,g,a,F⟩:=Lq ((M.out.alloc (.cells #[.int .i64 s,.bool d] 125)).alloc (.cells (madeCells #[.int .i64 0,.bool false] ((n+1)*2)) 125)) (hJ l _) am 62 62 3 125 g4 Af (dLen:=n+1) (dCap:=n+1) p J (by rw[size_madeCells];omega);rw[World.size_alloc]at G g a F;rw[World.size_alloc]at a F;have z:(madeCells #[.int .i64 0,.bool false] ((n+1)*2)).size=(n+1)*2:=size_madeCells _ _;have K:=cv n 2 (iw l);have N:=I g;have y: ∃u,w3.cell? ⟨w.heap.size+1,n*2,none⟩=some u:=by
  rw[g.cell];exact⟨_,Array.getElem?_eq_getElem (by rw[nu (by simp;omega)];omega)⟩
 have q1: ∃u,w3.cell? ⟨w.heap.size+1,n*2+1,none⟩=some u:=by
  rw[g.cell];exact⟨_,Array.getElem?_eq_getElem (by rw[nu (by simp;omega)];omega)⟩
 have f3:=fun i=>g.frozen i;have V:w3.cell? ⟨w.heap.size,0,none⟩=some (.int .i64 s):=by
  rw[a.cell (by simp;omega) aN];simp[go_sem]
 have Q:w3.cell? ⟨w.heap.size,1,none⟩=some (.bool d):=by
  rw[a.cell (by simp;omega) aN];simp[go_sem]
 obtain⟨R,y⟩:=y;obtain⟨T,q1⟩:=q1;clear g p z K;have r:=I a;clear a;go_wp2_with(at_builtin;refine aax _ rfl _ _ _ _ rfl _ _ rfl rfl G ?_);go_ret2;have o:=(N.out.hX (n*2) (.int .i64 s)).hX (n*2+1) (.bool d);have z:(madeCells #[.int .i64 0,.bool false] ((n+1)*2)).size=(n+1)*2:=size_madeCells _ _;have K:=cv n 2 (iw l);have B:=nu (cs:=madeCells #[.int .i64 0,.bool false] ((n+1)*2)) (off:=0) (ds:=(bx n 2 (iw l)).toArray) (by simp;omega);have C:=t.out;refine⟨_,rfl,?_,?_⟩
 ·have e:(l++ [(⟨s,d⟩:bO)]).length=n+1:=by simp[C]
  show KC _ _ _ (l++ [(⟨s,d⟩:bO)]).length 2 _;rw[e];refine⟨_,_,rfl,ai _,by unfold maxLen;omega,fun _=>⟨_,0,rfl,Nat.le_succ _,o.lt,fun i j u hi hu=>?_⟩⟩;rw[ax,o.cell];by_cases c:i<n
  ·have f:iw (l++ [(⟨s,d⟩:bO)]) i=iw l i:=by unfold iw;rw[aA J]
   rw[f]at hu;have U:j<2:=by have:=(hJ l n i c).1;rw[<-this];exact(List.getElem?_eq_some_iff.1 hu).1
   rw[bk J,bk J];have m:=Cn (cs:=madeCells #[.int .i64 0,.bool false] ((n+1)*2)) (off:=0) (ds:=(bx n 2 (iw l)).toArray) (by simp;omega) (j:=i*2+j) (by simp;omega);rw[ax]at m;rw[m,aE];exact pO (fun i hi=>(hJ l n i hi).1) c hu
  ·obtain rfl:i=n:=by omega
   have f:iw (l++ [(⟨s,d⟩:bO)]) i= [.int .i64 s,.bool d]:=by unfold iw;rw[<-C];simp
   rw[f]at hu;rcases(by have:=(List.getElem?_eq_some_iff.1 hu).1;simp at this;omega:j=0\/j=1)with rfl|rfl
   ·rw[show i*2+0=i*2 from rfl,bk J,cr (by rw[B];omega)];exact hu
   ·rw[cr (by simp;rw[B];omega)];exact hu
 ·have L:=r.out.below (B':=w.heap.size) J J;refine Below.setCell ?_ (Nat.le_succ _) _;refine Below.setCell ?_ (Nat.le_succ _) _;refine Below.trans ?_ L;exact a2
end
end
theorem Z1.set{S:Nat->Prop}(w:World)(p:Addr)(h: ¬S p.block)(u:Value):Z1 S w (w.setCell p u):=
 ⟨rfl,rfl,rfl,by simp[World.setCell],fun k _ a=>by
   have:k≠p.block:=fun e=>h (e▸a)
   exact Below.heap_setCell w p u k this⟩
theorem KC.KA{w:World}{S:Nat->Prop}{v:Value}{n sz g i:Nat}{u:Value}{F:Nat->List Value}(h:KC w S v n sz F)(a: ¬S g):KC (w.setCell ⟨g,i,none⟩ u) S v n sz F:=
 h.Wu (Z1.set w ⟨g,i,none⟩ a u)
theorem acw{a w:World}{g i j:Nat}{u v:Value}(h:Below g a w):Below g a ((w.setCell ⟨g,i,none⟩ u).setCell ⟨g,j,none⟩ v):=Below.setCell (p:=⟨g,j,none⟩) (Below.setCell (p:=⟨g,i,none⟩) h (ai _) u) (ai _) v
theorem Lr(w:World)(S:Nat->Prop)(v:Value)(h:de w S v []):
 Calls prog 192 #[v] w fun x w'=>x= .returned (.tuple #[.slice none 0 0,.agg #[.int .i64 0,.bool false],.int .i64 23])/\Below w.heap.size w w':=by
 obtain⟨A,c,rfl,_,_,_⟩:=h;rw[bR];go_enter func192,ntmps192;go_wp2_with fail;refine bodyPost_ret (v:=(.tuple #[.slice none 0 0,.agg #[.int .i64 0,.bool false],.int .i64 23])) (by simp only[results,results192];go_simp) rfl ⟨rfl,?_⟩;exact a2
theorem EO(w:World)(S:Nat->Prop)(v:Value)(pre:List bO)(s:Int)(d:Bool)(h:de w S v (pre++ [⟨s,d⟩]))(YJ:pre.length<=6):
 Calls prog 192 #[v] w fun x w'=> ∃v',x= .returned (.tuple #[v',.agg #[.int .i64 s,.bool d],.int .i64 0])/\de w' (fun b=>w.heap.size<=b) v' pre/\Below w.heap.size w w':=by
 obtain⟨A,c,rfl,h1,a,G⟩:=id h;have e:(pre++ [(⟨s,d⟩:bO)]).length=pre.length+1:=aN;obtain⟨_,b,off,rfl,YF,hb,t,B⟩:=h.at_ (i:=pre.length) (e:=⟨s,d⟩) aN;have u:de w S (.slice (some ⟨b,off,none⟩) pre.length c) pre:=by
  ·have m:=de.take h (i:=pre.length) (k:=pre.length) J J J;rw[List.take_left']at m
   ·obtain⟨A',c',f,q1,Xt,r⟩:=m;injection f with f Q T
    subst f;exact⟨_,c,rfl,J,a,r⟩
   ·rfl
 rw[e]at h1⊢;have c7:c<=maxLen:=a;unfold maxLen at a;have H:=I u;clear h G u e;generalize l:pre.length=n at*;have y:=I l;clear l;have U: ∀w',Below w.heap.size w w'->w'.cell? ⟨b,off+n*2,none⟩=some (.int .i64 s):=fun w' g=>(g.cell (p:=⟨b,_,none⟩) hb).trans t;have O: ∀w',Below w.heap.size w w'->w'.cell? ⟨b,off+n*2+1,none⟩=some (.bool d):=fun w' g=>(g.cell (p:=⟨b,_,none⟩) hb).trans B;clear t B;go_enter func192,ntmps192;go_wp2_with fail;have q:Below w.heap.size w (w.alloc (.cells #[.int .i64 0,.bool false] 125)):=by
  exact a2
 have F:Hid (KC (w.alloc (.cells #[.int .i64 0,.bool false] 125)) S (.slice (some ⟨b,off,none⟩) n c) n 2 (iw pre)):=by
  have:=H.out;unfold de at this;rw[y.out]at this;exact this.alloc _
 have o:w.heap.size<(w.alloc (.cells #[.int .i64 0,.bool false] 125)).heap.size:=aN;have z:=ah.new w 125 #[.int .i64 0,.bool false];have C:=I z;clear z;generalize(w.alloc (.cells #[.int .i64 0,.bool false] 125))=afu at*;have M:n<=c:=J;have X:(n:Int)<(n:Int)+1:=J;have R:(0:Int)<=(n:Int):=J;have W:(n:Int)<=(c:Int):=J;go_region_held3 (fun w'=>Below w.heap.size w w') (first|exact q.drew|assumption|exact q.drew.trans (Below.mono (by assumption) (Nat.le_of_lt o))|exact acw (by assumption))
  (first|(go_at_call 179;refine(jD _ S _ n _ F.out.drew J (hJ _ _)).mono ?_;rintro e P ⟨v',rfl,K,N⟩;have j:=(ah.drew C.out).below N o;have Wk:=j.cell 0;have V:=j.cell 1;have aff:=fun i=>j.frozen i;have L1:=q.drew.trans (Below.mono N (Nat.le_of_lt o))))
 all_goals
  go_wp2_with fail;refine bodyPost_ret (v:=.tuple #[v',.agg #[.int .i64 s,.bool d],.int .i64 0]) (by simp only[results,results192];go_simp) rfl ?_;have L:=K.mono (S':=fun b=>w.heap.size+1<=b) fun b _ h=>D o h;refine⟨_,rfl,?_,by assumption⟩;show KC _ _ _ pre.length 2 _;rw[y.out];exact((L.KA (Nat.not_succ_le_self _)).KA (Nat.not_succ_le_self _)).mono fun b _ h=>Nat.le_of_succ_le h
end Go.Proofs.YtcimojgkeoecfaaGreat
