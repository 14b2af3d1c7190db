import Derived.Test.YtcimojgkeoecfaaGreatXaj
import Derived.Test.YtcimojgkeoecfaaGreatXak
import Derived.Test.YtcimojgkeoecfaaGreatXaf
import Derived.Deep.OwnRows
set_option linter.all false
set_option maxHeartbeats 16000000
set_option maxRecDepth 100000
namespace Go.Proofs.YtcimojgkeoecfaaGreat
open Go.RowKit Tryz
section
theorem vC(l:List bO)(s:Int): ∀pre,lX l s pre=match l.findIdx? (fun x=>decide (x=(⟨s,true⟩:bO)))with|some i=>da (pre++l.take i)|none=> -1:=by
 induction l with
 |nil=>intro pre;rfl
 |cons e l aes=>
  intro pre;rw[lX,List.findIdx?_cons];by_cases c:e=⟨s,true⟩
  ·simp[c]
  ·have adr:decide (e=(⟨s,true⟩:bO))=false:=decide_eq_false c;rw[Y c,aes (pre++ [e]),adr];cases l.findIdx? (fun x=>decide (x=(⟨s,true⟩:bO)))with
   |none=>rfl
   |some i=>simp
theorem acr.take{w:World}{S:Nat->Prop}{A:Option Addr}{n c sz:Nat}{F:Nat->List Value}(h:acr w S (.slice A n c) n sz F){i k:Nat}(hi:i<=n)(Lp:i<=k)(ae3:k<=c):acr w S (.slice A i k) i sz F:=by
 obtain⟨A',c',e,h1,aaV,ZV⟩:=h;injection e with aal abF acL
 subst aal acL;refine⟨_,_,rfl,Lp,J,fun abi=>?_⟩;obtain⟨b,off,acS,YF,hb,XP⟩:=ZV J;exact⟨b,off,acS,YF,hb,fun a j u Xg hu=>XP a j u J hu⟩
theorem de.take{w:World}{S:Nat->Prop}{A:Option Addr}{c:Nat}{l:List bO}(h:de w S (.slice A l.length c) l){i k:Nat}(hi:i<=l.length)(Lp:i<=k)(ae3:k<=c):de w S (.slice A i k) (l.take i):=by
 have e:(l.take i).length=i:=by simp[hi]
 show acr w S (.slice A i k) (l.take i).length 2 (iw (l.take i));rw[e];refine(acr.take h hi Lp ae3).ext fun j aeD=>?_;unfold iw;rw[List.getElem?_take];simp[aeD]
section
variable(w:World)(S:Nat->Prop)(v:Value)(l:List bO)
include w S v l
theorem Cm(s:Int)(h:de w S v l)(YJ:l.length<=65536):
 Calls prog 342 #[v,.int .i64 s] w fun e w'=>e= .returned (.int .i64 (lX l s []))/\Below w.heap.size w w':=by
 have Xg:=fun w (h:de w S v l)=>Ky w S v l s h YJ;rw[vC];unfold tR at Xg;cases acA:l.findIdx? (fun x=>decide (x=(⟨s,true⟩:bO)))with
 |none=>
  rw[acA]at Xg;simp only at Xg⊢;clear acA;go_enter func342,ntmps342;go_wp2_with(go_at_call 293;refine(Xg _ h).mono ?_;rintro e w' ⟨rfl,hb⟩);go_ret;exact⟨rfl,hb⟩
 |some i=>
  rw[acA]at Xg;simp only[au]at Xg⊢;have hi:i<l.length:=(List.findIdx?_eq_some_iff_getElem.1 acA).1;clear acA;obtain⟨A,c,rfl,h1,aaV,ZV⟩:=id h;obtain⟨b,off,rfl,YF,hb,XP⟩:=ZV J;have H:=I h;have YQ:=I (de.take h (i:=i) (k:=i) J J J);have Zn:=I Xg;have aaR:(l.take i).length<=65536:=by simp;omega
  clear h Xg ZV XP YF;unfold maxLen at aaV;generalize abi:l.length=n at*;clear abi;go_enter func342,ntmps342;go_wp2_with(go_at_call 293;refine(Zn.out _ H.out).mono ?_;rintro e aaM ⟨rfl,N⟩);refine(w8 _ S _ _ (YQ.out.below N) aaR).mono ?_;rintro e WW ⟨rfl,rfl⟩;go_wp2_with fail;go_ret;exact⟨rfl,N⟩
theorem x9(s b:Int)(h:de w S v l)(YJ:l.length<=65536):
 Calls prog 296 #[v,.int .i64 s,.int .i64 b] w fun e w'=>e= .returned (.bool (kt l s b))/\Below w.heap.size w w':=by
 unfold kt;by_cases c:s=0
 ·subst c;go_enter func296,ntmps296;go_wp2_with fail;go_ret;exact⟨rfl,Below.refl _ _⟩
 ·rw[Y c];have adr:(s==0)=false:=by simpa using c
  have aeO:=I c;clear c;have H:=I h;clear h;obtain⟨R,adS⟩: ∃R,Hid (R=rY l s 9 b):=⟨_,I rfl⟩
  rw[<-adS.out];go_enter func296,ntmps296;go_wp2_with fail;go_loopw [2,9] (fun x i wr=> ∃(k:Nat) (q:Int),k<=9/\i= .int .i64 k/\x= .int .i64 q/\Hid (R=rY l s (9-k) q)/\Below w.heap.size w wr) (fun _ i _=>9-(intOf i).toNat)
  case atStart=>exact⟨0,b,J,rfl,rfl,adS,Below.refl _ _⟩
  case round=>
   obtain⟨k,q,ae3,rfl,rfl,VX,Yq⟩:=hrel;by_cases bV:k<9
   ·by_cases e:q=s
    ·subst e;go_wp2_with fail;go_ret;refine⟨qx ?_,Yq⟩;rw[VX.out,show 9-k=(8-k)+1 from J,rY,Z rfl]
    ·have abF:(q==s)=false:=by simpa using e
     have eV:=I e;clear e;go_wp2_with fail;refine(Cm _ S _ l _ (H.out.below Yq) YJ).mono ?_;rintro e aaM ⟨rfl,N⟩;go_wp2_with fail;go_roundw
     case rel=>exact⟨k+1,_,J,by go_num,rfl,I (by rw[VX.out,show 9-k=(9-(k+1))+1 from J,rY,Y eV.out]),Yq.trans (N.mono Yq.size)⟩
     case measure=>simp[intOf];omega
   ·obtain rfl:k=9:=by omega
    go_wp2_with fail;go_ret;refine⟨qx ?_,Yq⟩;rw[VX.out];rfl
end
section
variable{cs:Array Value}{off:Nat}{ds:Array Value}(h:off+ds.size<=cs.size)
include cs off ds h
theorem nu:(hT cs off ds).size=cs.size:=by
 unfold hT;simp;omega
theorem Cn{j:Nat}(aeD:j<ds.size):(hT cs off ds)[off+j]? =ds[j]? :=by
 unfold hT;rw[aE,aJ,ay (by simp;omega),aA (by simp;omega)];simp;congr 1;omega
end
theorem Lq{w:World}{S:Nat->Prop}{A:Option Addr}{n c sz:Nat}{F:Nat->List Value}(h:acr w S (.slice A n c) n sz F)(hF:hl n sz F)(aeN:0<sz)(Xk YC Yn jL:TypeId)
 (hu:Tryz.prog.underlying Xk=some (.slice jL))(YF:(Tryz.prog.info? jL).map (·.size)=some sz){g dLen dCap:Nat}{cS:Array Value}{t:TypeId}(hb:ah w g t cS)(h0:n<=dLen)(ed:n*sz<=cS.size):
 ∃w',(Builtin.copy_ #[Xk,YC] Yn #[.slice (some ⟨g,0,none⟩) dLen dCap,.slice A n c]).run prog w= .ok (goInt n) w'/\ah w' g t (hT cS 0 (bx n sz F).toArray)/\ce w.heap.size g w w'/\w'.heap.size=w.heap.size:=by
 have cV:=cv n sz F;rcases aQ n with rfl|abi
 ·refine⟨w,mV w Xk YC Yn jL g 0 dLen dCap A c sz hu YF,?_,ce.refl _ _ _,rfl⟩;have e:hT cS 0 (bx 0 sz F).toArray=cS:=by
   have:bx 0 sz F= []:=by simp[bx]
   rw[this];simp[hT]
  rw[e];exact hb
 ·obtain⟨b,off,rfl,h1,aaV,ZV⟩:=h.cells abi aeN fun i hi=>(hF i hi).1;have:=nt (P:=prog) w Xk YC Yn jL g 0 dLen dCap ⟨b,off,none⟩ n c sz n cS t (bx n sz F) hu YF hb (by simp[Nat.min_def];omega) cV ZV J (hF.flat aeN);refine⟨_,this,?_,⟨rfl,rfl,rfl,by simp[World.setRow],fun k ae3 abi=>setRow_other w g k _ abi⟩,by simp[World.setRow]⟩;have e:=x8 (cs:=(cS.toList.take 0++bx n sz F++cS.toList.drop (0+(bx n sz F).length)).toArray) hb;unfold hT ah at*;simpa using e
theorem Af:(Tryz.prog.info? 125).map (·.size)=some 2:=aM
theorem Co(n:Nat)(abi:n<=1000)(w:World):(Instr.makeSlice 62 (.int .i64 n) (.int .i64 n)).run prog w= .ok (.slice (some ⟨w.heap.size,0,none⟩) n n) (w.alloc (.cells (madeCells #[.int .i64 0,.bool false] (n*2)) 125)):=by
 obtain⟨i,hi,aeN⟩:=Option.map_eq_some_iff.1 nk;simp only[Prod.mk.injEq]at aeN;have abk:=run_make (P:=prog) w 62 125 i _ g4 hi aeN.1 .i64 .i64 n n J (Int.le_refl _) (by rw[aeN.2.2];omega) J;simpa [aeN.2.1,Value.cells]using abk
section
variable(w:World)(S:Nat->Prop)(v:Value)(l:List bO)(s:Int)(d:Bool)(h:de w S v l)
include w S v l s d h
theorem Il(YJ:6<=l.length)(fx:l.length<=65536):
 Calls prog 191 #[v,.agg #[.int .i64 s,.bool d]] w fun e w'=>e= .returned (.tuple #[.slice none 0 0,.int .i64 24])/\Below w.heap.size w w':=by
 obtain⟨A,c,rfl,_,_,_⟩:=h;go_enter func191,ntmps191;go_wp2_with fail;go_ret2;exact⟨rfl,by
  exact a2⟩
theorem BH(YJ:l.length<6):
 Calls prog 191 #[v,.agg #[.int .i64 s,.bool d]] w fun e w'=> ∃v',e= .returned (.tuple #[v',.int .i64 0])/\de w' (fun b=>w.heap.size<=b) v' (l++ [⟨s,d⟩])/\Below w.heap.size w w':=by
 have x0:=fun w=>Co (l.length+1) J w;rw[show((l.length+1:Nat):Int)=(l.length:Int)+1 from rfl]at x0;obtain⟨A,c,rfl,h1,aaV,ZV⟩:=id h;have H:=I h;clear h h1 aaV ZV;generalize abi:l.length=n at*;have ZG:=I abi;clear abi;go_enter func191,ntmps191;have ZN:acr w S (.slice A n c) n 2 (iw l):=by have:=H.out;unfold de at this;rw[ZG.out]at this;exact this
 have Rk:=I ZN;clear ZN;have agd:=ah.new (w.alloc (.cells #[.int .i64 s,.bool d] 125)) 125 (madeCells #[.int .i64 0,.bool false] ((n+1)*2));obtain⟨w3,qC,Xl,ae7,ij⟩:=Lq ((Rk.out.alloc (.cells #[.int .i64 s,.bool d] 125)).alloc (.cells (madeCells #[.int .i64 0,.bool false] ((n+1)*2)) 125)) (hJ l _) am 62 62 3 125 g4 Af (dLen:=n+1) (dCap:=n+1) agd J (by rw[size_madeCells];omega);rw[World.size_alloc]at qC Xl ae7 ij;rw[World.size_alloc]at ae7 ij;have dI:(madeCells #[.int .i64 0,.bool false] ((n+1)*2)).size=(n+1)*2:=size_madeCells _ _;have tT:=cv n 2 (iw l);have Rl:=I Xl;have Zh: ∃u,w3.cell? ⟨w.heap.size+1,n*2,none⟩=some u:=by
  rw[Xl.cell];exact⟨_,Array.getElem?_eq_getElem (by rw[nu (by simp;omega)];omega)⟩
 have q1: ∃u,w3.cell? ⟨w.heap.size+1,n*2+1,none⟩=some u:=by
  rw[Xl.cell];exact⟨_,Array.getElem?_eq_getElem (by rw[nu (by simp;omega)];omega)⟩
 have f3:=fun i=>Xl.frozen i;have Wx:w3.cell? ⟨w.heap.size,0,none⟩=some (.int .i64 s):=by
  rw[ae7.cell (by simp;omega) aN];simp[go_sem]
 have aal:w3.cell? ⟨w.heap.size,1,none⟩=some (.bool d):=by
  rw[ae7.cell (by simp;omega) aN];simp[go_sem]
 obtain⟨abg,Zh⟩:=Zh;obtain⟨aeC,q1⟩:=q1;clear Xl agd dI tT;have adR:=I ae7;clear ae7;go_wp2_with(at_builtin;refine r2 _ rfl _ _ _ _ rfl _ _ rfl rfl qC ?_);go_ret2;have afN:=(Rl.out.hX (n*2) (.int .i64 s)).hX (n*2+1) (.bool d);have dI:(madeCells #[.int .i64 0,.bool false] ((n+1)*2)).size=(n+1)*2:=size_madeCells _ _;have tT:=cv n 2 (iw l);have fb:=nu (cs:=madeCells #[.int .i64 0,.bool false] ((n+1)*2)) (off:=0) (ds:=(bx n 2 (iw l)).toArray) (by simp;omega);have iR:=ZG.out;refine⟨_,rfl,?_,?_⟩
 ·have e:(l++ [(⟨s,d⟩:bO)]).length=n+1:=by simp[iR]
  show acr _ _ _ (l++ [(⟨s,d⟩:bO)]).length 2 _;rw[e];refine⟨_,_,rfl,ai _,by unfold maxLen;omega,fun _=>⟨_,0,rfl,Nat.le_succ _,afN.lt,fun i j u hi hu=>?_⟩⟩;rw[ax,afN.cell];by_cases c:i<n
  ·have abF:iw (l++ [(⟨s,d⟩:bO)]) i=iw l i:=by unfold iw;rw[aA J]
   rw[abF]at hu;have aeD:j<2:=by have:=(hJ l n i c).1;rw[<-this];exact(List.getElem?_eq_some_iff.1 hu).1
   rw[bk J,bk J];have acL:=Cn (cs:=madeCells #[.int .i64 0,.bool false] ((n+1)*2)) (off:=0) (ds:=(bx n 2 (iw l)).toArray) (by simp;omega) (j:=i*2+j) (by simp;omega);rw[ax]at acL;rw[acL,aE];exact pO (fun i hi=>(hJ l n i hi).1) c hu
  ·obtain rfl:i=n:=by omega
   have abF:iw (l++ [(⟨s,d⟩:bO)]) i= [.int .i64 s,.bool d]:=by unfold iw;rw[<-iR];simp
   rw[abF]at hu;rcases(by have:=(List.getElem?_eq_some_iff.1 hu).1;simp at this;omega:j=0\/j=1)with rfl|rfl
   ·rw[show i*2+0=i*2 from rfl,bk J,cr (by rw[fb];omega)];exact hu
   ·rw[cr (by simp;rw[fb];omega)];exact hu
 ·have L:=adR.out.below (B':=w.heap.size) J J;refine Below.setCell ?_ (Nat.le_succ _) _;refine Below.setCell ?_ (Nat.le_succ _) _;refine Below.trans ?_ L;exact a2
end
end
theorem Z1.set{S:Nat->Prop}(w:World)(p:Addr)(h: ¬S p.block)(u:Value):Z1 S w (w.setCell p u):=
 ⟨rfl,rfl,rfl,by simp[World.setCell],fun k _ YF=>by
   have:k≠p.block:=fun e=>h (e▸YF)
   exact Below.heap_setCell w p u k this⟩
theorem acr.KA{w:World}{S:Nat->Prop}{v:Value}{n sz g i:Nat}{u:Value}{F:Nat->List Value}(h:acr w S v n sz F)(afj: ¬S g):acr (w.setCell ⟨g,i,none⟩ u) S v n sz F:=
 h.Wu (Z1.set w ⟨g,i,none⟩ afj u)
theorem ya{a w:World}{g i j:Nat}{u v:Value}(h:Below g a w):Below g a ((w.setCell ⟨g,i,none⟩ u).setCell ⟨g,j,none⟩ v):=Below.setCell (p:=⟨g,j,none⟩) (Below.setCell (p:=⟨g,i,none⟩) h (ai _) u) (ai _) v
theorem Lr(w:World)(S:Nat->Prop)(v:Value)(h:de w S v []):
 Calls prog 192 #[v] w fun x w'=>x= .returned (.tuple #[.slice none 0 0,.agg #[.int .i64 0,.bool false],.int .i64 23])/\Below w.heap.size w w':=by
 obtain⟨A,c,rfl,_,_,_⟩:=h;rw[bR];go_enter func192,ntmps192;go_wp2_with fail;refine bodyPost_ret (v:=(.tuple #[.slice none 0 0,.agg #[.int .i64 0,.bool false],.int .i64 23])) (by simp only[results,results192];go_simp) rfl ⟨rfl,?_⟩;exact a2
theorem EO(w:World)(S:Nat->Prop)(v:Value)(pre:List bO)(s:Int)(d:Bool)(h:de w S v (pre++ [⟨s,d⟩]))(YJ:pre.length<=6):
 Calls prog 192 #[v] w fun x w'=> ∃v',x= .returned (.tuple #[v',.agg #[.int .i64 s,.bool d],.int .i64 0])/\de w' (fun b=>w.heap.size<=b) v' pre/\Below w.heap.size w w':=by
 obtain⟨A,c,rfl,h1,aaV,ZV⟩:=id h;have e:(pre++ [(⟨s,d⟩:bO)]).length=pre.length+1:=aN;obtain⟨_,b,off,rfl,YF,hb,Ae,eR⟩:=h.at_ (i:=pre.length) (e:=⟨s,d⟩) aN;have YQ:de w S (.slice (some ⟨b,off,none⟩) pre.length c) pre:=by
  ·have afY:=de.take h (i:=pre.length) (k:=pre.length) J J J;rw[List.take_left']at afY
   ·obtain⟨A',c',aal,q1,Xt,ada⟩:=afY;injection aal with aal abF acL
    subst aal;exact⟨_,c,rfl,J,aaV,ada⟩
   ·rfl
 rw[e]at h1⊢;have c7:c<=maxLen:=aaV;unfold maxLen at aaV;have H:=I YQ;clear h ZV YQ e;generalize abi:pre.length=n at*;have ZG:=I abi;clear abi;have adC: ∀w',Below w.heap.size w w'->w'.cell? ⟨b,off+n*2,none⟩=some (.int .i64 s):=fun w' g=>(g.cell (p:=⟨b,_,none⟩) hb).trans Ae;have aaK: ∀w',Below w.heap.size w w'->w'.cell? ⟨b,off+n*2+1,none⟩=some (.bool d):=fun w' g=>(g.cell (p:=⟨b,_,none⟩) hb).trans eR;clear Ae eR;go_enter func192,ntmps192;go_wp2_with fail;have Yq:Below w.heap.size w (w.alloc (.cells #[.int .i64 0,.bool false] 125)):=by
  exact a2
 have VN:Hid (acr (w.alloc (.cells #[.int .i64 0,.bool false] 125)) S (.slice (some ⟨b,off,none⟩) n c) n 2 (iw pre)):=by
  have:=H.out;unfold de at this;rw[ZG.out]at this;exact this.alloc _
 have qD:w.heap.size<(w.alloc (.cells #[.int .i64 0,.bool false] 125)).heap.size:=aN;have eN:=ah.new w 125 #[.int .i64 0,.bool false];have Rm:=I eN;clear eN;generalize(w.alloc (.cells #[.int .i64 0,.bool false] 125))=dw at*;have aa1:n<=c:=J;have agb:(n:Int)<(n:Int)+1:=J;have abj:(0:Int)<=(n:Int):=J;have afD:(n:Int)<=(c:Int):=J;go_region_held3 (fun w'=>Below w.heap.size w w') (first|exact Yq.drew|assumption|exact Yq.drew.trans (Below.mono (by assumption) (Nat.le_of_lt qD))|exact ya (by assumption))
  (first|(go_at_call 179;refine(jD _ S _ n _ VN.out.drew J (hJ _ _)).mono ?_;rintro e aaM ⟨v',rfl,bD,N⟩;have agd:=(ah.drew Rm.out).below N qD;have Wk:=agd.cell 0;have adO:=agd.cell 1;have Vw:=fun i=>agd.frozen i;have L1:=Yq.drew.trans (Below.mono N (Nat.le_of_lt qD))))
 all_goals
  go_wp2_with fail;refine bodyPost_ret (v:=.tuple #[v',.agg #[.int .i64 s,.bool d],.int .i64 0]) (by simp only[results,results192];go_simp) rfl ?_;have tU:=bD.mono (S':=fun b=>w.heap.size+1<=b) fun b _ h=>D qD h;refine⟨_,rfl,?_,by assumption⟩;show acr _ _ _ pre.length 2 _;rw[ZG.out];exact((tU.KA (Nat.not_succ_le_self _)).KA (Nat.not_succ_le_self _)).mono fun b _ h=>Nat.le_of_succ_le h
end Go.Proofs.YtcimojgkeoecfaaGreat
