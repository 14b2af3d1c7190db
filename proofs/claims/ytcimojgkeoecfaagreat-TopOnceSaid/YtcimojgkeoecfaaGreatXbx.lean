import Derived.Test.YtcimojgkeoecfaaGreatXbw
set_option linter.all false
set_option maxHeartbeats 16000000
set_option maxRecDepth 100000
namespace Go.Proofs.YtcimojgkeoecfaaGreat
open Go.RowKit Tryz
section
theorem mS{w:World}{b c:Nat}{e:TypeId}{sz:Nat}{v:Value}{n:Nat}{xs:List Value}(h:w.ownsRow b e sz v n xs)(hb:c<=b):w.ownsRow c e sz v n xs:=
 ⟨h.1,h.2.imp id fun⟨g,cap,cS,h1,aaV,ZV⟩=>⟨g,cap,cS,h1,D hb aaV,ZV⟩⟩
theorem vs(w:World)(S:Nat->Prop)(v:Value)(n:Nat)(F:Nat->List Value)(h:acr w S v n 2 F)(abi:n<=65536)(hF:hl n 2 F):
 Calls prog 254 #[v] w fun e w'=> ∃v',e= .returned v'/\w'.ownsRow w.heap.size 130 2 v' n (bx n 2 F)/\Below w.heap.size w w':=by
 obtain⟨aaX,iM,iN,iO,iP⟩:=info_parts cj;have gP:=fun i hi=>(hF i hi).1;have fh:=hF.flat (by decide:0<2);obtain⟨A,c,rfl,h1,aaV,ZV⟩:=id h;have gC:n<=maxLen:=by unfold maxLen;omega
 cases A with
 |none=>
  have eN:n=0:=by
   rcases aQ n with h|h
   ·exact h
   ·obtain⟨b,off,e,_⟩:=ZV h;cases e
  subst eN;clear h ZV hF gP fh abi h1 aaV gC iM iN iO iP;have mq:=fun w=>Lib.run_eql_slice_nil (P:=prog) w _ _ none 0 c 0 0 bw;go_enter func254,ntmps254;go_wp2_with fail;go_ret;exact⟨_,rfl,World.ownsRow_nil _ _ _ _,by
   exact a2⟩
 |some afF=>
  have H:=I h;have lZ:=I gP;have mr:=I fh;have ZG:=I abi;have ms:=I gC;clear h ZV hF gP fh abi h1 aaV gC;have mq:=fun w=>Lib.run_eql_slice_nil (P:=prog) w _ _ (some afF) n c 0 0 bw;have mv:=I (H.out.news lZ.out am);go_enter func254,ntmps254;go_wp2_with(at_builtin;refine wpList_append_own _ rfl _ _ 58 rfl w.heap.size 130 aaX (.agg #[.int .i64 0,.int .i64 0]) 2 16 bw iM iN iO iP rfl am _ _ _ rfl (World.ownsRow_made w #[] 0 (ai _) (aL _) rfl) afF n c (bx n 2 F) rfl (cv _ _ _) (mv.out _ (World.dY _ _)) mr.out (by rw[ax];exact ms.out) (by have:=ZG.out;omega) aN ?_;intro v' w' ZQ afj _;rw[au,ax]at ZQ);exact kL
theorem Kj(w0:World)(aff rg:Nat)(a4 aaY:Int)(l:List Ext)(cV:l.length<=65536)(afj:cY w0 aff rg a4 aaY l):
 Calls prog 177 #[.pointer (some ⟨aff,0,none⟩)] w0 fun e w'=> ∃v',e= .returned v'/\w'.ownsRow w0.heap.size 130 2 v' l.length (bx l.length 2 (eP l))/\Below w0.heap.size w0 w':=by
 have key: ∃S v,ah w0 aff 363 ([.int .i64 a4,.int .i64 aaY,v]:List Value).toArray/\acr w0 S v l.length 2 (eP l):=by
  exact nZ
 obtain⟨S,v,hb,YF⟩:=key;have aeO:=I YF;have ZG:=I cV;have aav:=I hb;have U:=aah.g8 hb;clear YF cV afj hb;go_enter func177,ntmps177;go_wp2_with(first|(go_at_call 254;have dI:=U.ro aav.out (by with_reducible first|exact cX|exact kw|exact r3);refine Calls.mono (vs _ S _ _ _ (aeO.out.below (U.ro aav.out (by with_reducible first|exact cX|exact kw|exact r3))) ZG.out (kn _ _)) ?_;rintro e aaM ⟨Zv,rfl,h2,N⟩;replace U:=U.below N)|(refine aaO U ?_));go_ret;exact⟨_,rfl,mS h2 dI.size,U.ro aav.out (by exact cX)⟩
theorem H1{w0:World}{B:WB}{p:afy}{F:b1}{n:Nat}{W:Wd}(h:df w0 B p F n W)(YJ:W.fr.length<=65536):
 Calls prog 101 #[.pointer (some ⟨B.aeh,0,none⟩)] w0 fun e w'=> ∃v,e= .returned v/\w'.ownsRow w0.heap.size 130 2 v W.fr.length (bx W.fr.length 2 (eP W.fr))/\Below w0.heap.size w0 w':=by
 have hb:=h.wd;have aav:=I hb;have aaq:=I h.gr;have U:=aah.g8 hb;clear h hb;go_enter func101,ntmps101;go_wp2_with(first|(go_at_call 177;have dq:=U.ro aav.out ag;refine Calls.mono (Kj _ _ _ _ _ W.fr YJ (aaq.out.Wu (dq.block _ aaq.out.lt.1) (dq.block _ aaq.out.lt.2))) ?_;rintro e aaM ⟨v',rfl,hv,N⟩;replace U:=U.below N)|(refine aaO U ?_));go_ret;exact⟨_,rfl,mS hv dq.size,U.ro aav.out ag⟩
variable(w0:World)(B:WB)(h:gB w0 B)
include h
theorem zZ:Calls prog 79 #[.agg ([.int .i64 2,.int .i64 1,.int .i64 0,.int .i64 64]:List Value).toArray,.pointer (some ⟨B.aeh,0,none⟩)] w0 fun e w'=>e= .returned (.int .i64 0)/\Below w0.heap.size w0 w':=by
 have H:=I h;have U:=aah.a0 w0;clear h;have Yl:=I (show∀w',Calls prog 153 #[.agg #[.int .i64 2,.int .i64 1,.int .i64 0,.int .i64 64]] w' fun x du=>x= .returned (.tuple #[.agg #[.int .i64 128,.int .i64 64],.int .i64 0])/\Below w'.heap.size w' du from fun w'=>pR 2 1 0 64 w' (I am) am am);go_enter func79,ntmps79;go_upto_region 1 with(refine Ws U 27 ?_;clear U;intro aff w U Hr)
 go_upto_region 2 with(first|(refine VP U xc ?_;clear U;intro gk w U tt)|(refine aq ?_)|(refine ac2 U ?_;clear U;intro w U))
 go_upto_region 3 with(first|(go_at_call 101;refine Calls.mono (H1 (H.out.below U.all) (by rw[QY];decide)) ?_;rintro e aaM ⟨v,rfl,hv,N⟩;have Q1:=I U.size;have Wr:=(U.b (g:=gk) (by with_reducible first|exact cX|exact kw)).lt;have Yb:=(U.b (g:=aff) (by with_reducible first|exact cX|exact kw)).lt;replace U:=U.below N;clear N;rw[QY]at hv;obtain⟨A,c,rfl⟩: ∃A c,v= .slice A 0 c:=(by rcases hv.2 with⟨rfl,_⟩|⟨g,cap,_,rfl,_⟩<;>exact⟨_,_,rfl⟩))|(refine aq ?_)|(refine ac2 U ?_;clear U;intro w U))
 have aeO:=I (show∀j,(Value.slice A 0 c).ownBlock=some j->bq none [⟨gk,165,[.int .i64 2,.int .i64 1,.int .i64 0,.int .i64 64,.pointer (some ⟨B.aeh,0,none⟩)]⟩,⟨aff,27,[.int .i64 2,.int .i64 1,.int .i64 0,.int .i64 64]⟩] j from fun j aeD=>⟨fun x Wy e=>by have:=(hv.lt j aeD).1;simp only[ad,E,av]at Wy;rcases Wy with rfl|rfl<;>(simp only at e;omega),fun a e=>by cases e⟩);have WS:=I (show∀j,(Value.slice A 0 c).ownBlock=some j->w0.heap.size<=j from fun j aeD=>D Q1.out (hv.lt j aeD).1);have abx:=I (show aaM.ownsRow 0 130 2 (.slice A 0 c) 0 []from mS hv (aL _));have aaH:=U;replace U:=aaH.base;clear hv Wr Yb Q1;go_upto_region 4 with(first|(go_at_call 148;refine a6 U (Kf _ A c _) ?_;clear U;intro aaM U)|(refine aq ?_)|(refine ac2 U ?_;clear U;intro w U))
 go_upto_region 6 with(first|(refine aq ?_)|(refine ac2 U ?_;clear U;intro w U))
 refine wp_loop_rounds 3 ?_;rw[rounds_succ];go_upto_region 8 with fail
 go_upto_region 9 with(first|(go_at_call 150;refine a6 U (BA _ B (H.out.below (aaH.back U).all)) ?_;clear U;intro aaM U)|(refine aq ?_)|(refine ac2 U ?_;clear U;intro w U))
 have Q2:=U.size;replace U:=U.new 130 [.int .i64 128,.int .i64 0];generalize aaM.alloc (.cells ([.int .i64 128,.int .i64 0]:List Value).toArray 130)=U5 at*;generalize aaM.heap.size=afL at*;have aaK:=U.cell (g:=afL) (i:=1) cX rfl;go_wp2_with fail;clear aaK;rw[rounds_succ];go_upto_region 8 with fail
 go_upto_region 9 with(first|(go_at_call 150;refine a6 U (BB _ B (H.out.below (aaH.back U).all)) ?_;clear U;intro aaM U)|(refine aq ?_)|(refine ac2 U ?_;clear U;intro w U))
 have Q3:=U.size;replace U:=U.new 130 [.int .i64 128,.int .i64 64];generalize aaM.alloc (.cells ([.int .i64 128,.int .i64 64]:List Value).toArray 130)=U6 at*;generalize aaM.heap.size=aaL at*;have aaK:=U.cell (g:=aaL) (i:=1) cX rfl;go_upto_region 12 with fail
 clear aaK;go_upto_region 13 with(first|(refine dE U rfl 58 130 _ rfl _ [.int .i64 128,.int .i64 64] rfl rfl (.agg #[.int .i64 0,.int .i64 0]) 2 16 bw cj rfl am am ?_;clear U;intro di w U dO;refine cN ?_)|(refine g0 U abx.out (fun j aeD=>aeO.out j aeD) rfl _ _ 58 rfl (.agg #[.int .i64 0,.int .i64 0]) 16 bw cj rfl am rfl ⟨di,0,none⟩ 1 1 [.int .i64 128,.int .i64 64] rfl rfl am (U.news ag) rfl am am ?_;have NM:=U.size;clear U;intro g' cW lL w U e8 lm;refine cN ?_)|(refine aq ?_)|(refine ac2 U ?_;clear U;intro w U))
 have YF:=aaH.size;have TO:w0.heap.size<=g':=by
  rcases e8 with e8|e8
  ·exact WS.out _ e8
  ·exact D YF (D NM e8)
 replace U:=aah.Qt (T:=fun _=>True) (aaH.j5 U) (fun b hb _=>⟨trivial,fun e=>by have:=WS.out b e;omega⟩) (by simp only[ad,E,av];rintro x (rfl|rfl|rfl|rfl|rfl|rfl)<;>(simp only;omega));simp only[au,aU]at U;clear abx aeO WS aaH e8 lm dO Q2 Q3 YF TO NM;go_wp2_with fail;rw[rounds_succ];go_upto_region 15 with(first|(go_at_call 151;refine Calls.mono (HU _ _ _ _) ?_;rintro e aaM ⟨rfl,rfl⟩;skip)|(refine aq ?_)|(refine ac2 U ?_;clear U;intro w U))
 go_upto_region 16 with(first|(go_at_call 153;refine a6 U (Yl.out _) ?_;clear U;intro aaM U)|(refine aq ?_)|(refine ac2 U ?_;clear U;intro w U))
 have Q4:=U.size;replace U:=U.new 130 [.int .i64 128,.int .i64 64];generalize aaM.alloc (.cells ([.int .i64 128,.int .i64 64]:List Value).toArray 130)=NN at*;generalize aaM.heap.size=adE at*;have aaK:=U.cell (g:=adE) (i:=1) cX rfl;go_upto_region 17 with(first|(refine aq ?_)|(refine ac2 U ?_;clear U;intro w U))
 clear aaK Q4;go_wp2_with fail;refine wp_loop_rounds 2 ?_;rw[rounds_succ];have ZP:=I (show∀(j:Nat) (v:Value),([.int .i64 128,.int .i64 64]:List Value)[j]? =some v->NN.cell? ⟨g',0+j,none⟩=some v from fun j v aeD=>by
  rcases j with _|_|j
  ·cases aeD;exact U.cell (g:=g') (i:=0) ag rfl
  ·cases aeD;exact U.cell (g:=g') (i:=1) ag rfl
  ·simp at aeD)
 go_upto_region 20 with(refine adD ZP.out ?_ rfl)
 clear ZP;have Q5:=U.size;replace U:=U.new 130 [.int .i64 128,.int .i64 64];generalize NN.alloc (.cells ([.int .i64 128,.int .i64 64]:List Value).toArray 130)=U7 at*;generalize NN.heap.size=Xz at*;have aaK:=U.cell (g:=Xz) (i:=1) cX rfl;clear aaK Q5;go_wp2_with(refine aaO U ?_);rw[rounds_succ];go_wp2_with(first|(go_at_call 144;refine Calls.mono (zW _) ?_;rintro e aaM ⟨rfl,rfl⟩;skip)|(refine aaO U ?_));go_ret;exact⟨rfl,U.all⟩
end
section
section
variable(w:World)(A:Option Addr)(c:Nat)(af9:Value)
include w A c af9
theorem Kk:Calls prog 243 #[.slice A 0 c,af9] w fun e w'=>e= .returned (.int .i64 (-1))/\w=w':=by
 go_enter func243,ntmps243;exact lc
theorem H2:Calls prog 162 #[.slice A 0 c,af9] w fun e w'=>e= .returned (.bool false)/\w=w':=by
 go_enter func162,ntmps162;go_wp2_with fail;refine Calls.mono (Kk _ A c af9) ?_;rintro e aaM ⟨rfl,rfl⟩;go_wp2_with fail;go_ret;exact⟨rfl,rfl⟩
theorem Kl:Calls prog 85 #[.slice A 0 c,af9] w fun e w'=>e= .returned (.bool true)/\Below w.heap.size w w':=by
 go_enter func85,ntmps85;have U:=aah.a0 w;go_upto_region 1 with(refine Ws U 177 ?_;clear U;intro aca w U VW)
 go_wp2_with fail;refine Calls.mono (H2 _ A c _) ?_;rintro e aaM ⟨rfl,rfl⟩;go_wp2_with fail;go_ret;exact⟨rfl,U.all⟩
end
variable(w0:World)(B:WB)(h:gB w0 B)
include h
theorem z0:Calls prog 84 #[.agg ([.int .i64 2,.int .i64 1,.int .i64 0,.int .i64 64,.pointer (some ⟨B.aeh,0,none⟩)]:List Value).toArray,.int .i64 0] w0 fun e w'=>e= .returned (.tuple #[.slice none 0 0,.int .i64 0])/\Below w0.heap.size w0 w':=by
 have H:=I h;have U:=aah.a0 w0;clear h;have aeF:=I (show∀w',Below w0.heap.size w0 w'->Calls prog 81 #[.agg ([.int .i64 2,.int .i64 1,.int .i64 0,.int .i64 64,.pointer (some ⟨B.aeh,0,none⟩)]:List Value).toArray,.int .i64 1,.int .i64 0] w' fun e du=>e= .returned (.int .u64 128)/\Below w'.heap.size w' du from fun w' hb=>by
  have h1:=ib w' B (gB.below H.out hb) 1 0 1 am am rfl;rw[show W1.V 1=128 by kernel_rfl]at h1;exact h1)
 have W6:=I (show∀w',Below w0.heap.size w0 w'->Calls prog 81 #[.agg ([.int .i64 2,.int .i64 1,.int .i64 0,.int .i64 64,.pointer (some ⟨B.aeh,0,none⟩)]:List Value).toArray,.int .i64 3,.int .i64 0] w' fun e du=>e= .returned (.int .u64 0)/\Below w'.heap.size w' du from fun w' hb=>by
  have h1:=ib w' B (gB.below H.out hb) 3 0 3 am am rfl;rw[show W1.V 3=0 by kernel_rfl]at h1;exact h1)
 have adW:=I fun w'=>bm 0 0 1 w' am am;go_enter func84,ntmps84;go_upto_region 1 with(refine Ws U 165 ?_;clear U;intro gk w U tt)
 go_upto_region 2 with(first|(go_at_call 80;refine a6 U (tE _ B (H.out.below U.all)) ?_;clear U;intro aaM U)|(refine aq ?_)|(refine ac2 U ?_;clear U;intro w U))
 replace U:=U.new 56 [.int .i64 2,.int .i64 1,.int .i64 (-1),.int .i64 0];generalize aaM.alloc (.cells ([.int .i64 2,.int .i64 1,.int .i64 (-1),.int .i64 0]:List Value).toArray 56)=aa3 at*;generalize aaM.heap.size=gc at*;have VI:=U.cell (g:=gc) (i:=0) cX rfl;have acZ:=U.cell (g:=gk) (i:=0) kw rfl;go_upto_region 4 with(first|(go_at_call 104;refine Calls.mono (adW.out _) ?_;rintro e aaM ⟨rfl,rfl⟩;skip)|fail)
 clear VI acZ;replace U:=U.drew;refine wp_region_held_drew (S:=(c0 [⟨gk,165,[.int .i64 2,.int .i64 1,.int .i64 0,.int .i64 64,.pointer (some ⟨B.aeh,0,none⟩)]⟩])) aM ?_ (fun X=>?_)
 ·exact U.bG aN
 refine az [[0,1,4,5]] ?_;refine aF 2 fun K Z7=>?_;go_simp
 (go_at_call 81;refine a6 U (aeF.out _ U.all) ?_;clear U;intro aaM U)
 go_wp2_with fail;refine WE Z7 fun X=>?_;refine Xh 3 ?_;refine aF 6 fun K Z7=>?_;go_simp
 (go_at_call 81;refine a6 U (W6.out _ U.all) ?_;clear U;intro aaM U)
 go_wp2_with fail;refine WE Z7 fun X=>?_;refine az [[7,8,9]] ?_;go_wp2_with fail;refine wp_loop_rounds 1 ?_;rw[rounds_succ];go_wp2_with fail;go_ret2;exact⟨rfl,U.all⟩
theorem En:Calls prog 83 #[.agg ([.int .i64 2,.int .i64 1,.int .i64 0,.int .i64 64]:List Value).toArray,.pointer (some ⟨B.aeh,0,none⟩),.int .u64 0,.int .i64 0] w0 fun e w'=>e= .returned (.bool true)/\Below w0.heap.size w0 w':=by
 have H:=I h;have U:=aah.a0 w0;clear h;go_enter func83,ntmps83;go_upto_region 1 with(refine Ws U 27 ?_;clear U;intro aff w U Hr)
 go_wp2_with fail;go_ret;exact⟨rfl,U.all⟩
theorem BC(aff abQ gs:Nat)(aeJ:ah w0 aff 27 ([.int .i64 2,.int .i64 1,.int .i64 0,.int .i64 64]:List Value).toArray)(afl:w0.cell? ⟨abQ,0,none⟩=some (.pointer (some ⟨B.aeh,0,none⟩)))(YF:w0.cell? ⟨gs,0,none⟩=some (.int .i64 0)):Calls prog 82 #[.int .u64 0,.pointer (some ⟨aff,0,none⟩),.pointer (some ⟨abQ,0,none⟩),.pointer (some ⟨gs,0,none⟩)] w0 fun e w'=>e= .returned (.bool true)/\Below w0.heap.size w0 w':=by
 have H:=I h;have ady:=I (fun(j:Nat) (v:Value) (aeD:([.int .i64 2,.int .i64 1,.int .i64 0,.int .i64 64]:List Value)[j]? =some v)=>(show w0.cell? ⟨aff,0+j,none⟩=some v by
  unfold ah at aeJ;simp only[World.cell?,ax,aeJ];simpa using aeD))
 clear h aeJ;go_enter func82,ntmps82;go_wp2_with(refine adD ady.out ?_ rfl);refine(En _ B H.out).mono ?_;rintro e aaM ⟨rfl,N⟩;go_wp2_with fail;go_ret;exact⟨rfl,N⟩
end
section
variable(w0:World)(B:WB)(h:gB w0 B)
include h
theorem Eo:Calls prog 35 #[.agg ([.int .i64 2,.int .i64 1,.int .i64 0,.int .i64 64]:List Value).toArray,.pointer (some ⟨B.aeh,0,none⟩)] w0 fun e w'=>e= .returned (.int .i64 0)/\Below w0.heap.size w0 w':=by
 have H:=I h;have U:=aah.a0 w0;clear h;have Y7:=I fun w'=>kJ 2 1 0 64 w' am;have ab7: ∀args w,(callFunc 82 args).run prog w= .ok (.enter 82 args) w:=enters_of func82 aM rfl;have adi:=I (show∀w',Below w0.heap.size w0 w'->Calls prog 81 #[.agg ([.int .i64 2,.int .i64 1,.int .i64 0,.int .i64 64,.pointer (some ⟨B.aeh,0,none⟩)]:List Value).toArray,.int .i64 4,.int .i64 0] w' fun e du=>e= .returned (.int .u64 0)/\Below w'.heap.size w' du from fun w' hb=>by
  have h1:=ib w' B (gB.below H.out hb) 4 0 4 am am rfl;rw[show W1.V 4=0 by kernel_rfl]at h1;exact h1)
 have aeF:=I (show∀w',Below w0.heap.size w0 w'->Calls prog 81 #[.agg ([.int .i64 2,.int .i64 1,.int .i64 0,.int .i64 64,.pointer (some ⟨B.aeh,0,none⟩)]:List Value).toArray,.int .i64 4,.int .i64 1] w' fun e du=>e= .returned (.int .u64 0)/\Below w'.heap.size w' du from fun w' hb=>by
  have h1:=ib w' B (gB.below H.out hb) 4 1 12 am am rfl;rw[show W1.V 12=0 by kernel_rfl]at h1;exact h1)
 go_enter func35,ntmps35;go_upto_region 1 with(first|(refine Ws U 27 ?_;clear U;intro aff w U Hr)|(refine Ws U 50 ?_;clear U;intro abQ w U NM))
 go_upto_region 3 with(first|(go_at_call 77;refine a6 U (Y7.out _) ?_;clear U;intro aaM U)|(refine aq ?_)|(refine ac2 U ?_;clear U;intro w U))
 go_upto_region 4 with(first|(refine VP U xc ?_;clear U;intro gk w U tt)|(refine aq ?_)|(refine ac2 U ?_;clear U;intro w U))
 go_upto_region 5 with(first|(go_at_call 78;refine a6 U (Bz _ B (H.out.below U.all)) ?_;clear U;intro aaM U)|(refine aq ?_)|(refine ac2 U ?_;clear U;intro w U))
 go_upto_region 7 with fail
 go_upto_region 8 with(first|(go_at_call 79;refine a6 U (zZ _ B (H.out.below U.all)) ?_;clear U;intro aaM U)|(refine aq ?_)|(refine ac2 U ?_;clear U;intro w U))
 go_upto_region 10 with fail
 have abz:=U.cell (g:=aff) (i:=0) ag rfl;go_upto_region 11 with fail
 clear abz;refine wp_loop_rounds 3 ?_;rw[rounds_succ];go_upto_region 13 with fail
 replace U:=U.new 3 [.int .i64 0];generalize aaM.alloc (.cells ([.int .i64 0]:List Value).toArray 3)=U8 at*;generalize aaM.heap.size=gs at*;go_upto_region 14 with(first|(go_at_call 80;refine a6 U (tE _ B (H.out.below U.all)) ?_;clear U;intro aaM U)|(refine aq ?_)|(refine ac2 U ?_;clear U;intro w U))
 replace U:=U.new 56 [.int .i64 2,.int .i64 1,.int .i64 (-1),.int .i64 0];generalize aaM.alloc (.cells ([.int .i64 2,.int .i64 1,.int .i64 (-1),.int .i64 0]:List Value).toArray 56)=U9 at*;generalize aaM.heap.size=gc at*;go_upto_region 15 with(first|(go_at_call 81;refine a6 U (adi.out _ U.all) ?_;clear U;intro aaM U)|(refine aq ?_)|(refine ac2 U ?_;clear U;intro w U))
 go_upto_region 16 with(first|(refine VP U (z:=.nilFunc) aM (ds:= [.nilFunc]) ?_;clear U;intro aca w U Va)|(refine aq ?_)|(refine ac2 U ?_;clear U;intro w U))
 go_upto_region 21 with(refine aaO U ?_)
 go_upto_region 24 with(first|(go_at_call 84;refine a6 U (z0 _ B (H.out.below U.all)) ?_;clear U;intro aaM U)|(refine aq ?_)|(refine ac2 U ?_;clear U;intro w U))
 go_wp2_with(first|(go_at_call 82;refine a6 U (BC _ B (H.out.below U.all) aff abQ gs (U.b (g:=aff) ag) (U.cell (g:=abQ) (i:=0) ag rfl) (U.cell (g:=gs) (i:=0) ag rfl)) ?_;clear U;intro aaM U)|(go_at_call 85;refine a6 U (Kl _ _ _ _) ?_;clear U;intro aaM U)|(refine aaO U ?_));rw[rounds_succ];go_upto_region 13 with fail
 replace U:=U.new 3 [.int .i64 1];generalize aaM.alloc (.cells ([.int .i64 1]:List Value).toArray 3)=Vb at*;generalize aaM.heap.size=gt at*;go_upto_region 14 with(first|(go_at_call 80;refine a6 U (xR _ B (H.out.below U.all)) ?_;clear U;intro aaM U)|(refine aq ?_)|(refine ac2 U ?_;clear U;intro w U))
 replace U:=U.new 56 [.int .i64 1,.int .i64 0,.int .i64 (-1),.int .i64 0];generalize aaM.alloc (.cells ([.int .i64 1,.int .i64 0,.int .i64 (-1),.int .i64 0]:List Value).toArray 56)=Vc at*;generalize aaM.heap.size=Wp at*;go_upto_region 15 with(first|(go_at_call 81;refine a6 U (aeF.out _ U.all) ?_;clear U;intro aaM U)|(refine aq ?_)|(refine ac2 U ?_;clear U;intro w U))
 go_upto_region 16 with(first|(refine VP U (z:=.nilFunc) aM (ds:= [.nilFunc]) ?_;clear U;intro ge w U TP)|(refine aq ?_)|(refine ac2 U ?_;clear U;intro w U))
 go_wp2_with(refine aaO U ?_);rw[rounds_succ];go_wp2_with fail;go_ret;exact⟨rfl,U.all⟩
end
theorem acr.and{w:World}{S T:Nat->Prop}{v:Value}{n sz:Nat}{F:Nat->List Value}(h:acr w S v n sz F)(afq: ∀b,v.ownBlock=some b->T b):acr w (fun b=>S b/\T b) v n sz F:=by
 obtain⟨A,c,rfl,h1,aaV,ZV⟩:=h;exact⟨A,c,rfl,h1,aaV,fun abi=>by
  obtain⟨b,off,rfl,YF,Ya⟩:=ZV abi;exact⟨b,off,rfl,⟨YF,afq b rfl⟩,Ya⟩⟩
theorem Ku{w:World}{B:Nat}{v:abM}{s:h9}(h:a7 w B v s):eF w (fun b=>B<=b/\b≠v.aff) (.slice (some ⟨v.aca,0,none⟩) 8 v.acR) (bX s) v.af9:=
 ⟨acr.and h.eF.row fun b hb=>by
   have:v.aca=b:=by simpa [Value.ownBlock]using hb
   rw[<-this]
   exact h.afR.ne h.aft am,fun i l YJ=>acr.and (h.eF.each i l YJ) fun b hb e=>by
   obtain⟨hi,_⟩:=kT YJ
   exact dW (h.fr i hi) h.aft am (e▸hb)⟩
theorem sw{w:World}{b:Nat}{v:abM}(h:a7 w b v aeB): ∃adJ V8,v.afa= .slice adJ 0 V8:=by
 have aeJ:=h.pi;rw[show aeB.cp= [] by kernel_rfl]at aeJ;rcases aeJ.2 with⟨e,_⟩|⟨g,cap,_,e,_⟩<;>exact⟨_,_,e⟩
theorem Lg(v:abM)(adJ:Option Addr)(V8:Nat)(h:v.afa= .slice adJ 0 V8):gy aeB.p v= [.int .i64 2,.int .i64 1,.int .i64 0,.int .i64 64,.slice (some ⟨v.aca,0,none⟩) 8 v.acR,.slice (some ⟨v.aff,0,none⟩) 1 v.VY,.slice adJ 0 V8]:=by
 rw[m1];unfold gy;rw[h];rfl
theorem NS(w0:World)(aak:Value)(hb:acr w0 (fun _=>True) aak 12 1 fun i=> [.int .u8 (Ej i)]):Calls prog 11 #[aak,.int .i64 9] w0 fun e w'=>(∃bs os cs VS adZ ZJ XF,e= .returned (.tuple #[.agg #[.int .i64 2,.int .i64 1,.int .i64 0,.int .i64 64,.slice (some ⟨bs,os,none⟩) 1 cs,.slice (some ⟨VS,0,none⟩) 1 adZ,.int .i64 1,.int .i64 0,.bool true,.int .i64 0],.int .i64 0])/\∀(j:Nat) (v:Value),([.int .i64 0,.int .u8 2,.int .u8 0,.int .u8 0,.int .u8 0,.int .i64 64,.int .i64 0,.int .i64 0,.int .i64 0,.int .i64 0,.int .i64 0,.int .i64 0,.int .i64 1,.slice ZJ 0 XF]:List Value)[j]? =some v->w'.cell? ⟨bs,os+j,none⟩=some v)/\Below w0.heap.size w0 w':=by
 have U:=aah.a0 w0;have acH:=I (show∀w',Below w0.heap.size w0 w'->Calls prog 30 #[aak] w' fun x du=> ∃v adJ V8,x= .returned (.agg ([.int .i64 2,.int .i64 1,.int .i64 0,.int .i64 64,.slice (some ⟨v.aca,0,none⟩) 8 v.acR,.slice (some ⟨v.aff,0,none⟩) 1 v.VY,.slice adJ 0 V8]:List Value).toArray)/\v.afa= .slice adJ 0 V8/\a7 du w'.heap.size v aeB/\Below w'.heap.size w' du from fun w' h'=>(HE w' (fun _=>True) aak 12 Ej (hb.below h') B9 am).mono fun x du ⟨v,Wy,YF,be⟩=>by
  obtain⟨adJ,V8,aeJ⟩:=sw YF;exact⟨v,adJ,V8,by rw[Wy,<-Lg v adJ V8 aeJ];rfl,aeJ,YF,be⟩)
 have Zu:=I (show∀w' b v adJ V8,v.afa= .slice adJ 0 V8->a7 w' b v aeB->Calls prog 31 #[.agg ([.int .i64 2,.int .i64 1,.int .i64 0,.int .i64 64,.slice (some ⟨v.aca,0,none⟩) 8 v.acR,.slice (some ⟨v.aff,0,none⟩) 1 v.VY,.slice adJ 0 V8]:List Value).toArray] w' _ from fun w' b v adJ V8 aeJ h'=>Lg v adJ V8 aeJ▸wB w' b (e5 aeB.p) v aeB h' hW (rU hW.p));clear hb;go_enter func11,ntmps11;go_upto_region 1 with(refine VP U (z:=.agg ([.int .i64 0,.int .i64 0,.int .i64 0,.int .i64 0,.slice none 0 0,.slice none 0 0,.int .i64 0,.int .i64 0,.bool false,.int .i64 0]:List Value).toArray) aM (ds:= [.int .i64 0,.int .i64 0,.int .i64 0,.int .i64 0,.slice none 0 0,.slice none 0 0,.int .i64 0,.int .i64 0,.bool false,.int .i64 0]) ?_;clear U;intro gr w U Bq)
 go_upto_region 3 with fail
 go_wp2_with fail;have Q8:=I U.size;refine Calls.mono (acH.out _ U.all) ?_;rintro e WW ⟨v,adJ,V8,rfl,v3,lg,be⟩;have WZ:=I (U.b (g:=gr) cX).lt;replace U:=U.below be;clear be;go_upto_region 4 with fail
 replace U:=U.new 32 [.int .i64 2,.int .i64 1,.int .i64 0,.int .i64 64,.slice (some ⟨v.aca,0,none⟩) 8 v.acR,.slice (some ⟨v.aff,0,none⟩) 1 v.VY,.slice adJ 0 V8];have c5:=U.size;have fB:Below WW.heap.size WW (WW.alloc (.cells ([.int .i64 2,.int .i64 1,.int .i64 0,.int .i64 64,.slice (some ⟨v.aca,0,none⟩) 8 v.acR,.slice (some ⟨v.aff,0,none⟩) 1 v.VY,.slice adJ 0 V8]:List Value).toArray 32)):=(Below.refl _ _).alloc (ai _) _;have tj:=lg.below fB;have aaj:=I (And.intro lg.ge (And.intro lg.aft.lt lg.afR.lt));clear lg;generalize WW.alloc (.cells ([.int .i64 2,.int .i64 1,.int .i64 0,.int .i64 64,.slice (some ⟨v.aca,0,none⟩) 8 v.acR,.slice (some ⟨v.aff,0,none⟩) 1 v.VY,.slice adJ 0 V8]:List Value).toArray 32)=w3 at*;have BK:=(U.b (g:=WW.heap.size) cX).lt;generalize afj:WW.heap.size=gs at*;clear fB afj;go_wp2_with(refine Ww U ?_);refine Calls.mono (Zu.out _ _ _ _ _ v3 tj) ?_;rintro e acJ ⟨B,rfl,ae9,h3,gS⟩;have Xc:=I (((Ku tj).mono (S':=fun b=>b≠v.aff/\b<w3.heap.size) fun b h1 aaV=>⟨aaV.2,h1⟩).below h3);replace U:=U.below h3;have lE:=h3.size;obtain⟨abl,kj,fh,p6,rV⟩:=ae9.QE v.aff w3.heap.size (aj tj.aft.lt lE) tj.aft.lt gS;rw[<-kj];have YI:=I (And.intro p6 rV);clear ae9 gS tj p6 rV fh kj h3 Zu acH v3;go_wp2_with(refine aaO U ?_);refine Calls.mono (J9 _ abl adJ V8 YI.out.1 (fun b hb=>(YI.out.2 b hb).2)) ?_;rintro e Wo ⟨Xl,rfl,Q9,Ra,ae3⟩;have ad2:=aaj.out;have Rb:=WZ.out;have tc: ∀b,b<w3.heap.size->b≠v.aff->aaJ abl aeB.p.t.toNat b:=fun b h1 aaV hm=>by
  rcases(YI.out.2 b hm).1 with e|e
  ·exact aaV e
  ·omega
 have afl:=Q8.out;replace U:=aah.Ca (S:=fun _=>True) U ae3 (fun b hb _=>tc b J J) (by simp only[ad,E,av];rintro x (rfl|rfl)<;>exact tc _ (by simp only;omega) (by simp only;omega));have adU:=I (Xc.out.Wu ⟨ae3.os,ae3.tape,ae3.output,ae3.size,fun b hb YF=>ae3.block b hb (tc b YF.2 YF.1)⟩);rw[<-Q9];have Xe:=I Ra;have TU:=I (And.intro ad2.2.2 (And.intro BK (aj Rb ad2.1.1)));have TV:=ae3.size;clear tc ae3 Ra Q9 YI Xc ad2 Rb afl WZ aaj Q8 c5;go_wp2_with fail;refine Calls.mono (BT _ _ _ _ _ _ Xe.out (by rw[HO];decide) (by rw[HO];intro o ZQ;simp only[ad,E,av]at ZQ;subst ZQ;decide)) ?_;rintro e ae5 ⟨u,acB,rfl,hm,lK,hu,tn⟩;rw[HO]at hm;rcases acB with _|⟨⟨q,ad3⟩,acB⟩
 ·cases hm
 obtain⟨rfl,nc⟩:=List.cons.inj hm;obtain rfl:acB= []:=List.map_eq_nil_iff.1 nc;have VX:=lK _ (a8 ..);obtain⟨ZJ,XF,rfl⟩: ∃A c,ad3= .slice A 0 c:=by
  obtain⟨A,c,e,-⟩:=VX;exact⟨A,c,e⟩
 obtain⟨WY,cs,rfl,-,-,ZV⟩:=hu;obtain⟨bs,os,rfl,xT,bV,c3⟩:=ZV (by show 0<1;decide);have VN:=I (show∀(j:Nat) (v:Value),([.int .i64 0,.int .u8 2,.int .u8 0,.int .u8 0,.int .u8 0,.int .i64 64,.int .i64 0,.int .i64 0,.int .i64 0,.int .i64 0,.int .i64 0,.int .i64 0,.int .i64 1,.slice ZJ 0 XF]:List Value)[j]? =some v->ae5.cell? ⟨bs,os+j,none⟩=some v from fun j v aeD=>by
  have:=c3 0 j v (by show 0<1;decide) aeD;simpa using this)
 have WS:=I (And.intro xT bV);have ac3:=I (adU.out.below tn);have Xa:=I (gB.below Xe.out tn);replace U:=U.below tn;have TW:=tn.size;clear hm nc lK VX ZV c3 xT bV adU Xe tn;go_wp2_with(first|(refine aq ?_));refine Calls.mono (Eu _ _ _ _ ac3.out bs os cs ZJ XF VN.out WS.out.2) ?_;rintro e VV ⟨rfl,v5⟩;have ZP:=I (show∀w',Below VV.heap.size VV w'->∀(j:Nat) (v:Value),([.int .i64 0,.int .u8 2,.int .u8 0,.int .u8 0,.int .u8 0,.int .i64 64,.int .i64 0,.int .i64 0,.int .i64 0,.int .i64 0,.int .i64 0,.int .i64 0,.int .i64 1,.slice ZJ 0 XF]:List Value)[j]? =some v->w'.cell? ⟨bs,os+j,none⟩=some v from fun w' hb j v aeD=>((v5.trans (hb.mono v5.size)).cell (p:=⟨bs,os+j,none⟩) WS.out.2).trans (VN.out j v aeD));have Zw:=I (show∀w',Below VV.heap.size VV w'->gB w' Xl from fun w' hb=>gB.below Xa.out (v5.trans (hb.mono v5.size)));have ST:=I (show∀w',Below VV.heap.size VV w'->Calls prog 23 #[.pointer (some ⟨Xl.aeh,0,none⟩)] w' fun e du=>e= .returned (.int .i64 1)/\Below w'.heap.size w' du from fun w' hb=>by
  have h1:=FF w' Xl _ _ _ W1 (Zw.out w' hb);rw[abX]at h1;exact h1)
 have Xd:=I (show bs≠gs/\bs≠gr by have:=WS.out;have:=TU.out;omega);have LT:=I (show∀w',Below VV.heap.size VV w'->bs<w'.heap.size from fun w' hb=>aj WS.out.2 (D v5.size hb.size));replace U:=U.below v5;clear v5 VN WS ac3 Xa TW TV lE BK;go_upto_region 10 with fail
 have Yq:=I (show Below VV.heap.size VV VV.drew from(Below.refl _ _).drew);replace U:=U.drew;refine wp_region_held_drew (S:=(c0 [⟨gs,32,[.int .i64 2,.int .i64 1,.int .i64 0,.int .i64 64,.slice (some ⟨v.aca,0,none⟩) 8 v.acR,.slice (some ⟨v.aff,0,none⟩) 1 v.VY,.slice adJ 0 V8]⟩])) aM ?_ (fun X=>?_)
 ·exact U.bG aN
 refine az [[0,1,2,3,5,7,8,9,10,11,14]] ?_;refine aF 4 fun K Z7=>?_;go_simp
 (go_at_call 34;refine Calls.mono (wS _ bs os cs ZJ XF (ZP.out _ Yq.out) (LT.out _ Yq.out)) ?_;rintro e aaM ⟨VS,adZ,rfl,Vj,qR,N⟩;replace Yq:=I (Yq.out.trans (N.mono Yq.out.size));replace U:=U.below N;clear N)
 go_wp2_with fail;refine WE Z7 fun X=>?_;refine aF 6 fun K Z7=>?_;go_simp
 (go_at_call 23;refine Calls.mono (ST.out _ Yq.out) ?_;rintro e aaM ⟨rfl,N⟩;replace Yq:=I (Yq.out.trans (N.mono Yq.out.size));replace U:=U.below N;clear N)
 go_wp2_with fail;refine WE Z7 fun X=>?_;refine aF 12 fun K Z7=>?_;go_simp
 (go_at_call 35;refine Calls.mono (Eo _ Xl (Zw.out _ Yq.out)) ?_;rintro e aaM ⟨rfl,N⟩;replace Yq:=I (Yq.out.trans (N.mono Yq.out.size));replace U:=U.below N;clear N;have aaH:=U;replace U:=aaH.base)
 go_wp2_with fail;refine WE Z7 fun X=>?_;refine az [[13],[15],[16]] ?_;clear U;intro w U;go_wp2_with fail;refine aZ results11 rfl rfl ⟨_,U.b (g:=gr) ag,rfl⟩ underlying37 rfl aM ?_;refine⟨⟨bs,os,cs,VS,adZ,ZJ,XF,rfl,fun j v aeD=>(World.cell?_of_block (U.Wu.block bs (LT.out _ Yq.out) ⟨fun x Wy e=>?_,fun a e=>by cases e⟩)).trans (ZP.out _ Yq.out j v aeD)⟩,(aaH.back U).all⟩;simp only[ad,E,av]at Wy;rcases Wy with rfl|rfl
 ·exact Xd.out.1 e.symm
 ·exact Xd.out.2 e.symm
theorem Ic(w0:World):Calls prog 8 #[] w0 fun e w'=>e= .returned (.bool true)/\Below w0.heap.size w0 w':=by
 have U:=aah.a0 w0;go_enter func8,ntmps8;go_upto_region 1 with fail
 go_upto_region 2 with(first|(refine ud U rfl 22 5 12 _ rfl ((List.range 12).map (fun i=>Value.int .u8 (Ej i))++ []) (.int .u8 0) 1 1 aM aM am am aM ?_;clear U;intro WC w U Vk;refine cN ?_)|(go_at_call 11;refine Calls.mono (NS _ _ ((tz (B:=0) (U.b (g:=WC) cX) (aL _) am).mono fun b _ _=>trivial)) ?_;rintro e aaM ⟨⟨bs,os,cs,VS,adZ,ZJ,XF,rfl,Wy⟩,N⟩;replace U:=U.below N;clear N))
 have aaG:=Wy 12 _ rfl;replace U:=U.new 37 [.int .i64 2,.int .i64 1,.int .i64 0,.int .i64 64,.slice (some ⟨bs,os,none⟩) 1 cs,.slice (some ⟨VS,0,none⟩) 1 adZ,.int .i64 1,.int .i64 0,.bool true,.int .i64 0];have TX:=((Below.refl aaM.heap.size aaM).alloc (ai _) (.cells ([.int .i64 2,.int .i64 1,.int .i64 0,.int .i64 64,.slice (some ⟨bs,os,none⟩) 1 cs,.slice (some ⟨VS,0,none⟩) 1 adZ,.int .i64 1,.int .i64 0,.bool true,.int .i64 0]:List Value).toArray 37)).cell (p:=⟨bs,os+12,none⟩) (by
  rcases Nat.lt_or_ge bs aaM.heap.size with h|h
  ·exact h
  ·simp[World.cell?,Array.getElem?_eq_none h]at aaG)
 rw[aaG]at TX;generalize aaM.alloc (.cells ([.int .i64 2,.int .i64 1,.int .i64 0,.int .i64 64,.slice (some ⟨bs,os,none⟩) 1 cs,.slice (some ⟨VS,0,none⟩) 1 adZ,.int .i64 1,.int .i64 0,.bool true,.int .i64 0]:List Value).toArray 37)=WW at*;generalize aaM.heap.size=Y6 at*;have afw:=U.cell (g:=Y6) (i:=4) cX rfl;have afc:=U.cell (g:=Y6) (i:=8) cX rfl;have ab4:=U.cell (g:=Y6) (i:=9) cX rfl;go_wp2_with fail;go_ret;exact⟨rfl,U.all⟩
end Go.Proofs.YtcimojgkeoecfaaGreat
