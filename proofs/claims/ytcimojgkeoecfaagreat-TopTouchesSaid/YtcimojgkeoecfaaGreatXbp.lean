import Derived.Test.YtcimojgkeoecfaaGreatXbb
set_option linter.all false
set_option maxHeartbeats 16000000
set_option maxRecDepth 100000
namespace Go.Proofs.YtcimojgkeoecfaaGreat
open Go.RowKit Tryz
theorem pk{G:Prop}(h:G:=by
 refine WE Z7 fun X=>?_;refine aF 6 fun K Z7=>?_;rw[Z (by rfl)];refine bK U 95 100 _ rfl _ ([Value.int .u8 (dV e).op,.int .i64 (dV e).a,.int .i64 (dV e).b]) rfl rfl (.agg #[.int .u8 0,.int .i64 0,.int .i64 0]) 3 24 fP jp rfl (by decide) (by decide) ?_;clear U;intro di w U dO;exact pm):G:=h
theorem pm{G:Prop}(h:G:=by
 refine WE Z7 fun X=>?_;refine aF 7 fun K Z7=>?_;rw[Z (by rfl)];have dI:=U.size;refine eX U aby.out (fun j aeD=>(iZ.out j aeD).2) _ _ 95 rfl (.agg #[.int .u8 0,.int .i64 0,.int .i64 0]) 24 fP jp rfl (by decide) rfl ⟨di,0,none⟩ 1 1 ([Value.int .u8 (dV e).op,.int .i64 (dV e).a,.int .i64 (dV e).b]) rfl rfl (by decide) (U.news ag) rfl (by unfold maxLen;omega) (by omega) ?_;clear U;intro g' cW lL w U e8 lm;replace e8:=e8.imp id (D dI);clear dI;refine WE Z7 fun X=>?_;refine Xh 8 ?_;refine aF 9 fun K Z7=>?_;refine afA U (f:=v.af9) (m:=8) (j:=q) (u:=.slice (some ⟨g',0,none⟩) (ab1 q+1) cW) (by omega) ?_;clear U;intro w U;refine WE Z7 fun X=>?_;refine adB ?_;go_wp2_with(first|(refine aq ?_)|(refine Ws U 151 ?_;clear U;intro kP w U j8)|(refine aT ?_;clear U;intro X8 w U aay));refine cw results64 rfl rfl ⟨_,U.b ag,rfl⟩ underlying32 rfl (by kernel_rfl) ?_;refine⟨_,?_,qT.out _ _ _ _ _ U (U.b (g:=v.aca) ag) (U.b (g:=g') cX) e8 lm aaV YJ⟩;show _=Ending.returned (.agg #[.int .i64 s.p.s,.int .i64 s.p.t,.int .i64 s.p.i,.int .i64 s.p.h,.slice (some ⟨v.aca,0,none⟩) 8 v.acR,.slice (some ⟨v.aff,0,none⟩) s.p.t.toNat v.VY,v.afa]);rw[YQ.out]):G:=h
theorem J0(w0:World)(B:Nat)(v:abM)(s:h9)(e:Nat->Int)(aeJ:a7 w0 B v s)(YF:hV s)(V1:e0 e)(Yq:B<=w0.heap.size)(ae3:e 0 %8=5):
 Calls prog 64 #[.agg (gy s.p v).toArray,sW e] w0 fun x w'=> ∃v',x= .returned (.agg (gy s.p v').toArray)/\a7 w' B v' (cU s e)/\Z1 (hE v s.p.t.toNat) w0 w':=by
 have afq:=YF.p.t;obtain⟨T,aen⟩: ∃T,s.p.t.toNat=T:=⟨_,rfl⟩
 have Yj:s.p.t=(T:Int):=J;have aal:=V1 1;have Wx:=V1 0;obtain⟨t,ia⟩: ∃t:Nat,(e 1 %s.p.t).toNat=t:=⟨_,rfl⟩
 obtain⟨q,VX⟩: ∃q:Nat,(e 1 %8).toNat=q:=⟨_,rfl⟩
 have aeT:t<s.p.t.toNat:=by rw[<-ia];have:=cA (e 1) (by omega:0<s.p.t);have:=b5 (e 1) (by omega:s.p.t≠0);omega
 have ZD:q<8:=J;have aar:(e 1).tmod (T:Int)=(t:Int):=by rw[al aal.1,<-Yj,<-ia];exact(Int.toNat_of_nonneg (b5 _ J)).symm
 have adN:e 1 %8=(q:Int):=J;have VL:IntKind.i64.wrap (t:Int)=(t:Int):=by rw[IntKind.wrap_i64];omega
 have W8: ¬T=0:=J;have Wv: ∀(k:IntKind) (n:Int),(Value.int k n).oneCell'=true:=fun _ _=>rfl;have os: ∀A n c,(Value.slice A n c).oneCell'=true:=fun _ _ _=>rfl;have sw:v.afa.oneCell'=true:=by
  rcases aeJ.pi.2 with⟨abF,_⟩|⟨g,cap,cS,abF,_⟩<;>(rw[abF];rfl)
 have adw:bits .and .u8 (e 1) 7=(q:Int):=by rw[u8_and7 _ aal];exact adN
 have afg:bits .and .u8 (e 0) 7=e 0 %8:=u8_and7 _ Wx;have Qu:IntKind.i64.wrap (e 1)=e 1:=by rw[IntKind.wrap_i64];omega
 have t0:(t:Int)<(T:Int):=J;have t1:(0:Int)<=(t:Int):=J;have Zh:(q:Int)<8:=J;have q1:(0:Int)<=(q:Int):=J;obtain⟨ab1,fH⟩: ∃ab1:Nat->Nat,Hid (∀j,(s.eI j).length=ab1 j):=⟨fun j=>(s.eI j).length,I fun j=>rfl⟩
 have bT:=aeJ.fr q ZD;rw[fH.out]at bT;obtain⟨A,c,aef⟩: ∃A c,v.af9 q= .slice A (ab1 q) c:=by
  rcases bT.2 with⟨abF,acL⟩|⟨g,cap,cS,abF,_⟩
  ·exact⟨none,0,by rw[abF,acL]⟩
  ·exact⟨_,_,abF⟩
 have aby:=I (gx (B':=0) bT fun _ _=>aL _);have iZ:=I (fun j (aeD:(v.af9 q).ownBlock=some j)=>And.intro (bT.lt j aeD).2 (show j≠v.aca from fun abF=>dW bT aeJ.afR am (by rw[<-abF];exact aeD)));have nd:=aeJ.afR;rw[aen]at aeT;have YT:=I (show((List.range 8).map v.af9++v.aaI)[q]? =some (.slice A (ab1 q) c)from by rw[rF ZD,aef]);have ZR:=I aeJ;have aeO:=I YF;have Yl:=I V1;rw[aef]at aby iZ;have Nt:=I aef;have Br:=I ia;have TA:=I VX;have qT:=I (show∀(L:List abN) (g cap:Nat) (rest:List Value) (w':World),aah w0 (fun b=>b≠v.aca/\(Value.slice A (ab1 q) c).ownBlock≠some b) w' none L->ah w' v.aca 95 ((List.range 8).map (put v.af9 q (.slice (some ⟨g,0,none⟩) (ab1 q+1) cap))++v.aaI).toArray->ah w' g 100 ((lx (s.eI q)++ [Value.int .u8 (dV e).op,.int .i64 (dV e).a,.int .i64 (dV e).b])++rest).toArray->((Value.slice A (ab1 q) c).ownBlock=some g\/w0.heap.size<=g)->(ab1 q+1<=cap/\cap<=maxLen/\((lx (s.eI q)++ [Value.int .u8 (dV e).op,.int .i64 (dV e).a,.int .i64 (dV e).b])++rest).length=cap*3)->e 2<=4->ab1 q<8->
  a7 w' B {v with af9:=put v.af9 q (.slice (some ⟨g,0,none⟩) (ab1 q+1) cap)} (cU s e)/\Z1 (hE v T) w0 w' from fun L g cap rest w' h1 aaV ZV Ya afY XX adH=>by
  have Zb:=show cU s e= {s with eI:=put s.eI q (s.eI q++ [dV e])} by unfold cU;rw[aB,Z ae3,VX,Z ⟨XX,by rw[fH.out];exact adH⟩]
  rw[Zb];rw[<-aef]at h1 Ya;rw[<-fH.out q]at aaV afY⊢
  skip
  rw[<-aen];exact a7.KO aeJ Yq ZD (c:=dV e) h1.Wu aaV ZV Ya afY)
 have xv:=I (show∀w',Below w0.heap.size w0 w'->¬(e 2<=4/\ab1 q<8)->a7 w' B v (cU s e)/\Z1 (hE v T) w0 w' from fun w' h1 aaV=>by
  rw[show cU s e=s by unfold cU;rw[aB,Z ae3,VX,fH.out,Y aaV]];exact⟨aeJ.below h1,Z1.cg h1⟩)
 have Pp:=I nd;have U:=aah.g8 nd;show Calls _ _ #[.agg #[.int .i64 s.p.s,.int .i64 s.p.t,.int .i64 s.p.i,.int .i64 s.p.h,.slice (some ⟨v.aca,0,none⟩) 8 v.acR,.slice (some ⟨v.aff,0,none⟩) s.p.t.toNat v.VY,v.afa],_] _ _;rw[aen];have YQ:=I aen;clear aeJ YF V1 bT nd aef ia VX Yj aen afq;go_enter func64,ntmps64;go_upto_region 2 with(first|(refine aq ?_)|(refine Ws U 151 ?_;clear U;intro kP w U j8)|(refine aT ?_;clear U;intro X8 w U aay))
 replace U:=U.drew;refine b0 ?_;intro X;refine az [[0,1,2,3,4,5,6,7,8,9,10,11,12,13,14,15,16,17]] ?_;dsimp only[Exit.then]
 apply_assumption
 have adX:=U.cell (g:=v.aca) (i:=q) ag YT.out;by_cases aaV:e 2<=4
 ·by_cases YJ:ab1 q<8
  ·have fx:(ab1 q:Int)<8:=by omega
   go_upto_region 8 with(first|(refine aq ?_)|(refine Ws U 151 ?_;clear U;intro kP w U j8)|(refine aT ?_;clear U;intro X8 w U aay))
   clear adX;replace U:=U.drew;refine wp_region_held_drew (S:=(c0 [⟨kP,151,[.int .u8 (e 0),.int .u8 (e 1),.int .u8 (e 2),.int .u8 (e 3),.int .u8 (e 4),.int .u8 (e 5),.int .u8 (e 6),.int .u8 (e 7)]⟩])) aM ?_ (fun X=>?_)
   ·exact U.bG aN
   refine az [[0,1,2,4]] ?_;refine Zj [3,5] ?_;refine ea (fun K Z7=>?_) ?_
   ·rw[Z (by rfl)];refine bU U 95 _ rfl v.aca q rfl ag (.slice A (ab1 q) c) YT.out underlying95 rfl ?_;refine WE Z7 fun X=>?_;refine aF 5 fun K Z7=>?_;go_simp
    (go_at_call 115;refine a6 U (KM _ e Yl.out aaV) ?_;clear U;intro aaM U)
    go_wp2_with fail;exact pk
   refine ei (fun K Z7=>?_);go_simp
   (go_at_call 115;refine a6 U (KM _ e Yl.out aaV) ?_;clear U;intro aaM U)
   go_wp2_with fail;refine WE Z7 fun X=>?_;refine Zj [3,6] ?_;refine ea (fun K Z7=>?_) ?_
   ·rw[Z (by rfl)];refine bU U 95 _ rfl v.aca q rfl ag (.slice A (ab1 q) c) YT.out underlying95 rfl ?_;exact pk
   refine ei (fun K Z7=>?_);rw[Z (by rfl)];refine bK U 95 100 _ rfl _ ([Value.int .u8 (dV e).op,.int .i64 (dV e).a,.int .i64 (dV e).b]) rfl rfl (.agg #[.int .u8 0,.int .i64 0,.int .i64 0]) 3 24 fP jp rfl am am ?_;clear U;intro di w U dO;refine WE Z7 fun X=>?_;refine aF 3 fun K Z7=>?_;rw[Z (by rfl)];refine bU U 95 _ rfl v.aca q rfl ag (.slice A (ab1 q) c) YT.out underlying95 rfl ?_;exact pm
  ·have fx: ¬(ab1 q:Int)<8:=by omega
   exact oh
 ·go_wp2_with(first|(refine aq ?_)|(refine Ws U 151 ?_;clear U;intro kP w U j8)|(refine aT ?_;clear U;intro X8 w U aay));exact kQ
section
theorem pn{G:Prop}(h:G:=by
 refine WE Z7 fun X=>?_;refine aF 5 fun K Z7=>?_;rw[Z (by rfl)];have dI:=U.size;refine eX U aby.out (fun j aeD=>trivial) _ _ 30 rfl (.int .i64 0) 8 bg b6 rfl (by decide) rfl ⟨di,0,none⟩ 1 1 ([Value.int .i64 (numOf e)]) rfl rfl (by decide) (U.news ag) rfl (by unfold maxLen;omega) (by omega) ?_;clear U;intro g' cW lL w U e8 lm;replace e8:=e8.imp id (D dI);clear dI;refine WE Z7 fun X=>?_;refine az [[6],[7]] ?_;clear U;intro w U;go_wp2_with(first|(refine aq ?_)|(refine Ws U 151 ?_;clear U;intro kP w U j8)|(refine aT ?_;clear U;intro X8 w U aay));refine cw results64 rfl rfl ⟨_,U.b ag,rfl⟩ underlying32 rfl (by kernel_rfl) ?_;refine⟨{v with afa:=.slice (some ⟨g',0,none⟩) (m+1) cW},?_,qT.out _ _ _ _ _ U (U.b (g:=g') cX) e8 lm YJ⟩;show _=Ending.returned (.agg #[.int .i64 s.p.s,.int .i64 s.p.t,.int .i64 s.p.i,.int .i64 s.p.h,.slice (some ⟨v.aca,0,none⟩) 8 v.acR,.slice (some ⟨v.aff,0,none⟩) s.p.t.toNat v.VY,.slice (some ⟨g',0,none⟩) (m+1) cW]);rw[YQ.out]):G:=h
theorem po{G:Prop}(h:G:=by
 refine WE Z7 fun X=>?_;refine aF 4 fun K Z7=>?_;rw[Z (by rfl)];refine bK U 30 3 _ rfl _ ([Value.int .i64 (numOf e)]) rfl rfl (.int .i64 0) 1 8 bg b6 rfl (by decide) (by decide) ?_;clear U;intro di w U dO;exact pn):G:=h
section
variable(w0:World)(B:Nat)(v:abM)(s:h9)(e:Nat->Int)(aeJ:a7 w0 B v s)(YF:hV s)(V1:e0 e)(Yq:B<=w0.heap.size)
include w0 B v s e aeJ YF V1 Yq
theorem J1(ae3: ¬e 0 %8<5)(jN:e 0 %8≠5):
 Calls prog 64 #[.agg (gy s.p v).toArray,sW e] w0 fun x w'=> ∃v',x= .returned (.agg (gy s.p v').toArray)/\a7 w' B v' (cU s e)/\Z1 (hE v s.p.t.toNat) w0 w':=by
 have afq:=YF.p.t;obtain⟨T,aen⟩: ∃T,s.p.t.toNat=T:=⟨_,rfl⟩
 have Yj:s.p.t=(T:Int):=J;have aal:=V1 1;have Wx:=V1 0;obtain⟨t,ia⟩: ∃t:Nat,(e 1 %s.p.t).toNat=t:=⟨_,rfl⟩
 obtain⟨q,VX⟩: ∃q:Nat,(e 1 %8).toNat=q:=⟨_,rfl⟩
 have aeT:t<s.p.t.toNat:=by rw[<-ia];have:=cA (e 1) (by omega:0<s.p.t);have:=b5 (e 1) (by omega:s.p.t≠0);omega
 have ZD:q<8:=J;have aar:(e 1).tmod (T:Int)=(t:Int):=by rw[al aal.1,<-Yj,<-ia];exact(Int.toNat_of_nonneg (b5 _ J)).symm
 have adN:e 1 %8=(q:Int):=J;have VL:IntKind.i64.wrap (t:Int)=(t:Int):=by rw[IntKind.wrap_i64];omega
 have W8: ¬T=0:=J;have Wv: ∀(k:IntKind) (n:Int),(Value.int k n).oneCell'=true:=fun _ _=>rfl;have os: ∀A n c,(Value.slice A n c).oneCell'=true:=fun _ _ _=>rfl;have sw:v.afa.oneCell'=true:=by
  rcases aeJ.pi.2 with⟨abF,_⟩|⟨g,cap,cS,abF,_⟩<;>(rw[abF];rfl)
 have adw:bits .and .u8 (e 1) 7=(q:Int):=by rw[u8_and7 _ aal];exact adN
 have afg:bits .and .u8 (e 0) 7=e 0 %8:=u8_and7 _ Wx;have Qu:IntKind.i64.wrap (e 1)=e 1:=by rw[IntKind.wrap_i64];omega
 have t0:(t:Int)<(T:Int):=J;have t1:(0:Int)<=(t:Int):=J;have Zh:(q:Int)<8:=J;have q1:(0:Int)<=(q:Int):=J;obtain⟨m,hm⟩: ∃m,s.cp.length=m:=⟨_,rfl⟩
 have bT:=aeJ.pi;rw[hm]at bT;obtain⟨A,c,aef⟩: ∃A c,v.afa= .slice A m c:=by
  rcases bT.2 with⟨abF,acL⟩|⟨g,cap,cS,abF,_⟩
  ·exact⟨none,0,by rw[abF,acL]⟩
  ·exact⟨_,_,abF⟩
 have aby:=I (gx (B':=0) bT fun _ _=>aL _);have aaP:(e 0 %8==5)=false:=by simpa using jN
 have Yl:=I V1;rw[aef]at aby;have qT:=I (show∀(L:List abN) (g cap:Nat) (rest:List Value) (w':World),aah w0 (fun b=>True/\(Value.slice A m c).ownBlock≠some b) w' none L->ah w' g 3 ((h8 s.cp++ [Value.int .i64 (numOf e)])++rest).toArray->((Value.slice A m c).ownBlock=some g\/w0.heap.size<=g)->(m+1<=cap/\cap<=maxLen/\((h8 s.cp++ [Value.int .i64 (numOf e)])++rest).length=cap*1)->m<4096->
  a7 w' B {v with afa:=.slice (some ⟨g,0,none⟩) (m+1) cap} (cU s e)/\Z1 (hE v T) w0 w' from fun L g cap rest w' h1 ZV Ya afY adH=>by
  have Zb:cU s e= {s with cp:=s.cp++ [numOf e]}:=by unfold cU;rw[Y ae3,Y jN,Z (by rw[hm];exact adH)]
  rw[Zb];rw[<-aef]at h1 Ya;rw[<-hm]at afY⊢;rw[<-aen];exact a7.KP aeJ Yq (c:=numOf e) h1.Wu ZV Ya afY)
 have xv:=I (show∀w',Below w0.heap.size w0 w'->¬m<4096->a7 w' B v (cU s e)/\Z1 (hE v T) w0 w' from fun w' h1 aaV=>by
  rw[show cU s e=s by unfold cU;rw[Y ae3,Y jN,Y (by rw[hm];exact aaV)]];exact⟨aeJ.below h1,Z1.cg h1⟩)
 have U:=aah.a0 w0;show Calls _ _ #[.agg #[.int .i64 s.p.s,.int .i64 s.p.t,.int .i64 s.p.i,.int .i64 s.p.h,.slice (some ⟨v.aca,0,none⟩) 8 v.acR,.slice (some ⟨v.aff,0,none⟩) s.p.t.toNat v.VY,v.afa],_] _ _;rw[aen,aef];have YQ:=I aen;have Nt:=I aef;clear aeJ YF V1 bT aef ia VX Yj aen afq hm sw jN;go_enter func64,ntmps64;go_upto_region 2 with(first|(refine aq ?_)|(refine Ws U 151 ?_;clear U;intro kP w U j8)|(refine aT ?_;clear U;intro X8 w U aay))
 replace U:=U.drew;refine b0 ?_;intro X;refine az [[0,1,2,3,4,5,6,7,8,9,10,11,12,13,14,15,16,17]] ?_;dsimp only[Exit.then]
 apply_assumption
 by_cases YJ:m<4096
 ·have fx:(m:Int)<4096:=by omega
  go_upto_region 10 with(first|(refine aq ?_)|(refine Ws U 151 ?_;clear U;intro kP w U j8)|(refine aT ?_;clear U;intro X8 w U aay))
  replace U:=U.drew;refine wp_region_held_drew (S:=(c0 [⟨kP,151,[.int .u8 (e 0),.int .u8 (e 1),.int .u8 (e 2),.int .u8 (e 3),.int .u8 (e 4),.int .u8 (e 5),.int .u8 (e 6),.int .u8 (e 7)]⟩])) aM ?_ (fun X=>?_)
  ·exact U.bG aN
  refine az [[0,2]] ?_;refine Zj [1,3] ?_;refine ea (fun K Z7=>?_) ?_
  ·refine YL U ?_;refine WE Z7 fun X=>?_;refine aF 3 fun K Z7=>?_;go_simp
   (go_at_call 116;refine a6 U (sr _ e Yl.out) ?_;clear U;intro aaM U)
   go_wp2_with fail;exact po
  refine ei (fun K Z7=>?_);go_simp
  (go_at_call 116;refine a6 U (sr _ e Yl.out) ?_;clear U;intro aaM U)
  go_wp2_with fail;refine WE Z7 fun X=>?_;refine Zj [1,4] ?_;refine ea (fun K Z7=>?_) ?_
  ·refine YL U ?_;exact po
  refine ei (fun K Z7=>?_);rw[Z (by rfl)];refine bK U 30 3 _ rfl _ ([Value.int .i64 (numOf e)]) rfl rfl (.int .i64 0) 1 8 bg b6 rfl am am ?_;clear U;intro di w U dO;refine WE Z7 fun X=>?_;refine aF 1 fun K Z7=>?_;refine YL U ?_;exact pn
 ·have fx: ¬(m:Int)<4096:=by omega
  go_wp2_with(first|(refine aq ?_)|(refine Ws U 151 ?_;clear U;intro kP w U j8)|(refine aT ?_;clear U;intro X8 w U aay));refine cw results64 rfl rfl ⟨_,U.b ag,rfl⟩ underlying32 rfl aM ?_;refine⟨v,?_,xv.out _ U.all (fun h=>J)⟩;show _=Ending.returned (.agg #[.int .i64 s.p.s,.int .i64 s.p.t,.int .i64 s.p.i,.int .i64 s.p.h,.slice (some ⟨v.aca,0,none⟩) 8 v.acR,.slice (some ⟨v.aff,0,none⟩) s.p.t.toNat v.VY,v.afa]);rw[YQ.out];rw[Nt.out]
theorem J2:
 Calls prog 64 #[.agg (gy s.p v).toArray,sW e] w0 fun x w'=> ∃v',x= .returned (.agg (gy s.p v').toArray)/\a7 w' B v' (cU s e)/\Z1 (hE v s.p.t.toNat) w0 w':=by
 by_cases h1:e 0 %8<5
 ·exact JZ w0 B v s e aeJ YF V1 Yq h1
 by_cases aaV:e 0 %8=5
 ·exact J0 w0 B v s e aeJ YF V1 Yq aaV
 ·exact J1 w0 B v s e aeJ YF V1 Yq h1 aaV
end
end
section
section
variable{w0 w:World}{S:Nat->Prop}{L L':List abN}{P:Program}{o:Oper}{a:Act}{Q:Exit->Act->World->Prop}{ops:Array Oper}{rest:List Oper}
theorem pp{G:Prop}(h:G:=by
 refine⟨v,?_,?_,(aaH.back U).all⟩
 ·rw[aci.out,afI.out];rfl
 ·rw[aci.out];exact abx.out.move U.Wu aaH.bC (by simp)):G:=h
theorem la{G:Prop}(h:G:=by
 refine WE Z7 fun X=>?_;refine aF 5 fun K Z7=>?_;go_simp
 (go_at_call 64;refine Calls.mono (Nu.out _ (Qv.out.below (Below.refl _ _).drew) U.size) ?_;rintro e aaM ⟨v',rfl,Qw,aX⟩;have sw:=Qw.sw;have aaH:=U.CY (Qv.out.below (Below.refl _ _).drew) aX (by simp);clear U aX;have U:=aaH.base)
 go_wp2_with fail;refine WE Z7 fun X=>?_;refine az [[],[6]] ?_;clear U;intro w U;go_wp2_with(first|(refine aq ?_)|(refine VP U jj ?_;clear U;intro fk w U lb)|(refine VP U r6 ?_;clear U;intro wR w U xO)|(refine ac2 U ?_;clear U;intro w U));all_goals
  go_roundw
  case rel=>
   have Eb:=Eb.out;have Qx:=Qw.move U.Wu aaH.bC (by simp);have Yq:=aaH.back U;first
    |exact⟨k+1,l-8,0,_,⟨rfl,rfl,rfl⟩,by omega,by omega,by omega,(fun h=>by omega),v',Yq,Qx⟩
    |exact⟨k+1,l-8,c'-8,_,⟨rfl,rfl,rfl⟩,by omega,by omega,by omega,(fun h=>by rw[show off+(4+8*k)+8=off+(4+8*(k+1))from by omega]),v',Yq,Qx⟩
  case measure=>first|omega|(simp;omega)):G:=h
theorem pq{G:Prop}(h:G:=by
 rcases Nat.lt_or_ge j m with q|q
 ·exact q
 ·rw[aV (by simpa using q)]at aeD;cases aeD):G:=h
theorem HD(h:aah w0 S w none L)(t t' Yn jL:TypeId)(hu:P.underlying t=some (.slice jL))(aeN:(P.info? jL).map (·.size)=some 1)
 {g dl dc sl sc m:Nat}{A:Option Addr}{cS cs:List Value}{ade:TypeId}(hm:m=Nat.min sl dl)(abi:cs.length=m)(EN:0<m->∃afF,A=some afF/\∀j v,cs[j]? =some v->w.cell? (afF.add j)=some v)(ed:cs.length<=cS.length)(h1: ∀v∈cs,v.oneCell'=true)(Fp:0<dl)(hi:In L g ade cS)(XJ:aco L g ade cS (cs++cS.drop cs.length) L'):
 ∃w',(Builtin.copy_ #[t,t'] Yn #[.slice (some ⟨g,0,none⟩) dl dc,.slice A sl sc]).run P w= .ok (.int .i64 m) w'/\aah w0 S w' none L':=by
 have hb:w.heap[g]? =some (.cells cS.toArray ade (0,0)):=h.b hi;by_cases YM:0<m
 ·obtain⟨afF,rfl,XP⟩:=EN YM;refine⟨_,nt (P:=P) w t t' Yn jL g 0 dl dc afF sl sc 1 m cS.toArray ade cs hu aeN hb hm J XP (by simpa using ed) h1,h.hX XJ ?_ ⟨rfl,rfl,rfl,by simp[World.setRow],fun k ae3 abi=>setRow_other w g k _ abi⟩⟩;have:=setRow_heap w g cS.toArray (cS.toArray.toList.take 0++cs++cS.toArray.toList.drop (0+cs.length)).toArray ade (0,0) hb;unfold ah;simpa using this
 ·have Ds:sl=0:=by
   rw[hm]at YM;have:Nat.min sl dl=min sl dl:=rfl;omega
  subst Ds;have e:cs= []:=dn J;have p2:m=0:=J;subst e;subst p2;refine⟨w,mV w t t' Yn jL g 0 dl dc A sc 1 hu aeN,h.hX XJ ?_ (ce.refl _ _ _)⟩;unfold ah;simpa using hb
theorem qv(h:aah w0 S w none L)(dj:o.guard=none)(l c:Operand)(t:TypeId)(ZQ:o.op=Op.makeSlice t l c)(e:TypeId)(afq:P.underlying t=some (.slice e))
 (cC:(P.info? e).map (fun i=>(i.zero,i.size,i.bytes))=some (some (.slice none 0 0),1,24))(n:Nat)(YJ:a.eval l= .int .i64 n)(XP:a.eval c= .int .i64 n)(abi:n<=65536)
 (Z7: ∀g w',aah w0 S w' none (⟨g,e,(List.range n).map fun _=>.slice none 0 0⟩::L)->w0.heap.size<=g->wpList P ops Q rest (a.put o.dst (.slice (some ⟨g,0,none⟩) n n)) w'):wpList P ops Q (o::rest) a w:=by
 refine wpList_plain dj fun K k'=>?_;have hb:24*n<=281474976710656:=J;have nC:=run_make_row' (P:=P) t e (.slice none 0 0) 24 afq cC rfl .i64 .i64 n hb J w;have Zb:madeCells #[.slice none 0 0] n=((List.range n).map fun _=>Value.slice none 0 0).toArray:=by
  apply Array.ext';rw[List.toList_toArray];unfold madeCells;apply List.ext_getElem
  ·simp
  ·intro i h1 aaV;simp[Nat.mod_one]
 have aaV:=Z7 _ _ (h.new e ((List.range n).map fun _=>.slice none 0 0)) h.size;have ZV:=k' _ _ aaV;unfold Oper.wp execOp;simp only[ZQ,YJ,XP,Sem.run_bind,nC,Zb];simpa [go_sem]using ZV
end
theorem ps:(Tryz.prog.info? 47).map (fun i=>(i.zero,i.size,i.bytes))=some (some (.slice none 0 0),1,24):=aM
theorem lQ:Tryz.prog.underlying 29=some (.slice 47):=aM
theorem jW(i:Nat)(hi:i<=7)(x:Int)(h:0<=x/\x<=255):bits .and .u8 x ((2^i-1:Nat):Int)=x %((2^i:Nat):Int):=by
 obtain⟨n,rfl⟩:=bn h.1;have:2^i<=2^7:=Nat.pow_le_pow_right am hi;rw[(bits_nat .u8 8 am wraps_u8 n (2^i-1) J J).1,cD];omega
theorem B7(f:Nat->Int)(n m:Nat)(hm:m=Nat.min n 4):((List.range m).map fun i=>Value.int .u8 (f i))++List.drop ((List.range m).map fun i=>Value.int .u8 (f i)).length [.int .u8 0,.int .u8 0,.int .u8 0,.int .u8 0]= [.int .u8 (fe f n 0),.int .u8 (fe f n 1),.int .u8 (fe f n 2),.int .u8 (fe f n 3)]:=by
 have hm:m=min n 4:=hm;rcases(by omega:n=0/\m=0\/n=1/\m=1\/n=2/\m=2\/n=3/\m=3\/4<=n/\m=4)with⟨rfl,rfl⟩|⟨rfl,rfl⟩|⟨rfl,rfl⟩|⟨rfl,rfl⟩|⟨abi,rfl⟩
 ·rfl
 ·rfl
 ·rfl
 ·rfl
 ·unfold fe;rw[m3,m3,m3,m3];rfl
theorem a7.zero{w:World}{B aca aff T:Nat}{b:Nat->Int}(aen:(oi b).p.t.toNat=T)(acA:ah w aca 95 ((List.range 8).map fun _=>Value.slice none 0 0).toArray)(aeJ:ah w aff 47 ((List.range T).map fun _=>Value.slice none 0 0).toArray)(Ya:T<=4)(vF:B<=aca/\B<=aff):
 a7 w B ⟨aca,aff,8,T,[],[],fun _=>.slice none 0 0,fun _=>.slice none 0 0,.slice none 0 0⟩ (oi b):=
 ⟨by rw[br];exact acA,by rw[br,aen];exact aeJ,⟨ai _,by show 8<=maxLen;decide⟩,by rw[aen];exact⟨ai _,by show T<=maxLen;unfold maxLen;omega⟩,fun j aeD=>World.ownsRow_nil _ _ _ _,fun j aeD=>World.ownsRow_nil _ _ _ _,World.ownsRow_nil _ _ _ _,(fun i j b _ _ _ h=>by cases h),(fun i j b _ _ _ h=>by cases h),vF⟩
theorem a7.sw{w:World}{B:Nat}{v:abM}{s:h9}(h:a7 w B v s):v.afa.oneCell'=true:=by
 rcases h.pi.2 with⟨abF,_⟩|⟨g,cap,cS,abF,_⟩<;>(rw[abF];rfl)
theorem a7.move{w w':World}{B:Nat}{v:abM}{s:h9}{L:List abN}(h:a7 w B v s)(k:Z1 (bq none L) w w')(hb: ∀x,x∈L->ah w x.g x.t x.cs.toArray)(acY: ∀x,x∈L->x.t≠95/\x.t≠47/\x.t≠100/\x.t≠42/\x.t≠3):a7 w' B v s:=by
 have YB: ∀ {b:Nat},(∀x,x∈L->x.g≠b)->bq none L b:=fun abi=>⟨abi,fun a e=>by cases e⟩
 exact⟨(k.block _ h.afR.lt (YB fun x Wy=>(hb x Wy).ne h.afR (acY x Wy).1)).trans h.afR,(k.block _ h.aft.lt (YB fun x Wy=>(hb x Wy).ne h.aft (acY x Wy).2.1)).trans h.aft,h.acR,h.VY,fun i hi=>eU (h.fr i hi) k fun b be=>YB fun x Wy e=>dW (h.fr i hi) (hb x Wy) (acY x Wy).2.2.1.symm (by rw[e];exact be),fun i hi=>eU (h.pr i hi) k fun b be=>YB fun x Wy e=>dW (h.pr i hi) (hb x Wy) (acY x Wy).2.2.2.1.symm (by rw[e];exact be),eU h.pi k fun b be=>YB fun x Wy e=>dW h.pi (hb x Wy) (acY x Wy).2.2.2.2.symm (by rw[e];exact be),h.fd,h.aa8,h.ge⟩
theorem B8{f:Nat->Int}{n i:Nat}(h:i<n):fe f n i=f i:=by unfold fe;rw[Z h]
theorem HE(w0:World)(ado:Nat->Prop)(aak:Value)(n:Nat)(f:Nat->Int)(hb:acr w0 ado aak n 1 fun i=> [.int .u8 (f i)])(acA:e0 f)(abi:n<=400):
 Calls prog 30 #[aak] w0 fun x w'=> ∃v,x= .returned (.agg (gy (j9 f n).p v).toArray)/\a7 w' w0.heap.size v (j9 f n)/\Below w0.heap.size w0 w':=by
 obtain⟨A,c,rfl,eR,c7,bT⟩:=id hb;obtain⟨m,hm⟩: ∃m,m=Nat.min n 4:=⟨_,rfl⟩
 have P4:m<=4/\m<=n:=by rw[hm];exact⟨Nat.min_le_right _ _,Nat.min_le_left _ _⟩
 have aey:=I hm;have jt:e0 (fe f n):=fun i=>by unfold fe;split;exact acA i;omega
 have YM:=jt 0;have h1:=jt 1;have aaV:=jt 2;have ZV:=jt 3;obtain⟨adC,hj⟩: ∃x,fe f n 0=x:=⟨_,rfl⟩
 obtain⟨aaK,jb⟩: ∃x,fe f n 1=x:=⟨_,rfl⟩
 obtain⟨abq,lV⟩: ∃x,fe f n 2=x:=⟨_,rfl⟩
 obtain⟨abb,Bt⟩: ∃x,fe f n 3=x:=⟨_,rfl⟩
 have VN:=I (And.intro hj (And.intro jb (And.intro lV Bt)));have vq:=I (B7 f n m hm);rw[hj]at YM vq;rw[jb]at h1 vq;rw[lV]at aaV vq;rw[Bt]at ZV vq;have HF:=I (fun(w:World) (Yq:Below w0.heap.size w0 w) (h:0<m)=>show∃afF,A=some afF/\∀j v,((List.range m).map fun i=>Value.int .u8 (f i))[j]? =some v->w.cell? (afF.add j)=some v from by
  obtain⟨b,off,rfl,YF,YJ,XP⟩:=bT J;refine⟨_,rfl,fun j v aeD=>?_⟩;rw[a3]at aeD;have Nv:j<m:=by
   exact pq
  rw[a1 Nv]at aeD;rw[iL];exact(Yq.cell (p:=⟨b,off+j,none⟩) YJ).trans (by simpa using XP j 0 v J (by simpa using aeD)))
 have X0:bits .and .u8 adC 7=adC %8:=jW 3 am adC YM;have YN:bits .and .u8 aaK 3=aaK %4:=jW 2 am aaK h1;have XW:bits .and .u8 abq 63=abq %64:=jW 6 am abq aaV;have ZA:bits .and .u8 abb 127=abb %128:=jW 7 am abb ZV;obtain⟨T,aen⟩: ∃T:Nat,1+aaK %4=T:=⟨(1+aaK %4).toNat,J⟩
 obtain⟨aeB,lW⟩: ∃aeB,1+adC %8=aeB:=⟨_,rfl⟩
 obtain⟨afQ,HG⟩: ∃afQ,8*(abq %64)=afQ:=⟨_,rfl⟩
 obtain⟨ik,HH⟩: ∃h1,8*(abb %128)=h1:=⟨_,rfl⟩
 have VI:IntKind.i64.wrap (1+adC %8)=aeB:=by rw[IntKind.wrap_i64];omega
 have WJ:IntKind.i64.wrap (1+aaK %4)=T:=by rw[IntKind.wrap_i64];omega
 have adr:IntKind.i64.wrap (8*(abq %64))=afQ:=by rw[IntKind.wrap_i64];omega
 have XO:IntKind.i64.wrap (8*(abb %128))=ik:=by rw[IntKind.wrap_i64];omega
 have mH:1<=T/\T<=4:=J;have YQ:=I (And.intro lW (And.intro aen (And.intro HG HH)));have vi:=I bT;have HI:=I jt;have U:=aah.a0 w0;clear hb bT acA jt hm hj jb lV Bt lW aen HG HH;go_enter func30,ntmps30;go_upto_region 2 with(first|(refine VP U jj ?_;clear U;intro gr w U Bq)|(first|(refine aq ?_)|(refine VP U jj ?_;clear U;intro fk w U lb)|(refine VP U r6 ?_;clear U;intro wR w U xO)|(refine ac2 U ?_;clear U;intro w U)))
 obtain⟨WW,qC,s1⟩:=HD (P:=prog) U 22 22 3 5 underlying22 aM (dl:=4) (dc:=4) (sl:=n) (sc:=c) (m:=m) (A:=A) (cs:=(List.range m).map fun i=>Value.int .u8 (f i)) aey.out aN (HF.out _ U.all) (by simp;omega) (fun v hv=>by simp only[List.mem_map]at hv;obtain⟨i,_,rfl⟩:=hv;rfl) am cX (by rw[vq.out];exact cf);clear U;have U:=s1;clear s1;go_wp2_with(first|(refine qv U rfl _ _ 28 rfl 95 hM jA 8 rfl rfl J ?_;clear U;intro Qy w U Nw;refine cN ?_)|(refine qv U rfl _ _ 29 rfl 47 lQ ps T rfl rfl J ?_;clear U;intro Nx w U J3;refine cN ?_)|(refine aq ?_)|(refine VP U jj ?_;clear U;intro fk w U lb)|(refine VP U r6 ?_;clear U;intro wR w U xO)|(refine ac2 U ?_;clear U;intro w U));all_goals
  have p2:=aey.out;have wI:m=min n 4:=p2;clear p2;have Ec:=I (a7.zero (b:=fe f n) (T:=T) (B:=w0.heap.size) (by have:=YQ.out;have:=VN.out;show(1+fe f n 1 %4).toNat=T;omega) (U.b (g:=Qy) ag) (U.b (g:=Nx) ag) mH.2 ⟨Nw,J3⟩);have eB:=I (U.c6.c6);clear U;go_loopw [0] (fun b wr=> ∃(k l c':Nat) (A':Option Addr) (v:abM),b= .slice A' l c'/\l<=c'/\c'<=maxLen/\n=m+8*k+l/\(0<l->A'=A.map (fun a=>a.add (m+8*k)))/\aah w0 (fun _=>True) wr none [⟨fk,32,[.int .i64 aeB,.int .i64 T,.int .i64 afQ,.int .i64 ik,.slice (some ⟨v.aca,0,none⟩) 8 v.acR,.slice (some ⟨v.aff,0,none⟩) T v.VY,v.afa]⟩,⟨wR,148,[.int .u8 adC,.int .u8 aaK,.int .u8 abq,.int .u8 abb]⟩,⟨gr,32,[.int .i64 0,.int .i64 0,.int .i64 0,.int .i64 0,.slice none 0 0,.slice none 0 0,.slice none 0 0]⟩]/\a7 wr w0.heap.size v (eT (fe f n) k)) (fun b _=>match b with|.slice _ l _=>l|_=>0)
  case atStart=>
   first
    |exact⟨0,n-m,0,A,_,rfl,J,J,J,(fun h=>J),eB.out,Ec.out⟩
    |exact⟨0,n-m,c-m,_,_,rfl,J,J,J,(fun h=>rfl),eB.out,Ec.out⟩
  case round=>
   obtain⟨k,l,c',A',v,rfl,UR,O3,Eb,adu,U,Yg⟩:=hrel;clear eB Ec;have afB:(eT (fe f n) k).p=⟨aeB,T,afQ,ik⟩:=by
    rw[y7];have:=YQ.out;have:=VN.out;show afy.mk _ _ _ _=_;simp only[afy.mk.injEq];omega
   have Ed:=su HI.out k;by_cases uG:8<=l
   ·obtain⟨bb,off,rfl,TB,mm,c3⟩:=vi.out J;obtain rfl:m=4:=J;have ad1:=adu J;simp only[bt,iL]at ad1;subst ad1;obtain⟨cy,aau⟩: ∃cy:Nat->Int,(fun i=>fe f n (4+8*k+i))=cy:=⟨_,rfl⟩
    have zR:e0 cy:=by rw[<-aau];exact fun i=>HI.out _
    have en: ∀w':World,a7 w' w0.heap.size v (eT (fe f n) k)->w0.heap.size<=w'.heap.size->Calls prog 64 #[.agg #[.int .i64 aeB,.int .i64 T,.int .i64 afQ,.int .i64 ik,.slice (some ⟨v.aca,0,none⟩) 8 v.acR,.slice (some ⟨v.aff,0,none⟩) T v.VY,v.afa],sW cy] w' fun x du=> ∃v',x= .returned (.agg #[.int .i64 aeB,.int .i64 T,.int .i64 afQ,.int .i64 ik,.slice (some ⟨v'.aca,0,none⟩) 8 v'.acR,.slice (some ⟨v'.aff,0,none⟩) T v'.VY,v'.afa])/\a7 du w0.heap.size v' (eT (fe f n) (k+1))/\Z1 (hE v (eT (fe f n) k).p.t.toNat) w' du:=fun w' h1 aaV=>by
     have ZV:=J2 w' w0.heap.size v _ cy h1 Ed zR aaV;have Ya:cU (eT (fe f n) k) cy=eT (fe f n) (k+1):=by rw[<-aau];rfl
     rw[Ya]at ZV;rw[afB]at ZV⊢;exact ZV
    have Nu:=I en;have cell: ∀i,i<8->wr.drew.cell? ⟨bb,off+(4+8*k)+i,none⟩=some (.int .u8 (cy i)):=fun i hi=>by
     have h1:=c3 (4+8*k+i) 0 (.int .u8 (f (4+8*k+i))) J rfl;rw[show off+((4+8*k+i)*1+0)=off+(4+8*k)+i from J]at h1;have aaV:cy i=f (4+8*k+i):=by rw[<-aau];exact B8 J
     rw[aaV];exact(U.all.cell (p:=⟨bb,off+(4+8*k)+i,none⟩) mm).trans h1
    have acZ:=cell 0 am;rw[cZ]at acZ;have adX:=cell 1 am;have acN:=cell 2 am;have aeb:=cell 3 am;have ZM:=cell 4 am;have aaP:=cell 5 am;have act:=cell 6 am;have ace:=cell 7 am;have Qv:=I Yg;have Wv: ∀(k:IntKind) (n:Int),(Value.int k n).oneCell'=true:=fun _ _=>rfl;have os: ∀A n c,(Value.slice A n c).oneCell'=true:=fun _ _ _=>rfl;have ZD:(8:Int)<=(l:Int):=J;have afb:(8:Int)<=(c':Int):=J;replace Eb:=I Eb;replace wI:=I wI;clear en cell c3 aau zR Yg afB Ed adu;go_upto_region 9 with(first|(refine aq ?_)|(refine VP U jj ?_;clear U;intro fk w U lb)|(refine VP U r6 ?_;clear U;intro wR w U xO)|(refine ac2 U ?_;clear U;intro w U))
    replace U:=U.drew;refine wp_region_held_drew (S:=(c0 [⟨wR,148,[.int .u8 adC,.int .u8 aaK,.int .u8 abq,.int .u8 abb]⟩])) aM ?_ (fun X=>?_)
    ·exact U.bG aN
    refine az [[1,2]] ?_;refine Zj [0,3] ?_;refine ea (fun K Z7=>?_) ?_
    ·refine Wf U 7 ?_;refine WE Z7 fun X=>?_;refine aF 3 fun K Z7=>?_;go_simp;refine WE Z7 fun X=>?_;refine aF 4 fun K Z7=>?_;go_simp;exact la
    refine ei (fun K Z7=>?_);go_simp;refine WE Z7 fun X=>?_;refine Zj [0,4] ?_;refine ea (fun K Z7=>?_) ?_
    ·refine Wf U 7 ?_;refine WE Z7 fun X=>?_;refine aF 4 fun K Z7=>?_;go_simp;exact la
    refine ei (fun K Z7=>?_);go_simp;refine WE Z7 fun X=>?_;refine aF 0 fun K Z7=>?_;refine Wf U 7 ?_;exact la
   ·have ZD: ¬(8:Int)<=(l:Int):=by omega
    have XD:k=(n-4)/8:=J;have aci:=I (show j9 f n=eT (fe f n) k by unfold j9;rw[XD]);have afI:=I afB;replace Eb:=I Eb;replace wI:=I wI;have abx:=I Yg;have aaH:=U;have U:=aaH.base;clear adu Yg XD afB Ed;have Wv: ∀(k:IntKind) (n:Int),(Value.int k n).oneCell'=true:=fun _ _=>rfl;have os: ∀A n c,(Value.slice A n c).oneCell'=true:=fun _ _ _=>rfl;have sw:=abx.out.sw;go_wp2_with(first|(refine aq ?_)|(refine VP U jj ?_;clear U;intro fk w U lb)|(refine VP U r6 ?_;clear U;intro wR w U xO)|(refine ac2 U ?_;clear U;intro w U));refine cw results30 rfl rfl ⟨_,U.b ag,rfl⟩ underlying32 rfl aM ?_;exact pp
end
end Go.Proofs.YtcimojgkeoecfaaGreat
