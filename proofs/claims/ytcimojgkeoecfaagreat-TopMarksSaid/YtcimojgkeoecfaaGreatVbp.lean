import Derived.Test.YtcimojgkeoecfaaGreatVbb
set_option linter.all false
set_option maxHeartbeats 16000000
set_option maxRecDepth 100000
namespace Go.Proofs.YtcimojgkeoecfaaGreat
open Go.RowKit Tryz
theorem pk{G:Prop}(h:G:=by
 refine WE Z7 fun X=>?_;refine aF 6 fun K Z7=>?_;rw[Z (by rfl)];refine bK U 95 100 _ rfl _ ([Value.int .u8 (dV e).op,.int .i64 (dV e).a,.int .i64 (dV e).b]) rfl rfl (.agg #[.int .u8 0,.int .i64 0,.int .i64 0]) 3 24 fP jp rfl (by decide) (by decide) ?_;clear U;intro di w U dO;exact pm):G:=h
theorem pm{G:Prop}(h:G:=by
 refine WE Z7 fun X=>?_;refine aF 7 fun K Z7=>?_;rw[Z (by rfl)];have dI:=U.size;refine eX U U3.out (fun j OV=>(iZ.out j OV).2) _ _ 95 rfl (.agg #[.int .u8 0,.int .i64 0,.int .i64 0]) 24 fP jp rfl (by decide) rfl ⟨di,0,none⟩ 1 1 ([Value.int .u8 (dV e).op,.int .i64 (dV e).a,.int .i64 (dV e).b]) rfl rfl (by decide) (U.news ag) rfl (by unfold maxLen;omega) (by omega) ?_;clear U;intro g' cW lL w U e8 lm;replace e8:=e8.imp id (D dI);clear dI;refine WE Z7 fun X=>?_;refine Xh 8 ?_;refine aF 9 fun K Z7=>?_;refine vY U (f:=v.U5) (m:=8) (j:=q) (u:=.slice (some ⟨g',0,none⟩) (U0 q+1) cW) (by omega) ?_;clear U;intro w U;refine WE Z7 fun X=>?_;refine UF ?_;go_wp2_with(first|(refine aq ?_)|(refine Ws U 151 ?_;clear U;intro kP w U j8)|(refine aT ?_;clear U;intro X8 w U T7));refine cw results64 rfl rfl ⟨_,U.b ag,rfl⟩ underlying32 rfl (by kernel_rfl) ?_;refine⟨_,?_,qT.out _ _ _ _ _ U (U.b (g:=v.U1) ag) (U.b (g:=g') cX) e8 lm Tw YJ⟩;show _=Ending.returned (.agg #[.int .i64 s.p.s,.int .i64 s.p.t,.int .i64 s.p.i,.int .i64 s.p.h,.slice (some ⟨v.U1,0,none⟩) 8 v.U6,.slice (some ⟨v.L8,0,none⟩) s.p.t.toNat v.VY,v.TK]);rw[YQ.out]):G:=h
theorem J0(w0:World)(B:Nat)(v:VV)(s:h9)(e:Nat->Int)(l:a7 w0 B v s)(P:hV s)(G:e0 e)(Yq:B<=w0.heap.size)(C:e 0 %8=5):
 Calls prog 64 #[.agg (gy s.p v).toArray,sW e] w0 fun x w'=> ∃v',x= .returned (.agg (gy s.p v').toArray)/\a7 w' B v' (cU s e)/\Z1 (hE v s.p.t.toNat) w0 w':=by
 have Vg:=P.p.t;obtain⟨T,r⟩: ∃T,s.p.t.toNat=T:=⟨_,rfl⟩
 have Yj:s.p.t=(T:Int):=J;have z:=G 1;have Wx:=G 0;obtain⟨t,O⟩: ∃t:Nat,(e 1 %s.p.t).toNat=t:=⟨_,rfl⟩
 obtain⟨q,H⟩: ∃q:Nat,(e 1 %8).toNat=q:=⟨_,rfl⟩
 have zN:t<s.p.t.toNat:=by rw[<-O];have:=cA (e 1) (by omega:0<s.p.t);have:=b5 (e 1) (by omega:s.p.t≠0);omega
 have Q:q<8:=J;have yN:(e 1).tmod (T:Int)=(t:Int):=by rw[al z.1,<-Yj,<-O];exact(Int.toNat_of_nonneg (b5 _ J)).symm
 have adN:e 1 %8=(q:Int):=J;have VL:IntKind.i64.wrap (t:Int)=(t:Int):=by rw[IntKind.wrap_i64];omega
 have W8: ¬T=0:=J;have Wv: ∀(k:IntKind) (n:Int),(Value.int k n).oneCell'=true:=fun _ _=>rfl;have os: ∀A n c,(Value.slice A n c).oneCell'=true:=fun _ _ _=>rfl;have sw:v.TK.oneCell'=true:=by
  rcases l.pi.2 with⟨d,_⟩|⟨g,cap,cS,d,_⟩<;>(rw[d];rfl)
 have z8:bits .and .u8 (e 1) 7=(q:Int):=by rw[u8_and7 _ z];exact adN
 have xC:bits .and .u8 (e 0) 7=e 0 %8:=u8_and7 _ Wx;have Qu:IntKind.i64.wrap (e 1)=e 1:=by rw[IntKind.wrap_i64];omega
 have t0:(t:Int)<(T:Int):=J;have t1:(0:Int)<=(t:Int):=J;have Zh:(q:Int)<8:=J;have q1:(0:Int)<=(q:Int):=J;obtain⟨U0,N⟩: ∃U0:Nat->Nat,Hid (∀j,(s.eI j).length=U0 j):=⟨fun j=>(s.eI j).length,I fun j=>rfl⟩
 have y:=l.fr q Q;rw[N.out]at y;obtain⟨A,c,o⟩: ∃A c,v.U5 q= .slice A (U0 q) c:=by
  rcases y.2 with⟨d,W⟩|⟨g,cap,cS,d,_⟩
  ·exact⟨none,0,by rw[d,W]⟩
  ·exact⟨_,_,d⟩
 have U3:=I (gx (B':=0) y fun _ _=>aL _);have iZ:=I (fun j (OV:(v.U5 q).ownBlock=some j)=>And.intro (y.lt j OV).2 (show j≠v.U1 from fun d=>dW y l.Uw am (by rw[<-d];exact OV)));have R:=l.Uw;rw[r]at zN;have M:=I (show((List.range 8).map v.U5++v.Zg)[q]? =some (.slice A (U0 q) c)from by rw[rF Q,o]);have ZR:=I l;have cq:=I P;have Yl:=I G;rw[o]at U3 iZ;have Nt:=I o;have Br:=I O;have TA:=I H;have qT:=I (show∀(L:List PL) (g cap:Nat) (rest:List Value) (w':World),Bx w0 (fun b=>b≠v.U1/\(Value.slice A (U0 q) c).ownBlock≠some b) w' none L->ah w' v.U1 95 ((List.range 8).map (put v.U5 q (.slice (some ⟨g,0,none⟩) (U0 q+1) cap))++v.Zg).toArray->ah w' g 100 ((lx (s.eI q)++ [Value.int .u8 (dV e).op,.int .i64 (dV e).a,.int .i64 (dV e).b])++rest).toArray->((Value.slice A (U0 q) c).ownBlock=some g\/w0.heap.size<=g)->(U0 q+1<=cap/\cap<=maxLen/\((lx (s.eI q)++ [Value.int .u8 (dV e).op,.int .i64 (dV e).a,.int .i64 (dV e).b])++rest).length=cap*3)->e 2<=4->U0 q<8->
  a7 w' B {v with U5:=put v.U5 q (.slice (some ⟨g,0,none⟩) (U0 q+1) cap)} (cU s e)/\Z1 (hE v T) w0 w' from fun L g cap rest w' h1 Tw ZV Ya F XX Un=>by
  have Zb:=show cU s e= {s with eI:=put s.eI q (s.eI q++ [dV e])} by unfold cU;rw[aB,Z C,H,Z ⟨XX,by rw[N.out];exact Un⟩]
  rw[Zb];rw[<-o]at h1 Ya;rw[<-N.out q]at Tw F⊢
  skip
  rw[<-r];exact a7.KO l Yq Q (c:=dV e) h1.Wu Tw ZV Ya F)
 have xv:=I (show∀w',Below w0.heap.size w0 w'->¬(e 2<=4/\U0 q<8)->a7 w' B v (cU s e)/\Z1 (hE v T) w0 w' from fun w' h1 Tw=>by
  rw[show cU s e=s by unfold cU;rw[aB,Z C,H,N.out,Y Tw]];exact⟨l.below h1,Z1.cg h1⟩)
 have Pp:=I R;have U:=Bx.g8 R;show Calls _ _ #[.agg #[.int .i64 s.p.s,.int .i64 s.p.t,.int .i64 s.p.i,.int .i64 s.p.h,.slice (some ⟨v.U1,0,none⟩) 8 v.U6,.slice (some ⟨v.L8,0,none⟩) s.p.t.toNat v.VY,v.TK],_] _ _;rw[r];have YQ:=I r;clear l P G y R o O H Yj r Vg;go_enter func64,ntmps64;go_upto_region 2 with(first|(refine aq ?_)|(refine Ws U 151 ?_;clear U;intro kP w U j8)|(refine aT ?_;clear U;intro X8 w U T7))
 replace U:=U.drew;refine b0 ?_;intro X;refine az [[0,1,2,3,4,5,6,7,8,9,10,11,12,13,14,15,16,17]] ?_;dsimp only[Exit.then]
 apply_assumption
 have Tv:=U.cell (g:=v.U1) (i:=q) ag M.out;by_cases Tw:e 2<=4
 ·by_cases YJ:U0 q<8
  ·have fx:(U0 q:Int)<8:=by omega
   go_upto_region 8 with(first|(refine aq ?_)|(refine Ws U 151 ?_;clear U;intro kP w U j8)|(refine aT ?_;clear U;intro X8 w U T7))
   clear Tv;replace U:=U.drew;refine wp_region_held_drew (S:=(c0 [⟨kP,151,[.int .u8 (e 0),.int .u8 (e 1),.int .u8 (e 2),.int .u8 (e 3),.int .u8 (e 4),.int .u8 (e 5),.int .u8 (e 6),.int .u8 (e 7)]⟩])) aM ?_ (fun X=>?_)
   ·exact U.bG aN
   refine az [[0,1,2,4]] ?_;refine Zj [3,5] ?_;refine ea (fun K Z7=>?_) ?_
   ·rw[Z (by rfl)];refine bU U 95 _ rfl v.U1 q rfl ag (.slice A (U0 q) c) M.out underlying95 rfl ?_;refine WE Z7 fun X=>?_;refine aF 5 fun K Z7=>?_;go_simp
    (go_at_call 115;refine a6 U (KM _ e Yl.out Tw) ?_;clear U;intro V U)
    go_wp2_with fail;exact pk
   refine ei (fun K Z7=>?_);go_simp
   (go_at_call 115;refine a6 U (KM _ e Yl.out Tw) ?_;clear U;intro V U)
   go_wp2_with fail;refine WE Z7 fun X=>?_;refine Zj [3,6] ?_;refine ea (fun K Z7=>?_) ?_
   ·rw[Z (by rfl)];refine bU U 95 _ rfl v.U1 q rfl ag (.slice A (U0 q) c) M.out underlying95 rfl ?_;exact pk
   refine ei (fun K Z7=>?_);rw[Z (by rfl)];refine bK U 95 100 _ rfl _ ([Value.int .u8 (dV e).op,.int .i64 (dV e).a,.int .i64 (dV e).b]) rfl rfl (.agg #[.int .u8 0,.int .i64 0,.int .i64 0]) 3 24 fP jp rfl am am ?_;clear U;intro di w U dO;refine WE Z7 fun X=>?_;refine aF 3 fun K Z7=>?_;rw[Z (by rfl)];refine bU U 95 _ rfl v.U1 q rfl ag (.slice A (U0 q) c) M.out underlying95 rfl ?_;exact pm
  ·have fx: ¬(U0 q:Int)<8:=by omega
   exact oh
 ·go_wp2_with(first|(refine aq ?_)|(refine Ws U 151 ?_;clear U;intro kP w U j8)|(refine aT ?_;clear U;intro X8 w U T7));exact kQ
section
theorem pn{G:Prop}(h:G:=by
 refine WE Z7 fun X=>?_;refine aF 5 fun K Z7=>?_;rw[Z (by rfl)];have dI:=U.size;refine eX U U3.out (fun j OV=>trivial) _ _ 30 rfl (.int .i64 0) 8 bg b6 rfl (by decide) rfl ⟨di,0,none⟩ 1 1 ([Value.int .i64 (numOf e)]) rfl rfl (by decide) (U.news ag) rfl (by unfold maxLen;omega) (by omega) ?_;clear U;intro g' cW lL w U e8 lm;replace e8:=e8.imp id (D dI);clear dI;refine WE Z7 fun X=>?_;refine az [[6],[7]] ?_;clear U;intro w U;go_wp2_with(first|(refine aq ?_)|(refine Ws U 151 ?_;clear U;intro kP w U j8)|(refine aT ?_;clear U;intro X8 w U T7));refine cw results64 rfl rfl ⟨_,U.b ag,rfl⟩ underlying32 rfl (by kernel_rfl) ?_;refine⟨{v with TK:=.slice (some ⟨g',0,none⟩) (m+1) cW},?_,qT.out _ _ _ _ _ U (U.b (g:=g') cX) e8 lm YJ⟩;show _=Ending.returned (.agg #[.int .i64 s.p.s,.int .i64 s.p.t,.int .i64 s.p.i,.int .i64 s.p.h,.slice (some ⟨v.U1,0,none⟩) 8 v.U6,.slice (some ⟨v.L8,0,none⟩) s.p.t.toNat v.VY,.slice (some ⟨g',0,none⟩) (m+1) cW]);rw[YQ.out]):G:=h
theorem po{G:Prop}(h:G:=by
 refine WE Z7 fun X=>?_;refine aF 4 fun K Z7=>?_;rw[Z (by rfl)];refine bK U 30 3 _ rfl _ ([Value.int .i64 (numOf e)]) rfl rfl (.int .i64 0) 1 8 bg b6 rfl (by decide) (by decide) ?_;clear U;intro di w U dO;exact pn):G:=h
section
variable(w0:World)(B:Nat)(v:VV)(s:h9)(e:Nat->Int)(a:a7 w0 B v s)(f:hV s)(d:e0 e)(l:B<=w0.heap.size)
include w0 B v s e a f d l
theorem J1(z: ¬e 0 %8<5)(G:e 0 %8≠5):
 Calls prog 64 #[.agg (gy s.p v).toArray,sW e] w0 fun x w'=> ∃v',x= .returned (.agg (gy s.p v').toArray)/\a7 w' B v' (cU s e)/\Z1 (hE v s.p.t.toNat) w0 w':=by
 have R:=f.p.t;obtain⟨T,u⟩: ∃T,s.p.t.toNat=T:=⟨_,rfl⟩
 have W:s.p.t=(T:Int):=J;have y:=d 1;have Wx:=d 0;obtain⟨t,H⟩: ∃t:Nat,(e 1 %s.p.t).toNat=t:=⟨_,rfl⟩
 obtain⟨q,VX⟩: ∃q:Nat,(e 1 %8).toNat=q:=⟨_,rfl⟩
 have zN:t<s.p.t.toNat:=by rw[<-H];have:=cA (e 1) (by omega:0<s.p.t);have:=b5 (e 1) (by omega:s.p.t≠0);omega
 have ZD:q<8:=J;have yN:(e 1).tmod (T:Int)=(t:Int):=by rw[al y.1,<-W,<-H];exact(Int.toNat_of_nonneg (b5 _ J)).symm
 have Q:e 1 %8=(q:Int):=J;have VL:IntKind.i64.wrap (t:Int)=(t:Int):=by rw[IntKind.wrap_i64];omega
 have W8: ¬T=0:=J;have Wv: ∀(k:IntKind) (n:Int),(Value.int k n).oneCell'=true:=fun _ _=>rfl;have os: ∀A n c,(Value.slice A n c).oneCell'=true:=fun _ _ _=>rfl;have sw:v.TK.oneCell'=true:=by
  rcases a.pi.2 with⟨o,_⟩|⟨g,cap,cS,o,_⟩<;>(rw[o];rfl)
 have z8:bits .and .u8 (e 1) 7=(q:Int):=by rw[u8_and7 _ y];exact Q
 have xC:bits .and .u8 (e 0) 7=e 0 %8:=u8_and7 _ Wx;have Qu:IntKind.i64.wrap (e 1)=e 1:=by rw[IntKind.wrap_i64];omega
 have t0:(t:Int)<(T:Int):=J;have t1:(0:Int)<=(t:Int):=J;have Zh:(q:Int)<8:=J;have q1:(0:Int)<=(q:Int):=J;obtain⟨m,hm⟩: ∃m,s.cp.length=m:=⟨_,rfl⟩
 have F:=a.pi;rw[hm]at F;obtain⟨A,c,r⟩: ∃A c,v.TK= .slice A m c:=by
  rcases F.2 with⟨o,O⟩|⟨g,cap,cS,o,_⟩
  ·exact⟨none,0,by rw[o,O]⟩
  ·exact⟨_,_,o⟩
 have U3:=I (gx (B':=0) F fun _ _=>aL _);have Ug:(e 0 %8==5)=false:=by simpa using G
 have Yl:=I d;rw[r]at U3;have qT:=I (show∀(L:List PL) (g cap:Nat) (rest:List Value) (w':World),Bx w0 (fun b=>True/\(Value.slice A m c).ownBlock≠some b) w' none L->ah w' g 3 ((h8 s.cp++ [Value.int .i64 (numOf e)])++rest).toArray->((Value.slice A m c).ownBlock=some g\/w0.heap.size<=g)->(m+1<=cap/\cap<=maxLen/\((h8 s.cp++ [Value.int .i64 (numOf e)])++rest).length=cap*1)->m<4096->
  a7 w' B {v with TK:=.slice (some ⟨g,0,none⟩) (m+1) cap} (cU s e)/\Z1 (hE v T) w0 w' from fun L g cap rest w' h1 ZV V C P=>by
  have Zb:cU s e= {s with cp:=s.cp++ [numOf e]}:=by unfold cU;rw[Y z,Y G,Z (by rw[hm];exact P)]
  rw[Zb];rw[<-r]at h1 V;rw[<-hm]at C⊢;rw[<-u];exact a7.KP a l (c:=numOf e) h1.Wu ZV V C)
 have xv:=I (show∀w',Below w0.heap.size w0 w'->¬m<4096->a7 w' B v (cU s e)/\Z1 (hE v T) w0 w' from fun w' h1 N=>by
  rw[show cU s e=s by unfold cU;rw[Y z,Y G,Y (by rw[hm];exact N)]];exact⟨a.below h1,Z1.cg h1⟩)
 have U:=Bx.a0 w0;show Calls _ _ #[.agg #[.int .i64 s.p.s,.int .i64 s.p.t,.int .i64 s.p.i,.int .i64 s.p.h,.slice (some ⟨v.U1,0,none⟩) 8 v.U6,.slice (some ⟨v.L8,0,none⟩) s.p.t.toNat v.VY,v.TK],_] _ _;rw[u,r];have YQ:=I u;have Nt:=I r;clear a f d F r H VX W u R hm sw G;go_enter func64,ntmps64;go_upto_region 2 with(first|(refine aq ?_)|(refine Ws U 151 ?_;clear U;intro kP w U j8)|(refine aT ?_;clear U;intro X8 w U T7))
 replace U:=U.drew;refine b0 ?_;intro X;refine az [[0,1,2,3,4,5,6,7,8,9,10,11,12,13,14,15,16,17]] ?_;dsimp only[Exit.then]
 apply_assumption
 by_cases YJ:m<4096
 ·have fx:(m:Int)<4096:=by omega
  go_upto_region 10 with(first|(refine aq ?_)|(refine Ws U 151 ?_;clear U;intro kP w U j8)|(refine aT ?_;clear U;intro X8 w U T7))
  replace U:=U.drew;refine wp_region_held_drew (S:=(c0 [⟨kP,151,[.int .u8 (e 0),.int .u8 (e 1),.int .u8 (e 2),.int .u8 (e 3),.int .u8 (e 4),.int .u8 (e 5),.int .u8 (e 6),.int .u8 (e 7)]⟩])) aM ?_ (fun X=>?_)
  ·exact U.bG aN
  refine az [[0,2]] ?_;refine Zj [1,3] ?_;refine ea (fun K Z7=>?_) ?_
  ·refine YL U ?_;refine WE Z7 fun X=>?_;refine aF 3 fun K Z7=>?_;go_simp
   (go_at_call 116;refine a6 U (sr _ e Yl.out) ?_;clear U;intro M U)
   go_wp2_with fail;exact po
  refine ei (fun K Z7=>?_);go_simp
  (go_at_call 116;refine a6 U (sr _ e Yl.out) ?_;clear U;intro M U)
  go_wp2_with fail;refine WE Z7 fun X=>?_;refine Zj [1,4] ?_;refine ea (fun K Z7=>?_) ?_
  ·refine YL U ?_;exact po
  refine ei (fun K Z7=>?_);rw[Z (by rfl)];refine bK U 30 3 _ rfl _ ([Value.int .i64 (numOf e)]) rfl rfl (.int .i64 0) 1 8 bg b6 rfl am am ?_;clear U;intro di w U dO;refine WE Z7 fun X=>?_;refine aF 1 fun K Z7=>?_;refine YL U ?_;exact pn
 ·have fx: ¬(m:Int)<4096:=by omega
  go_wp2_with(first|(refine aq ?_)|(refine Ws U 151 ?_;clear U;intro kP w U j8)|(refine aT ?_;clear U;intro X8 w U T7));refine cw results64 rfl rfl ⟨_,U.b ag,rfl⟩ underlying32 rfl aM ?_;refine⟨v,?_,xv.out _ U.all (fun h=>J)⟩;show _=Ending.returned (.agg #[.int .i64 s.p.s,.int .i64 s.p.t,.int .i64 s.p.i,.int .i64 s.p.h,.slice (some ⟨v.U1,0,none⟩) 8 v.U6,.slice (some ⟨v.L8,0,none⟩) s.p.t.toNat v.VY,v.TK]);rw[YQ.out];rw[Nt.out]
theorem J2:
 Calls prog 64 #[.agg (gy s.p v).toArray,sW e] w0 fun x w'=> ∃v',x= .returned (.agg (gy s.p v').toArray)/\a7 w' B v' (cU s e)/\Z1 (hE v s.p.t.toNat) w0 w':=by
 by_cases h1:e 0 %8<5
 ·exact JZ w0 B v s e a f d l h1
 by_cases b:e 0 %8=5
 ·exact J0 w0 B v s e a f d l b
 ·exact J1 w0 B v s e a f d l h1 b
end
end
section
section
variable{w0 w:World}{S:Nat->Prop}{L L':List PL}{P:Program}{o:Oper}{a:Act}{Q:Exit->Act->World->Prop}{ops:Array Oper}{rest:List Oper}
theorem pp{G:Prop}(h:G:=by
 refine⟨v,?_,?_,(DI.back U).all⟩
 ·rw[xa.out,zy.out];rfl
 ·rw[xa.out];exact XM.out.move U.Wu DI.bC (by simp)):G:=h
theorem la{G:Prop}(h:G:=by
 refine WE Z7 fun X=>?_;refine aF 5 fun K Z7=>?_;go_simp
 (go_at_call 64;refine Calls.mono (Nu.out _ (Qv.out.below (Below.refl _ _).drew) U.size) ?_;rintro e EH ⟨v',rfl,Qw,aX⟩;have sw:=Qw.sw;have DI:=U.CY (Qv.out.below (Below.refl _ _).drew) aX (by simp);clear U aX;have U:=DI.base)
 go_wp2_with fail;refine WE Z7 fun X=>?_;refine az [[],[6]] ?_;clear U;intro w U;go_wp2_with(first|(refine aq ?_)|(refine VP U jj ?_;clear U;intro fk w U lb)|(refine VP U r6 ?_;clear U;intro wR w U xO)|(refine Po U ?_;clear U;intro w U));all_goals
  go_roundw
  case rel=>
   have Eb:=Eb.out;have Qx:=Qw.move U.Wu DI.bC (by simp);have Yq:=DI.back U;first
    |exact⟨k+1,l-8,0,_,⟨rfl,rfl,rfl⟩,by omega,by omega,by omega,(fun h=>by omega),v',Yq,Qx⟩
    |exact⟨k+1,l-8,c'-8,_,⟨rfl,rfl,rfl⟩,by omega,by omega,by omega,(fun h=>by rw[show off+(4+8*k)+8=off+(4+8*(k+1))from by omega]),v',Yq,Qx⟩
  case measure=>first|omega|(simp;omega)):G:=h
theorem pq{G:Prop}(h:G:=by
 rcases Nat.lt_or_ge j m with q|q
 ·exact q
 ·rw[aV (by simpa using q)]at OV;cases OV):G:=h
theorem HD(h:Bx w0 S w none L)(t t' p n:TypeId)(hu:P.underlying t=some (.slice n))(l:(P.info? n).map (·.size)=some 1)
 {g dl dc sl sc m:Nat}{A:Option Addr}{d cs:List Value}{c:TypeId}(hm:m=Nat.min sl dl)(i:cs.length=m)(u:0<m->∃f,A=some f/\∀j v,cs[j]? =some v->w.cell? (f.add j)=some v)(y:cs.length<=d.length)(h1: ∀v∈cs,v.oneCell'=true)(C:0<dl)(hi:In L g c d)(q:Tr L g c d (cs++d.drop cs.length) L'):
 ∃w',(Builtin.copy_ #[t,t'] p #[.slice (some ⟨g,0,none⟩) dl dc,.slice A sl sc]).run P w= .ok (.int .i64 m) w'/\Bx w0 S w' none L':=by
 have hb:w.heap[g]? =some (.cells d.toArray c (0,0)):=h.b hi;by_cases r:0<m
 ·obtain⟨f,rfl,x⟩:=u r;refine⟨_,nt (P:=P) w t t' p n g 0 dl dc f sl sc 1 m d.toArray c cs hu l hb hm J x (by simpa using y) h1,h.hX q ?_ ⟨rfl,rfl,rfl,by simp[World.setRow],fun k B i=>setRow_other w g k _ i⟩⟩;have:=setRow_heap w g d.toArray (d.toArray.toList.take 0++cs++d.toArray.toList.drop (0+cs.length)).toArray c (0,0) hb;unfold ah;simpa using this
 ·have s:sl=0:=by
   rw[hm]at r;have:Nat.min sl dl=min sl dl:=rfl;omega
  subst s;have e:cs= []:=dn J;have z:m=0:=J;subst e;subst z;refine⟨w,mV w t t' p n g 0 dl dc A sc 1 hu l,h.hX q ?_ (ce.refl _ _ _)⟩;unfold ah;simpa using hb
theorem qv(h:Bx w0 S w none L)(s:o.guard=none)(l c:Operand)(t:TypeId)(m:o.op=Op.makeSlice t l c)(e:TypeId)(d:P.underlying t=some (.slice e))
 (r:(P.info? e).map (fun i=>(i.zero,i.size,i.bytes))=some (some (.slice none 0 0),1,24))(n:Nat)(j:a.eval l= .int .i64 n)(f:a.eval c= .int .i64 n)(v:n<=65536)
 (k: ∀g w',Bx w0 S w' none (⟨g,e,(List.range n).map fun _=>.slice none 0 0⟩::L)->w0.heap.size<=g->wpList P ops Q rest (a.put o.dst (.slice (some ⟨g,0,none⟩) n n)) w'):wpList P ops Q (o::rest) a w:=by
 refine wpList_plain s fun K k'=>?_;have hb:24*n<=281474976710656:=J;have u:=run_make_row' (P:=P) t e (.slice none 0 0) 24 d r rfl .i64 .i64 n hb J w;have q:madeCells #[.slice none 0 0] n=((List.range n).map fun _=>Value.slice none 0 0).toArray:=by
  apply Array.ext';rw[List.toList_toArray];unfold madeCells;apply List.ext_getElem
  ·simp
  ·intro i h1 b;simp[Nat.mod_one]
 have b:=k _ _ (h.new e ((List.range n).map fun _=>.slice none 0 0)) h.size;have p:=k' _ _ b;unfold Oper.wp execOp;simp only[m,j,f,Sem.run_bind,u,q];simpa [go_sem]using p
end
theorem ps:(Tryz.prog.info? 47).map (fun i=>(i.zero,i.size,i.bytes))=some (some (.slice none 0 0),1,24):=aM
theorem lQ:Tryz.prog.underlying 29=some (.slice 47):=aM
theorem jW(i:Nat)(hi:i<=7)(x:Int)(h:0<=x/\x<=255):bits .and .u8 x ((2^i-1:Nat):Int)=x %((2^i:Nat):Int):=by
 obtain⟨n,rfl⟩:=bn h.1;have:2^i<=2^7:=Nat.pow_le_pow_right am hi;rw[(bits_nat .u8 8 am wraps_u8 n (2^i-1) J J).1,cD];omega
theorem B7(f:Nat->Int)(n m:Nat)(hm:m=Nat.min n 4):((List.range m).map fun i=>Value.int .u8 (f i))++List.drop ((List.range m).map fun i=>Value.int .u8 (f i)).length [.int .u8 0,.int .u8 0,.int .u8 0,.int .u8 0]= [.int .u8 (fe f n 0),.int .u8 (fe f n 1),.int .u8 (fe f n 2),.int .u8 (fe f n 3)]:=by
 have hm:m=min n 4:=hm;rcases(by omega:n=0/\m=0\/n=1/\m=1\/n=2/\m=2\/n=3/\m=3\/4<=n/\m=4)with⟨rfl,rfl⟩|⟨rfl,rfl⟩|⟨rfl,rfl⟩|⟨rfl,rfl⟩|⟨a,rfl⟩
 ·rfl
 ·rfl
 ·rfl
 ·rfl
 ·unfold fe;rw[m3,m3,m3,m3];rfl
theorem a7.zero{w:World}{B a c T:Nat}{b:Nat->Int}(d:(oi b).p.t.toNat=T)(e:ah w a 95 ((List.range 8).map fun _=>Value.slice none 0 0).toArray)(g:ah w c 47 ((List.range T).map fun _=>Value.slice none 0 0).toArray)(l:T<=4)(k:B<=a/\B<=c):
 a7 w B ⟨a,c,8,T,[],[],fun _=>.slice none 0 0,fun _=>.slice none 0 0,.slice none 0 0⟩ (oi b):=
 ⟨by rw[br];exact e,by rw[br,d];exact g,⟨ai _,by show 8<=maxLen;decide⟩,by rw[d];exact⟨ai _,by show T<=maxLen;unfold maxLen;omega⟩,fun j f=>World.ownsRow_nil _ _ _ _,fun j f=>World.ownsRow_nil _ _ _ _,World.ownsRow_nil _ _ _ _,(fun i j b _ _ _ h=>by cases h),(fun i j b _ _ _ h=>by cases h),k⟩
theorem a7.sw{w:World}{B:Nat}{v:VV}{s:h9}(h:a7 w B v s):v.TK.oneCell'=true:=by
 rcases h.pi.2 with⟨a,_⟩|⟨g,cap,b,a,_⟩<;>(rw[a];rfl)
theorem a7.move{w w':World}{B:Nat}{v:VV}{s:h9}{L:List PL}(h:a7 w B v s)(k:Z1 (bq none L) w w')(hb: ∀x,x∈L->ah w x.g x.t x.cs.toArray)(d: ∀x,x∈L->x.t≠95/\x.t≠47/\x.t≠100/\x.t≠42/\x.t≠3):a7 w' B v s:=by
 have f: ∀ {b:Nat},(∀x,x∈L->x.g≠b)->bq none L b:=fun l=>⟨l,fun a e=>by cases e⟩
 exact⟨(k.block _ h.Uw.lt (f fun x c=>(hb x c).ne h.Uw (d x c).1)).trans h.Uw,(k.block _ h.Us.lt (f fun x c=>(hb x c).ne h.Us (d x c).2.1)).trans h.Us,h.U6,h.VY,fun i hi=>eU (h.fr i hi) k fun b j=>f fun x c e=>dW (h.fr i hi) (hb x c) (d x c).2.2.1.symm (by rw[e];exact j),fun i hi=>eU (h.pr i hi) k fun b j=>f fun x c e=>dW (h.pr i hi) (hb x c) (d x c).2.2.2.1.symm (by rw[e];exact j),eU h.pi k fun b j=>f fun x c e=>dW h.pi (hb x c) (d x c).2.2.2.2.symm (by rw[e];exact j),h.fd,h.gC,h.ge⟩
theorem B8{f:Nat->Int}{n i:Nat}(h:i<n):fe f n i=f i:=by unfold fe;rw[Z h]
theorem HE(w0:World)(uO:Nat->Prop)(O:Value)(n:Nat)(f:Nat->Int)(hb:KC w0 uO O n 1 fun i=> [.int .u8 (f i)])(Q:e0 f)(U4:n<=400):
 Calls prog 30 #[O] w0 fun x w'=> ∃v,x= .returned (.agg (gy (j9 f n).p v).toArray)/\a7 w' w0.heap.size v (j9 f n)/\Below w0.heap.size w0 w':=by
 obtain⟨A,c,rfl,eR,c7,bT⟩:=id hb;obtain⟨m,hm⟩: ∃m,m=Nat.min n 4:=⟨_,rfl⟩
 have P4:m<=4/\m<=n:=by rw[hm];exact⟨Nat.min_le_right _ _,Nat.min_le_left _ _⟩
 have W:=I hm;have L:e0 (fe f n):=fun i=>by unfold fe;split;exact Q i;omega
 have YM:=L 0;have h1:=L 1;have y:=L 2;have H:=L 3;obtain⟨s,hj⟩: ∃x,fe f n 0=x:=⟨_,rfl⟩
 obtain⟨d,jb⟩: ∃x,fe f n 1=x:=⟨_,rfl⟩
 obtain⟨r,lV⟩: ∃x,fe f n 2=x:=⟨_,rfl⟩
 obtain⟨o,Bt⟩: ∃x,fe f n 3=x:=⟨_,rfl⟩
 have VN:=I (And.intro hj (And.intro jb (And.intro lV Bt)));have N:=I (B7 f n m hm);rw[hj]at YM N;rw[jb]at h1 N;rw[lV]at y N;rw[Bt]at H N;have HF:=I (fun(w:World) (Yq:Below w0.heap.size w0 w) (h:0<m)=>show∃vZ,A=some vZ/\∀j v,((List.range m).map fun i=>Value.int .u8 (f i))[j]? =some v->w.cell? (vZ.add j)=some v from by
  obtain⟨b,off,rfl,YF,YJ,XP⟩:=bT J;refine⟨_,rfl,fun j v OV=>?_⟩;rw[a3]at OV;have Nv:j<m:=by
   exact pq
  rw[a1 Nv]at OV;rw[iL];exact(Yq.cell (p:=⟨b,off+j,none⟩) YJ).trans (by simpa using XP j 0 v J (by simpa using OV)))
 have X0:bits .and .u8 s 7=s %8:=jW 3 am s YM;have YN:bits .and .u8 d 3=d %4:=jW 2 am d h1;have XW:bits .and .u8 r 63=r %64:=jW 6 am r y;have ZA:bits .and .u8 o 127=o %128:=jW 7 am o H;obtain⟨T,V⟩: ∃T:Nat,1+d %4=T:=⟨(1+d %4).toNat,J⟩
 obtain⟨RV,lW⟩: ∃RV,1+s %8=RV:=⟨_,rfl⟩
 obtain⟨u,HG⟩: ∃u,8*(r %64)=u:=⟨_,rfl⟩
 obtain⟨M,HH⟩: ∃h1,8*(o %128)=h1:=⟨_,rfl⟩
 have VI:IntKind.i64.wrap (1+s %8)=RV:=by rw[IntKind.wrap_i64];omega
 have WJ:IntKind.i64.wrap (1+d %4)=T:=by rw[IntKind.wrap_i64];omega
 have tM:IntKind.i64.wrap (8*(r %64))=u:=by rw[IntKind.wrap_i64];omega
 have XO:IntKind.i64.wrap (8*(o %128))=M:=by rw[IntKind.wrap_i64];omega
 have mH:1<=T/\T<=4:=J;have YQ:=I (And.intro lW (And.intro V (And.intro HG HH)));have vi:=I bT;have HI:=I L;have U:=Bx.a0 w0;clear hb bT Q L hm hj jb lV Bt lW V HG HH;go_enter func30,ntmps30;go_upto_region 2 with(first|(refine VP U jj ?_;clear U;intro gr w U Bq)|(first|(refine aq ?_)|(refine VP U jj ?_;clear U;intro fk w U lb)|(refine VP U r6 ?_;clear U;intro wR w U xO)|(refine Po U ?_;clear U;intro w U)))
 obtain⟨WW,qC,s1⟩:=HD (P:=prog) U 22 22 3 5 underlying22 aM (dl:=4) (dc:=4) (sl:=n) (sc:=c) (m:=m) (A:=A) (cs:=(List.range m).map fun i=>Value.int .u8 (f i)) W.out aN (HF.out _ U.all) (by simp;omega) (fun v hv=>by simp only[List.mem_map]at hv;obtain⟨i,_,rfl⟩:=hv;rfl) am cX (by rw[N.out];exact cf);clear U;have U:=s1;clear s1;go_wp2_with(first|(refine qv U rfl _ _ 28 rfl 95 hM jA 8 rfl rfl J ?_;clear U;intro Qy w U Nw;refine cN ?_)|(refine qv U rfl _ _ 29 rfl 47 lQ ps T rfl rfl J ?_;clear U;intro Nx w U J3;refine cN ?_)|(refine aq ?_)|(refine VP U jj ?_;clear U;intro fk w U lb)|(refine VP U r6 ?_;clear U;intro wR w U xO)|(refine Po U ?_;clear U;intro w U));all_goals
  have p2:=W.out;have wI:m=min n 4:=p2;clear p2;have Ec:=I (a7.zero (b:=fe f n) (T:=T) (B:=w0.heap.size) (by have:=YQ.out;have:=VN.out;show(1+fe f n 1 %4).toNat=T;omega) (U.b (g:=Qy) ag) (U.b (g:=Nx) ag) mH.2 ⟨Nw,J3⟩);have eB:=I (U.c6.c6);clear U;go_loopw [0] (fun b wr=> ∃(k l c':Nat) (A':Option Addr) (v:VV),b= .slice A' l c'/\l<=c'/\c'<=maxLen/\n=m+8*k+l/\(0<l->A'=A.map (fun a=>a.add (m+8*k)))/\Bx w0 (fun _=>True) wr none [⟨fk,32,[.int .i64 RV,.int .i64 T,.int .i64 u,.int .i64 M,.slice (some ⟨v.U1,0,none⟩) 8 v.U6,.slice (some ⟨v.L8,0,none⟩) T v.VY,v.TK]⟩,⟨wR,148,[.int .u8 s,.int .u8 d,.int .u8 r,.int .u8 o]⟩,⟨gr,32,[.int .i64 0,.int .i64 0,.int .i64 0,.int .i64 0,.slice none 0 0,.slice none 0 0,.slice none 0 0]⟩]/\a7 wr w0.heap.size v (eT (fe f n) k)) (fun b _=>match b with|.slice _ l _=>l|_=>0)
  case atStart=>
   first
    |exact⟨0,n-m,0,A,_,rfl,J,J,J,(fun h=>J),eB.out,Ec.out⟩
    |exact⟨0,n-m,c-m,_,_,rfl,J,J,J,(fun h=>rfl),eB.out,Ec.out⟩
  case round=>
   obtain⟨k,l,c',A',v,rfl,aef,adk,Eb,G,U,Yg⟩:=hrel;clear eB Ec;have C:(eT (fe f n) k).p=⟨RV,T,u,M⟩:=by
    rw[y7];have:=YQ.out;have:=VN.out;show PO.mk _ _ _ _=_;simp only[PO.mk.injEq];omega
   have Ed:=su HI.out k;by_cases uG:8<=l
   ·obtain⟨bb,off,rfl,TB,mm,c3⟩:=vi.out J;obtain rfl:m=4:=J;have R:=G J;simp only[bt,iL]at R;subst R;obtain⟨F,z⟩: ∃F:Nat->Int,(fun i=>fe f n (4+8*k+i))=F:=⟨_,rfl⟩
    have zR:e0 F:=by rw[<-z];exact fun i=>HI.out _
    have en: ∀w':World,a7 w' w0.heap.size v (eT (fe f n) k)->w0.heap.size<=w'.heap.size->Calls prog 64 #[.agg #[.int .i64 RV,.int .i64 T,.int .i64 u,.int .i64 M,.slice (some ⟨v.U1,0,none⟩) 8 v.U6,.slice (some ⟨v.L8,0,none⟩) T v.VY,v.TK],sW F] w' fun x du=> ∃v',x= .returned (.agg #[.int .i64 RV,.int .i64 T,.int .i64 u,.int .i64 M,.slice (some ⟨v'.U1,0,none⟩) 8 v'.U6,.slice (some ⟨v'.L8,0,none⟩) T v'.VY,v'.TK])/\a7 du w0.heap.size v' (eT (fe f n) (k+1))/\Z1 (hE v (eT (fe f n) k).p.t.toNat) w' du:=fun w' h1 y=>by
     have H:=J2 w' w0.heap.size v _ F h1 Ed zR y;have Ya:cU (eT (fe f n) k) F=eT (fe f n) (k+1):=by rw[<-z];rfl
     rw[Ya]at H;rw[C]at H⊢;exact H
    have Nu:=I en;have cell: ∀i,i<8->wr.drew.cell? ⟨bb,off+(4+8*k)+i,none⟩=some (.int .u8 (F i)):=fun i hi=>by
     have h1:=c3 (4+8*k+i) 0 (.int .u8 (f (4+8*k+i))) J rfl;rw[show off+((4+8*k+i)*1+0)=off+(4+8*k)+i from J]at h1;have y:F i=f (4+8*k+i):=by rw[<-z];exact B8 J
     rw[y];exact(U.all.cell (p:=⟨bb,off+(4+8*k)+i,none⟩) mm).trans h1
    have lF:=cell 0 am;rw[cZ]at lF;have Tv:=cell 1 am;have Tt:=cell 2 am;have Tm:=cell 3 am;have ZM:=cell 4 am;have Ug:=cell 5 am;have YY:=cell 6 am;have Wz:=cell 7 am;have Qv:=I Yg;have Wv: ∀(k:IntKind) (n:Int),(Value.int k n).oneCell'=true:=fun _ _=>rfl;have os: ∀A n c,(Value.slice A n c).oneCell'=true:=fun _ _ _=>rfl;have ZD:(8:Int)<=(l:Int):=J;have afb:(8:Int)<=(c':Int):=J;replace Eb:=I Eb;replace wI:=I wI;clear en cell c3 z zR Yg C Ed G;go_upto_region 9 with(first|(refine aq ?_)|(refine VP U jj ?_;clear U;intro fk w U lb)|(refine VP U r6 ?_;clear U;intro wR w U xO)|(refine Po U ?_;clear U;intro w U))
    replace U:=U.drew;refine wp_region_held_drew (S:=(c0 [⟨wR,148,[.int .u8 s,.int .u8 d,.int .u8 r,.int .u8 o]⟩])) aM ?_ (fun X=>?_)
    ·exact U.bG aN
    refine az [[1,2]] ?_;refine Zj [0,3] ?_;refine ea (fun K Z7=>?_) ?_
    ·refine Wf U 7 ?_;refine WE Z7 fun X=>?_;refine aF 3 fun K Z7=>?_;go_simp;refine WE Z7 fun X=>?_;refine aF 4 fun K Z7=>?_;go_simp;exact la
    refine ei (fun K Z7=>?_);go_simp;refine WE Z7 fun X=>?_;refine Zj [0,4] ?_;refine ea (fun K Z7=>?_) ?_
    ·refine Wf U 7 ?_;refine WE Z7 fun X=>?_;refine aF 4 fun K Z7=>?_;go_simp;exact la
    refine ei (fun K Z7=>?_);go_simp;refine WE Z7 fun X=>?_;refine aF 0 fun K Z7=>?_;refine Wf U 7 ?_;exact la
   ·have ZD: ¬(8:Int)<=(l:Int):=by omega
    have XD:k=(n-4)/8:=J;have xa:=I (show j9 f n=eT (fe f n) k by unfold j9;rw[XD]);have zy:=I C;replace Eb:=I Eb;replace wI:=I wI;have XM:=I Yg;have DI:=U;have U:=DI.base;clear G Yg XD C Ed;have Wv: ∀(k:IntKind) (n:Int),(Value.int k n).oneCell'=true:=fun _ _=>rfl;have os: ∀A n c,(Value.slice A n c).oneCell'=true:=fun _ _ _=>rfl;have sw:=XM.out.sw;go_wp2_with(first|(refine aq ?_)|(refine VP U jj ?_;clear U;intro fk w U lb)|(refine VP U r6 ?_;clear U;intro wR w U xO)|(refine Po U ?_;clear U;intro w U));refine cw results30 rfl rfl ⟨_,U.b ag,rfl⟩ underlying32 rfl aM ?_;exact pp
end
end Go.Proofs.YtcimojgkeoecfaaGreat
