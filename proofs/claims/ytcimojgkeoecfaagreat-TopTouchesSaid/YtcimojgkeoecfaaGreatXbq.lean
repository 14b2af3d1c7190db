import Derived.Test.YtcimojgkeoecfaaGreatXbp
set_option linter.all false
set_option maxHeartbeats 16000000
set_option maxRecDepth 100000
namespace Go.Proofs.YtcimojgkeoecfaaGreat
open Go.RowKit Tryz
theorem hH{G:Prop}(h:G:=by
 go_wp2_with(first|(refine aq ?_)|(refine aT ?_;clear U;intro X8 w U aay));refine cw results29 rfl rfl ⟨_,U.b ag,rfl⟩ underlying100 rfl (by kernel_rfl) ?_;refine⟨?_,U.all⟩;unfold dV;rw[aaR.out];simp):G:=h
theorem aah.k9{w0 w:World}{L:List abN}{p:Addr}{u:Value}(h:aah w0 (fun _=>True) w none L)(hb:p.block<w0.heap.size)(Wy:w0.cell? p=some u):w.cell? p=some u:=(h.all.cell hb).trans Wy
theorem zH(w0:World)(b o c:Nat)(e:Nat->Int)(V1:e0 e)(XP:8<=c)(hb:b<w0.heap.size)(Wy: ∀i,i<8->w0.cell? ⟨b,o+i,none⟩=some (.int .u8 (e i)))(aaV:e 2<=4):
 Calls prog 29 #[.slice (some ⟨b,o,none⟩) 8 c] w0 fun x w'=>x= .returned (.agg #[.int .u8 (dV e).op,.int .i64 (dV e).a,.int .i64 (dV e).b])/\Below w0.heap.size w0 w':=by
 have Ya:=V1 4;have afY:=V1 5;have CG:=V1 2;have U:=aah.a0 w0;have VN:=I Wy;have acJ:IntKind.i64.wrap (e 4)=e 4:=by rw[IntKind.wrap_i64];omega
 have Wo:IntKind.i64.wrap (e 5)=e 5:=by rw[IntKind.wrap_i64];omega
 clear V1;go_enter func29,ntmps29;go_upto_region 1 with(first|(refine aq ?_)|(refine aT ?_;clear U;intro X8 w U aay))
 rcases(by omega:e 2=0\/e 2=1\/e 2=2\/e 2=3\/e 2=4)with h|h|h|h|h
 ·have acN:w0.cell? ⟨b,o+2,none⟩=some (.int .u8 0):=by rw[<-h];exact Wy 2 am
  replace acN:=U.k9 hb acN;have aaR:=I h;have ae2:(e 4).tmod 64=e 4 %64:=al Ya.1;have aaF:(e 5).tmod 64=e 5 %64:=al afY.1;clear h Wy;go_upto_region 4 with(first|(refine aq ?_)|(refine aT ?_;clear U;intro X8 w U aay))
  have ZM:=U.k9 hb (VN.out 4 am);exact hH
 ·have acN:w0.cell? ⟨b,o+2,none⟩=some (.int .u8 1):=by rw[<-h];exact Wy 2 am
  replace acN:=U.k9 hb acN;have aaR:=I h;have ae2:(e 4).tmod 6=e 4 %6:=al Ya.1;have aaF:(e 5).tmod 64=e 5 %64:=al afY.1;clear h Wy;go_upto_region 6 with(first|(refine aq ?_)|(refine aT ?_;clear U;intro X8 w U aay))
  have ZM:=U.k9 hb (VN.out 4 am);exact hH
 ·have acN:w0.cell? ⟨b,o+2,none⟩=some (.int .u8 2):=by rw[<-h];exact Wy 2 am
  replace acN:=U.k9 hb acN;have aaR:=I h;have ae2:(e 4).tmod 6=e 4 %6:=al Ya.1;have aaF:(e 5).tmod 6=e 5 %6:=al afY.1;clear h Wy;go_upto_region 8 with(first|(refine aq ?_)|(refine aT ?_;clear U;intro X8 w U aay))
  have ZM:=U.k9 hb (VN.out 4 am);go_upto_region 9 with(first|(refine aq ?_)|(refine aT ?_;clear U;intro X8 w U aay))
  have aaP:=U.k9 hb (VN.out 5 am);exact hH
 ·have acN:w0.cell? ⟨b,o+2,none⟩=some (.int .u8 3):=by rw[<-h];exact Wy 2 am
  replace acN:=U.k9 hb acN;have aaR:=I h;have ae2:(e 4).tmod 6=e 4 %6:=al Ya.1;have aaF:(e 5).tmod 9=e 5 %9:=al afY.1;clear h Wy;go_upto_region 11 with(first|(refine aq ?_)|(refine aT ?_;clear U;intro X8 w U aay))
  have ZM:=U.k9 hb (VN.out 4 am);go_upto_region 12 with(first|(refine aq ?_)|(refine aT ?_;clear U;intro X8 w U aay))
  have aaP:=U.k9 hb (VN.out 5 am);exact hH
 ·have acN:w0.cell? ⟨b,o+2,none⟩=some (.int .u8 4):=by rw[<-h];exact Wy 2 am
  replace acN:=U.k9 hb acN;have aaR:=I h;have ae2:(e 4).tmod 64=e 4 %64:=al Ya.1;have aaF:(e 5).tmod 64=e 5 %64:=al afY.1;clear h Wy;exact hH
theorem aah.after{w0 w w':World}{L L':List abN}{T:Nat->Prop}(h:aah w0 (fun _=>True) w none L)(k:Z1 T w w')(aen: ∀b,b<w0.heap.size->T b)(hb: ∀x,x∈L'->ah w' x.g x.t x.cs.toArray/\w0.heap.size<=x.g)(aed:(L'.map abN.g).Nodup):aah w0 (fun _=>True) w' none L':=
 ⟨fun x Wy=>(hb x Wy).1,aed,fun x Wy=>.inl (hb x Wy).2,⟨k.os.trans h.Wu.os,k.tape.trans h.Wu.tape,k.output.trans h.Wu.output,D h.Wu.size k.size,fun b be _=>(k.block b (aj be h.Wu.size) (aen b be)).trans (h.Wu.block b be trivial)⟩,trivial,fun a e=>by cases e⟩
theorem zI{w0 w:World}{S:Nat->Prop}{A:Option XS}{L:List abN}(h:aah w0 S w A L){g:Nat}{t:TypeId}{cs:Array Value}(hb:ah w g t cs)(afq:(L.map abN.t).contains t=false:=by rfl):je L g:=fun x Wy e=>by
 have h1:=h.bC x Wy;rw[e]at h1;refine ah.ne h1 hb (fun e=>?_) rfl;rw[List.contains_eq_any_beq,List.any_eq_false]at afq;exact afq _ (List.mem_map.2 ⟨x,Wy,rfl⟩) (by simp[e])
theorem M8{w0 w:World}{S:Nat->Prop}{L:List abN}(h:aah w0 S w none L){B sz n:Nat}{e:TypeId}{v:Value}{xs:List Value}(abk:w.ownsRow B e sz v n xs)(afq:(L.map abN.t).contains e=false:=by rfl): ∀j,v.ownBlock=some j->bq none L j:=fun j aeD=>by
 obtain⟨cs,hb⟩:=rE abk aeD;exact⟨zI h hb afq,fun a e=>by cases e⟩
theorem Z1.M9{w w':World}{x:abN}{L:List abN}{T:Nat->Prop}(k:Z1 (fun b=>bq none (x::L) b/\T b) w w')(h1: ∀y,y∈L->ah w y.g y.t y.cs.toArray)(aaV: ∀y,y∈L->ah w' y.g y.t y.cs.toArray):Z1 (fun b=>b≠x.g/\T b) w w':=
 ⟨k.os,k.tape,k.output,k.size,fun b hb YF=>by
   by_cases c: ∃y,y∈L/\y.g=b
   ·obtain⟨y,hy,rfl⟩:=c
    exact(show w'.heap[y.g]? =_ from aaV y hy).trans (show w.heap[y.g]? =_ from h1 y hy).symm
   ·exact k.block b hb ⟨⟨fun y hy e=>by
     rcases List.mem_cons.1 hy with rfl|hy
     ·exact YF.1 e.symm
     ·exact c ⟨y,hy,e⟩,fun a e=>by cases e⟩,YF.2⟩⟩
theorem xL{w:World}{B sz n:Nat}{e:TypeId}{v:Value}{xs:List Value}(h:w.ownsRow B e sz v n xs): ∃A c,v= .slice A n c:=by
 rcases h.2 with⟨abF,acL⟩|⟨g,cap,cS,abF,_⟩
 ·exact⟨none,0,by rw[abF,acL]⟩
 ·exact⟨_,_,abF⟩
theorem l6{w0 aaM w:World}{L L2:List abN}(h:aah w0 (fun _=>True) aaM none L)(k:aah aaM (bq none L) w none L2){p:Addr}{u:Value}(hb:p.block<w0.heap.size)(Wy:w0.cell? p=some u):w.cell? p=some u:=((h.back k).all.cell hb).trans Wy
theorem K4{w0 aaM w:World}{L L2:List abN}{T:Nat->Prop}(h:aah w0 (fun _=>True) aaM none L)(k:aah aaM (fun b=>bq none L b/\T b) w none L2)(aen: ∀b,b<w0.heap.size->T b){p:Addr}{u:Value}(hb:p.block<w0.heap.size)(Wy:w0.cell? p=some u):w.cell? p=some u:=(((h.j5 k).mI aen).all.cell hb).trans Wy
theorem Na{L L':List abN}{g:Nat}{t:TypeId}{cs cs':List Value}(h:aco L g t cs cs' L'): ∀x,x∈L->x.g≠g->x∈L':=by
 induction h with
 |here g t cs cs' L=>
  intro x Wy abi;rcases List.mem_cons.1 Wy with rfl|Wy
  ·exact absurd rfl abi
  ·exact ao _ Wy
 |there b g t cs cs' L L' XJ aes=>
  intro x Wy abi;rcases List.mem_cons.1 Wy with rfl|Wy
  ·exact a8
  ·exact ao _ (aes x Wy abi)
theorem P3{aaM w:World}{L L':List abN}{g:Nat}{t:TypeId}{cs cs':List Value}(h:aah aaM (bq none L) w none L')(XJ:aco L g t cs cs' L')(hb: ∀y,y∈L->ah aaM y.g y.t y.cs.toArray):Z1 (fun b=>b≠g) aaM w:=
 ⟨h.Wu.os,h.Wu.tape,h.Wu.output,h.Wu.size,fun b be YF=>by
   by_cases c: ∃y,y∈L/\y.g=b
   ·obtain⟨y,hy,rfl⟩:=c
    exact(show w.heap[y.g]? =_ from h.bC y (Na XJ y hy YF)).trans (show aaM.heap[y.g]? =_ from hb y hy).symm
   ·exact h.Wu.block b be ⟨fun y hy e=>c ⟨y,hy,e⟩,fun a e=>by cases e⟩⟩
theorem c9{w0 aaM w:World}{L L2:List abN}(h:aah w0 (fun _=>True) aaM none L)(k:aah aaM (bq none L) w none L2){b:Nat}(hb:b<w0.heap.size):b<w.heap.size:=by have:=h.size;have:=k.size;omega
section
section
variable{G:Prop}
include G
theorem pu(h:G:=by
 replace U:=aaH;clear bT nd hm aef ia abx;go_wp2_with fail;go_roundw
 case rel=>exact⟨q+1,v,aaN.out,.inr abp.out,U,xv.out⟩
 case measure=>have Vy:=ab0.out;simp[intOf];omega):G:=h
theorem pv(h:G:=by
 refine WE Z7 fun X=>?_;refine aF 10 fun K Z7=>?_;rw[Z (by rfl)];refine bK U 47 42 _ rfl _ ((hP (fJ cy)).toList) rfl rfl (.agg #[.int .u8 0,.int .u8 0,.int .u8 0,.int .u8 0,.int .i64 0,.int .i64 0,.int .i64 0]) 7 32 fi ii rfl (by decide) (by decide) ?_;clear U;intro di w U dO;exact pw):G:=h
theorem px(h:G:=by
 have xv:=I (show a7 wr.drew w0.heap.size v (eT (fe f n) (q+1)) by rw[<-Ee.out,aeO.out,show cU S cy=S by unfold cU;rw[Z ae3,ia,hm,Y abi]];exact ZV);exact pu):G:=h
theorem py(h:G:=by
 refine WE Z7 fun X=>?_;refine aF 11 fun K Z7=>?_;rw[Z (by rfl)];have dI:=U.size;refine eX U aby.out iZ.out _ _ 95 rfl (.agg #[.int .u8 0,.int .i64 0,.int .i64 0]) 24 fP jp rfl (by decide) rfl ⟨di,0,none⟩ 1 1 ([Value.int .u8 (dV cy).op,.int .i64 (dV cy).a,.int .i64 (dV cy).b]) rfl rfl (by decide) (U.news ag) rfl (by unfold maxLen;omega) (by omega) ?_;clear U;intro g' cW lL w U e8 lm;replace e8:=e8.imp id (D dI);clear dI;refine WE Z7 fun X=>?_;refine Xh 12 ?_;refine aF 13 fun K Z7=>?_;refine afA U (f:=v.af9) (m:=8) (j:=u) (u:=.slice (some ⟨g',0,none⟩) (m+1) cW) (by omega) ?_;clear U;intro w U;refine WE Z7 fun X=>?_;refine adB ?_;go_wp2_with fail;obtain⟨f1,f2⟩:=qT.out _ _ _ _ _ U e8 lm;go_roundw
 case rel=>exact⟨q+1,{v with af9:=put v.af9 u (.slice (some ⟨g',0,none⟩) (m+1) cW)},aaN.out,.inr abp.out,f1,f2⟩
 case measure=>have Vy:=ab0.out;simp[intOf];omega):G:=h
theorem pz(h:G:=by
 refine WE Z7 fun X=>?_;refine aF 10 fun K Z7=>?_;rw[Z (by rfl)];refine bK U 95 100 _ rfl _ ([Value.int .u8 (dV cy).op,.int .i64 (dV cy).a,.int .i64 (dV cy).b]) rfl rfl (.agg #[.int .u8 0,.int .i64 0,.int .i64 0]) 3 24 fP jp rfl (by decide) (by decide) ?_;clear U;intro di w U dO;exact py):G:=h
theorem pA(h:G:=by
 have xv:=I (show a7 wr.drew w0.heap.size v (eT (fe f n) (q+1)) by rw[<-Ee.out,aeO.out,show cU S cy=S by unfold cU;rw[aB,Z afY,hu,hm,Y abi]];exact ZV);exact pu):G:=h
theorem pB(h:G:=by
 refine abR Z7 (fun X=>?_) (by exact fun i hi=>l6 qX U (p:=⟨bb,off+z+i,none⟩) mm (adj.out i hi));refine aF 13 fun K Z7=>?_;rw[Z (by rfl)];have dI:=U.size;refine eX U aby.out iZ.out _ _ 30 rfl (.int .i64 0) 8 bg b6 rfl (by decide) rfl ⟨di,0,none⟩ 1 1 [Value.int .i64 (numOf cy)] rfl rfl (by decide) (U.news ag) rfl (by unfold maxLen;omega) (by omega) ?_;clear U;intro g' cW lL w U e8 lm;replace e8:=e8.imp id (D dI);clear dI;refine abR Z7 (fun X=>?_) (by exact fun i hi=>K4 qX U Qz.out (p:=⟨bb,off+z+i,none⟩) mm (adj.out i hi));refine Xh 14 ?_;refine aF 15 fun K Z7=>?_;have adu:=U;replace U:=U.base;refine aaU U ?_;clear U;intro w U;refine abR Z7 (fun X=>?_) (by exact fun i hi=>K4 qX (adu.back U) Qz.out (p:=⟨bb,off+z+i,none⟩) mm (adj.out i hi));refine adB ?_;go_wp2_with fail;obtain⟨f1,f2⟩:=qT.out _ _ _ _ _ _ adu U e8 lm;go_roundw
 case rel=>exact⟨q+1,{v with afa:=.slice (some ⟨g',0,none⟩) (m+1) cW},aaN.out,.inr abp.out,f1,f2⟩
 case measure=>have Vy:=ab0.out;simp[intOf];omega):G:=h
theorem pw(h:G:=by
 refine WE Z7 fun X=>?_;refine aF 11 fun K Z7=>?_;rw[Z (by rfl)];have dI:=U.size;refine eX U aby.out iZ.out _ _ 47 rfl (.agg #[.int .u8 0,.int .u8 0,.int .u8 0,.int .u8 0,.int .i64 0,.int .i64 0,.int .i64 0]) 32 fi ii rfl (by decide) rfl ⟨di,0,none⟩ 1 1 ((hP (fJ cy)).toList) rfl rfl (by decide) (U.news ag) rfl (by unfold maxLen;omega) (by omega) ?_;clear U;intro g' cW lL w U e8 lm;replace e8:=e8.imp id (D dI);clear dI;refine WE Z7 fun X=>?_;refine Xh 12 ?_;refine aF 13 fun K Z7=>?_;refine afA U (f:=v.aag) (m:=k) (j:=t) (u:=.slice (some ⟨g',0,none⟩) (m+1) cW) (by omega) ?_;clear U;intro w U;refine WE Z7 fun X=>?_;refine adB ?_;go_wp2_with fail;obtain⟨f1,f2⟩:=qT.out _ _ _ _ _ U e8 lm;go_roundw
 case rel=>exact⟨q+1,{v with aag:=put v.aag t (.slice (some ⟨g',0,none⟩) (m+1) cW)},aaN.out,.inr abp.out,f1,f2⟩
 case measure=>have Vy:=ab0.out;simp[intOf];omega):G:=h
end
structure tb(B:Nat)(w:World)(e:TypeId)(k:Nat)(v:Value):Prop where
 own:w.ownsRow B e 1 v k ((List.range k).map fun _=>.slice none 0 0)
theorem tb.app{B:Nat}{w w':World}{e:TypeId}{k g cap:Nat}{v:Value}{rest:List Value}(h:tb B w e k v)(aeN:B<=w.heap.size)(hb:ah w' g e (((List.range k).map (fun _=>Value.slice none 0 0)++ [Value.slice none 0 0])++rest).toArray)(afj:v.ownBlock=some g\/w.heap.size<=g)(XP:k+1<=cap/\cap<=maxLen/\(((List.range k).map (fun _=>Value.slice none 0 0)++ [Value.slice none 0 0])++rest).length=cap*1):
 tb B w' e (k+1) (.slice (some ⟨g,0,none⟩) (k+1) cap):=by
 refine⟨?_⟩;have aal:(List.range (k+1)).map (fun _=>Value.slice none 0 0)=(List.range k).map (fun _=>Value.slice none 0 0)++ [Value.slice none 0 0]:=by rw[List.range_succ,cP];rfl
 rw[aal];refine gx (jz hb aN XP) fun j aeD=>?_;have abF:g=j:=by simpa [Value.ownBlock]using aeD
 subst abF;rcases afj with q|q
 ·exact(h.own.lt _ q).1
 ·omega
theorem tb.open_{B n:Nat}{w:World}{e:TypeId}{v:Value}(h:tb B w e n v)(abi:0<n): ∃g cap rest,v= .slice (some ⟨g,0,none⟩) n cap/\ah w g e ((List.range n).map (fun _=>Value.slice none 0 0)++rest).toArray/\B<=g/\n<=cap/\cap<=maxLen:=by
 rcases h.own.2 with⟨_,h1⟩|⟨g,cap,cS,rfl,aaV,ZV,Ya,afY,XX,adH⟩
 ·omega
 ·exact⟨g,cap,cS.toList.drop (n*1),rfl,by rw[<-adH,b9];exact ZV,aaV,Ya,afY⟩
theorem a7.Ny{w:World}{B aca aff T acR VY:Nat}{aaI aa4:List Value}{b:Nat->Int}(aen:(oi b).p.t.toNat=T)(acA:ah w aca 95 ((List.range 8).map (fun _=>Value.slice none 0 0)++aaI).toArray)(aeJ:ah w aff 47 ((List.range T).map (fun _=>Value.slice none 0 0)++aa4).toArray)(Nz:8<=acR/\acR<=maxLen)(qC:T<=VY/\VY<=maxLen)(vF:B<=aca/\B<=aff):
 a7 w B ⟨aca,aff,acR,VY,aaI,aa4,fun _=>.slice none 0 0,fun _=>.slice none 0 0,.slice none 0 0⟩ (oi b):=
 ⟨acA,by rw[aen];exact aeJ,Nz,by rw[aen];exact qC,fun j aeD=>World.ownsRow_nil _ _ _ _,fun j aeD=>World.ownsRow_nil _ _ _ _,World.ownsRow_nil _ _ _ _,(fun i j b _ _ _ h=>by cases h),(fun i j b _ _ _ h=>by cases h),vF⟩
theorem NA(w0:World)(ado:Nat->Prop)(aak:Value)(n:Nat)(f:Nat->Int)(hb:acr w0 ado aak n 1 fun i=> [.int .u8 (f i)])(acA:e0 f)(abi:n<=400):
 Calls prog 10 #[aak] w0 fun x w'=> ∃v,x= .returned (.agg (gy (j9 f n).p v).toArray)/\a7 w' w0.heap.size v (j9 f n)/\Below w0.heap.size w0 w':=by
 obtain⟨A,c,rfl,eR,c7,bT⟩:=id hb;have aav:=I hb;have WX:=I acA;obtain⟨m,hm⟩: ∃m,m=Nat.min n 4:=⟨_,rfl⟩
 have P4:m<=4/\m<=n:=by rw[hm];exact⟨Nat.min_le_right _ _,Nat.min_le_left _ _⟩
 have aey:=I hm;have jt:e0 (fe f n):=fun i=>by unfold fe;split;exact acA i;omega
 have YM:=jt 0;have h1:=jt 1;have aaV:=jt 2;have ZV:=jt 3;obtain⟨adC,hj⟩: ∃x,fe f n 0=x:=⟨_,rfl⟩
 obtain⟨aaK,jb⟩: ∃x,fe f n 1=x:=⟨_,rfl⟩
 obtain⟨abq,lV⟩: ∃x,fe f n 2=x:=⟨_,rfl⟩
 obtain⟨abb,Bt⟩: ∃x,fe f n 3=x:=⟨_,rfl⟩
 have VN:=I (And.intro hj (And.intro jb (And.intro lV Bt)));have vq:=I (B7 f n m hm);rw[hj]at YM vq;rw[jb]at h1 vq;rw[lV]at aaV vq;rw[Bt]at ZV vq;have HF:=I (fun(w:World) (Yq:Below w0.heap.size w0 w) (h:0<m)=>show∃afF,A=some afF/\∀j v,((List.range m).map fun i=>Value.int .u8 (f i))[j]? =some v->w.cell? (afF.add j)=some v from by
  obtain⟨b,off,rfl,YF,YJ,XP⟩:=bT J;refine⟨_,rfl,fun j v aeD=>?_⟩;rw[a3]at aeD;have Nv:j<m:=by
   exact pq
  rw[a1 Nv]at aeD;rw[iL];exact(Yq.cell (p:=⟨b,off+j,none⟩) YJ).trans (by simpa using XP j 0 v J (by simpa using aeD)))
 have X0:bits .and .u8 adC 7=adC %8:=jW 3 am adC YM;have YN:bits .and .u8 aaK 3=aaK %4:=jW 2 am aaK h1;have XW:bits .and .u8 abq 63=abq %64:=jW 6 am abq aaV;have ZA:bits .and .u8 abb 127=abb %128:=jW 7 am abb ZV;obtain⟨T,aen⟩: ∃T:Nat,1+aaK %4=T:=⟨(1+aaK %4).toNat,J⟩
 obtain⟨aeB,lW⟩: ∃aeB,1+adC %8=aeB:=⟨_,rfl⟩
 obtain⟨afQ,HG⟩: ∃afQ,8*(abq %64)=afQ:=⟨_,rfl⟩
 obtain⟨ik,HH⟩: ∃h1,8*(abb %128)=h1:=⟨_,rfl⟩
 have VI:IntKind.i64.wrap (1+adC %8)=aeB:=by rw[IntKind.wrap_i64];omega
 have WJ:IntKind.i64.wrap (1+aaK %4)=T:=by rw[IntKind.wrap_i64];omega
 have adr:IntKind.i64.wrap (8*(abq %64))=afQ:=by rw[IntKind.wrap_i64];omega
 have XO:IntKind.i64.wrap (8*(abb %128))=ik:=by rw[IntKind.wrap_i64];omega
 have mH:1<=T/\T<=4:=J;have YQ:=I (And.intro lW (And.intro aen (And.intro HG HH)));have vi:=I bT;have HI:=I jt;have U:=aah.a0 w0;clear hb bT acA jt hm hj jb lV Bt lW aen HG HH;have US:adC.tmod 8=adC %8:=al YM.1;have UT:aaK.tmod 4=aaK %4:=al h1.1;have UU:abq.tmod 64=abq %64:=al aaV.1;have UV:abb.tmod 128=abb %128:=al ZV.1;have UW:IntKind.i64.wrap (adC %8)=adC %8:=by rw[IntKind.wrap_i64];omega
 have UX:IntKind.i64.wrap (aaK %4)=aaK %4:=by rw[IntKind.wrap_i64];omega
 have UY:IntKind.i64.wrap (abq %64)=abq %64:=by rw[IntKind.wrap_i64];omega
 have UZ:IntKind.i64.wrap (abb %128)=abb %128:=by rw[IntKind.wrap_i64];omega
 have XN:zG f n 0=adC:=VN.out.1;have abE:zG f n 1=aaK:=VN.out.2.1;have Yk:zG f n 2=abq:=VN.out.2.2.1;have adc:zG f n 3=abb:=VN.out.2.2.2;clear X0 YN XW ZA vq HF;go_enter func10,ntmps10;go_upto_region 1 with(refine VP U jj ?_;clear U;intro gr w U Bq)
 go_wp2_with(first|(go_at_call 27;refine a6 U (D6 _ ado _ n f _ (aav.out.below U.all) WX.out am) ?_;clear U;intro aaM U)|(refine aq ?_)|(refine VP U jj ?_;clear U;intro fk w U lb)|(refine ac2 U ?_;clear U;intro w U));have eB:=I U;clear U;go_loopw [4] (fun i wr=> ∃(k:Nat) (Y8:Value),k<=8/\i= .int .i64 k/\aah w0 (fun _=>True) wr none [⟨fk,32,[.int .i64 aeB,.int .i64 T,.int .i64 afQ,.int .i64 ik,Y8,.slice none 0 0,.slice none 0 0]⟩,⟨gr,32,[.int .i64 0,.int .i64 0,.int .i64 0,.int .i64 0,.slice none 0 0,.slice none 0 0,.slice none 0 0]⟩]/\tb w0.heap.size wr 95 k Y8) (fun i _=>8-(intOf i).toNat)
 case atStart=>exact⟨0,.slice none 0 0,J,rfl,eB.out,⟨World.ownsRow_nil _ _ _ _⟩⟩
 case round=>
  obtain⟨k,Y8,ae3,rfl,aaH,adS⟩:=hrel;clear eB;by_cases bV:k<8
  ·have aaX:(k:Int)<8:=by omega
   have U:=aaH.base;have acO: ∀j,Y8.ownBlock=some j->bq none [⟨fk,32,[.int .i64 aeB,.int .i64 T,.int .i64 afQ,.int .i64 ik,Y8,.slice none 0 0,.slice none 0 0]⟩,⟨gr,32,[.int .i64 0,.int .i64 0,.int .i64 0,.int .i64 0,.slice none 0 0,.slice none 0 0,.slice none 0 0]⟩] j:=fun j aeD=>⟨fun x Wy e=>by
    have D9:=aaH.bC x Wy;rw[e]at D9;simp only[ad,E,av]at Wy;rcases Wy with rfl|rfl<;>exact dW adS.own D9 (by show _≠_;simp only;decide) aeD,fun a e=>by cases e⟩
   have aeN:=aaH.size;go_wp2_with(first|(refine dE U rfl 28 95 _ rfl _ [.slice none 0 0] rfl rfl (.slice none 0 0) 1 24 hM jA rfl am am ?_;clear U;intro di w U dO;refine cN ?_)|(have dI:=U.size;refine g0 U (gx (B':=0) adS.own (fun _ _=>aL _)) (fun j aeD=>acO j aeD) rfl _ _ 28 rfl (.slice none 0 0) 24 hM jA rfl am rfl ⟨di,0,none⟩ 1 1 [.slice none 0 0] rfl rfl am (U.news ag) rfl (by unfold maxLen;omega) J ?_;clear U;intro g' cW lL w U e8 lm;replace e8:=e8.imp id (D dI);clear dI;refine cN ?_)|(refine aq ?_)|(refine VP U jj ?_;clear U;intro fk w U lb)|(refine ac2 U ?_;clear U;intro w U));go_roundw
   case rel=>exact⟨k+1,_,J,by go_num,((aaH.j5 U).mI (fun b hb e=>by have:=(adS.own.lt b e).1;omega)).c6.c6,adS.app aeN (U.b cX) e8 lm⟩
   case measure=>simp[intOf];omega
  ·obtain rfl:k=8:=by omega
   have U:=aaH;clear aaH;have QA:=I adS;clear adS;go_wp2_with(first|(refine aq ?_)|(refine VP U jj ?_;clear U;intro fk w U lb)|(refine ac2 U ?_;clear U;intro w U));have eB:=I U;clear U;go_loopw [5] (fun i wr=> ∃(k:Nat) (aad:Value),k<=T/\i= .int .i64 k/\aah w0 (fun _=>True) wr none [⟨fk,32,[.int .i64 aeB,.int .i64 T,.int .i64 afQ,.int .i64 ik,Y8,aad,.slice none 0 0]⟩,⟨gr,32,[.int .i64 0,.int .i64 0,.int .i64 0,.int .i64 0,.slice none 0 0,.slice none 0 0,.slice none 0 0]⟩]/\tb w0.heap.size wr 47 k aad/\tb w0.heap.size wr 95 8 Y8) (fun i _=>T-(intOf i).toNat)
   case atStart=>exact⟨0,.slice none 0 0,J,rfl,eB.out,⟨World.ownsRow_nil _ _ _ _⟩,QA.out⟩
   case round=>
    obtain⟨k,aad,ae3,rfl,aaH,adS,HJ⟩:=hrel;clear eB QA;by_cases bV:k<T
    ·have aaX:(k:Int)<(T:Int):=by omega
     have U:=aaH.base;have abs: ∀ {e:TypeId} {m:Nat} {u:Value} {xs:List Value},wr.ownsRow w0.heap.size e 1 u m xs->e≠32->∀j,u.ownBlock=some j->bq none [⟨fk,32,[.int .i64 aeB,.int .i64 T,.int .i64 afQ,.int .i64 ik,Y8,aad,.slice none 0 0]⟩,⟨gr,32,[.int .i64 0,.int .i64 0,.int .i64 0,.int .i64 0,.slice none 0 0,.slice none 0 0,.slice none 0 0]⟩] j:=fun abk bo j aeD=>⟨fun x Wy e=>by
      have D9:=aaH.bC x Wy;rw[e]at D9;simp only[ad,E,av]at Wy;rcases Wy with rfl|rfl<;>exact dW abk D9 bo aeD,fun a e=>by cases e⟩
     have acO: ∀j,aad.ownBlock=some j->bq none [⟨fk,32,[.int .i64 aeB,.int .i64 T,.int .i64 afQ,.int .i64 ik,Y8,aad,.slice none 0 0]⟩,⟨gr,32,[.int .i64 0,.int .i64 0,.int .i64 0,.int .i64 0,.slice none 0 0,.slice none 0 0,.slice none 0 0]⟩] j:=abs adS.own am;have afh: ∀j,Y8.ownBlock=some j->bq none [⟨fk,32,[.int .i64 aeB,.int .i64 T,.int .i64 afQ,.int .i64 ik,Y8,aad,.slice none 0 0]⟩,⟨gr,32,[.int .i64 0,.int .i64 0,.int .i64 0,.int .i64 0,.slice none 0 0,.slice none 0 0,.slice none 0 0]⟩] j:=abs HJ.own am;have aeN:=aaH.size;go_wp2_with(first|(refine dE U rfl 29 47 _ rfl _ [.slice none 0 0] rfl rfl (.slice none 0 0) 1 24 lQ ps rfl am am ?_;clear U;intro di w U dO;refine cN ?_)|(have dI:=U.size;refine g0 U (gx (B':=0) adS.own (fun _ _=>aL _)) (fun j aeD=>acO j aeD) rfl _ _ 29 rfl (.slice none 0 0) 24 lQ ps rfl am rfl ⟨di,0,none⟩ 1 1 [.slice none 0 0] rfl rfl am (U.news ag) rfl (by unfold maxLen;omega) J ?_;clear U;intro g' cW lL w U e8 lm;replace e8:=e8.imp id (D dI);clear dI;refine cN ?_)|(refine aq ?_)|(refine VP U jj ?_;clear U;intro fk w U lb)|(refine ac2 U ?_;clear U;intro w U));go_roundw
     case rel=>exact⟨k+1,_,J,by go_num,((aaH.j5 U).mI (fun b hb e=>by have:=(adS.own.lt b e).1;omega)).c6.c6,adS.app aeN (U.b cX) e8 lm,⟨eU HJ.own U.Wu fun b hb=>⟨afh b hb,kR HJ.own adS.own am hb⟩⟩⟩
     case measure=>simp[intOf];omega
    ·obtain e:k=T:=by omega
     subst e;have aaX: ¬(k:Int)<(k:Int):=J;have U:=aaH;clear aaH;obtain⟨aca,acR,aaI,rfl,afR,TC,Nz⟩:=HJ.open_ am;obtain⟨aff,VY,aa4,rfl,aft,TD,qC⟩:=adS.open_ J;have Ec:=I (a7.Ny (b:=fe f n) (T:=k) (by have:=YQ.out;have:=VN.out;show(1+fe f n 1 %4).toNat=k;omega) afR aft Nz qC ⟨TC,TD⟩);clear adS HJ afR aft;go_wp2_with(first|(refine aq ?_)|(refine VP U jj ?_;clear U;intro fk w U lb)|(refine ac2 U ?_;clear U;intro w U));have eB:=I U;clear U;go_loopw [6] (fun i wr=> ∃(q:Nat) (v:abM),i= .int .i64 (4+8*(q:Int))/\(q=0\/4+8*q<=n)/\aah w0 (fun _=>True) wr none [⟨fk,32,[.int .i64 aeB,.int .i64 k,.int .i64 afQ,.int .i64 ik,.slice (some ⟨v.aca,0,none⟩) 8 v.acR,.slice (some ⟨v.aff,0,none⟩) k v.VY,v.afa]⟩,⟨gr,32,[.int .i64 0,.int .i64 0,.int .i64 0,.int .i64 0,.slice none 0 0,.slice none 0 0,.slice none 0 0]⟩]/\a7 wr w0.heap.size v (eT (fe f n) q)) (fun i _=>(408-intOf i).toNat)
     case atStart=>exact⟨0,⟨aca,aff,acR,VY,aaI,aa4,fun _=>.slice none 0 0,fun _=>.slice none 0 0,.slice none 0 0⟩,rfl,.inl rfl,eB.out,Ec.out⟩
     case round=>
      obtain⟨q,v,rfl,VX,U,Yg⟩:=hrel;clear eB Ec;have afB:(eT (fe f n) q).p=⟨aeB,k,afQ,ik⟩:=by
       rw[y7];have:=YQ.out;have:=VN.out;show afy.mk _ _ _ _=_;simp only[afy.mk.injEq];omega
      have Ed:=su HI.out q;have Vz:IntKind.i64.wrap (4+8*(q:Int)+8)=4+8*(q:Int)+8:=by rw[IntKind.wrap_i64];omega
      by_cases uG:4+8*q+8<=n
      ·obtain⟨bb,off,rfl,TB,mm,c3⟩:=vi.out J;obtain⟨z,aeN⟩: ∃z:Nat,4+8*q=z:=⟨_,rfl⟩
       have acb:4+8*(q:Int)=(z:Int):=J;rw[acb]at Vz⊢;obtain⟨cy,aau⟩: ∃cy:Nat->Int,(fun i=>fe f n (4+8*q+i))=cy:=⟨_,rfl⟩
       have zR:e0 cy:=by rw[<-aau];exact fun i=>HI.out _
       have J4:cU (eT (fe f n) q) cy=eT (fe f n) (q+1):=by rw[<-aau];rfl
       have Wy: ∀i,i<8->w0.cell? ⟨bb,off+z+i,none⟩=some (.int .u8 (cy i)):=fun i hi=>by
        have h1:=c3 (z+i) 0 (.int .u8 (f (z+i))) J rfl;rw[show off+((z+i)*1+0)=off+z+i from J]at h1;have aaV:cy i=f (z+i):=by rw[<-aau,<-aeN];exact B8 J
        rw[aaV];exact h1
       have adj:=I Wy;have Ef:=I zR;have Wg:=zR 0;have aat:=zR 1;have YY:=zR 2;have acZ:=U.k9 (p:=⟨bb,off+z,none⟩) mm (Wy 0 am);have adX:=U.k9 (p:=⟨bb,off+z+1,none⟩) mm (Wy 1 am);have acN:=U.k9 (p:=⟨bb,off+z+2,none⟩) mm (Wy 2 am);have ZD:(z:Int)+8<=(n:Int):=J;have afb:(z:Int)<=(z:Int)+8:=J;have U0:(0:Int)<=(z:Int):=J;have U1:(z:Int)+8<=(c:Int):=J;have ab0:=I (And.intro VX (And.intro aeN uG));have Ee:=I J4;have abx:=I Yg;clear VX aeN acb aau zR J4 Wy c3 Yg uG;have Vu:z+8-z=8:=J;have W8: ¬k=0:=J;have aaM:IntKind.i64.wrap (cy 1)=cy 1:=by rw[IntKind.wrap_i64];omega
       obtain⟨t,afq⟩: ∃t:Nat,(cy 1 %(k:Int)).toNat=t:=⟨_,rfl⟩
       obtain⟨u,hu⟩: ∃u:Nat,(cy 1 %8).toNat=u:=⟨_,rfl⟩
       have Xu:=cA (cy 1) (by omega:(0:Int)<(k:Int));have afv:=b5 (cy 1) (by omega:(k:Int)≠0);have ade:(cy 1).tmod (k:Int)=(t:Int):=by rw[al aat.1];omega
       have Wz:(cy 1).tmod 8=(u:Int):=by rw[al aat.1];omega
       have VQ:cy 1 %8=(u:Int):=J;have wt:IntKind.i64.wrap (t:Int)=(t:Int):=by rw[IntKind.wrap_i64];omega
       have XM:IntKind.i64.wrap (u:Int)=(u:Int):=by rw[IntKind.wrap_i64];omega
       go_upto_region 15 with(first|(refine aq ?_)|(refine VP U jj ?_;clear U;intro fk w U lb)|(refine ac2 U ?_;clear U;intro w U))
       replace U:=U.drew;refine wp_region_held_drew (S:=(fun w=>c0 [⟨fk,32,[.int .i64 aeB,.int .i64 k,.int .i64 afQ,.int .i64 ik,.slice (some ⟨v.aca,0,none⟩) 8 v.acR,.slice (some ⟨v.aff,0,none⟩) k v.VY,v.afa]⟩] w/\∀i,i<8->w.cell? ⟨bb,off+z+i,none⟩=some (.int .u8 (cy i)))) aM ?_ (fun X=>?_)
       ·exact⟨U.bG aN,fun i hi=>U.k9 (p:=⟨bb,off+z+i,none⟩) mm (adj.out i hi)⟩
       refine az [[0,1]] ?_;refine eE 2 rfl (bl (by rfl) 5 _ rfl bb (off+z+1) rfl _ (fun w h=>h.2 1 am) underlying5 rfl) ?_;refine az [[3,4,5]] ?_;refine eE 6 rfl (cb (by rfl) 3 _ rfl _ _ rfl (fun w h=>c0.at_ ag w h.1) _ (by rfl) underlying3 rfl) ?_;refine az [[7,8]] ?_;dsimp only[Exit.then]
       apply_assumption
       obtain⟨S,hS⟩: ∃S,eT (fe f n) q=S:=⟨_,rfl⟩
       have ZV:a7 wr.drew w0.heap.size v S:=by rw[<-hS];exact abx.out.below a2
       rw[hS]at afB Ed;have aeO:=I hS;have aaH:=U;have QB:S.p.t=(k:Int):=by rw[afB]
       have aae:S.p.t.toNat=k:=J;have ia:(cy 1 %S.p.t).toNat=t:=by rw[QB];exact afq
       have Yc:t<k:=J;have u8:u<8:=J;have t0:(t:Int)<(k:Int):=J;have t1:(0:Int)<=(t:Int):=J;have abg:(u:Int)<8:=J;have aeC:(0:Int)<=(u:Int):=J;have tp:=I aaH.size;have abp:=I (show 4+8*(q+1)<=n by have:=ab0.out;omega);have aaN:=I (show Value.int .i64 ((z:Int)+8)= .int .i64 (4+8*((q+1:Nat):Int)) by rw[show(z:Int)+8=4+8*((q+1:Nat):Int) by have:=ab0.out;omega]);clear hS QB afq ade Xu afv;have Zf:=aaH.cell (g:=fk) (i:=4) cX rfl;have Y2:=aaH.cell (g:=fk) (i:=5) cX rfl;have aaB:=aaH.cell (g:=fk) (i:=6) cX rfl;rcases(by omega:cy 0 %8<5\/cy 0 %8=5\/5<cy 0 %8)with ae3|afY|XX
       ·have aaP:(cy 0 %8==5)=false:=by simp;omega
        have act: ¬5<cy 0 %8:=J;obtain⟨A,VU,aef⟩:=xL (ZV.pr t (by rw[aae];exact Yc));obtain⟨m,hm⟩: ∃m,(S.bj t).length=m:=⟨_,rfl⟩
        have bT:=ZV.pr t (by rw[aae];exact Yc);rw[hm]at aef bT;rw[aef]at bT;have nd:=ZV.aft;rw[aae]at nd;have fu:=aaH.jY nd (zI aaH nd) (.inl ZV.ge.2) (fun a e=>by cases e);have U:=fu.base;have aby:=I (gx (B':=0) bT fun _ _=>aL _);have iZ:=I (M8 fu bT);have YT:=I (show((List.range k).map v.aag++v.aa4)[t]? =some (.slice A m VU)from by rw[rF Yc,aef]);have aeb:=U.cell (g:=v.aff) (i:=t) ag YT.out;by_cases aaV:cy 2<=11
        ·by_cases YJ:m<64
         ·have fx:(m:Int)<64:=by omega
          have qT:=I (show∀(w:World) (g' cW:Nat) (rest:List Value) (B:abN),aah wr.drew (fun b=>bq none [⟨v.aff,47,(List.range k).map v.aag++v.aa4⟩,⟨fk,32,[.int .i64 aeB,.int .i64 k,.int .i64 afQ,.int .i64 ik,.slice (some ⟨v.aca,0,none⟩) 8 v.acR,.slice (some ⟨v.aff,0,none⟩) k v.VY,v.afa]⟩,⟨gr,32,[.int .i64 0,.int .i64 0,.int .i64 0,.int .i64 0,.slice none 0 0,.slice none 0 0,.slice none 0 0]⟩] b/\(Value.slice A m VU).ownBlock≠some b) w none [⟨g',42,(ly (S.bj t)++(hP (fJ cy)).toList)++rest⟩,B,⟨v.aff,47,(List.range k).map (put v.aag t (.slice (some ⟨g',0,none⟩) (m+1) cW))++v.aa4⟩,⟨fk,32,[.int .i64 aeB,.int .i64 k,.int .i64 afQ,.int .i64 ik,.slice (some ⟨v.aca,0,none⟩) 8 v.acR,.slice (some ⟨v.aff,0,none⟩) k v.VY,v.afa]⟩,⟨gr,32,[.int .i64 0,.int .i64 0,.int .i64 0,.int .i64 0,.slice none 0 0,.slice none 0 0,.slice none 0 0]⟩]->((Value.slice A m VU).ownBlock=some g'\/wr.drew.heap.size<=g')->(m+1<=cW/\cW<=maxLen/\((ly (S.bj t)++(hP (fJ cy)).toList)++rest).length=cW*7)->
           aah w0 (fun _=>True) w none [⟨fk,32,[.int .i64 aeB,.int .i64 k,.int .i64 afQ,.int .i64 ik,.slice (some ⟨v.aca,0,none⟩) 8 v.acR,.slice (some ⟨v.aff,0,none⟩) k v.VY,v.afa]⟩,⟨gr,32,[.int .i64 0,.int .i64 0,.int .i64 0,.int .i64 0,.slice none 0 0,.slice none 0 0,.slice none 0 0]⟩]/\a7 w w0.heap.size {v with aag:=put v.aag t (.slice (some ⟨g',0,none⟩) (m+1) cW)} (eT (fe f n) (q+1))from fun w g' cW rest B h1 afj Ya=>by
           refine⟨((fu.j5 h1).mI fun b hb e=>by have:=(bT.lt b e).1;omega).c6.c6.c6,?_⟩;rw[<-Ee.out,aeO.out,show cU S cy=_ by unfold cU;rw[Z ae3,ia,Z ⟨aaV,by rw[hm];exact YJ⟩]];have k:=h1.Wu.M9 aaH.bC h1.c6.c6.c6.bC;rw[<-aef]at k afj;rw[<-hm]at Ya;have hb:=h1.b (g:=v.aff) ag;rw[<-hm]at hb⊢;rw[<-aae]at hb;exact(a7.KN ZV tp.out (by rw[aae];exact Yc) (c:=fJ cy) k hb (h1.b cX) afj Ya).1)
          clear bT nd hm aef ia abx;go_upto_region 18 with fail
          clear aeb;replace U:=U.drew;refine wp_region_held_drew (S:=(c0 [⟨fk,32,[.int .i64 aeB,.int .i64 k,.int .i64 afQ,.int .i64 ik,.slice (some ⟨v.aca,0,none⟩) 8 v.acR,.slice (some ⟨v.aff,0,none⟩) k v.VY,v.afa]⟩])) aM ?_ (fun X=>?_)
          ·exact U.bG aN
          refine az [[0,1,2,3,4,5,6,8]] ?_;refine Zj [7,9] ?_;refine ea (fun K Z7=>?_) ?_
          ·rw[Z (by rfl)];refine bU U 47 _ rfl v.aff t rfl ag (.slice A m VU) YT.out underlying47 rfl ?_;refine WE Z7 fun X=>?_;refine aF 9 fun K Z7=>?_;go_simp
           (go_at_call 28;refine a6 U (vf _ bb (off+z) (c-z) cy Ef.out J (c9 fu U mm) fun i hi=>l6 fu U (p:=⟨bb,off+z+i,none⟩) mm (adj.out i hi)) ?_;clear U;intro aaM U)
           go_wp2_with fail;exact pv
          refine ei (fun K Z7=>?_);go_simp
          (go_at_call 28;refine a6 U (vf _ bb (off+z) (c-z) cy Ef.out J (c9 fu U mm) fun i hi=>l6 fu U (p:=⟨bb,off+z+i,none⟩) mm (adj.out i hi)) ?_;clear U;intro aaM U)
          go_wp2_with fail;refine WE Z7 fun X=>?_;refine Zj [7,10] ?_;refine ea (fun K Z7=>?_) ?_
          ·rw[Z (by rfl)];refine bU U 47 _ rfl v.aff t rfl ag (.slice A m VU) YT.out underlying47 rfl ?_;exact pv
          refine ei (fun K Z7=>?_);rw[Z (by rfl)];refine bK U 47 42 _ rfl _ ((hP (fJ cy)).toList) rfl rfl (.agg #[.int .u8 0,.int .u8 0,.int .u8 0,.int .u8 0,.int .i64 0,.int .i64 0,.int .i64 0]) 7 32 fi ii rfl am am ?_;clear U;intro di w U dO;refine WE Z7 fun X=>?_;refine aF 7 fun K Z7=>?_;rw[Z (by rfl)];refine bU U 47 _ rfl v.aff t rfl ag (.slice A m VU) YT.out underlying47 rfl ?_;exact pw
         ·have fx: ¬(m:Int)<64:=by omega
          have abi: ¬(cy 2<=11/\m<64):=fun h=>YJ h.2;exact px
        ·have abi: ¬(cy 2<=11/\m<64):=fun h=>aaV h.1;exact px
       ·have aaP:(cy 0 %8==5)=true:=by simp;omega
        have ZM: ¬cy 0 %8<5:=J;have act: ¬5<cy 0 %8:=J;obtain⟨A,VU,aef⟩:=xL (ZV.fr u u8);obtain⟨m,hm⟩: ∃m,(S.eI u).length=m:=⟨_,rfl⟩
        have bT:=ZV.fr u u8;rw[hm]at aef bT;rw[aef]at bT;have nd:=ZV.afR
        skip
        have fu:=aaH.jY nd (zI aaH nd) (.inl ZV.ge.1) (fun a e=>by cases e);have U:=fu.base;have aby:=I (gx (B':=0) bT fun _ _=>aL _);have iZ:=I (M8 fu bT);have YT:=I (show((List.range 8).map v.af9++v.aaI)[u]? =some (.slice A m VU)from by rw[rF u8,aef]);have aeb:=U.cell (g:=v.aca) (i:=u) ag YT.out;by_cases aaV:cy 2<=4
        ·by_cases YJ:m<8
         ·have fx:(m:Int)<8:=by omega
          have qT:=I (show∀(w:World) (g' cW:Nat) (rest:List Value) (B:abN),aah wr.drew (fun b=>bq none [⟨v.aca,95,(List.range 8).map v.af9++v.aaI⟩,⟨fk,32,[.int .i64 aeB,.int .i64 k,.int .i64 afQ,.int .i64 ik,.slice (some ⟨v.aca,0,none⟩) 8 v.acR,.slice (some ⟨v.aff,0,none⟩) k v.VY,v.afa]⟩,⟨gr,32,[.int .i64 0,.int .i64 0,.int .i64 0,.int .i64 0,.slice none 0 0,.slice none 0 0,.slice none 0 0]⟩] b/\(Value.slice A m VU).ownBlock≠some b) w none [⟨g',100,(lx (S.eI u)++ [Value.int .u8 (dV cy).op,.int .i64 (dV cy).a,.int .i64 (dV cy).b])++rest⟩,B,⟨v.aca,95,(List.range 8).map (put v.af9 u (.slice (some ⟨g',0,none⟩) (m+1) cW))++v.aaI⟩,⟨fk,32,[.int .i64 aeB,.int .i64 k,.int .i64 afQ,.int .i64 ik,.slice (some ⟨v.aca,0,none⟩) 8 v.acR,.slice (some ⟨v.aff,0,none⟩) k v.VY,v.afa]⟩,⟨gr,32,[.int .i64 0,.int .i64 0,.int .i64 0,.int .i64 0,.slice none 0 0,.slice none 0 0,.slice none 0 0]⟩]->((Value.slice A m VU).ownBlock=some g'\/wr.drew.heap.size<=g')->(m+1<=cW/\cW<=maxLen/\((lx (S.eI u)++ [Value.int .u8 (dV cy).op,.int .i64 (dV cy).a,.int .i64 (dV cy).b])++rest).length=cW*3)->
           aah w0 (fun _=>True) w none [⟨fk,32,[.int .i64 aeB,.int .i64 k,.int .i64 afQ,.int .i64 ik,.slice (some ⟨v.aca,0,none⟩) 8 v.acR,.slice (some ⟨v.aff,0,none⟩) k v.VY,v.afa]⟩,⟨gr,32,[.int .i64 0,.int .i64 0,.int .i64 0,.int .i64 0,.slice none 0 0,.slice none 0 0,.slice none 0 0]⟩]/\a7 w w0.heap.size {v with af9:=put v.af9 u (.slice (some ⟨g',0,none⟩) (m+1) cW)} (eT (fe f n) (q+1))from fun w g' cW rest B h1 afj Ya=>by
           refine⟨((fu.j5 h1).mI fun b hb e=>by have:=(bT.lt b e).1;omega).c6.c6.c6,?_⟩;rw[<-Ee.out,aeO.out,show cU S cy=_ by unfold cU;rw[aB,Z afY,hu,Z ⟨aaV,by rw[hm];exact YJ⟩]];have k:=h1.Wu.M9 aaH.bC h1.c6.c6.c6.bC;rw[<-aef]at k afj;rw[<-hm]at Ya;have hb:=h1.b (g:=v.aca) ag;rw[<-hm]at hb⊢
           skip
           exact(a7.KO ZV tp.out u8 (c:=dV cy) k hb (h1.b cX) afj Ya).1)
          clear bT nd hm aef ia abx;go_upto_region 20 with fail
          clear aeb;replace U:=U.drew;refine wp_region_held_drew (S:=(c0 [⟨fk,32,[.int .i64 aeB,.int .i64 k,.int .i64 afQ,.int .i64 ik,.slice (some ⟨v.aca,0,none⟩) 8 v.acR,.slice (some ⟨v.aff,0,none⟩) k v.VY,v.afa]⟩])) aM ?_ (fun X=>?_)
          ·exact U.bG aN
          refine az [[0,1,2,3,4,5,6,8]] ?_;refine Zj [7,9] ?_;refine ea (fun K Z7=>?_) ?_
          ·rw[Z (by rfl)];refine bU U 95 _ rfl v.aca u rfl ag (.slice A m VU) YT.out underlying95 rfl ?_;refine WE Z7 fun X=>?_;refine aF 9 fun K Z7=>?_;go_simp
           (go_at_call 29;refine a6 U (zH _ bb (off+z) (c-z) cy Ef.out J (c9 fu U mm) (fun i hi=>l6 fu U (p:=⟨bb,off+z+i,none⟩) mm (adj.out i hi)) aaV) ?_;clear U;intro aaM U)
           go_wp2_with fail;exact pz
          refine ei (fun K Z7=>?_);go_simp
          (go_at_call 29;refine a6 U (zH _ bb (off+z) (c-z) cy Ef.out J (c9 fu U mm) (fun i hi=>l6 fu U (p:=⟨bb,off+z+i,none⟩) mm (adj.out i hi)) aaV) ?_;clear U;intro aaM U)
          go_wp2_with fail;refine WE Z7 fun X=>?_;refine Zj [7,10] ?_;refine ea (fun K Z7=>?_) ?_
          ·rw[Z (by rfl)];refine bU U 95 _ rfl v.aca u rfl ag (.slice A m VU) YT.out underlying95 rfl ?_;exact pz
          refine ei (fun K Z7=>?_);rw[Z (by rfl)];refine bK U 95 100 _ rfl _ ([Value.int .u8 (dV cy).op,.int .i64 (dV cy).a,.int .i64 (dV cy).b]) rfl rfl (.agg #[.int .u8 0,.int .i64 0,.int .i64 0]) 3 24 fP jp rfl am am ?_;clear U;intro di w U dO;refine WE Z7 fun X=>?_;refine aF 7 fun K Z7=>?_;rw[Z (by rfl)];refine bU U 95 _ rfl v.aca u rfl ag (.slice A m VU) YT.out underlying95 rfl ?_;exact py
         ·have fx: ¬(m:Int)<8:=by omega
          have abi: ¬(cy 2<=4/\m<8):=fun h=>YJ h.2;exact pA
        ·have abi: ¬(cy 2<=4/\m<8):=fun h=>aaV h.1;exact pA
       ·have aaP:(cy 0 %8==5)=false:=by simp;omega
        have ZM: ¬cy 0 %8<5:=J;obtain⟨A,VU,aef⟩:=xL ZV.pi;obtain⟨m,hm⟩: ∃m,S.cp.length=m:=⟨_,rfl⟩
        have bT:=ZV.pi;rw[hm]at aef bT;rw[aef]at bT;have U:=aaH.base;have ae3: ¬cy 0 %8<5:=J;have afY: ¬cy 0 %8=5:=J;have aby:=I (gx (B':=0) bT fun _ _=>aL _);have iZ:=I (M8 aaH bT);have Qz:=I (show∀b,b<w0.heap.size->(Value.slice A m VU).ownBlock≠some b from fun b hb e=>by have:=(bT.lt b e).1;omega);have U2:=Ef.out 4;have U3:=Ef.out 5;have acJ:IntKind.i64.wrap (cy 4)=cy 4:=by rw[IntKind.wrap_i64];omega
        have Wo:IntKind.i64.wrap (cy 5)=cy 5:=by rw[IntKind.wrap_i64];omega
        have VD:IntKind.i64.wrap (256*cy 5)=256*cy 5:=by rw[IntKind.wrap_i64];omega
        have YP:IntKind.i64.wrap (cy 4+256*cy 5)=numOf cy:=by rw[IntKind.wrap_i64];show _=cy 4+256*cy 5;omega
        by_cases YJ:m<4096
        ·have fx:(m:Int)<4096:=by omega
         have qT:=I (show∀(aaM w:World) (g' cW:Nat) (rest:List Value) (B:abN),aah wr.drew (fun b=>bq none [⟨fk,32,[.int .i64 aeB,.int .i64 k,.int .i64 afQ,.int .i64 ik,.slice (some ⟨v.aca,0,none⟩) 8 v.acR,.slice (some ⟨v.aff,0,none⟩) k v.VY,v.afa]⟩,⟨gr,32,[.int .i64 0,.int .i64 0,.int .i64 0,.int .i64 0,.slice none 0 0,.slice none 0 0,.slice none 0 0]⟩] b/\(Value.slice A m VU).ownBlock≠some b) aaM none [⟨g',3,(h8 S.cp++ [Value.int .i64 (numOf cy)])++rest⟩,B,⟨fk,32,[.int .i64 aeB,.int .i64 k,.int .i64 afQ,.int .i64 ik,.slice (some ⟨v.aca,0,none⟩) 8 v.acR,.slice (some ⟨v.aff,0,none⟩) k v.VY,v.afa]⟩,⟨gr,32,[.int .i64 0,.int .i64 0,.int .i64 0,.int .i64 0,.slice none 0 0,.slice none 0 0,.slice none 0 0]⟩]->
          aah aaM (bq none [⟨g',3,(h8 S.cp++ [Value.int .i64 (numOf cy)])++rest⟩,B,⟨fk,32,[.int .i64 aeB,.int .i64 k,.int .i64 afQ,.int .i64 ik,.slice (some ⟨v.aca,0,none⟩) 8 v.acR,.slice (some ⟨v.aff,0,none⟩) k v.VY,v.afa]⟩,⟨gr,32,[.int .i64 0,.int .i64 0,.int .i64 0,.int .i64 0,.slice none 0 0,.slice none 0 0,.slice none 0 0]⟩]) w none [⟨g',3,(h8 S.cp++ [Value.int .i64 (numOf cy)])++rest⟩,B,⟨fk,32,[.int .i64 aeB,.int .i64 k,.int .i64 afQ,.int .i64 ik,.slice (some ⟨v.aca,0,none⟩) 8 v.acR,.slice (some ⟨v.aff,0,none⟩) k v.VY,(.slice (some ⟨g',0,none⟩) (m+1) cW)]⟩,⟨gr,32,[.int .i64 0,.int .i64 0,.int .i64 0,.int .i64 0,.slice none 0 0,.slice none 0 0,.slice none 0 0]⟩]->((Value.slice A m VU).ownBlock=some g'\/wr.drew.heap.size<=g')->(m+1<=cW/\cW<=maxLen/\((h8 S.cp++ [Value.int .i64 (numOf cy)])++rest).length=cW*1)->
          aah w0 (fun _=>True) w none [⟨fk,32,[.int .i64 aeB,.int .i64 k,.int .i64 afQ,.int .i64 ik,.slice (some ⟨v.aca,0,none⟩) 8 v.acR,.slice (some ⟨v.aff,0,none⟩) k v.VY,(.slice (some ⟨g',0,none⟩) (m+1) cW)]⟩,⟨gr,32,[.int .i64 0,.int .i64 0,.int .i64 0,.int .i64 0,.slice none 0 0,.slice none 0 0,.slice none 0 0]⟩]/\a7 w w0.heap.size {v with afa:=.slice (some ⟨g',0,none⟩) (m+1) cW} (eT (fe f n) (q+1))from fun aaM w g' cW rest B h1 adH aaV Ya=>by
          refine⟨((aaH.j5 (h1.back adH)).mI fun b hb e=>by have:=(bT.lt b e).1;omega).c6.c6,?_⟩;rw[<-Ee.out,aeO.out,show cU S cy= {S with cp:=S.cp++ [numOf cy]} by unfold cU;rw[Y ae3,Y afY,Z (by rw[hm];exact YJ)]];have Wu:=(h1.Wu.M9 (fun y hy=>aaH.bC y (ao _ hy)) h1.c6.c6.c6.bC).sZ (aaH.b cX) (h1.b r3);rw[<-aef]at Wu aaV;rw[<-hm]at Ya⊢;have adp:=(a7.KP ZV tp.out (c:=numOf cy) (Wu.mono fun b _ h=>h.2) (h1.b cX) aaV Ya).1;exact adp.move (L:= [⟨fk,32,[.int .i64 aeB,.int .i64 k,.int .i64 afQ,.int .i64 ik,.slice (some ⟨v.aca,0,none⟩) 8 v.acR,.slice (some ⟨v.aff,0,none⟩) k v.VY,v.afa]⟩]) ((P3 adH N5 h1.bC).mono fun b _ h e=>h.1 _ (List.mem_singleton.2 rfl) e.symm) (fun x Wy=>h1.bC x (by simp only[ad,E,av]at Wy⊢;rw[Wy];simp)) aN)
         have abW:=I aef;have qX:=aaH;rw[aef]at qT iZ U aaB qX;clear bT hm ia abx ae3 afY;go_upto_region 22 with fail
         replace U:=U.drew;refine wp_region_held_drew (S:=(fun w=> ∀i,i<8->w.cell? ⟨bb,off+z+i,none⟩=some (.int .u8 (cy i)))) aM ?_ (fun X=>?_)
         ·exact fun i hi=>l6 qX U (p:=⟨bb,off+z+i,none⟩) mm (adj.out i hi)
         refine az [[0,2,3]] ?_;refine eE 4 rfl (bl (by rfl) 5 _ rfl bb (off+z+4) rfl _ (fun w h=>h 4 am) underlying5 rfl) ?_;refine az [[5,6,7]] ?_;refine eE 8 rfl (bl (by rfl) 5 _ rfl bb (off+z+5) rfl _ (fun w h=>h 5 am) underlying5 rfl) ?_;refine az [[9,10,11]] ?_;refine Zj [1,12] ?_;refine ea (fun K Z7=>?_) ?_
         ·refine YL U ?_;refine abR Z7 (fun X=>?_) (by exact fun i hi=>l6 qX U (p:=⟨bb,off+z+i,none⟩) mm (adj.out i hi));refine aF 12 fun K Z7=>?_;rw[Z (by rfl)];refine bK U 30 3 _ rfl _ [Value.int .i64 (numOf cy)] rfl rfl (.int .i64 0) 1 8 bg b6 rfl am am ?_;clear U;intro di w U dO;exact pB
         refine ei (fun K Z7=>?_);rw[Z (by rfl)];refine bK U 30 3 _ rfl _ [Value.int .i64 (numOf cy)] rfl rfl (.int .i64 0) 1 8 bg b6 rfl am am ?_;clear U;intro di w U dO;refine abR Z7 (fun X=>?_) (by exact fun i hi=>l6 qX U (p:=⟨bb,off+z+i,none⟩) mm (adj.out i hi));refine aF 1 fun K Z7=>?_;refine YL U ?_;exact pB
        ·have fx: ¬(m:Int)<4096:=by omega
         have xv:=I (show a7 wr.drew w0.heap.size v (eT (fe f n) (q+1)) by rw[<-Ee.out,aeO.out,show cU S cy=S by unfold cU;rw[Y ae3,Y afY,Y (by rw[hm];exact YJ)]];exact ZV);replace U:=aaH;rw[aef]at aaB;clear bT hm ia abx ae3 afY aef;go_wp2_with fail;go_roundw
         case rel=>exact⟨q+1,v,aaN.out,.inr abp.out,U,xv.out⟩
         case measure=>have Vy:=ab0.out;simp[intOf];omega
      ·have ZD: ¬4+8*(q:Int)+8<=(n:Int):=by omega
       have XD:q=(n-4)/8:=J;have aci:=I (show j9 f n=eT (fe f n) q by unfold j9;rw[XD]);have afI:=I afB;replace VX:=I VX;have abx:=I Yg;have aaH:=U;have U:=aaH.base;clear Yg XD afB Ed;have Wv: ∀(k:IntKind) (n:Int),(Value.int k n).oneCell'=true:=fun _ _=>rfl;have os: ∀A n c,(Value.slice A n c).oneCell'=true:=fun _ _ _=>rfl;have sw:=abx.out.sw;go_wp2_with(first|(refine aq ?_)|(refine VP U jj ?_;clear U;intro fk w U lb)|(refine ac2 U ?_;clear U;intro w U));refine cw results10 rfl rfl ⟨_,U.b ag,rfl⟩ underlying32 rfl aM ?_;exact pp
end
end Go.Proofs.YtcimojgkeoecfaaGreat
