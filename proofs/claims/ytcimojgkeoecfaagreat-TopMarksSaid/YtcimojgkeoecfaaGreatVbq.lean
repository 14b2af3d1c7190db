import Derived.Test.YtcimojgkeoecfaaGreatVbp
set_option linter.all false
set_option maxHeartbeats 16000000
set_option maxRecDepth 100000
namespace Go.Proofs.YtcimojgkeoecfaaGreat
open Go.RowKit Tryz
theorem hH{G:Prop}(h:G:=by
 go_wp2_with(first|(refine aq ?_)|(refine aT ?_;clear U;intro X8 w U T7));refine cw results29 rfl rfl ⟨_,U.b ag,rfl⟩ underlying100 rfl (by kernel_rfl) ?_;refine⟨?_,U.all⟩;unfold dV;rw[tg.out];simp):G:=h
theorem Bx.k9{w0 w:World}{L:List PL}{p:Addr}{u:Value}(h:Bx w0 (fun _=>True) w none L)(hb:p.block<w0.heap.size)(a:w0.cell? p=some u):w.cell? p=some u:=(h.all.cell hb).trans a
theorem zH(w0:World)(b o c:Nat)(e:Nat->Int)(q:e0 e)(z:8<=c)(hb:b<w0.heap.size)(f: ∀i,i<8->w0.cell? ⟨b,o+i,none⟩=some (.int .u8 (e i)))(t:e 2<=4):
 Calls prog 29 #[.slice (some ⟨b,o,none⟩) 8 c] w0 fun x w'=>x= .returned (.agg #[.int .u8 (dV e).op,.int .i64 (dV e).a,.int .i64 (dV e).b])/\Below w0.heap.size w0 w':=by
 have p:=q 4;have j:=q 5;have v:=q 2;have U:=Bx.a0 w0;have n:=I f;have u:IntKind.i64.wrap (e 4)=e 4:=by rw[IntKind.wrap_i64];omega
 have y:IntKind.i64.wrap (e 5)=e 5:=by rw[IntKind.wrap_i64];omega
 clear q;go_enter func29,ntmps29;go_upto_region 1 with(first|(refine aq ?_)|(refine aT ?_;clear U;intro X8 w U T7))
 rcases(by omega:e 2=0\/e 2=1\/e 2=2\/e 2=3\/e 2=4)with h|h|h|h|h
 ·have d:w0.cell? ⟨b,o+2,none⟩=some (.int .u8 0):=by rw[<-h];exact f 2 am
  replace d:=U.k9 hb d;have tg:=I h;have m:(e 4).tmod 64=e 4 %64:=al p.1;have l:(e 5).tmod 64=e 5 %64:=al j.1;clear h f;go_upto_region 4 with(first|(refine aq ?_)|(refine aT ?_;clear U;intro X8 w U T7))
  have r:=U.k9 hb (n.out 4 am);exact hH
 ·have d:w0.cell? ⟨b,o+2,none⟩=some (.int .u8 1):=by rw[<-h];exact f 2 am
  replace d:=U.k9 hb d;have tg:=I h;have m:(e 4).tmod 6=e 4 %6:=al p.1;have l:(e 5).tmod 64=e 5 %64:=al j.1;clear h f;go_upto_region 6 with(first|(refine aq ?_)|(refine aT ?_;clear U;intro X8 w U T7))
  have r:=U.k9 hb (n.out 4 am);exact hH
 ·have d:w0.cell? ⟨b,o+2,none⟩=some (.int .u8 2):=by rw[<-h];exact f 2 am
  replace d:=U.k9 hb d;have tg:=I h;have m:(e 4).tmod 6=e 4 %6:=al p.1;have l:(e 5).tmod 6=e 5 %6:=al j.1;clear h f;go_upto_region 8 with(first|(refine aq ?_)|(refine aT ?_;clear U;intro X8 w U T7))
  have r:=U.k9 hb (n.out 4 am);go_upto_region 9 with(first|(refine aq ?_)|(refine aT ?_;clear U;intro X8 w U T7))
  have s:=U.k9 hb (n.out 5 am);exact hH
 ·have d:w0.cell? ⟨b,o+2,none⟩=some (.int .u8 3):=by rw[<-h];exact f 2 am
  replace d:=U.k9 hb d;have tg:=I h;have m:(e 4).tmod 6=e 4 %6:=al p.1;have l:(e 5).tmod 9=e 5 %9:=al j.1;clear h f;go_upto_region 11 with(first|(refine aq ?_)|(refine aT ?_;clear U;intro X8 w U T7))
  have r:=U.k9 hb (n.out 4 am);go_upto_region 12 with(first|(refine aq ?_)|(refine aT ?_;clear U;intro X8 w U T7))
  have s:=U.k9 hb (n.out 5 am);exact hH
 ·have d:w0.cell? ⟨b,o+2,none⟩=some (.int .u8 4):=by rw[<-h];exact f 2 am
  replace d:=U.k9 hb d;have tg:=I h;have m:(e 4).tmod 64=e 4 %64:=al p.1;have l:(e 5).tmod 64=e 5 %64:=al j.1;clear h f;exact hH
theorem Bx.after{w0 w w':World}{L L':List PL}{T:Nat->Prop}(h:Bx w0 (fun _=>True) w none L)(k:Z1 T w w')(i: ∀b,b<w0.heap.size->T b)(hb: ∀x,x∈L'->ah w' x.g x.t x.cs.toArray/\w0.heap.size<=x.g)(f:(L'.map PL.g).Nodup):Bx w0 (fun _=>True) w' none L':=
 ⟨fun x c=>(hb x c).1,f,fun x c=>.inl (hb x c).2,⟨k.os.trans h.Wu.os,k.tape.trans h.Wu.tape,k.output.trans h.Wu.output,D h.Wu.size k.size,fun b d _=>(k.block b (aj d h.Wu.size) (i b d)).trans (h.Wu.block b d trivial)⟩,trivial,fun a e=>by cases e⟩
theorem zI{w0 w:World}{S:Nat->Prop}{A:Option XS}{L:List PL}(h:Bx w0 S w A L){g:Nat}{t:TypeId}{cs:Array Value}(hb:ah w g t cs)(a:(L.map PL.t).contains t=false:=by rfl):je L g:=fun x b e=>by
 have h1:=h.bC x b;rw[e]at h1;refine ah.ne h1 hb (fun e=>?_) rfl;rw[List.contains_eq_any_beq,List.any_eq_false]at a;exact a _ (List.mem_map.2 ⟨x,b,rfl⟩) (by simp[e])
theorem M8{w0 w:World}{S:Nat->Prop}{L:List PL}(h:Bx w0 S w none L){B sz n:Nat}{e:TypeId}{v:Value}{xs:List Value}(b:w.ownsRow B e sz v n xs)(d:(L.map PL.t).contains e=false:=by rfl): ∀j,v.ownBlock=some j->bq none L j:=fun j c=>by
 obtain⟨cs,hb⟩:=rE b c;exact⟨zI h hb d,fun a e=>by cases e⟩
theorem Z1.M9{w w':World}{x:PL}{L:List PL}{T:Nat->Prop}(k:Z1 (fun b=>bq none (x::L) b/\T b) w w')(h1: ∀y,y∈L->ah w y.g y.t y.cs.toArray)(d: ∀y,y∈L->ah w' y.g y.t y.cs.toArray):Z1 (fun b=>b≠x.g/\T b) w w':=
 ⟨k.os,k.tape,k.output,k.size,fun b hb f=>by
   by_cases c: ∃y,y∈L/\y.g=b
   ·obtain⟨y,hy,rfl⟩:=c
    exact(show w'.heap[y.g]? =_ from d y hy).trans (show w.heap[y.g]? =_ from h1 y hy).symm
   ·exact k.block b hb ⟨⟨fun y hy e=>by
     rcases List.mem_cons.1 hy with rfl|hy
     ·exact f.1 e.symm
     ·exact c ⟨y,hy,e⟩,fun a e=>by cases e⟩,f.2⟩⟩
theorem xL{w:World}{B sz n:Nat}{e:TypeId}{v:Value}{xs:List Value}(h:w.ownsRow B e sz v n xs): ∃A c,v= .slice A n c:=by
 rcases h.2 with⟨a,b⟩|⟨g,cap,d,a,_⟩
 ·exact⟨none,0,by rw[a,b]⟩
 ·exact⟨_,_,a⟩
theorem l6{w0 a w:World}{L L2:List PL}(h:Bx w0 (fun _=>True) a none L)(k:Bx a (bq none L) w none L2){p:Addr}{u:Value}(hb:p.block<w0.heap.size)(b:w0.cell? p=some u):w.cell? p=some u:=((h.back k).all.cell hb).trans b
theorem K4{w0 a w:World}{L L2:List PL}{T:Nat->Prop}(h:Bx w0 (fun _=>True) a none L)(k:Bx a (fun b=>bq none L b/\T b) w none L2)(c: ∀b,b<w0.heap.size->T b){p:Addr}{u:Value}(hb:p.block<w0.heap.size)(d:w0.cell? p=some u):w.cell? p=some u:=(((h.j5 k).mI c).all.cell hb).trans d
theorem Na{L L':List PL}{g:Nat}{t:TypeId}{cs cs':List Value}(h:Tr L g t cs cs' L'): ∀x,x∈L->x.g≠g->x∈L':=by
 induction h with
 |here g t cs cs' L=>
  intro x a c;rcases List.mem_cons.1 a with rfl|a
  ·exact absurd rfl c
  ·exact ao _ a
 |there b g t cs cs' L L' e d=>
  intro x a c;rcases List.mem_cons.1 a with rfl|a
  ·exact a8
  ·exact ao _ (d x a c)
theorem P3{d w:World}{L L':List PL}{g:Nat}{t:TypeId}{cs cs':List Value}(h:Bx d (bq none L) w none L')(f:Tr L g t cs cs' L')(hb: ∀y,y∈L->ah d y.g y.t y.cs.toArray):Z1 (fun b=>b≠g) d w:=
 ⟨h.Wu.os,h.Wu.tape,h.Wu.output,h.Wu.size,fun b j i=>by
   by_cases c: ∃y,y∈L/\y.g=b
   ·obtain⟨y,hy,rfl⟩:=c
    exact(show w.heap[y.g]? =_ from h.bC y (Na f y hy i)).trans (show d.heap[y.g]? =_ from hb y hy).symm
   ·exact h.Wu.block b j ⟨fun y hy e=>c ⟨y,hy,e⟩,fun a e=>by cases e⟩⟩
theorem c9{w0 a w:World}{L L2:List PL}(h:Bx w0 (fun _=>True) a none L)(k:Bx a (bq none L) w none L2){b:Nat}(hb:b<w0.heap.size):b<w.heap.size:=by have:=h.size;have:=k.size;omega
section
section
variable{G:Prop}
include G
theorem pu(h:G:=by
 replace U:=DI;clear bT nd hm W2 ia XM;go_wp2_with fail;go_roundw
 case rel=>exact⟨q+1,v,vE.out,.inr vM.out,U,xv.out⟩
 case measure=>have Vy:=XL.out;simp[intOf];omega):G:=h
theorem pv(h:G:=by
 refine WE Z7 fun X=>?_;refine aF 10 fun K Z7=>?_;rw[Z (by rfl)];refine bK U 47 42 _ rfl _ ((hP (fJ cy)).toList) rfl rfl (.agg #[.int .u8 0,.int .u8 0,.int .u8 0,.int .u8 0,.int .i64 0,.int .i64 0,.int .i64 0]) 7 32 fi ii rfl (by decide) (by decide) ?_;clear U;intro di w U dO;exact pw):G:=h
theorem px(h:G:=by
 have xv:=I (show a7 wr.drew w0.heap.size v (eT (fe f n) (q+1)) by rw[<-Ee.out,cq.out,show cU S cy=S by unfold cU;rw[Z TS,ia,hm,Y U4]];exact ZV);exact pu):G:=h
theorem py(h:G:=by
 refine WE Z7 fun X=>?_;refine aF 11 fun K Z7=>?_;rw[Z (by rfl)];have dI:=U.size;refine eX U U3.out iZ.out _ _ 95 rfl (.agg #[.int .u8 0,.int .i64 0,.int .i64 0]) 24 fP jp rfl (by decide) rfl ⟨di,0,none⟩ 1 1 ([Value.int .u8 (dV cy).op,.int .i64 (dV cy).a,.int .i64 (dV cy).b]) rfl rfl (by decide) (U.news ag) rfl (by unfold maxLen;omega) (by omega) ?_;clear U;intro g' cW lL w U e8 lm;replace e8:=e8.imp id (D dI);clear dI;refine WE Z7 fun X=>?_;refine Xh 12 ?_;refine aF 13 fun K Z7=>?_;refine vY U (f:=v.U5) (m:=8) (j:=u) (u:=.slice (some ⟨g',0,none⟩) (m+1) cW) (by omega) ?_;clear U;intro w U;refine WE Z7 fun X=>?_;refine UF ?_;go_wp2_with fail;obtain⟨f1,f2⟩:=qT.out _ _ _ _ _ U e8 lm;go_roundw
 case rel=>exact⟨q+1,{v with U5:=put v.U5 u (.slice (some ⟨g',0,none⟩) (m+1) cW)},vE.out,.inr vM.out,f1,f2⟩
 case measure=>have Vy:=XL.out;simp[intOf];omega):G:=h
theorem pz(h:G:=by
 refine WE Z7 fun X=>?_;refine aF 10 fun K Z7=>?_;rw[Z (by rfl)];refine bK U 95 100 _ rfl _ ([Value.int .u8 (dV cy).op,.int .i64 (dV cy).a,.int .i64 (dV cy).b]) rfl rfl (.agg #[.int .u8 0,.int .i64 0,.int .i64 0]) 3 24 fP jp rfl (by decide) (by decide) ?_;clear U;intro di w U dO;exact py):G:=h
theorem pA(h:G:=by
 have xv:=I (show a7 wr.drew w0.heap.size v (eT (fe f n) (q+1)) by rw[<-Ee.out,cq.out,show cU S cy=S by unfold cU;rw[aB,Z UJ,hu,hm,Y U4]];exact ZV);exact pu):G:=h
theorem pB(h:G:=by
 refine PK Z7 (fun X=>?_) (by exact fun i hi=>l6 qX U (p:=⟨bb,off+z+i,none⟩) mm (ZY.out i hi));refine aF 13 fun K Z7=>?_;rw[Z (by rfl)];have dI:=U.size;refine eX U U3.out iZ.out _ _ 30 rfl (.int .i64 0) 8 bg b6 rfl (by decide) rfl ⟨di,0,none⟩ 1 1 [Value.int .i64 (numOf cy)] rfl rfl (by decide) (U.news ag) rfl (by unfold maxLen;omega) (by omega) ?_;clear U;intro g' cW lL w U e8 lm;replace e8:=e8.imp id (D dI);clear dI;refine PK Z7 (fun X=>?_) (by exact fun i hi=>K4 qX U Qz.out (p:=⟨bb,off+z+i,none⟩) mm (ZY.out i hi));refine Xh 14 ?_;refine aF 15 fun K Z7=>?_;have Ut:=U;replace U:=U.base;refine Uy U ?_;clear U;intro w U;refine PK Z7 (fun X=>?_) (by exact fun i hi=>K4 qX (Ut.back U) Qz.out (p:=⟨bb,off+z+i,none⟩) mm (ZY.out i hi));refine UF ?_;go_wp2_with fail;obtain⟨f1,f2⟩:=qT.out _ _ _ _ _ _ Ut U e8 lm;go_roundw
 case rel=>exact⟨q+1,{v with TK:=.slice (some ⟨g',0,none⟩) (m+1) cW},vE.out,.inr vM.out,f1,f2⟩
 case measure=>have Vy:=XL.out;simp[intOf];omega):G:=h
theorem pw(h:G:=by
 refine WE Z7 fun X=>?_;refine aF 11 fun K Z7=>?_;rw[Z (by rfl)];have dI:=U.size;refine eX U U3.out iZ.out _ _ 47 rfl (.agg #[.int .u8 0,.int .u8 0,.int .u8 0,.int .u8 0,.int .i64 0,.int .i64 0,.int .i64 0]) 32 fi ii rfl (by decide) rfl ⟨di,0,none⟩ 1 1 ((hP (fJ cy)).toList) rfl rfl (by decide) (U.news ag) rfl (by unfold maxLen;omega) (by omega) ?_;clear U;intro g' cW lL w U e8 lm;replace e8:=e8.imp id (D dI);clear dI;refine WE Z7 fun X=>?_;refine Xh 12 ?_;refine aF 13 fun K Z7=>?_;refine vY U (f:=v.UT) (m:=k) (j:=t) (u:=.slice (some ⟨g',0,none⟩) (m+1) cW) (by omega) ?_;clear U;intro w U;refine WE Z7 fun X=>?_;refine UF ?_;go_wp2_with fail;obtain⟨f1,f2⟩:=qT.out _ _ _ _ _ U e8 lm;go_roundw
 case rel=>exact⟨q+1,{v with UT:=put v.UT t (.slice (some ⟨g',0,none⟩) (m+1) cW)},vE.out,.inr vM.out,f1,f2⟩
 case measure=>have Vy:=XL.out;simp[intOf];omega):G:=h
end
structure tb(B:Nat)(w:World)(e:TypeId)(k:Nat)(v:Value):Prop where
 own:w.ownsRow B e 1 v k ((List.range k).map fun _=>.slice none 0 0)
theorem tb.app{B:Nat}{w w':World}{e:TypeId}{k g cap:Nat}{v:Value}{rest:List Value}(h:tb B w e k v)(i:B<=w.heap.size)(hb:ah w' g e (((List.range k).map (fun _=>Value.slice none 0 0)++ [Value.slice none 0 0])++rest).toArray)(d:v.ownBlock=some g\/w.heap.size<=g)(f:k+1<=cap/\cap<=maxLen/\(((List.range k).map (fun _=>Value.slice none 0 0)++ [Value.slice none 0 0])++rest).length=cap*1):
 tb B w' e (k+1) (.slice (some ⟨g,0,none⟩) (k+1) cap):=by
 refine⟨?_⟩;have a:(List.range (k+1)).map (fun _=>Value.slice none 0 0)=(List.range k).map (fun _=>Value.slice none 0 0)++ [Value.slice none 0 0]:=by rw[List.range_succ,cP];rfl
 rw[a];refine gx (jz hb aN f) fun j c=>?_;have b:g=j:=by simpa [Value.ownBlock]using c
 subst b;rcases d with q|q
 ·exact(h.own.lt _ q).1
 ·omega
theorem tb.open_{B n:Nat}{w:World}{e:TypeId}{v:Value}(h:tb B w e n v)(j:0<n): ∃g cap rest,v= .slice (some ⟨g,0,none⟩) n cap/\ah w g e ((List.range n).map (fun _=>Value.slice none 0 0)++rest).toArray/\B<=g/\n<=cap/\cap<=maxLen:=by
 rcases h.own.2 with⟨_,h1⟩|⟨g,cap,i,rfl,a,f,d,c,k,b⟩
 ·omega
 ·exact⟨g,cap,i.toList.drop (n*1),rfl,by rw[<-b,b9];exact f,a,d,c⟩
theorem a7.Ny{w:World}{B c d T a k:Nat}{f e:List Value}{b:Nat->Int}(g:(oi b).p.t.toNat=T)(l:ah w c 95 ((List.range 8).map (fun _=>Value.slice none 0 0)++f).toArray)(n:ah w d 47 ((List.range T).map (fun _=>Value.slice none 0 0)++e).toArray)(o:8<=a/\a<=maxLen)(q:T<=k/\k<=maxLen)(r:B<=c/\B<=d):
 a7 w B ⟨c,d,a,k,f,e,fun _=>.slice none 0 0,fun _=>.slice none 0 0,.slice none 0 0⟩ (oi b):=
 ⟨l,by rw[g];exact n,o,by rw[g];exact q,fun j m=>World.ownsRow_nil _ _ _ _,fun j m=>World.ownsRow_nil _ _ _ _,World.ownsRow_nil _ _ _ _,(fun i j b _ _ _ h=>by cases h),(fun i j b _ _ _ h=>by cases h),r⟩
theorem NA(w0:World)(uO:Nat->Prop)(UX:Value)(n:Nat)(f:Nat->Int)(hb:KC w0 uO UX n 1 fun i=> [.int .u8 (f i)])(UA:e0 f)(U4:n<=400):
 Calls prog 10 #[UX] w0 fun x w'=> ∃v,x= .returned (.agg (gy (j9 f n).p v).toArray)/\a7 w' w0.heap.size v (j9 f n)/\Below w0.heap.size w0 w':=by
 obtain⟨A,c,rfl,eR,c7,bT⟩:=id hb;have UL:=I hb;have WX:=I UA;obtain⟨m,hm⟩: ∃m,m=Nat.min n 4:=⟨_,rfl⟩
 have P4:m<=4/\m<=n:=by rw[hm];exact⟨Nat.min_le_right _ _,Nat.min_le_left _ _⟩
 have Wm:=I hm;have jt:e0 (fe f n):=fun i=>by unfold fe;split;exact UA i;omega
 have YM:=jt 0;have h1:=jt 1;have l:=jt 2;have ZV:=jt 3;obtain⟨H,hj⟩: ∃x,fe f n 0=x:=⟨_,rfl⟩
 obtain⟨C,jb⟩: ∃x,fe f n 1=x:=⟨_,rfl⟩
 obtain⟨G,lV⟩: ∃x,fe f n 2=x:=⟨_,rfl⟩
 obtain⟨F,Bt⟩: ∃x,fe f n 3=x:=⟨_,rfl⟩
 have VN:=I (And.intro hj (And.intro jb (And.intro lV Bt)));have vq:=I (B7 f n m hm);rw[hj]at YM vq;rw[jb]at h1 vq;rw[lV]at l vq;rw[Bt]at ZV vq;have HF:=I (fun(w:World) (Yq:Below w0.heap.size w0 w) (h:0<m)=>show∃vZ,A=some vZ/\∀j v,((List.range m).map fun i=>Value.int .u8 (f i))[j]? =some v->w.cell? (vZ.add j)=some v from by
  obtain⟨b,off,rfl,YF,YJ,XP⟩:=bT J;refine⟨_,rfl,fun j v OV=>?_⟩;rw[a3]at OV;have Nv:j<m:=by
   exact pq
  rw[a1 Nv]at OV;rw[iL];exact(Yq.cell (p:=⟨b,off+j,none⟩) YJ).trans (by simpa using XP j 0 v J (by simpa using OV)))
 have X0:bits .and .u8 H 7=H %8:=jW 3 am H YM;have YN:bits .and .u8 C 3=C %4:=jW 2 am C h1;have XW:bits .and .u8 G 63=G %64:=jW 6 am G l;have ZA:bits .and .u8 F 127=F %128:=jW 7 am F ZV;obtain⟨T,Uo⟩: ∃T:Nat,1+C %4=T:=⟨(1+C %4).toNat,J⟩
 obtain⟨RV,lW⟩: ∃RV,1+H %8=RV:=⟨_,rfl⟩
 obtain⟨d,HG⟩: ∃d,8*(G %64)=d:=⟨_,rfl⟩
 obtain⟨s,HH⟩: ∃h1,8*(F %128)=h1:=⟨_,rfl⟩
 have VI:IntKind.i64.wrap (1+H %8)=RV:=by rw[IntKind.wrap_i64];omega
 have WJ:IntKind.i64.wrap (1+C %4)=T:=by rw[IntKind.wrap_i64];omega
 have tM:IntKind.i64.wrap (8*(G %64))=d:=by rw[IntKind.wrap_i64];omega
 have XO:IntKind.i64.wrap (8*(F %128))=s:=by rw[IntKind.wrap_i64];omega
 have mH:1<=T/\T<=4:=J;have YQ:=I (And.intro lW (And.intro Uo (And.intro HG HH)));have vi:=I bT;have HI:=I jt;have U:=Bx.a0 w0;clear hb bT UA jt hm hj jb lV Bt lW Uo HG HH;have aeh:H.tmod 8=H %8:=al YM.1;have aei:C.tmod 4=C %4:=al h1.1;have aek:G.tmod 64=G %64:=al l.1;have ael:F.tmod 128=F %128:=al ZV.1;have aen:IntKind.i64.wrap (H %8)=H %8:=by rw[IntKind.wrap_i64];omega
 have aeo:IntKind.i64.wrap (C %4)=C %4:=by rw[IntKind.wrap_i64];omega
 have aeu:IntKind.i64.wrap (G %64)=G %64:=by rw[IntKind.wrap_i64];omega
 have aew:IntKind.i64.wrap (F %128)=F %128:=by rw[IntKind.wrap_i64];omega
 have afk:zG f n 0=H:=VN.out.1;have xF:zG f n 1=C:=VN.out.2.1;have Yk:zG f n 2=G:=VN.out.2.2.1;have xj:zG f n 3=F:=VN.out.2.2.2;clear X0 YN XW ZA vq HF;go_enter func10,ntmps10;go_upto_region 1 with(refine VP U jj ?_;clear U;intro gr w U Bq)
 go_wp2_with(first|(go_at_call 27;refine a6 U (D6 _ uO _ n f _ (UL.out.below U.all) WX.out am) ?_;clear U;intro M U)|(refine aq ?_)|(refine VP U jj ?_;clear U;intro o w U lb)|(refine Po U ?_;clear U;intro w U));have eB:=I U;clear U;go_loopw [4] (fun i wr=> ∃(k:Nat) (R:Value),k<=8/\i= .int .i64 k/\Bx w0 (fun _=>True) wr none [⟨o,32,[.int .i64 RV,.int .i64 T,.int .i64 d,.int .i64 s,R,.slice none 0 0,.slice none 0 0]⟩,⟨gr,32,[.int .i64 0,.int .i64 0,.int .i64 0,.int .i64 0,.slice none 0 0,.slice none 0 0,.slice none 0 0]⟩]/\tb w0.heap.size wr 95 k R) (fun i _=>8-(intOf i).toNat)
 case atStart=>exact⟨0,.slice none 0 0,J,rfl,eB.out,⟨World.ownsRow_nil _ _ _ _⟩⟩
 case round=>
  obtain⟨k,R,TS,rfl,DI,r⟩:=hrel;clear eB;by_cases bV:k<8
  ·have WU:(k:Int)<8:=by omega
   have U:=DI.base;have xY: ∀j,R.ownBlock=some j->bq none [⟨o,32,[.int .i64 RV,.int .i64 T,.int .i64 d,.int .i64 s,R,.slice none 0 0,.slice none 0 0]⟩,⟨gr,32,[.int .i64 0,.int .i64 0,.int .i64 0,.int .i64 0,.slice none 0 0,.slice none 0 0,.slice none 0 0]⟩] j:=fun j OV=>⟨fun x O e=>by
    have D9:=DI.bC x O;rw[e]at D9;simp only[ad,E,av]at O;rcases O with rfl|rfl<;>exact dW r.own D9 (by show _≠_;simp only;decide) OV,fun a e=>by cases e⟩
   have Q:=DI.size;go_wp2_with(first|(refine dE U rfl 28 95 _ rfl _ [.slice none 0 0] rfl rfl (.slice none 0 0) 1 24 hM jA rfl am am ?_;clear U;intro di w U dO;refine cN ?_)|(have dI:=U.size;refine g0 U (gx (B':=0) r.own (fun _ _=>aL _)) (fun j OV=>xY j OV) rfl _ _ 28 rfl (.slice none 0 0) 24 hM jA rfl am rfl ⟨di,0,none⟩ 1 1 [.slice none 0 0] rfl rfl am (U.news ag) rfl (by unfold maxLen;omega) J ?_;clear U;intro g' cW lL w U e8 lm;replace e8:=e8.imp id (D dI);clear dI;refine cN ?_)|(refine aq ?_)|(refine VP U jj ?_;clear U;intro o w U lb)|(refine Po U ?_;clear U;intro w U));go_roundw
   case rel=>exact⟨k+1,_,J,by go_num,((DI.j5 U).mI (fun b hb e=>by have:=(r.own.lt b e).1;omega)).c6.c6,r.app Q (U.b cX) e8 lm⟩
   case measure=>simp[intOf];omega
  ·obtain rfl:k=8:=by omega
   have U:=DI;clear DI;have QA:=I r;clear r;go_wp2_with(first|(refine aq ?_)|(refine VP U jj ?_;clear U;intro o w U lb)|(refine Po U ?_;clear U;intro w U));have eB:=I U;clear U;go_loopw [5] (fun i wr=> ∃(k:Nat) (Vh:Value),k<=T/\i= .int .i64 k/\Bx w0 (fun _=>True) wr none [⟨o,32,[.int .i64 RV,.int .i64 T,.int .i64 d,.int .i64 s,R,Vh,.slice none 0 0]⟩,⟨gr,32,[.int .i64 0,.int .i64 0,.int .i64 0,.int .i64 0,.slice none 0 0,.slice none 0 0,.slice none 0 0]⟩]/\tb w0.heap.size wr 47 k Vh/\tb w0.heap.size wr 95 8 R) (fun i _=>T-(intOf i).toNat)
   case atStart=>exact⟨0,.slice none 0 0,J,rfl,eB.out,⟨World.ownsRow_nil _ _ _ _⟩,QA.out⟩
   case round=>
    obtain⟨k,Vh,TS,rfl,DI,r,HJ⟩:=hrel;clear eB QA;by_cases bV:k<T
    ·have WU:(k:Int)<(T:Int):=by omega
     have U:=DI.base;have yY: ∀ {e:TypeId} {m:Nat} {u:Value} {xs:List Value},wr.ownsRow w0.heap.size e 1 u m xs->e≠32->∀j,u.ownBlock=some j->bq none [⟨o,32,[.int .i64 RV,.int .i64 T,.int .i64 d,.int .i64 s,R,Vh,.slice none 0 0]⟩,⟨gr,32,[.int .i64 0,.int .i64 0,.int .i64 0,.int .i64 0,.slice none 0 0,.slice none 0 0,.slice none 0 0]⟩] j:=fun UD bo j OV=>⟨fun x O e=>by
      have D9:=DI.bC x O;rw[e]at D9;simp only[ad,E,av]at O;rcases O with rfl|rfl<;>exact dW UD D9 bo OV,fun a e=>by cases e⟩
     have xY: ∀j,Vh.ownBlock=some j->bq none [⟨o,32,[.int .i64 RV,.int .i64 T,.int .i64 d,.int .i64 s,R,Vh,.slice none 0 0]⟩,⟨gr,32,[.int .i64 0,.int .i64 0,.int .i64 0,.int .i64 0,.slice none 0 0,.slice none 0 0,.slice none 0 0]⟩] j:=yY r.own am;have xD: ∀j,R.ownBlock=some j->bq none [⟨o,32,[.int .i64 RV,.int .i64 T,.int .i64 d,.int .i64 s,R,Vh,.slice none 0 0]⟩,⟨gr,32,[.int .i64 0,.int .i64 0,.int .i64 0,.int .i64 0,.slice none 0 0,.slice none 0 0,.slice none 0 0]⟩] j:=yY HJ.own am;have Q:=DI.size;go_wp2_with(first|(refine dE U rfl 29 47 _ rfl _ [.slice none 0 0] rfl rfl (.slice none 0 0) 1 24 lQ ps rfl am am ?_;clear U;intro di w U dO;refine cN ?_)|(have dI:=U.size;refine g0 U (gx (B':=0) r.own (fun _ _=>aL _)) (fun j OV=>xY j OV) rfl _ _ 29 rfl (.slice none 0 0) 24 lQ ps rfl am rfl ⟨di,0,none⟩ 1 1 [.slice none 0 0] rfl rfl am (U.news ag) rfl (by unfold maxLen;omega) J ?_;clear U;intro g' cW lL w U e8 lm;replace e8:=e8.imp id (D dI);clear dI;refine cN ?_)|(refine aq ?_)|(refine VP U jj ?_;clear U;intro o w U lb)|(refine Po U ?_;clear U;intro w U));go_roundw
     case rel=>exact⟨k+1,_,J,by go_num,((DI.j5 U).mI (fun b hb e=>by have:=(r.own.lt b e).1;omega)).c6.c6,r.app Q (U.b cX) e8 lm,⟨eU HJ.own U.Wu fun b hb=>⟨xD b hb,kR HJ.own r.own am hb⟩⟩⟩
     case measure=>simp[intOf];omega
    ·obtain e:k=T:=by omega
     subst e;have WU: ¬(k:Int)<(k:Int):=J;have U:=DI;clear DI;obtain⟨U1,U6,Zg,rfl,Uw,TC,Nz⟩:=HJ.open_ am;obtain⟨L8,VY,Ze,rfl,Us,TD,qC⟩:=r.open_ J;have Ec:=I (a7.Ny (b:=fe f n) (T:=k) (by have:=YQ.out;have:=VN.out;show(1+fe f n 1 %4).toNat=k;omega) Uw Us Nz qC ⟨TC,TD⟩);clear r HJ Uw Us;go_wp2_with(first|(refine aq ?_)|(refine VP U jj ?_;clear U;intro o w U lb)|(refine Po U ?_;clear U;intro w U));have eB:=I U;clear U;go_loopw [6] (fun i wr=> ∃(q:Nat) (v:VV),i= .int .i64 (4+8*(q:Int))/\(q=0\/4+8*q<=n)/\Bx w0 (fun _=>True) wr none [⟨o,32,[.int .i64 RV,.int .i64 k,.int .i64 d,.int .i64 s,.slice (some ⟨v.U1,0,none⟩) 8 v.U6,.slice (some ⟨v.L8,0,none⟩) k v.VY,v.TK]⟩,⟨gr,32,[.int .i64 0,.int .i64 0,.int .i64 0,.int .i64 0,.slice none 0 0,.slice none 0 0,.slice none 0 0]⟩]/\a7 wr w0.heap.size v (eT (fe f n) q)) (fun i _=>(408-intOf i).toNat)
     case atStart=>exact⟨0,⟨U1,L8,U6,VY,Zg,Ze,fun _=>.slice none 0 0,fun _=>.slice none 0 0,.slice none 0 0⟩,rfl,.inl rfl,eB.out,Ec.out⟩
     case round=>
      obtain⟨q,v,rfl,VX,U,Yg⟩:=hrel;clear eB Ec;have T5:(eT (fe f n) q).p=⟨RV,k,d,s⟩:=by
       rw[y7];have:=YQ.out;have:=VN.out;show PO.mk _ _ _ _=_;simp only[PO.mk.injEq];omega
      have Ed:=su HI.out q;have aaH:IntKind.i64.wrap (4+8*(q:Int)+8)=4+8*(q:Int)+8:=by rw[IntKind.wrap_i64];omega
      by_cases uG:4+8*q+8<=n
      ·obtain⟨bb,off,rfl,TB,mm,c3⟩:=vi.out J;obtain⟨z,Q⟩: ∃z:Nat,4+8*q=z:=⟨_,rfl⟩
       have x1:4+8*(q:Int)=(z:Int):=J;rw[x1]at aaH⊢;obtain⟨cy,vv⟩: ∃cy:Nat->Int,(fun i=>fe f n (4+8*q+i))=cy:=⟨_,rfl⟩
       have zR:e0 cy:=by rw[<-vv];exact fun i=>HI.out _
       have J4:cU (eT (fe f n) q) cy=eT (fe f n) (q+1):=by rw[<-vv];rfl
       have O: ∀i,i<8->w0.cell? ⟨bb,off+z+i,none⟩=some (.int .u8 (cy i)):=fun i hi=>by
        have h1:=c3 (z+i) 0 (.int .u8 (f (z+i))) J rfl;rw[show off+((z+i)*1+0)=off+z+i from J]at h1;have l:cy i=f (z+i):=by rw[<-vv,<-Q];exact B8 J
        rw[l];exact h1
       have ZY:=I O;have Ef:=I zR;have Wg:=zR 0;have vu:=zR 1;have afq:=zR 2;have lF:=U.k9 (p:=⟨bb,off+z,none⟩) mm (O 0 am);have Tv:=U.k9 (p:=⟨bb,off+z+1,none⟩) mm (O 1 am);have Tt:=U.k9 (p:=⟨bb,off+z+2,none⟩) mm (O 2 am);have ZD:(z:Int)+8<=(n:Int):=J;have afb:(z:Int)<=(z:Int)+8:=J;have ae8:(0:Int)<=(z:Int):=J;have ae9:(z:Int)+8<=(c:Int):=J;have XL:=I (And.intro VX (And.intro Q uG));have Ee:=I J4;have XM:=I Yg;clear VX Q x1 vv zR J4 O c3 Yg uG;have afd:z+8-z=8:=J;have W8: ¬k=0:=J;have M:IntKind.i64.wrap (cy 1)=cy 1:=by rw[IntKind.wrap_i64];omega
       obtain⟨t,Vg⟩: ∃t:Nat,(cy 1 %(k:Int)).toNat=t:=⟨_,rfl⟩
       obtain⟨u,hu⟩: ∃u:Nat,(cy 1 %8).toNat=u:=⟨_,rfl⟩
       have aaR:=cA (cy 1) (by omega:(0:Int)<(k:Int));have afv:=b5 (cy 1) (by omega:(k:Int)≠0);have ade:(cy 1).tmod (k:Int)=(t:Int):=by rw[al vu.1];omega
       have afi:(cy 1).tmod 8=(u:Int):=by rw[al vu.1];omega
       have afK:cy 1 %8=(u:Int):=J;have wt:IntKind.i64.wrap (t:Int)=(t:Int):=by rw[IntKind.wrap_i64];omega
       have afj:IntKind.i64.wrap (u:Int)=(u:Int):=by rw[IntKind.wrap_i64];omega
       go_upto_region 15 with(first|(refine aq ?_)|(refine VP U jj ?_;clear U;intro o w U lb)|(refine Po U ?_;clear U;intro w U))
       replace U:=U.drew;refine wp_region_held_drew (S:=(fun w=>c0 [⟨o,32,[.int .i64 RV,.int .i64 k,.int .i64 d,.int .i64 s,.slice (some ⟨v.U1,0,none⟩) 8 v.U6,.slice (some ⟨v.L8,0,none⟩) k v.VY,v.TK]⟩] w/\∀i,i<8->w.cell? ⟨bb,off+z+i,none⟩=some (.int .u8 (cy i)))) aM ?_ (fun X=>?_)
       ·exact⟨U.bG aN,fun i hi=>U.k9 (p:=⟨bb,off+z+i,none⟩) mm (ZY.out i hi)⟩
       refine az [[0,1]] ?_;refine eE 2 rfl (bl (by rfl) 5 _ rfl bb (off+z+1) rfl _ (fun w h=>h.2 1 am) underlying5 rfl) ?_;refine az [[3,4,5]] ?_;refine eE 6 rfl (cb (by rfl) 3 _ rfl _ _ rfl (fun w h=>c0.at_ ag w h.1) _ (by rfl) underlying3 rfl) ?_;refine az [[7,8]] ?_;dsimp only[Exit.then]
       apply_assumption
       obtain⟨S,hS⟩: ∃S,eT (fe f n) q=S:=⟨_,rfl⟩
       have ZV:a7 wr.drew w0.heap.size v S:=by rw[<-hS];exact XM.out.below a2
       rw[hS]at T5 Ed;have cq:=I hS;have DI:=U;have QB:S.p.t=(k:Int):=by rw[T5]
       have V:S.p.t.toNat=k:=J;have ia:(cy 1 %S.p.t).toNat=t:=by rw[QB];exact Vg
       have Yc:t<k:=J;have u8:u<8:=J;have t0:(t:Int)<(k:Int):=J;have t1:(0:Int)<=(t:Int):=J;have abg:(u:Int)<8:=J;have aeC:(0:Int)<=(u:Int):=J;have tp:=I DI.size;have vM:=I (show 4+8*(q+1)<=n by have:=XL.out;omega);have vE:=I (show Value.int .i64 ((z:Int)+8)= .int .i64 (4+8*((q+1:Nat):Int)) by rw[show(z:Int)+8=4+8*((q+1:Nat):Int) by have:=XL.out;omega]);clear hS QB Vg ade aaR afv;have Zf:=DI.cell (g:=o) (i:=4) cX rfl;have Y2:=DI.cell (g:=o) (i:=5) cX rfl;have y8:=DI.cell (g:=o) (i:=6) cX rfl;rcases(by omega:cy 0 %8<5\/cy 0 %8=5\/5<cy 0 %8)with TS|UJ|XX
       ·have Ug:(cy 0 %8==5)=false:=by simp;omega
        have YY: ¬5<cy 0 %8:=J;obtain⟨A,N,W2⟩:=xL (ZV.pr t (by rw[V];exact Yc));obtain⟨m,hm⟩: ∃m,(S.bj t).length=m:=⟨_,rfl⟩
        have bT:=ZV.pr t (by rw[V];exact Yc);rw[hm]at W2 bT;rw[W2]at bT;have nd:=ZV.Us;rw[V]at nd;have P:=DI.jY nd (zI DI nd) (.inl ZV.ge.2) (fun a e=>by cases e);have U:=P.base;have U3:=I (gx (B':=0) bT fun _ _=>aL _);have iZ:=I (M8 P bT);have YT:=I (show((List.range k).map v.UT++v.Ze)[t]? =some (.slice A m N)from by rw[rF Yc,W2]);have Tm:=U.cell (g:=v.L8) (i:=t) ag YT.out;by_cases l:cy 2<=11
        ·by_cases YJ:m<64
         ·have fx:(m:Int)<64:=by omega
          have qT:=I (show∀(w:World) (g' cW:Nat) (rest:List Value) (B:PL),Bx wr.drew (fun b=>bq none [⟨v.L8,47,(List.range k).map v.UT++v.Ze⟩,⟨o,32,[.int .i64 RV,.int .i64 k,.int .i64 d,.int .i64 s,.slice (some ⟨v.U1,0,none⟩) 8 v.U6,.slice (some ⟨v.L8,0,none⟩) k v.VY,v.TK]⟩,⟨gr,32,[.int .i64 0,.int .i64 0,.int .i64 0,.int .i64 0,.slice none 0 0,.slice none 0 0,.slice none 0 0]⟩] b/\(Value.slice A m N).ownBlock≠some b) w none [⟨g',42,(ly (S.bj t)++(hP (fJ cy)).toList)++rest⟩,B,⟨v.L8,47,(List.range k).map (put v.UT t (.slice (some ⟨g',0,none⟩) (m+1) cW))++v.Ze⟩,⟨o,32,[.int .i64 RV,.int .i64 k,.int .i64 d,.int .i64 s,.slice (some ⟨v.U1,0,none⟩) 8 v.U6,.slice (some ⟨v.L8,0,none⟩) k v.VY,v.TK]⟩,⟨gr,32,[.int .i64 0,.int .i64 0,.int .i64 0,.int .i64 0,.slice none 0 0,.slice none 0 0,.slice none 0 0]⟩]->((Value.slice A m N).ownBlock=some g'\/wr.drew.heap.size<=g')->(m+1<=cW/\cW<=maxLen/\((ly (S.bj t)++(hP (fJ cy)).toList)++rest).length=cW*7)->
           Bx w0 (fun _=>True) w none [⟨o,32,[.int .i64 RV,.int .i64 k,.int .i64 d,.int .i64 s,.slice (some ⟨v.U1,0,none⟩) 8 v.U6,.slice (some ⟨v.L8,0,none⟩) k v.VY,v.TK]⟩,⟨gr,32,[.int .i64 0,.int .i64 0,.int .i64 0,.int .i64 0,.slice none 0 0,.slice none 0 0,.slice none 0 0]⟩]/\a7 w w0.heap.size {v with UT:=put v.UT t (.slice (some ⟨g',0,none⟩) (m+1) cW)} (eT (fe f n) (q+1))from fun w g' cW rest B h1 W Ya=>by
           refine⟨((P.j5 h1).mI fun b hb e=>by have:=(bT.lt b e).1;omega).c6.c6.c6,?_⟩;rw[<-Ee.out,cq.out,show cU S cy=_ by unfold cU;rw[Z TS,ia,Z ⟨l,by rw[hm];exact YJ⟩]];have k:=h1.Wu.M9 DI.bC h1.c6.c6.c6.bC;rw[<-W2]at k W;rw[<-hm]at Ya;have hb:=h1.b (g:=v.L8) ag;rw[<-hm]at hb⊢;rw[<-V]at hb;exact(a7.KN ZV tp.out (by rw[V];exact Yc) (c:=fJ cy) k hb (h1.b cX) W Ya).1)
          clear bT nd hm W2 ia XM;go_upto_region 18 with fail
          clear Tm;replace U:=U.drew;refine wp_region_held_drew (S:=(c0 [⟨o,32,[.int .i64 RV,.int .i64 k,.int .i64 d,.int .i64 s,.slice (some ⟨v.U1,0,none⟩) 8 v.U6,.slice (some ⟨v.L8,0,none⟩) k v.VY,v.TK]⟩])) aM ?_ (fun X=>?_)
          ·exact U.bG aN
          refine az [[0,1,2,3,4,5,6,8]] ?_;refine Zj [7,9] ?_;refine ea (fun K Z7=>?_) ?_
          ·rw[Z (by rfl)];refine bU U 47 _ rfl v.L8 t rfl ag (.slice A m N) YT.out underlying47 rfl ?_;refine WE Z7 fun X=>?_;refine aF 9 fun K Z7=>?_;go_simp
           (go_at_call 28;refine a6 U (vf _ bb (off+z) (c-z) cy Ef.out J (c9 P U mm) fun i hi=>l6 P U (p:=⟨bb,off+z+i,none⟩) mm (ZY.out i hi)) ?_;clear U;intro M U)
           go_wp2_with fail;exact pv
          refine ei (fun K Z7=>?_);go_simp
          (go_at_call 28;refine a6 U (vf _ bb (off+z) (c-z) cy Ef.out J (c9 P U mm) fun i hi=>l6 P U (p:=⟨bb,off+z+i,none⟩) mm (ZY.out i hi)) ?_;clear U;intro M U)
          go_wp2_with fail;refine WE Z7 fun X=>?_;refine Zj [7,10] ?_;refine ea (fun K Z7=>?_) ?_
          ·rw[Z (by rfl)];refine bU U 47 _ rfl v.L8 t rfl ag (.slice A m N) YT.out underlying47 rfl ?_;exact pv
          refine ei (fun K Z7=>?_);rw[Z (by rfl)];refine bK U 47 42 _ rfl _ ((hP (fJ cy)).toList) rfl rfl (.agg #[.int .u8 0,.int .u8 0,.int .u8 0,.int .u8 0,.int .i64 0,.int .i64 0,.int .i64 0]) 7 32 fi ii rfl am am ?_;clear U;intro di w U dO;refine WE Z7 fun X=>?_;refine aF 7 fun K Z7=>?_;rw[Z (by rfl)];refine bU U 47 _ rfl v.L8 t rfl ag (.slice A m N) YT.out underlying47 rfl ?_;exact pw
         ·have fx: ¬(m:Int)<64:=by omega
          have U4: ¬(cy 2<=11/\m<64):=fun h=>YJ h.2;exact px
        ·have U4: ¬(cy 2<=11/\m<64):=fun h=>l h.1;exact px
       ·have Ug:(cy 0 %8==5)=true:=by simp;omega
        have ZM: ¬cy 0 %8<5:=J;have YY: ¬5<cy 0 %8:=J;obtain⟨A,N,W2⟩:=xL (ZV.fr u u8);obtain⟨m,hm⟩: ∃m,(S.eI u).length=m:=⟨_,rfl⟩
        have bT:=ZV.fr u u8;rw[hm]at W2 bT;rw[W2]at bT;have nd:=ZV.Uw
        skip
        have P:=DI.jY nd (zI DI nd) (.inl ZV.ge.1) (fun a e=>by cases e);have U:=P.base;have U3:=I (gx (B':=0) bT fun _ _=>aL _);have iZ:=I (M8 P bT);have YT:=I (show((List.range 8).map v.U5++v.Zg)[u]? =some (.slice A m N)from by rw[rF u8,W2]);have Tm:=U.cell (g:=v.U1) (i:=u) ag YT.out;by_cases l:cy 2<=4
        ·by_cases YJ:m<8
         ·have fx:(m:Int)<8:=by omega
          have qT:=I (show∀(w:World) (g' cW:Nat) (rest:List Value) (B:PL),Bx wr.drew (fun b=>bq none [⟨v.U1,95,(List.range 8).map v.U5++v.Zg⟩,⟨o,32,[.int .i64 RV,.int .i64 k,.int .i64 d,.int .i64 s,.slice (some ⟨v.U1,0,none⟩) 8 v.U6,.slice (some ⟨v.L8,0,none⟩) k v.VY,v.TK]⟩,⟨gr,32,[.int .i64 0,.int .i64 0,.int .i64 0,.int .i64 0,.slice none 0 0,.slice none 0 0,.slice none 0 0]⟩] b/\(Value.slice A m N).ownBlock≠some b) w none [⟨g',100,(lx (S.eI u)++ [Value.int .u8 (dV cy).op,.int .i64 (dV cy).a,.int .i64 (dV cy).b])++rest⟩,B,⟨v.U1,95,(List.range 8).map (put v.U5 u (.slice (some ⟨g',0,none⟩) (m+1) cW))++v.Zg⟩,⟨o,32,[.int .i64 RV,.int .i64 k,.int .i64 d,.int .i64 s,.slice (some ⟨v.U1,0,none⟩) 8 v.U6,.slice (some ⟨v.L8,0,none⟩) k v.VY,v.TK]⟩,⟨gr,32,[.int .i64 0,.int .i64 0,.int .i64 0,.int .i64 0,.slice none 0 0,.slice none 0 0,.slice none 0 0]⟩]->((Value.slice A m N).ownBlock=some g'\/wr.drew.heap.size<=g')->(m+1<=cW/\cW<=maxLen/\((lx (S.eI u)++ [Value.int .u8 (dV cy).op,.int .i64 (dV cy).a,.int .i64 (dV cy).b])++rest).length=cW*3)->
           Bx w0 (fun _=>True) w none [⟨o,32,[.int .i64 RV,.int .i64 k,.int .i64 d,.int .i64 s,.slice (some ⟨v.U1,0,none⟩) 8 v.U6,.slice (some ⟨v.L8,0,none⟩) k v.VY,v.TK]⟩,⟨gr,32,[.int .i64 0,.int .i64 0,.int .i64 0,.int .i64 0,.slice none 0 0,.slice none 0 0,.slice none 0 0]⟩]/\a7 w w0.heap.size {v with U5:=put v.U5 u (.slice (some ⟨g',0,none⟩) (m+1) cW)} (eT (fe f n) (q+1))from fun w g' cW rest B h1 W Ya=>by
           refine⟨((P.j5 h1).mI fun b hb e=>by have:=(bT.lt b e).1;omega).c6.c6.c6,?_⟩;rw[<-Ee.out,cq.out,show cU S cy=_ by unfold cU;rw[aB,Z UJ,hu,Z ⟨l,by rw[hm];exact YJ⟩]];have k:=h1.Wu.M9 DI.bC h1.c6.c6.c6.bC;rw[<-W2]at k W;rw[<-hm]at Ya;have hb:=h1.b (g:=v.U1) ag;rw[<-hm]at hb⊢
           skip
           exact(a7.KO ZV tp.out u8 (c:=dV cy) k hb (h1.b cX) W Ya).1)
          clear bT nd hm W2 ia XM;go_upto_region 20 with fail
          clear Tm;replace U:=U.drew;refine wp_region_held_drew (S:=(c0 [⟨o,32,[.int .i64 RV,.int .i64 k,.int .i64 d,.int .i64 s,.slice (some ⟨v.U1,0,none⟩) 8 v.U6,.slice (some ⟨v.L8,0,none⟩) k v.VY,v.TK]⟩])) aM ?_ (fun X=>?_)
          ·exact U.bG aN
          refine az [[0,1,2,3,4,5,6,8]] ?_;refine Zj [7,9] ?_;refine ea (fun K Z7=>?_) ?_
          ·rw[Z (by rfl)];refine bU U 95 _ rfl v.U1 u rfl ag (.slice A m N) YT.out underlying95 rfl ?_;refine WE Z7 fun X=>?_;refine aF 9 fun K Z7=>?_;go_simp
           (go_at_call 29;refine a6 U (zH _ bb (off+z) (c-z) cy Ef.out J (c9 P U mm) (fun i hi=>l6 P U (p:=⟨bb,off+z+i,none⟩) mm (ZY.out i hi)) l) ?_;clear U;intro M U)
           go_wp2_with fail;exact pz
          refine ei (fun K Z7=>?_);go_simp
          (go_at_call 29;refine a6 U (zH _ bb (off+z) (c-z) cy Ef.out J (c9 P U mm) (fun i hi=>l6 P U (p:=⟨bb,off+z+i,none⟩) mm (ZY.out i hi)) l) ?_;clear U;intro M U)
          go_wp2_with fail;refine WE Z7 fun X=>?_;refine Zj [7,10] ?_;refine ea (fun K Z7=>?_) ?_
          ·rw[Z (by rfl)];refine bU U 95 _ rfl v.U1 u rfl ag (.slice A m N) YT.out underlying95 rfl ?_;exact pz
          refine ei (fun K Z7=>?_);rw[Z (by rfl)];refine bK U 95 100 _ rfl _ ([Value.int .u8 (dV cy).op,.int .i64 (dV cy).a,.int .i64 (dV cy).b]) rfl rfl (.agg #[.int .u8 0,.int .i64 0,.int .i64 0]) 3 24 fP jp rfl am am ?_;clear U;intro di w U dO;refine WE Z7 fun X=>?_;refine aF 7 fun K Z7=>?_;rw[Z (by rfl)];refine bU U 95 _ rfl v.U1 u rfl ag (.slice A m N) YT.out underlying95 rfl ?_;exact py
         ·have fx: ¬(m:Int)<8:=by omega
          have U4: ¬(cy 2<=4/\m<8):=fun h=>YJ h.2;exact pA
        ·have U4: ¬(cy 2<=4/\m<8):=fun h=>l h.1;exact pA
       ·have Ug:(cy 0 %8==5)=false:=by simp;omega
        have ZM: ¬cy 0 %8<5:=J;obtain⟨A,N,W2⟩:=xL ZV.pi;obtain⟨m,hm⟩: ∃m,S.cp.length=m:=⟨_,rfl⟩
        have bT:=ZV.pi;rw[hm]at W2 bT;rw[W2]at bT;have U:=DI.base;have TS: ¬cy 0 %8<5:=J;have UJ: ¬cy 0 %8=5:=J;have U3:=I (gx (B':=0) bT fun _ _=>aL _);have iZ:=I (M8 DI bT);have Qz:=I (show∀b,b<w0.heap.size->(Value.slice A m N).ownBlock≠some b from fun b hb e=>by have:=(bT.lt b e).1;omega);have aeB:=Ef.out 4;have aeD:=Ef.out 5;have iH:IntKind.i64.wrap (cy 4)=cy 4:=by rw[IntKind.wrap_i64];omega
        have Wo:IntKind.i64.wrap (cy 5)=cy 5:=by rw[IntKind.wrap_i64];omega
        have VD:IntKind.i64.wrap (256*cy 5)=256*cy 5:=by rw[IntKind.wrap_i64];omega
        have YP:IntKind.i64.wrap (cy 4+256*cy 5)=numOf cy:=by rw[IntKind.wrap_i64];show _=cy 4+256*cy 5;omega
        by_cases YJ:m<4096
        ·have fx:(m:Int)<4096:=by omega
         have qT:=I (show∀(M w:World) (g' cW:Nat) (rest:List Value) (B:PL),Bx wr.drew (fun b=>bq none [⟨o,32,[.int .i64 RV,.int .i64 k,.int .i64 d,.int .i64 s,.slice (some ⟨v.U1,0,none⟩) 8 v.U6,.slice (some ⟨v.L8,0,none⟩) k v.VY,v.TK]⟩,⟨gr,32,[.int .i64 0,.int .i64 0,.int .i64 0,.int .i64 0,.slice none 0 0,.slice none 0 0,.slice none 0 0]⟩] b/\(Value.slice A m N).ownBlock≠some b) M none [⟨g',3,(h8 S.cp++ [Value.int .i64 (numOf cy)])++rest⟩,B,⟨o,32,[.int .i64 RV,.int .i64 k,.int .i64 d,.int .i64 s,.slice (some ⟨v.U1,0,none⟩) 8 v.U6,.slice (some ⟨v.L8,0,none⟩) k v.VY,v.TK]⟩,⟨gr,32,[.int .i64 0,.int .i64 0,.int .i64 0,.int .i64 0,.slice none 0 0,.slice none 0 0,.slice none 0 0]⟩]->
          Bx M (bq none [⟨g',3,(h8 S.cp++ [Value.int .i64 (numOf cy)])++rest⟩,B,⟨o,32,[.int .i64 RV,.int .i64 k,.int .i64 d,.int .i64 s,.slice (some ⟨v.U1,0,none⟩) 8 v.U6,.slice (some ⟨v.L8,0,none⟩) k v.VY,v.TK]⟩,⟨gr,32,[.int .i64 0,.int .i64 0,.int .i64 0,.int .i64 0,.slice none 0 0,.slice none 0 0,.slice none 0 0]⟩]) w none [⟨g',3,(h8 S.cp++ [Value.int .i64 (numOf cy)])++rest⟩,B,⟨o,32,[.int .i64 RV,.int .i64 k,.int .i64 d,.int .i64 s,.slice (some ⟨v.U1,0,none⟩) 8 v.U6,.slice (some ⟨v.L8,0,none⟩) k v.VY,(.slice (some ⟨g',0,none⟩) (m+1) cW)]⟩,⟨gr,32,[.int .i64 0,.int .i64 0,.int .i64 0,.int .i64 0,.slice none 0 0,.slice none 0 0,.slice none 0 0]⟩]->((Value.slice A m N).ownBlock=some g'\/wr.drew.heap.size<=g')->(m+1<=cW/\cW<=maxLen/\((h8 S.cp++ [Value.int .i64 (numOf cy)])++rest).length=cW*1)->
          Bx w0 (fun _=>True) w none [⟨o,32,[.int .i64 RV,.int .i64 k,.int .i64 d,.int .i64 s,.slice (some ⟨v.U1,0,none⟩) 8 v.U6,.slice (some ⟨v.L8,0,none⟩) k v.VY,(.slice (some ⟨g',0,none⟩) (m+1) cW)]⟩,⟨gr,32,[.int .i64 0,.int .i64 0,.int .i64 0,.int .i64 0,.slice none 0 0,.slice none 0 0,.slice none 0 0]⟩]/\a7 w w0.heap.size {v with TK:=.slice (some ⟨g',0,none⟩) (m+1) cW} (eT (fe f n) (q+1))from fun M w g' cW rest B h1 Un l Ya=>by
          refine⟨((DI.j5 (h1.back Un)).mI fun b hb e=>by have:=(bT.lt b e).1;omega).c6.c6,?_⟩;rw[<-Ee.out,cq.out,show cU S cy= {S with cp:=S.cp++ [numOf cy]} by unfold cU;rw[Y TS,Y UJ,Z (by rw[hm];exact YJ)]];have Wu:=(h1.Wu.M9 (fun y hy=>DI.bC y (ao _ hy)) h1.c6.c6.c6.bC).sZ (DI.b cX) (h1.b r3);rw[<-W2]at Wu l;rw[<-hm]at Ya⊢;have Yy:=(a7.KP ZV tp.out (c:=numOf cy) (Wu.mono fun b _ h=>h.2) (h1.b cX) l Ya).1;exact Yy.move (L:= [⟨o,32,[.int .i64 RV,.int .i64 k,.int .i64 d,.int .i64 s,.slice (some ⟨v.U1,0,none⟩) 8 v.U6,.slice (some ⟨v.L8,0,none⟩) k v.VY,v.TK]⟩]) ((P3 Un N5 h1.bC).mono fun b _ h e=>h.1 _ (List.mem_singleton.2 rfl) e.symm) (fun x O=>h1.bC x (by simp only[ad,E,av]at O⊢;rw[O];simp)) aN)
         have abW:=I W2;have qX:=DI;rw[W2]at qT iZ U y8 qX;clear bT hm ia XM TS UJ;go_upto_region 22 with fail
         replace U:=U.drew;refine wp_region_held_drew (S:=(fun w=> ∀i,i<8->w.cell? ⟨bb,off+z+i,none⟩=some (.int .u8 (cy i)))) aM ?_ (fun X=>?_)
         ·exact fun i hi=>l6 qX U (p:=⟨bb,off+z+i,none⟩) mm (ZY.out i hi)
         refine az [[0,2,3]] ?_;refine eE 4 rfl (bl (by rfl) 5 _ rfl bb (off+z+4) rfl _ (fun w h=>h 4 am) underlying5 rfl) ?_;refine az [[5,6,7]] ?_;refine eE 8 rfl (bl (by rfl) 5 _ rfl bb (off+z+5) rfl _ (fun w h=>h 5 am) underlying5 rfl) ?_;refine az [[9,10,11]] ?_;refine Zj [1,12] ?_;refine ea (fun K Z7=>?_) ?_
         ·refine YL U ?_;refine PK Z7 (fun X=>?_) (by exact fun i hi=>l6 qX U (p:=⟨bb,off+z+i,none⟩) mm (ZY.out i hi));refine aF 12 fun K Z7=>?_;rw[Z (by rfl)];refine bK U 30 3 _ rfl _ [Value.int .i64 (numOf cy)] rfl rfl (.int .i64 0) 1 8 bg b6 rfl am am ?_;clear U;intro di w U dO;exact pB
         refine ei (fun K Z7=>?_);rw[Z (by rfl)];refine bK U 30 3 _ rfl _ [Value.int .i64 (numOf cy)] rfl rfl (.int .i64 0) 1 8 bg b6 rfl am am ?_;clear U;intro di w U dO;refine PK Z7 (fun X=>?_) (by exact fun i hi=>l6 qX U (p:=⟨bb,off+z+i,none⟩) mm (ZY.out i hi));refine aF 1 fun K Z7=>?_;refine YL U ?_;exact pB
        ·have fx: ¬(m:Int)<4096:=by omega
         have xv:=I (show a7 wr.drew w0.heap.size v (eT (fe f n) (q+1)) by rw[<-Ee.out,cq.out,show cU S cy=S by unfold cU;rw[Y TS,Y UJ,Y (by rw[hm];exact YJ)]];exact ZV);replace U:=DI;rw[W2]at y8;clear bT hm ia XM TS UJ W2;go_wp2_with fail;go_roundw
         case rel=>exact⟨q+1,v,vE.out,.inr vM.out,U,xv.out⟩
         case measure=>have Vy:=XL.out;simp[intOf];omega
      ·have ZD: ¬4+8*(q:Int)+8<=(n:Int):=by omega
       have XD:q=(n-4)/8:=J;have xa:=I (show j9 f n=eT (fe f n) q by unfold j9;rw[XD]);have zy:=I T5;replace VX:=I VX;have XM:=I Yg;have DI:=U;have U:=DI.base;clear Yg XD T5 Ed;have Wv: ∀(k:IntKind) (n:Int),(Value.int k n).oneCell'=true:=fun _ _=>rfl;have os: ∀A n c,(Value.slice A n c).oneCell'=true:=fun _ _ _=>rfl;have sw:=XM.out.sw;go_wp2_with(first|(refine aq ?_)|(refine VP U jj ?_;clear U;intro o w U lb)|(refine Po U ?_;clear U;intro w U));refine cw results10 rfl rfl ⟨_,U.b ag,rfl⟩ underlying32 rfl aM ?_;exact pp
end
end Go.Proofs.YtcimojgkeoecfaaGreat
