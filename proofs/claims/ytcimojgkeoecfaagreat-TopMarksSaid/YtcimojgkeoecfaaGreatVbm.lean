import Derived.Test.YtcimojgkeoecfaaGreatVbl
import Derived.Test.YtcimojgkeoecfaaGreatVay
set_option linter.all false
set_option maxHeartbeats 16000000
set_option maxRecDepth 100000
namespace Go.Proofs.YtcimojgkeoecfaaGreat
open Go.RowKit Tryz
section
section
variable{G:Prop}
include G
theorem qq(h:G:=by
 unfold bY at rR;rw[ae]at rR;cases VX:F[t.toNat]? with
 |none=>rw[VX]at rR;simp at rR;omega
 |some l=>exact⟨l,rfl⟩):G:=h
theorem lP(h:G:=by
 refine WE Z7 fun X=>?_;refine az [[17,18,19,20,21,22],[23],[24,25,26],[27],[28,29,30],[31]] ?_;clear U;intro w U;by_cases PP:(Vj:Int)<=(Vw:Int)+1+Zt
 ·obtain rfl:=MU.out.1 (by omega);have SL:decide ((Vj:Int)<=(Vw:Int)+1+Zt)=true:=by simpa using PP
  go_wp2_with(first|(refine aq ?_)|(refine VP U gW ?_;clear U;intro g3 w U gJ)|(refine Po U ?_;clear U;intro w U));refine fY ?_;have c4:=DI.back U;have UR:(Vw:Int)+1+Zt=r.op+1+Zt:=by rw[GZ.out]
  have Yq:=c4.b (g:=Yc) ag;rw[UR,<-ak]at Yq;exact⟨.slice Wq (r.said++iI).length Wz,(U.carry hv fun b _ h=>h.2).mono (fun b _ h=>⟨h.1,fun e=>h.2.1 _ (In.mem ag) e.symm,h.2.2 _ rfl⟩),rfl,Yq,c4.bB,c4.Wu⟩
 ·obtain rfl:=MU.out.2 (by omega);have SL:decide ((Vj:Int)<=(Vw:Int)+1+Zt)=false:=by simpa using PP
  go_wp2_with(first|(refine aq ?_)|(refine VP U gW ?_;clear U;intro g3 w U gJ)|(refine Po U ?_;clear U;intro w U));refine fY ?_;have c4:=DI.back U;have UR:(Vw:Int)+1+Zt=r.op+1+Zt:=by rw[GZ.out]
  have Yq:=c4.b (g:=Yc) ag;rw[UR,<-ak]at Yq;exact⟨.slice Wq (r.said++iI).length Wz,(U.carry hv fun b _ h=>h.2).mono (fun b _ h=>⟨h.1,fun e=>h.2.1 _ (In.mem ag) e.symm,h.2.2 _ rfl⟩),rfl,Yq,c4.bB,c4.Wu⟩):G:=h
theorem pb(h:G:=by
 have SM:(j:Int)<(U0:Int):=by omega
 have Vr:=wL (fun i=>a+16+8*(i:Int)) j;have yt:=wL (fun i=>V (k+2+i)) j;have acE:=I Vr;have acI:=I yt;clear Vr yt;go_wp2_with(first|(go_at_call 336;refine a6 U (uW _ _ _ n V _ _ k _ _ _ _ _ _ U.bB Vd.out (by omega) O.out ⟨PQ,SM⟩) ?_;clear U;intro EH U)|(refine abU U rfl 3 _ _ rfl XN j .i64 _ rfl rfl cf JF (by kernel_rfl) ?_;clear U;intro w U;rw[acE.out]at U;refine cN ?_)|first|(refine aq ?_)|(refine VP U gW ?_;clear U;intro g3 w U gJ)|(refine Po U ?_;clear U;intro w U));replace U:=U.drew;refine wp_region_held_drew (S:=(c0 [⟨XN,3,bN .i64 U0 fun i=>if i<j+1 then a+16+8*i else 0⟩,⟨g3,91,[.int .i64 z,.int .i64 U0,.int .i64 t,.bool d,.int .i64 s',.int .i64 e']⟩,⟨Yc,386,bp p Y8 ap r ⟨TQ,.slice (some ⟨b,off,none⟩) (m+1) Tt,.slice Tu r.said.length Tm,Y1⟩⟩])) (by kernel_rfl) ?_ (fun X=>?_)
 ·exact U.bG (by simp)
 refine az [[0,1,2,3,4,5,6,7,8]] ?_;refine eE 9 rfl (bl (by rfl) 3 _ rfl _ _ rfl _ (fun w h=>(by have:=(h _ (In.mem cX)).cell j;rw[aE,gX JF,Z (Nat.lt_succ_self j)]at this;exact this)) underlying3 rfl) ?_;refine aF 10 fun K Z7=>?_;go_simp;go_at_call 176;refine Calls.mono (eL _ _ _ n V _ (k+2+j) U.bB (by rw[Vd.out];omega) (by omega)) ?_;rintro e EH ⟨rfl,rfl⟩;go_wp2_with fail;refine WE Z7 fun X=>?_;refine az [[11,12,13,14]] ?_;refine aF 15 fun K Z7=>?_;rw[Z (by rfl)];refine mA U 59 _ _ rfl Vz j .u64 _ rfl rfl cf JF (by kernel_rfl) ?_;clear U;intro w U;rw[acI.out]at U;refine WE Z7 fun X=>?_;refine UF ?_;go_wp2_with(first|(refine aq ?_)|(refine VP U gW ?_;clear U;intro g3 w U gJ)|(refine Po U ?_;clear U;intro w U));go_roundw
 case rel=>exact⟨j+1,by omega,by go_num,U⟩
 case measure=>simp[intOf];omega):G:=h
theorem i6(h:G:=by
 refine WE Z7 fun X=>?_;refine aF 10 fun K Z7=>?_;rw[Z (by rfl)];refine mB U 441 30 _ _ rfl (.slice Tu r.said.length Tm) (.slice UM iI.length ZF) rfl rfl rfl rfl (.slice none 0 0) 24 (by kernel_rfl) (by kernel_rfl) ?_;clear U;intro s6 w U G0;exact k8):G:=h
theorem pc(h:G:=by
 have aeT:(u:Int)<(j:Int):=by omega
 obtain⟨B',b',y0,PR,PS,PT⟩:=id AX;injection y0 with y0 _ xg
 subst y0;subst xg;obtain⟨Ty,VJ,SN,KW,KX,KY⟩:=PT (by omega);subst SN;have wq:WA.cell? ⟨Ty,VJ+u,none⟩=some (.int .u64 (i7.getD u 0)):=by simpa using KY u 0 _ MV rfl
 have ry:=I wq;have SO:=I (G1 V k i7 u);have Gj:=KZ.out u;clear wq KY PT PR PS;go_wp2_with(first|(refine abf U rfl 3 _ rfl XN u rfl ag MV underlying3 rfl ?_;refine cN ?_)|first|(refine aq ?_)|(refine VP U gW ?_;clear U;intro g3 w U gJ)|(refine Po U ?_;clear U;intro w U));replace U:=U.drew;refine wp_region_held_drew (S:=(fun w=>c0 [⟨Yc,386,bp p Y8 ap r ⟨TQ,.slice (some ⟨b,off,none⟩) (m+1) Tt,.slice Tu r.said.length Tm,Y1⟩⟩] w/\w.cell? ⟨Ty,VJ+u,none⟩=some (.int .u64 (i7.getD u 0)))) (by kernel_rfl) ?_ (fun X=>?_)
 ·exact⟨U.bG (by simp),(U.Wu.cell (p:=⟨Ty,VJ+u,none⟩) KX KW.2).trans ry.out⟩
 refine az [[0,1,2]] ?_;refine eE 3 rfl (cb (by rfl) 138 _ rfl _ _ rfl (fun w h=>c0.at_ ag w h.1) _ (by rfl) underlying138 rfl) ?_;refine az [[4,5,6,7]] ?_;refine eE 8 rfl (bl (by rfl) 59 _ rfl _ _ rfl _ (fun w h=>h.2) underlying59 rfl) ?_;refine aF 9 fun K Z7=>?_;go_simp;go_at_call 279;refine Calls.mono (iJ _ _ _ n (Vh V k i7 u) _ (i7.getD u 0) (k+2+u) U.bB (by rw[Vd.out];omega) (by omega) Gj) ?_;rintro e EH ⟨rfl,aH,N⟩;replace U:=U.arena aH N;clear aH N;rw[SO.out]at U;go_wp2_with fail;refine PK Z7 (fun X=>?_) (by exact⟨U.bG (by simp),(U.Wu.cell (p:=⟨Ty,VJ+u,none⟩) KX KW.2).trans ry.out⟩);refine UF ?_;go_wp2_with(first|(refine aq ?_)|(refine VP U gW ?_;clear U;intro g3 w U gJ)|(refine Po U ?_;clear U;intro w U));go_roundw
 case rel=>first|exact⟨u+1,by omega,by go_num,U⟩|((repeat apply Exists.intro);exact⟨⟨u+1,by omega,by go_num,U⟩,rfl⟩)
 case measure=>simp[intOf];omega):G:=h
theorem k8(h:G:=by
 refine WE Z7 fun X=>?_;refine aF 11 fun K Z7=>?_;go_simp;go_at_call 354;have o1:=xG _ _ _ U;refine Calls.mono (sJ _ (fun b=>b≠s6) s6 Tu UM Tm ZF r.said iI (U.b ag) ((o1.old Bi.out hS).mono fun b _ h e=>h.2.1 _ (In.mem cX) e.symm) ((U.old Dk fun b _ h=>h.2).mono fun b _ h e=>h.2.1 _ (In.mem cX) e.symm) (fun h=>h rfl) gq (by omega)) ?_;rintro e EH ⟨Wq,Wz,rfl,bD,N⟩;have hv:=o1.eh bD;have DI:=o1.below N;clear U o1 bD N;have U:=DI.base;go_wp2_with fail;exact lP):G:=h
end
theorem wL(f:Nat->Int)(j:Nat):upd (fun i=>if i<j then f i else 0) j (f j)=fun i=>if i<j+1 then f i else 0:=by
 funext i;unfold upd;by_cases b:i=j
 ·subst b;rw[Z rfl,Z (Nat.lt_succ_self _)]
 ·rw[Y b];by_cases a:i<j
  ·show(if i<j then f i else 0)=_;rw[Z a,m3]
  ·show(if i<j then f i else 0)=_;rw[Y a,aB]
theorem G2(w:World)(S:Nat->Prop)(v:Value)(F:b1)(Vs:Nat->Value)(t:Int)(l:List jc)(A':Option Addr)(m' c':Nat)(h:eF w S v F Vs)(hF:F.length<=8)(q:0<=t/\t<=7)(d:F[t.toNat]? =some l)(a:Vs t.toNat= .slice A' m' c'):
 Calls prog 289 #[v,.int .i64 t] w fun e w'=>e= .returned (.slice A' m' c')/\w=w':=by
 obtain⟨A,c,rfl,h1,f,i⟩:=id h.row;clear h h1 f;obtain⟨k,rfl⟩: ∃k:Nat,t=k:=⟨t.toNat,J⟩
 rw[bL]at d a;have j:k<F.length:=(List.getElem?_eq_some_iff.1 d).1;obtain⟨b,off,rfl,r,hb,g⟩:=i J;have o:w.cell? ⟨b,off+k,none⟩=some (Vs k):=by simpa using g k 0 (Vs k) j rfl
 clear i g d;rw[a]at o;clear a;generalize n:F.length=m at*;clear n;go_enter func289,ntmps289;go_wp2_with(first|(go_at_call 104;refine Calls.mono (bm _ _ _ _ J J) ?_;rintro e p ⟨rfl,rfl⟩));go_ret;exact⟨rfl,rfl⟩
theorem s7(w0:World)(S:Nat->Prop)(n:Option Addr)(on c h a l sc k:Nat)(x:Int)(w:x=k)(ops:List jc)(sl:List Int)(A:sl.length=l)(t:ops.length=on)(z:KC w0 S (.slice n on c) on 3 (jQ ops))(p:k<on)(v:on<=8)(ok: ∀o,o∈ops->okF o)
 (C:h<w0.heap.size)(B: ∀j,j<l->w0.cell? ⟨h,a+j,none⟩=some (.int .u64 (sl.getD j 0)))(y:l<=6)(r:Int)(s:List Int)(m:List Int)(hd:Bool)(u:dd (ops.getD k ⟨0,0,0⟩) sl=(r,s,m,hd)):
 Calls prog 339 #[.slice n on c,.int .i64 x,.slice (some ⟨h,a,none⟩) l sc] w0 fun e w'=> ∃q f g d,e= .returned (.tuple #[.int .i64 (k+1+r),.slice q l f,.slice g m.length d,.bool hd])/\KC w' (fun b=>w0.heap.size<=b) (.slice q l f) l 1 (fun i=> [.int .u64 (s.getD i 0)])/\cF w' (fun b=>w0.heap.size<=b) (.slice g m.length d) m/\Below w0.heap.size w0 w':=by
 subst w A t;have:=adG w0 S n c h a sc k ops sl z p v ok C B y;rw[u]at this;exact this
theorem wM{o:jc}(j:okF o){sl:List Int}(h: ∀x,x∈sl->aR x):0<=(dd o sl).1/\(dd o sl).1<=8/\(dd o sl).2.1.length=sl.length/\(∀x,x∈(dd o sl).2.1->aR x)/\(dd o sl).2.2.1.length<=1:=by
 have d:aR 0:=am;have a: ∀i,aR (sl.getD i 0):=fun i=>by
  rw[ae];cases f:sl[i]? with
  |none=>exact d
  |some x=>exact h x (bf f)
 have c: ∀i v,aR v->∀x,x∈sl.set i v->aR x:=fun i v hv x g=>by
  rcases List.mem_or_eq_of_mem_set g with e|e
  ·exact h x e
  ·exact e▸hv
 have:=j.b;unfold dd;split
 ·exact⟨aN,aN,rfl,h,aN⟩
 split
 ·refine⟨aN,aN,?_,?_,aN⟩
  ·dsimp only;split<;>simp
  ·dsimp only;split
   ·exact c _ _ d
   ·exact h
 split
 ·refine⟨aN,aN,?_,?_,aN⟩
  ·dsimp only;split<;>simp
  ·dsimp only;split
   ·exact c _ _ (a _)
   ·exact h
 split
 ·refine⟨?_,?_,rfl,h,aN⟩<;>(dsimp only;split<;>omega)
 ·exact⟨aN,aN,rfl,h,aN⟩
def Vh(V:Nat->Int)(k:Nat)(sl:List Int)(u:Nat):Nat->Int:=fun i=>if k+2<=i/\i<k+2+u then sl.getD (i-(k+2)) 0 else V i
section
variable(V:Nat->Int)(k:Nat)(sl:List Int)
include V k sl
theorem zE:Vh V k sl 0=V:=by
 funext i;unfold Vh;rw[aB]
theorem G1(u:Nat):upd (Vh V k sl u) (k+2+u) (sl.getD u 0)=Vh V k sl (u+1):=by
 funext i;unfold upd Vh;by_cases c:i=k+2+u
 ·subst c;rw[Z rfl,m3,Nat.add_sub_cancel_left]
 ·rw[Y c];by_cases d:k+2<=i/\i<k+2+u
  ·rw[Z d,m3]
  ·rw[Y d,aB]
theorem BY(u:Nat)(h:sl.length=u):Vh V k sl u=fW V k sl:=by
 funext i;unfold Vh fW;rw[h]
end
theorem rS(V:Nat->Int)(k l:Nat){j:Nat}(h:j<l):(eM V k l).getD j 0=V (k+2+j):=by
 unfold eM;rw[ae,a3,a1 h];rfl
theorem kk(V:Nat->Int)(k l:Nat):(eM V k l).length=l:=by simp[eM]
end
theorem JH(w0:World)(p:PO)(Y8:Value)(ap c n Yc:Nat)(V:Nat->Int)(r:RJ)(x:Yr)(S Sf:Nat->Prop)(F:b1)(Vs:Nat->Value)(hF:eF w0 Sf Y8 F Vs)(m7:tN F)(v1: ∀b,b<w0.heap.size->Sf b->b≠Yc/\b≠c)(pre:List Int)(a:Int)(q:cF w0 S x.ls (pre++ [a]))(YJ:pre.length<=65536)(L:cF w0 S x.Wh r.said)(gq:r.said.length<=65536)(hS: ∀b,b<w0.heap.size->S b->b≠Yc/\b≠c)(hb:ah w0 Yc 386 (bp p Y8 ap r x).toArray)(R:ar w0 ap c n V)(h1:Yc≠ap)(Tw:Yc≠c)(k U0:Nat)(XD:a=8*k)(TS:k+2+U0<=n)(z t s' e':Int)(d:Bool)(o:isObj (V k) (V (k+1)) z U0 t d s' e')(Q: ∀i,aR (V i))(hop:0<=r.op)(rR:r.op<(bY F t.toNat).length)(Zt:Int)(i7 iI:List Int)(hd:Bool)(M:dd ((bY F t.toNat).getD r.op.toNat ⟨0,0,0⟩) (eM V k U0)=(Zt,i7,iI,hd))(u4:r.held=false)(W:Int)(A:(((bY F t.toNat).length:Int)<=r.op+1+Zt->W=21)/\(¬(((bY F t.toNat).length:Int)<=r.op+1+Zt)->W=r.Xj)):
 Calls prog 328 #[.pointer (some ⟨Yc,0,none⟩)] w0 fun e w'=> ∃v,cF w' (fun b=>w0.heap.size<=b/\b≠Yc/\b≠c) v (r.said++iI)/\e= .returned (.tuple #[])/\ah w' Yc 386 (bp p Y8 ap {r with op:=r.op+1+Zt,said:=r.said++iI,held:=hd,Xj:=W} ⟨x.TQ,x.ls,v,x.Y1⟩).toArray/\ar w' ap c n (fW V k i7)/\Z1 (fun b=>b≠Yc/\b≠c) w0 w':=by
 have hm:=R.cE;have uz:U0<=6:=by have:=o.ok.1;omega
 have ia:0<=t/\t<=7:=o.ok.2.2.1;obtain⟨TQ,ls,Wh,Y1⟩:=x;simp only at q L;obtain⟨s,Tt,G,jN,uR,kA⟩:=id q;obtain⟨Tu,Tm,UZ,-,-,-⟩:=id L;rw[ak,dh]at G jN kA;obtain⟨b,off,rfl,zA,fC,XP⟩:=kA J;subst G UZ;have c3:w0.cell? ⟨b,off+pre.length,none⟩=some (.int .i64 a):=by
  exact k7
 obtain⟨m,gv⟩: ∃m,Hid (pre.length=m):=⟨_,I rfl⟩
 rw[gv.out]at c3 jN YJ hb⊢;unfold maxLen at uR;have KV:(m:Int)<=(Tt:Int):=J;have iF:(0:Int)<=(m:Int):=J;have iu:(m:Int)<(m:Int)+1:=J;have ur:IntKind.i64.wrap ((m:Int)+1-1)=(m:Int):=by rw[IntKind.wrap_i64];omega
 have SP:IntKind.i64.wrap (m:Int)=(m:Int):=by rw[IntKind.wrap_i64];omega
 clear XP kA q;have lO:=hS;have O:=I o;have Vd:=I XD;have WX:=I hF;have XM:=I Q;have Bi:=I L;have ti:(0:Int)<=(U0:Int):=J;obtain⟨ops,y⟩: ∃ops,F[t.toNat]? =some ops:=by
  exact qq
 have f:bY F t.toNat=ops:=by unfold bY;rw[ae,y];rfl
 rw[f]at rR M A;clear f;obtain⟨A9,T,f,MW,MX,MY⟩:=id (hF.each _ _ y);have P:=m7.2 ops (bf y);obtain⟨Vj,C⟩: ∃Vj,Hid (ops.length=Vj):=⟨_,I rfl⟩
 have MZ:=I (show KC w0 Sf (.slice A9 Vj T) Vj 3 (jQ ops) by rw[<-C.out];exact f▸hF.each _ _ y);rw[C.out]at f rR A;have JB:Vj<=8:=by rw[<-C.out];exact P.1
 have p3:=I P.2;have XL:=I y;have xW:=I f;obtain⟨Vw,B⟩: ∃Vw:Nat,r.op=Vw:=⟨r.op.toNat,J⟩
 have GZ:=I B;have G3:Vw<Vj:=J;rw[B,bL]at M;have Bk:=I M;have kg:=wM (o:=ops.getD Vw ⟨0,0,0⟩) (sl:=eM V k U0) (by
  rw[ae,an (by rw[C.out];exact G3)];exact P.2 _ (bA _)) (fun x Wy=>by
  unfold eM at Wy;obtain⟨i,_,rfl⟩:=List.mem_map.1 Wy;exact Q _)
 rw[Bk.out,kk]at kg;obtain⟨G4,G5,u5,u6,G6⟩:=kg;simp only at G4 G5 u5 u6 G6;have G7:=I u5;have KZ:=I (show∀u,aR (i7.getD u 0)from fun u=>by
  rw[ae];cases VX:i7[u]? with
  |none=>decide
  |some x=>exact u6 x (bf VX))
 have G8:r.op=Vw:=B;have H:=I u4;rw[B]at A;have MU:=I A;clear A;clear u5 u6 G8 u4 M;clear B y f MW MX MY P;clear o XD hF L Q;have U:=Bx.dp hb R h1 Tw;clear R hb;go_enter func328,ntmps328;go_wp2_with(first|(refine aq ?_)|(refine VP U gW ?_;clear U;intro g3 w U gJ)|(refine Po U ?_;clear U;intro w U));replace U:=U.drew;refine wp_region_held_drew (S:=(fun w=>c0 [⟨Yc,386,bp p Y8 ap r ⟨TQ,.slice (some ⟨b,off,none⟩) (m+1) Tt,.slice Tu r.said.length Tm,Y1⟩⟩] w/\w.cell? ⟨b,off+m,none⟩=some (.int .i64 a))) aM ?_ (fun X=>?_)
 ·exact⟨U.has,U.Wu.cell (p:=⟨b,off+m,none⟩) fC (lO _ fC zA)|>.trans c3⟩
 refine az [[0,1,2,3]] ?_;refine eE 4 rfl (cb (by rfl) 30 _ rfl _ _ rfl (fun w h=>c0.at_ ag w h.1) _ (by rfl) underlying30 rfl) ?_;refine az [[5,6,7,8]] ?_;refine eE 9 rfl (cb (by rfl) 30 _ rfl _ _ rfl (fun w h=>c0.at_ ag w h.1) _ (by rfl) underlying30 rfl) ?_;refine az [[10,11,12]] ?_;refine eE 13 rfl (bl (by rfl) 3 _ rfl _ _ rfl _ (fun w h=>h.2) underlying3 rfl) ?_;refine Xh 14 ?_;refine UF ?_;go_wp2_with(first|(go_at_call 353;refine a6 U (oS _ _ _ n V _ k _ _ _ _ _ _ U.bB Vd.out J O.out) ?_;clear U;intro EH U)|(refine g5 U rfl _ _ 30 rfl 3 .i64 8 bg b6 U0 rfl rfl J am ?_;clear U;intro XN w U SQ;refine cN ?_)|(refine g5 U rfl _ _ 54 rfl 59 .u64 8 cL fK U0 rfl rfl J am ?_;clear U;intro Vz w U SR;refine cN ?_)|first|(refine aq ?_)|(refine VP U gW ?_;clear U;intro g3 w U gJ)|(refine Po U ?_;clear U;intro w U));go_loopw [46] (fun i wr=> ∃j:Nat,j<=U0/\i= .int .i64 j/\Bx w0 (fun b=>b≠Yc/\b≠c) wr (some ⟨ap,c,n,V⟩) [⟨Vz,59,bN .u64 U0 fun i=>if i<j then V (k+2+i)else 0⟩,⟨XN,3,bN .i64 U0 fun i=>if i<j then a+16+8*i else 0⟩,⟨g3,91,[.int .i64 z,.int .i64 U0,.int .i64 t,.bool d,.int .i64 s',.int .i64 e']⟩,⟨Yc,386,bp p Y8 ap r ⟨TQ,.slice (some ⟨b,off,none⟩) (m+1) Tt,.slice Tu r.said.length Tm,Y1⟩⟩]) (fun i _=>U0-(intOf i).toNat)
 case atStart=>exact⟨0,aL _,rfl,by simpa using U⟩
 case round=>
  clear U;obtain⟨j,OV,rfl,U⟩:=hrel;by_cases JF:j<U0
  ·have PQ:(0:Int)<=(j:Int):=by omega
   exact pb
  ·obtain rfl:j=U0:=by omega
   rw[rc (g:=fun i=>V (k+2+i)) (fun i hi=>Z hi),rc (g:=fun i=>a+16+8*(i:Int)) (fun i hi=>Z hi)]at U;go_wp2_with(first|(refine aq ?_)|(refine VP U gW ?_;clear U;intro g3 w U gJ)|(refine Po U ?_;clear U;intro w U));replace U:=U.drew;refine wp_region_held_drew (S:=(c0 [⟨Vz,59,bN .u64 j fun i=>V (k+2+i)⟩,⟨XN,3,bN .i64 j fun i=>a+16+8*(i:Int)⟩,⟨g3,91,[.int .i64 z,.int .i64 j,.int .i64 t,.bool d,.int .i64 s',.int .i64 e']⟩,⟨Yc,386,bp p Y8 ap r ⟨TQ,.slice (some ⟨b,off,none⟩) (m+1) Tt,.slice Tu r.said.length Tm,Y1⟩⟩])) aM ?_ (fun X=>?_)
   ·exact U.has
   refine az [[0,1,2,3,4,5]] ?_;refine aF 6 fun K Z7=>?_;go_simp;go_at_call 289;refine Calls.mono (G2 _ Sf Y8 F Vs t ops A9 Vj T (WX.out.Wu (U.Wu.mono v1)) m7.1 ia XL.out xW.out) ?_;rintro e EH ⟨rfl,rfl⟩;go_wp2_with fail;refine PK Z7 fun X=>?_;refine Xh 7 ?_;refine UF ?_;go_wp2_with(first|(go_at_call 339;refine Calls.mono (s7 _ Sf A9 Vj T Vz 0 j j Vw _ GZ.out ops (eM V k j) (kk _ _ _) C.out (MZ.out.Wu (U.Wu.mono v1)) G3 JB p3.out (U.b (g:=Vz) ag).lt (fun i hi=>by rw[rS V k j hi,ax,(U.b (g:=Vz) ag).cell,aE];exact gX hi) uz Zt i7 iI hd Bk.out) ?_;rintro e WA ⟨UY,vN,UM,ZF,rfl,bD,tU,N⟩;obtain⟨XH,U,AX,Dk,xG⟩: ∃XH:Nat->Prop,Bx WA XH WA (some ⟨ap,c,n,V⟩) [⟨Vz,59,bN .u64 j fun i=>V (k+2+i)⟩,⟨XN,3,bN .i64 j fun i=>a+16+8*(i:Int)⟩,⟨g3,91,[.int .i64 z,.int .i64 j,.int .i64 t,.bool d,.int .i64 s',.int .i64 e']⟩,⟨Yc,386,bp p Y8 ap r ⟨TQ,.slice (some ⟨b,off,none⟩) (m+1) Tt,.slice Tu r.said.length Tm,Y1⟩⟩]/\KC WA (fun b=>w0.heap.size<=b/\XH b) (.slice UY j vN) j 1 (fun i=> [.int .u64 (i7.getD i 0)])/\cF WA (fun b=>w0.heap.size<=b/\XH b) (.slice UM iI.length ZF) iI/\(∀WW s L2,Bx WA XH WW s L2->Bx w0 (fun b=>b≠Yc/\b≠c) WW s L2):=⟨_,(U.below N).base,U.eh bD,U.eh tU,fun _ _ _ h=>(U.below N).back h⟩;clear bD tU N)|first|(refine aq ?_)|(refine VP U gW ?_;clear U;intro g3 w U gJ)|(refine Po U ?_;clear U;intro w U));go_loopw [100] (fun i wr=> ∃u:Nat,u<=j/\i= .int .i64 u/\Bx WA XH wr (some ⟨ap,c,n,Vh V k i7 u⟩) [⟨Vz,59,bN .u64 j fun i=>V (k+2+i)⟩,⟨XN,3,bN .i64 j fun i=>a+16+8*(i:Int)⟩,⟨g3,91,[.int .i64 z,.int .i64 j,.int .i64 t,.bool d,.int .i64 s',.int .i64 e']⟩,⟨Yc,386,bp p Y8 ap r ⟨TQ,.slice (some ⟨b,off,none⟩) (m+1) Tt,.slice Tu r.said.length Tm,Y1⟩⟩]) (fun i _=>j-(intOf i).toNat)
   case atStart=>exact⟨0,aL _,rfl,by rw[zE];exact U⟩
   case round=>
    clear U;obtain⟨u,hu,rfl,U⟩:=hrel;by_cases MV:u<j
    ·have SS:(0:Int)<=(u:Int):=by omega
     exact pc
    ·obtain rfl:u=j:=by omega
     rw[BY V k i7 u G7.out]at U;go_wp2_with(first|(refine aq ?_)|(refine VP U gW ?_;clear U;intro g3 w U gJ)|(refine Po U ?_;clear U;intro w U));replace U:=U.drew;refine wp_region_held_drew (S:=(fun _=>True)) aM ?_ (fun X=>?_)
     ·trivial
     refine az [[0,1,2,3,4,5,6,7,9,12,13,14,15]] ?_;refine Zj [8,16] ?_;refine ea (fun K Z7=>?_) ?_
     ·refine YL U ?_;refine WE Z7 fun X=>?_;refine Zj [10,16] ?_;refine ea (fun K Z7=>?_) ?_
      ·rw[Z (by rfl)];refine mB U 441 30 _ _ rfl (.slice Tu r.said.length Tm) (.slice UM iI.length ZF) rfl rfl rfl rfl (.slice none 0 0) 24 aM aM ?_;clear U;intro s6 w U G0;refine WE Z7 fun X=>?_;refine Zj [11,16] ?_;refine ea (fun K Z7=>?_) ?_
       ·go_simp;go_at_call 354;have o1:=xG _ _ _ U;refine Calls.mono (sJ _ (fun b=>b≠s6) s6 Tu UM Tm ZF r.said iI (U.b ag) ((o1.old Bi.out hS).mono fun b _ h e=>h.2.1 _ (In.mem cX) e.symm) ((U.old Dk fun b _ h=>h.2).mono fun b _ h e=>h.2.1 _ (In.mem cX) e.symm) (fun h=>h rfl) gq J) ?_;rintro e EH ⟨Wq,Wz,rfl,bD,N⟩;have hv:=o1.eh bD;have DI:=o1.below N;clear U o1 bD N;have U:=DI.base;go_wp2_with fail;refine WE Z7 fun X=>?_;refine aF 16 fun K Z7=>?_;rw[Z (by rfl)];refine bU U 4 _ rfl _ _ rfl ag (.bool false) (dz (fun b=>some (Value.bool b)) H.out) underlying4 rfl ?_;exact lP
       refine ei (fun K Z7=>?_);rw[Z (by rfl)];refine bU U 4 _ rfl _ _ rfl ag (.bool false) (dz (fun b=>some (Value.bool b)) H.out) underlying4 rfl ?_;exact k8
      refine ei (fun K Z7=>?_);rw[Z (by rfl)];refine bU U 4 _ rfl _ _ rfl ag (.bool false) (dz (fun b=>some (Value.bool b)) H.out) underlying4 rfl ?_;exact i6
     refine ei (fun K Z7=>?_);rw[Z (by rfl)];refine bU U 4 _ rfl _ _ rfl ag (.bool false) (dz (fun b=>some (Value.bool b)) H.out) underlying4 rfl ?_;refine WE Z7 fun X=>?_;refine aF 8 fun K Z7=>?_;refine YL U ?_;exact i6
end Go.Proofs.YtcimojgkeoecfaaGreat
