import Derived.Test.YtcimojgkeoecfaaGreatVbm
set_option linter.all false
set_option maxHeartbeats 16000000
set_option maxRecDepth 100000
namespace Go.Proofs.YtcimojgkeoecfaaGreat
open Go.RowKit Tryz
theorem JG(w0:World)(p:PO)(Y8:Value)(ap c n Yc:Nat)(V:Nat->Int)(r:RJ)(x:Yr)(S Sf:Nat->Prop)(F:b1)(Vs:Nat->Value)(hF:eF w0 Sf Y8 F Vs)(m7:tN F)(v1: ∀b,b<w0.heap.size->Sf b->b≠Yc/\b≠c)(pre:List Int)(a:Int)(q:cF w0 S x.ls (pre++ [a]))(YJ:pre.length<=65536)(L:cF w0 S x.Wh r.said)(gq:r.said.length<=65536)(hS: ∀b,b<w0.heap.size->S b->b≠Yc/\b≠c)(hb:ah w0 Yc 386 (bp p Y8 ap r x).toArray)(R:ar w0 ap c n V)(h1:Yc≠ap)(Tw:Yc≠c)(k U0:Nat)(XD:a=8*k)(TS:k+2+U0<=n)(z t s' e':Int)(d:Bool)(o:isObj (V k) (V (k+1)) z U0 t d s' e')(Q: ∀i,aR (V i))(hop:0<=r.op)(rR:r.op<(bY F t.toNat).length)(Zt:Int)(i7 iI:List Int)(hd:Bool)(M:dd ((bY F t.toNat).getD r.op.toNat ⟨0,0,0⟩) (eM V k U0)=(Zt,i7,iI,hd))(u4:r.held=true)(W:Int)(A:(((bY F t.toNat).length:Int)<=r.op+1+Zt->W=21)/\(¬(((bY F t.toNat).length:Int)<=r.op+1+Zt)->W=r.Xj)):
 Calls prog 328 #[.pointer (some ⟨Yc,0,none⟩)] w0 fun e w'=> ∃v,cF w' (fun b=>w0.heap.size<=b/\b≠Yc/\b≠c) v (r.said++iI)/\e= .returned (.tuple #[])/\ah w' Yc 386 (bp p Y8 ap {r with op:=r.op+1+Zt,said:=r.said++iI,held:=true,Xj:=W} ⟨x.TQ,x.ls,v,x.Y1⟩).toArray/\ar w' ap c n (fW V k i7)/\Z1 (fun b=>b≠Yc/\b≠c) w0 w':=by
 have hm:=R.cE;have uz:U0<=6:=by have:=o.ok.1;omega
 have ia:0<=t/\t<=7:=o.ok.2.2.1;obtain⟨TQ,ls,Wh,Y1⟩:=x;simp only at q L;obtain⟨s,Tt,G,jN,uR,kA⟩:=id q;obtain⟨Tu,Tm,UZ,-,-,-⟩:=id L;rw[ak,dh]at G jN kA;obtain⟨b,off,rfl,zA,fC,XP⟩:=kA J;subst G UZ;have c3:w0.cell? ⟨b,off+pre.length,none⟩=some (.int .i64 a):=by
  exact k7
 obtain⟨m,gv⟩: ∃m,Hid (pre.length=m):=⟨_,I rfl⟩
 rw[gv.out]at c3 jN YJ hb⊢;unfold maxLen at uR;have KV:(m:Int)<=(Tt:Int):=J;have iF:(0:Int)<=(m:Int):=J;have iu:(m:Int)<(m:Int)+1:=J;have ur:IntKind.i64.wrap ((m:Int)+1-1)=(m:Int):=by rw[IntKind.wrap_i64];omega
 have SP:IntKind.i64.wrap (m:Int)=(m:Int):=by rw[IntKind.wrap_i64];omega
 clear XP kA q;have lO:=hS;have O:=I o;have Vd:=I XD;have WX:=I hF;have XM:=I Q;have Bi:=I L;have ti:(0:Int)<=(U0:Int):=J;obtain⟨ops,y⟩: ∃ops,F[t.toNat]? =some ops:=by
  exact qq
 have f:bY F t.toNat=ops:=by unfold bY;rw[ae,y];rfl
 rw[f]at rR M A;clear f;obtain⟨A9,T,f,MW,MX,MY⟩:=id (hF.each _ _ y);have P:=m7.2 ops (bf y);obtain⟨Vj,C⟩: ∃Vj,Hid (ops.length=Vj):=⟨_,I rfl⟩
 have MZ:=I (show KC w0 Sf (.slice A9 Vj T) Vj 3 (jQ ops) by rw[<-C.out];exact f▸hF.each _ _ y);rw[C.out]at f rR A;have JB:Vj<=8:=by rw[<-C.out];exact P.1
 have p3:=I P.2;have XL:=I y;have xW:=I f;obtain⟨Vw,B⟩: ∃Vw:Nat,r.op=Vw:=⟨r.op.toNat,J⟩
 have GZ:=I B;have G3:Vw<Vj:=J;rw[B,bL]at M;have Bk:=I M;have kg:=wM (o:=ops.getD Vw ⟨0,0,0⟩) (sl:=eM V k U0) (by
  rw[ae,an (by rw[C.out];exact G3)];exact P.2 _ (bA _)) (fun x Wy=>by
  unfold eM at Wy;obtain⟨i,_,rfl⟩:=List.mem_map.1 Wy;exact Q _)
 rw[Bk.out,kk]at kg;obtain⟨G4,G5,u5,u6,G6⟩:=kg;simp only at G4 G5 u5 u6 G6;have G7:=I u5;have KZ:=I (show∀u,aR (i7.getD u 0)from fun u=>by
  rw[ae];cases VX:i7[u]? with
  |none=>decide
  |some x=>exact u6 x (bf VX))
 have G8:r.op=Vw:=B;have H:=I u4;rw[B]at A;have MU:=I A;clear A;clear u5 u6 G8 u4 M;clear B y f MW MX MY P;clear o XD hF L Q;have U:=Bx.dp hb R h1 Tw;clear R hb;go_enter func328,ntmps328;go_wp2_with(first|(refine aq ?_)|(refine VP U gW ?_;clear U;intro g3 w U gJ)|(refine Po U ?_;clear U;intro w U));replace U:=U.drew;refine wp_region_held_drew (S:=(fun w=>c0 [⟨Yc,386,bp p Y8 ap r ⟨TQ,.slice (some ⟨b,off,none⟩) (m+1) Tt,.slice Tu r.said.length Tm,Y1⟩⟩] w/\w.cell? ⟨b,off+m,none⟩=some (.int .i64 a))) aM ?_ (fun X=>?_)
 ·exact⟨U.has,U.Wu.cell (p:=⟨b,off+m,none⟩) fC (lO _ fC zA)|>.trans c3⟩
 refine az [[0,1,2,3]] ?_;refine eE 4 rfl (cb (by rfl) 30 _ rfl _ _ rfl (fun w h=>c0.at_ ag w h.1) _ (by rfl) underlying30 rfl) ?_;refine az [[5,6,7,8]] ?_;refine eE 9 rfl (cb (by rfl) 30 _ rfl _ _ rfl (fun w h=>c0.at_ ag w h.1) _ (by rfl) underlying30 rfl) ?_;refine az [[10,11,12]] ?_;refine eE 13 rfl (bl (by rfl) 3 _ rfl _ _ rfl _ (fun w h=>h.2) underlying3 rfl) ?_;refine Xh 14 ?_;refine UF ?_;go_wp2_with(first|(go_at_call 353;refine a6 U (oS _ _ _ n V _ k _ _ _ _ _ _ U.bB Vd.out J O.out) ?_;clear U;intro EH U)|(refine g5 U rfl _ _ 30 rfl 3 .i64 8 bg b6 U0 rfl rfl J am ?_;clear U;intro XN w U SQ;refine cN ?_)|(refine g5 U rfl _ _ 54 rfl 59 .u64 8 cL fK U0 rfl rfl J am ?_;clear U;intro Vz w U SR;refine cN ?_)|first|(refine aq ?_)|(refine VP U gW ?_;clear U;intro g3 w U gJ)|(refine Po U ?_;clear U;intro w U));go_loopw [46] (fun i wr=> ∃j:Nat,j<=U0/\i= .int .i64 j/\Bx w0 (fun b=>b≠Yc/\b≠c) wr (some ⟨ap,c,n,V⟩) [⟨Vz,59,bN .u64 U0 fun i=>if i<j then V (k+2+i)else 0⟩,⟨XN,3,bN .i64 U0 fun i=>if i<j then a+16+8*i else 0⟩,⟨g3,91,[.int .i64 z,.int .i64 U0,.int .i64 t,.bool d,.int .i64 s',.int .i64 e']⟩,⟨Yc,386,bp p Y8 ap r ⟨TQ,.slice (some ⟨b,off,none⟩) (m+1) Tt,.slice Tu r.said.length Tm,Y1⟩⟩]) (fun i _=>U0-(intOf i).toNat)
 case atStart=>exact⟨0,aL _,rfl,by simpa using U⟩
 case round=>
  clear U;obtain⟨j,OV,rfl,U⟩:=hrel;by_cases JF:j<U0
  ·have PQ:(0:Int)<=(j:Int):=by omega
   exact pb
  ·obtain rfl:j=U0:=by omega
   rw[rc (g:=fun i=>V (k+2+i)) (fun i hi=>Z hi),rc (g:=fun i=>a+16+8*(i:Int)) (fun i hi=>Z hi)]at U;go_wp2_with(first|(refine aq ?_)|(refine VP U gW ?_;clear U;intro g3 w U gJ)|(refine Po U ?_;clear U;intro w U));replace U:=U.drew;refine wp_region_held_drew (S:=(c0 [⟨Vz,59,bN .u64 j fun i=>V (k+2+i)⟩,⟨XN,3,bN .i64 j fun i=>a+16+8*(i:Int)⟩,⟨g3,91,[.int .i64 z,.int .i64 j,.int .i64 t,.bool d,.int .i64 s',.int .i64 e']⟩,⟨Yc,386,bp p Y8 ap r ⟨TQ,.slice (some ⟨b,off,none⟩) (m+1) Tt,.slice Tu r.said.length Tm,Y1⟩⟩])) aM ?_ (fun X=>?_)
   ·exact U.has
   refine az [[0,1,2,3,4,5]] ?_;refine aF 6 fun K Z7=>?_;go_simp;go_at_call 289;refine Calls.mono (G2 _ Sf Y8 F Vs t ops A9 Vj T (WX.out.Wu (U.Wu.mono v1)) m7.1 ia XL.out xW.out) ?_;rintro e EH ⟨rfl,rfl⟩;go_wp2_with fail;refine PK Z7 fun X=>?_;refine Xh 7 ?_;refine UF ?_;go_wp2_with(first|(go_at_call 339;refine Calls.mono (s7 _ Sf A9 Vj T Vz 0 j j Vw _ GZ.out ops (eM V k j) (kk _ _ _) C.out (MZ.out.Wu (U.Wu.mono v1)) G3 JB p3.out (U.b (g:=Vz) ag).lt (fun i hi=>by rw[rS V k j hi,ax,(U.b (g:=Vz) ag).cell,aE];exact gX hi) uz Zt i7 iI hd Bk.out) ?_;rintro e WA ⟨UY,vN,UM,ZF,rfl,bD,tU,N⟩;obtain⟨XH,U,AX,Dk,xG⟩: ∃XH:Nat->Prop,Bx WA XH WA (some ⟨ap,c,n,V⟩) [⟨Vz,59,bN .u64 j fun i=>V (k+2+i)⟩,⟨XN,3,bN .i64 j fun i=>a+16+8*(i:Int)⟩,⟨g3,91,[.int .i64 z,.int .i64 j,.int .i64 t,.bool d,.int .i64 s',.int .i64 e']⟩,⟨Yc,386,bp p Y8 ap r ⟨TQ,.slice (some ⟨b,off,none⟩) (m+1) Tt,.slice Tu r.said.length Tm,Y1⟩⟩]/\KC WA (fun b=>w0.heap.size<=b/\XH b) (.slice UY j vN) j 1 (fun i=> [.int .u64 (i7.getD i 0)])/\cF WA (fun b=>w0.heap.size<=b/\XH b) (.slice UM iI.length ZF) iI/\(∀WW s L2,Bx WA XH WW s L2->Bx w0 (fun b=>b≠Yc/\b≠c) WW s L2):=⟨_,(U.below N).base,U.eh bD,U.eh tU,fun _ _ _ h=>(U.below N).back h⟩;clear bD tU N)|first|(refine aq ?_)|(refine VP U gW ?_;clear U;intro g3 w U gJ)|(refine Po U ?_;clear U;intro w U));go_loopw [100] (fun i wr=> ∃u:Nat,u<=j/\i= .int .i64 u/\Bx WA XH wr (some ⟨ap,c,n,Vh V k i7 u⟩) [⟨Vz,59,bN .u64 j fun i=>V (k+2+i)⟩,⟨XN,3,bN .i64 j fun i=>a+16+8*(i:Int)⟩,⟨g3,91,[.int .i64 z,.int .i64 j,.int .i64 t,.bool d,.int .i64 s',.int .i64 e']⟩,⟨Yc,386,bp p Y8 ap r ⟨TQ,.slice (some ⟨b,off,none⟩) (m+1) Tt,.slice Tu r.said.length Tm,Y1⟩⟩]) (fun i _=>j-(intOf i).toNat)
   case atStart=>exact⟨0,aL _,rfl,by rw[zE];exact U⟩
   case round=>
    clear U;obtain⟨u,hu,rfl,U⟩:=hrel;by_cases MV:u<j
    ·have SS:(0:Int)<=(u:Int):=by omega
     exact pc
    ·obtain rfl:u=j:=by omega
     rw[BY V k i7 u G7.out]at U;go_wp2_with(first|(refine aq ?_)|(refine VP U gW ?_;clear U;intro g3 w U gJ)|(refine Po U ?_;clear U;intro w U));replace U:=U.drew;refine wp_region_held_drew (S:=(fun _=>True)) aM ?_ (fun X=>?_)
     ·trivial
     refine az [[0,1,2,3,4,5,6,7,9,12,13,14,15]] ?_;refine Zj [8,16] ?_;refine ea (fun K Z7=>?_) ?_
     ·refine YL U ?_;refine WE Z7 fun X=>?_;refine Zj [10,16] ?_;refine ea (fun K Z7=>?_) ?_
      ·rw[Z (by rfl)];refine mB U 441 30 _ _ rfl (.slice Tu r.said.length Tm) (.slice UM iI.length ZF) rfl rfl rfl rfl (.slice none 0 0) 24 aM aM ?_;clear U;intro s6 w U G0;refine WE Z7 fun X=>?_;refine Zj [11,16] ?_;refine ea (fun K Z7=>?_) ?_
       ·go_simp;go_at_call 354;have o1:=xG _ _ _ U;refine Calls.mono (sJ _ (fun b=>b≠s6) s6 Tu UM Tm ZF r.said iI (U.b ag) ((o1.old Bi.out hS).mono fun b _ h e=>h.2.1 _ (In.mem cX) e.symm) ((U.old Dk fun b _ h=>h.2).mono fun b _ h e=>h.2.1 _ (In.mem cX) e.symm) (fun h=>h rfl) gq J) ?_;rintro e EH ⟨Wq,Wz,rfl,bD,N⟩;have hv:=o1.eh bD;have DI:=o1.below N;clear U o1 bD N;have U:=DI.base;go_wp2_with fail;refine WE Z7 fun X=>?_;refine aF 16 fun K Z7=>?_;rw[Z (by rfl)];refine bU U 4 _ rfl _ _ rfl ag (.bool true) (dz (fun b=>some (Value.bool b)) H.out) underlying4 rfl ?_;exact lP
       refine ei (fun K Z7=>?_);rw[Z (by rfl)];refine bU U 4 _ rfl _ _ rfl ag (.bool true) (dz (fun b=>some (Value.bool b)) H.out) underlying4 rfl ?_;exact k8
      refine ei (fun K Z7=>?_);rw[Z (by rfl)];refine bU U 4 _ rfl _ _ rfl ag (.bool true) (dz (fun b=>some (Value.bool b)) H.out) underlying4 rfl ?_;exact i6
     refine ei (fun K Z7=>?_);rw[Z (by rfl)];refine bU U 4 _ rfl _ _ rfl ag (.bool true) (dz (fun b=>some (Value.bool b)) H.out) underlying4 rfl ?_;refine WE Z7 fun X=>?_;refine aF 8 fun K Z7=>?_;refine YL U ?_;exact i6
end Go.Proofs.YtcimojgkeoecfaaGreat
