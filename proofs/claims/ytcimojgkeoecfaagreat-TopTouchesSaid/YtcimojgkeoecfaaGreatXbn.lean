import Derived.Test.YtcimojgkeoecfaaGreatXbm
set_option linter.all false
set_option maxHeartbeats 16000000
set_option maxRecDepth 100000
namespace Go.Proofs.YtcimojgkeoecfaaGreat
open Go.RowKit Tryz
theorem JG(w0:World)(p:afy)(Y8:Value)(ap WC n Yc:Nat)(V:Nat->Int)(r:aax)(x:Yr)(S Sf:Nat->Prop)(F:b1)(Vs:Nat->Value)(hF:eF w0 Sf Y8 F Vs)(m7:tN F)(v1: ∀b,b<w0.heap.size->Sf b->b≠Yc/\b≠WC)(pre:List Int)(a:Int)(abk:cF w0 S x.ls (pre++ [a]))(YJ:pre.length<=65536)(dJ:cF w0 S x.Wh r.said)(gq:r.said.length<=65536)(hS: ∀b,b<w0.heap.size->S b->b≠Yc/\b≠WC)(hb:ah w0 Yc 386 (bp p Y8 ap r x).toArray)(Xg:ar w0 ap WC n V)(h1:Yc≠ap)(aaV:Yc≠WC)(k ab1:Nat)(XD:a=8*k)(ae3:k+2+ab1<=n)(z t s' e':Int)(d:Bool)(o:isObj (V k) (V (k+1)) z ab1 t d s' e')(Bj: ∀i,aR (V i))(hop:0<=r.op)(rR:r.op<(bY F t.toNat).length)(Zt:Int)(i7 iI:List Int)(hd:Bool)(tq:dd ((bY F t.toNat).getD r.op.toNat ⟨0,0,0⟩) (eM V k ab1)=(Zt,i7,iI,hd))(u4:r.held=true)(fD:Int)(a5:(((bY F t.toNat).length:Int)<=r.op+1+Zt->fD=21)/\(¬(((bY F t.toNat).length:Int)<=r.op+1+Zt)->fD=r.Xj)):
 Calls prog 328 #[.pointer (some ⟨Yc,0,none⟩)] w0 fun e w'=> ∃v,cF w' (fun b=>w0.heap.size<=b/\b≠Yc/\b≠WC) v (r.said++iI)/\e= .returned (.tuple #[])/\ah w' Yc 386 (bp p Y8 ap {r with op:=r.op+1+Zt,said:=r.said++iI,held:=true,Xj:=fD} ⟨x.ads,x.ls,v,x.Y1⟩).toArray/\ar w' ap WC n (fW V k i7)/\Z1 (fun b=>b≠Yc/\b≠WC) w0 w':=by
 have hm:=Xg.cE;have uz:ab1<=6:=by have:=o.ok.1;omega
 have ia:0<=t/\t<=7:=o.ok.2.2.1;obtain⟨ads,ls,Wh,Y1⟩:=x;simp only at abk dJ;obtain⟨aeQ,acN,abF,jN,uR,kA⟩:=id abk;obtain⟨acG,aeb,acL,-,-,-⟩:=id dJ;rw[ak,dh]at abF jN kA;obtain⟨b,off,rfl,zA,fC,XP⟩:=kA J;subst abF acL;have c3:w0.cell? ⟨b,off+pre.length,none⟩=some (.int .i64 a):=by
  exact k7
 obtain⟨m,gv⟩: ∃m,Hid (pre.length=m):=⟨_,I rfl⟩
 rw[gv.out]at c3 jN YJ hb⊢;unfold maxLen at uR;have KV:(m:Int)<=(acN:Int):=J;have iF:(0:Int)<=(m:Int):=J;have iu:(m:Int)<(m:Int)+1:=J;have ur:IntKind.i64.wrap ((m:Int)+1-1)=(m:Int):=by rw[IntKind.wrap_i64];omega
 have SP:IntKind.i64.wrap (m:Int)=(m:Int):=by rw[IntKind.wrap_i64];omega
 clear XP kA abk;have lO:=hS;have O:=I o;have abu:=I XD;have WX:=I hF;have abx:=I Bj;have Bi:=I dJ;have ti:(0:Int)<=(ab1:Int):=J;obtain⟨ops,jk⟩: ∃ops,F[t.toNat]? =some ops:=by
  exact qq
 have Zy:bY F t.toNat=ops:=by unfold bY;rw[ae,jk];rfl
 rw[Zy]at rR tq a5;clear Zy;obtain⟨A9,Zi,Zy,MW,MX,MY⟩:=id (hF.each _ _ jk);have xH:=m7.2 ops (bf jk);obtain⟨ad6,rQ⟩: ∃ad6,Hid (ops.length=ad6):=⟨_,I rfl⟩
 have MZ:=I (show acr w0 Sf (.slice A9 ad6 Zi) ad6 3 (jQ ops) by rw[<-rQ.out];exact Zy▸hF.each _ _ jk);rw[rQ.out]at Zy rR a5;have JB:ad6<=8:=by rw[<-rQ.out];exact xH.1
 have p3:=I xH.2;have ab0:=I jk;have abZ:=I Zy;obtain⟨adG,pd⟩: ∃adG:Nat,r.op=adG:=⟨r.op.toNat,J⟩
 have GZ:=I pd;have G3:adG<ad6:=J;rw[pd,bL]at tq;have Bk:=I tq;have kg:=wM (o:=ops.getD adG ⟨0,0,0⟩) (sl:=eM V k ab1) (by
  rw[ae,an (by rw[rQ.out];exact G3)];exact xH.2 _ (bA _)) (fun x Wy=>by
  unfold eM at Wy;obtain⟨i,_,rfl⟩:=List.mem_map.1 Wy;exact Bj _)
 rw[Bk.out,kk]at kg;obtain⟨G4,G5,u5,u6,G6⟩:=kg;simp only at G4 G5 u5 u6 G6;have G7:=I u5;have KZ:=I (show∀u,aR (i7.getD u 0)from fun u=>by
  rw[ae];cases VX:i7[u]? with
  |none=>decide
  |some x=>exact u6 x (bf VX))
 have G8:r.op=adG:=pd;have YH:=I u4;rw[pd]at a5;have MU:=I a5;clear a5;clear u5 u6 G8 u4 tq;clear pd jk Zy MW MX MY xH;clear o XD hF dJ Bj;have U:=aah.dp hb Xg h1 aaV;clear Xg hb;go_enter func328,ntmps328;go_wp2_with(first|(refine aq ?_)|(refine VP U gW ?_;clear U;intro g3 w U gJ)|(refine ac2 U ?_;clear U;intro w U));replace U:=U.drew;refine wp_region_held_drew (S:=(fun w=>c0 [⟨Yc,386,bp p Y8 ap r ⟨ads,.slice (some ⟨b,off,none⟩) (m+1) acN,.slice acG r.said.length aeb,Y1⟩⟩] w/\w.cell? ⟨b,off+m,none⟩=some (.int .i64 a))) aM ?_ (fun X=>?_)
 ·exact⟨U.has,U.Wu.cell (p:=⟨b,off+m,none⟩) fC (lO _ fC zA)|>.trans c3⟩
 refine az [[0,1,2,3]] ?_;refine eE 4 rfl (cb (by rfl) 30 _ rfl _ _ rfl (fun w h=>c0.at_ ag w h.1) _ (by rfl) underlying30 rfl) ?_;refine az [[5,6,7,8]] ?_;refine eE 9 rfl (cb (by rfl) 30 _ rfl _ _ rfl (fun w h=>c0.at_ ag w h.1) _ (by rfl) underlying30 rfl) ?_;refine az [[10,11,12]] ?_;refine eE 13 rfl (bl (by rfl) 3 _ rfl _ _ rfl _ (fun w h=>h.2) underlying3 rfl) ?_;refine Xh 14 ?_;refine adB ?_;go_wp2_with(first|(go_at_call 353;refine a6 U (oS _ _ _ n V _ k _ _ _ _ _ _ U.bB abu.out J O.out) ?_;clear U;intro aaM U)|(refine g5 U rfl _ _ 30 rfl 3 .i64 8 bg b6 ab1 rfl rfl J am ?_;clear U;intro adT w U SQ;refine cN ?_)|(refine g5 U rfl _ _ 54 rfl 59 .u64 8 cL fK ab1 rfl rfl J am ?_;clear U;intro aeW w U SR;refine cN ?_)|first|(refine aq ?_)|(refine VP U gW ?_;clear U;intro g3 w U gJ)|(refine ac2 U ?_;clear U;intro w U));go_loopw [46] (fun i wr=> ∃j:Nat,j<=ab1/\i= .int .i64 j/\aah w0 (fun b=>b≠Yc/\b≠WC) wr (some ⟨ap,WC,n,V⟩) [⟨aeW,59,bN .u64 ab1 fun i=>if i<j then V (k+2+i)else 0⟩,⟨adT,3,bN .i64 ab1 fun i=>if i<j then a+16+8*i else 0⟩,⟨g3,91,[.int .i64 z,.int .i64 ab1,.int .i64 t,.bool d,.int .i64 s',.int .i64 e']⟩,⟨Yc,386,bp p Y8 ap r ⟨ads,.slice (some ⟨b,off,none⟩) (m+1) acN,.slice acG r.said.length aeb,Y1⟩⟩]) (fun i _=>ab1-(intOf i).toNat)
 case atStart=>exact⟨0,aL _,rfl,by simpa using U⟩
 case round=>
  clear U;obtain⟨j,aeD,rfl,U⟩:=hrel;by_cases JF:j<ab1
  ·have PQ:(0:Int)<=(j:Int):=by omega
   exact pb
  ·obtain rfl:j=ab1:=by omega
   rw[rc (g:=fun i=>V (k+2+i)) (fun i hi=>Z hi),rc (g:=fun i=>a+16+8*(i:Int)) (fun i hi=>Z hi)]at U;go_wp2_with(first|(refine aq ?_)|(refine VP U gW ?_;clear U;intro g3 w U gJ)|(refine ac2 U ?_;clear U;intro w U));replace U:=U.drew;refine wp_region_held_drew (S:=(c0 [⟨aeW,59,bN .u64 j fun i=>V (k+2+i)⟩,⟨adT,3,bN .i64 j fun i=>a+16+8*(i:Int)⟩,⟨g3,91,[.int .i64 z,.int .i64 j,.int .i64 t,.bool d,.int .i64 s',.int .i64 e']⟩,⟨Yc,386,bp p Y8 ap r ⟨ads,.slice (some ⟨b,off,none⟩) (m+1) acN,.slice acG r.said.length aeb,Y1⟩⟩])) aM ?_ (fun X=>?_)
   ·exact U.has
   refine az [[0,1,2,3,4,5]] ?_;refine aF 6 fun K Z7=>?_;go_simp;go_at_call 289;refine Calls.mono (G2 _ Sf Y8 F Vs t ops A9 ad6 Zi (WX.out.Wu (U.Wu.mono v1)) m7.1 ia ab0.out abZ.out) ?_;rintro e aaM ⟨rfl,rfl⟩;go_wp2_with fail;refine abR Z7 fun X=>?_;refine Xh 7 ?_;refine adB ?_;go_wp2_with(first|(go_at_call 339;refine Calls.mono (s7 _ Sf A9 ad6 Zi aeW 0 j j adG _ GZ.out ops (eM V k j) (kk _ _ _) rQ.out (MZ.out.Wu (U.Wu.mono v1)) G3 JB p3.out (U.b (g:=aeW) ag).lt (fun i hi=>by rw[rS V k j hi,ax,(U.b (g:=aeW) ag).cell,aE];exact gX hi) uz Zt i7 iI hd Bk.out) ?_;rintro e WA ⟨agd,acW,abl,abT,rfl,bD,tU,N⟩;obtain⟨adK,U,AX,Dk,xG⟩: ∃adK:Nat->Prop,aah WA adK WA (some ⟨ap,WC,n,V⟩) [⟨aeW,59,bN .u64 j fun i=>V (k+2+i)⟩,⟨adT,3,bN .i64 j fun i=>a+16+8*(i:Int)⟩,⟨g3,91,[.int .i64 z,.int .i64 j,.int .i64 t,.bool d,.int .i64 s',.int .i64 e']⟩,⟨Yc,386,bp p Y8 ap r ⟨ads,.slice (some ⟨b,off,none⟩) (m+1) acN,.slice acG r.said.length aeb,Y1⟩⟩]/\acr WA (fun b=>w0.heap.size<=b/\adK b) (.slice agd j acW) j 1 (fun i=> [.int .u64 (i7.getD i 0)])/\cF WA (fun b=>w0.heap.size<=b/\adK b) (.slice abl iI.length abT) iI/\(∀WW aeQ L2,aah WA adK WW aeQ L2->aah w0 (fun b=>b≠Yc/\b≠WC) WW aeQ L2):=⟨_,(U.below N).base,U.eh bD,U.eh tU,fun _ _ _ h=>(U.below N).back h⟩;clear bD tU N)|first|(refine aq ?_)|(refine VP U gW ?_;clear U;intro g3 w U gJ)|(refine ac2 U ?_;clear U;intro w U));go_loopw [100] (fun i wr=> ∃u:Nat,u<=j/\i= .int .i64 u/\aah WA adK wr (some ⟨ap,WC,n,aad V k i7 u⟩) [⟨aeW,59,bN .u64 j fun i=>V (k+2+i)⟩,⟨adT,3,bN .i64 j fun i=>a+16+8*(i:Int)⟩,⟨g3,91,[.int .i64 z,.int .i64 j,.int .i64 t,.bool d,.int .i64 s',.int .i64 e']⟩,⟨Yc,386,bp p Y8 ap r ⟨ads,.slice (some ⟨b,off,none⟩) (m+1) acN,.slice acG r.said.length aeb,Y1⟩⟩]) (fun i _=>j-(intOf i).toNat)
   case atStart=>exact⟨0,aL _,rfl,by rw[zE];exact U⟩
   case round=>
    clear U;obtain⟨u,hu,rfl,U⟩:=hrel;by_cases MV:u<j
    ·have SS:(0:Int)<=(u:Int):=by omega
     exact pc
    ·obtain rfl:u=j:=by omega
     rw[BY V k i7 u G7.out]at U;go_wp2_with(first|(refine aq ?_)|(refine VP U gW ?_;clear U;intro g3 w U gJ)|(refine ac2 U ?_;clear U;intro w U));replace U:=U.drew;refine wp_region_held_drew (S:=(fun _=>True)) aM ?_ (fun X=>?_)
     ·trivial
     refine az [[0,1,2,3,4,5,6,7,9,12,13,14,15]] ?_;refine Zj [8,16] ?_;refine ea (fun K Z7=>?_) ?_
     ·refine YL U ?_;refine WE Z7 fun X=>?_;refine Zj [10,16] ?_;refine ea (fun K Z7=>?_) ?_
      ·rw[Z (by rfl)];refine mB U 441 30 _ _ rfl (.slice acG r.said.length aeb) (.slice abl iI.length abT) rfl rfl rfl rfl (.slice none 0 0) 24 aM aM ?_;clear U;intro s6 w U G0;refine WE Z7 fun X=>?_;refine Zj [11,16] ?_;refine ea (fun K Z7=>?_) ?_
       ·go_simp;go_at_call 354;have o1:=xG _ _ _ U;refine Calls.mono (sJ _ (fun b=>b≠s6) s6 acG abl aeb abT r.said iI (U.b ag) ((o1.old Bi.out hS).mono fun b _ h e=>h.2.1 _ (In.mem cX) e.symm) ((U.old Dk fun b _ h=>h.2).mono fun b _ h e=>h.2.1 _ (In.mem cX) e.symm) (fun h=>h rfl) gq J) ?_;rintro e aaM ⟨afC,ace,rfl,bD,N⟩;have hv:=o1.eh bD;have aaH:=o1.below N;clear U o1 bD N;have U:=aaH.base;go_wp2_with fail;refine WE Z7 fun X=>?_;refine aF 16 fun K Z7=>?_;rw[Z (by rfl)];refine bU U 4 _ rfl _ _ rfl ag (.bool true) (dz (fun b=>some (Value.bool b)) YH.out) underlying4 rfl ?_;exact lP
       refine ei (fun K Z7=>?_);rw[Z (by rfl)];refine bU U 4 _ rfl _ _ rfl ag (.bool true) (dz (fun b=>some (Value.bool b)) YH.out) underlying4 rfl ?_;exact k8
      refine ei (fun K Z7=>?_);rw[Z (by rfl)];refine bU U 4 _ rfl _ _ rfl ag (.bool true) (dz (fun b=>some (Value.bool b)) YH.out) underlying4 rfl ?_;exact i6
     refine ei (fun K Z7=>?_);rw[Z (by rfl)];refine bU U 4 _ rfl _ _ rfl ag (.bool true) (dz (fun b=>some (Value.bool b)) YH.out) underlying4 rfl ?_;refine WE Z7 fun X=>?_;refine aF 8 fun K Z7=>?_;refine YL U ?_;exact i6
end Go.Proofs.YtcimojgkeoecfaaGreat
