import Derived.Test.YtcimojgkeoecfaaGreatXav
import Derived.Test.YtcimojgkeoecfaaGreatXas
set_option linter.all false
set_option maxHeartbeats 16000000
set_option maxRecDepth 100000
namespace Go.Proofs.YtcimojgkeoecfaaGreat
section
open Go.RowKit Tryz
theorem nZ{G:Prop}(h:G:=by
 obtain⟨v,hb,hv⟩:=afj.ex;rcases hv with⟨rfl,abi,_⟩|⟨cap,rest,rfl,abk,h1,aaV,_⟩
 ·exact⟨fun _=>True,_,hb,by rw[abi];exact acr.nil _ _ _ _⟩
 ·exact⟨_,_,hb,mF abk h1 aaV⟩):G:=h
theorem n0{G:Prop}(h:G:=by
 rintro e w' ⟨rfl,ae3⟩;exact⟨rfl,afj.Wu (ae3.block _ afj.lt.1) (ae3.block _ afj.lt.2),Z1.cg ae3⟩):G:=h
theorem yV(l:List Ext)(m:Int)(h:hU l m=none): ∀y,y∈l->y.z<m:=by
 induction l with
 |nil=>intro y hy;simp at hy
 |cons x l aes=>
  intro y hy;rw[hU]at h;split at h
  ·simp at h
  ·rename_i Wy;rcases List.mem_cons.1 hy with rfl|hy
   ·omega
   ·exact aes (by simpa using h) y hy
theorem xn(l l':List Ext)(m a:Int)(h:hU l m=some (a,l')): ∃pre x post,l=pre++x::post/\(∀y,y∈pre->y.z<m)/\a=x.a/\(x.z=m/\l'=pre++post\/m<x.z/\l'=pre++⟨x.a+m,x.z-m⟩::post):=by
 induction l generalizing l' with
 |nil=>simp[hU]at h
 |cons x l aes=>
  rw[hU]at h;split at h
  ·rename_i Wy;simp only[Option.some.injEq,Prod.mk.injEq]at h;refine⟨[],x,l,rfl,aN,h.1.symm,?_⟩;by_cases aeN:x.z=m
   ·rw[Z aeN]at h;exact .inl ⟨aeN,h.2.symm⟩
   ·rw[Y aeN]at h;exact .inr ⟨J,h.2.symm⟩
  ·rename_i Wy;obtain⟨⟨YN,adf⟩,h1,aaV⟩:=Option.map_eq_some_iff.1 h;simp only[Prod.mk.injEq]at aaV;obtain⟨rfl,rfl⟩:=aaV;obtain⟨pre,y,post,rfl,aeJ,e,ZV⟩:=aes adf h1;refine⟨x::pre,y,post,rfl,fun z aeN=>?_,e,?_⟩
   ·rcases List.mem_cons.1 aeN with rfl|aeN
    ·omega
    ·exact aeJ z aeN
   ·rcases ZV with⟨ZV,rfl⟩|⟨ZV,rfl⟩
    ·exact .inl ⟨ZV,rfl⟩
    ·exact .inr ⟨ZV,rfl⟩
def e4(l:List Ext)(m:Int):Int×Bool×List Ext:=match hU l m with
 |none=>(0,false,l)
 |some (a,l')=>(a,true,l')
theorem uw(w0:World)(aff rg:Nat)(a4 aaY m:Int)(l:List Ext)(hm:8<=m/\m<=65536/\m %8=0)(Wy: ∀x,x∈l->0<=x.a/\x.a<=65536/\x.z<=65536)(cV:l.length<=65536)(afj:cY w0 aff rg a4 aaY l):
 Calls prog 265 #[.pointer (some ⟨aff,0,none⟩),.int .i64 m] w0 fun e w'=>e= .returned (.tuple #[.int .i64 (e4 l m).1,.bool (e4 l m).2.1])/\cY w' aff rg a4 aaY (e4 l m).2.2/\Z1 (fun b=>b≠aff/\b≠rg) w0 w':=by
 cases XP:hU l m with
 |none=>
  have dU:=yV l m XP;have e:e4 l m=(0,false,l):=by unfold e4;rw[XP]
  rw[e];obtain⟨v,hb,hv⟩:=id afj.ex;rcases hv with⟨rfl,abi,_⟩|⟨cap,rest,rfl,abk,h1,aaV,_⟩
  ·refine Calls.mono (Fr w0 aff rg a4 aaY m l hm cV dU abi hb) ?_;exact n0
  ·refine Calls.mono (Fq w0 aff rg a4 aaY m l hm cV dU cap rest abk h1 aaV hb) ?_;exact n0
 |some r=>
  obtain⟨a,l'⟩:=r;obtain⟨pre,x,post,rfl,dU,rfl,aeN⟩:=xn l l' m a XP;have e:e4 (pre++x::post) m=(x.a,true,l'):=by unfold e4;rw[XP]
  rw[e];have O5:=Wy x aN;rcases aeN with⟨aeN,rfl⟩|⟨aeN,rfl⟩
  ·exact Fv w0 aff rg a4 aaY m pre post x hm O5 cV dU aeN afj
  ·exact Ft w0 aff rg a4 aaY m pre post x hm O5 cV dU aeN afj
theorem IM(w0:World)(aff rg:Nat)(a4 aaY:Int)(l:List Ext)(cV:l.length<=65536)(afj:cY w0 aff rg a4 aaY l):
 Calls prog 177 #[.pointer (some ⟨aff,0,none⟩)] w0 fun e w'=> ∃v',e= .returned v'/\acr w' (fun b=>w0.heap.size<=b) v' l.length 2 (eP l)/\Below w0.heap.size w0 w':=by
 have key: ∃S v,ah w0 aff 363 ([.int .i64 a4,.int .i64 aaY,v]:List Value).toArray/\acr w0 S v l.length 2 (eP l):=by
  exact nZ
 obtain⟨S,v,hb,YF⟩:=key;have aeO:=I YF;have ZG:=I cV;have aav:=I hb;have U:=aah.g8 hb;clear YF cV afj hb;go_enter func177,ntmps177;go_wp2_with(first|(go_at_call 254;have dI:=U.ro aav.out (by with_reducible first|exact cX|exact kw|exact r3);refine Calls.mono (tM _ S _ _ _ (aeO.out.below (U.ro aav.out (by with_reducible first|exact cX|exact kw|exact r3))) ZG.out (kn _ _)) ?_;rintro e aaM ⟨Zv,rfl,h2,N⟩;replace U:=U.below N)|(refine aaO U ?_));go_ret;exact⟨_,rfl,h2.mono (fun b _ h=>D dI.size h),U.ro aav.out (by exact cX)⟩
end
section
open Go.RowKit Tryz
theorem KJ(i h:Int)(hi:0<=i/\i<=65536)(acu:0<=h/\h<=65536)(h1:i %8=0)(aaV:h %8=0):((bits .or .i64 i h).tmod 8 !=0)=false:=by
 obtain⟨rX,rfl⟩:=bn hi.1;obtain⟨K,rfl⟩:=bn acu.1;rw[(bits_nat .i64 63 am gM rX K J J).2];have e:(rX ||| K)%8=(rX %8)|||(K %8):=Nat.or_mod_two_pow (n:=3);have abF:(rX ||| K)%8=0:=by
  rw[e,Nat.or_eq_zero_iff];omega
 have acL:((rX ||| K:Nat):Int).tmod 8=0:=by
  rw[al J];omega
 rw[acL];rfl
theorem IN(w0:World)(a4 z:Int)(YM:0<=a4/\a4<=65536/\0<z/\z<=65536)(Vy:a4 %8=0/\z %8=0):
 Calls prog 198 #[.int .i64 a4,.int .i64 z] w0 fun e w'=> ∃aff rg,e= .returned (.tuple #[.pointer (some ⟨aff,0,none⟩),.int .i64 0])/\cY w' aff rg a4 (a4+z) [⟨a4,z⟩]/\w0.heap.size<=aff/\w0.heap.size<=rg/\Z1 (fun _=>True) w0 w':=by
 have YK:=KJ a4 z J J Vy.1 Vy.2;have U:=aah.a0 w0;have L8:decide (z>0)=true:=by simp;omega
 go_enter func198,ntmps198;go_wp2_with(first|(refine dE U rfl 58 130 _ rfl _ [.int .i64 a4,.int .i64 z] rfl rfl (.agg #[.int .i64 0,.int .i64 0]) 2 16 bw cj rfl am am ?_;clear U;intro di w U dO;refine cN ?_)|(go_at_call 104;refine(fM _ _ _ _).mono ?_;rintro e w' ⟨rfl,rfl⟩)|(refine Ws U 363 ?_;clear U;intro Fw w U AI)|(refine ac2 U ?_;clear U;intro w U));go_ret2;exact⟨_,di,rfl,⟨_,U.b (g:=Fw) (by exact kw),.inr ⟨1,[],rfl,U.b (g:=di) (by exact cX),ai _,am,rfl,fun e=>U.wa e.symm⟩⟩,AI,dO,U.Wu⟩
theorem IP(w0:World)(a4:Int)(YM:0<=a4/\a4<=65536)(Vy:a4 %8=0):
 Calls prog 198 #[.int .i64 a4,.int .i64 0] w0 fun e w'=> ∃aff,e= .returned (.tuple #[.pointer (some ⟨aff,0,none⟩),.int .i64 0])/\cY w' aff aff a4 a4 []/\w0.heap.size<=aff/\Z1 (fun _=>True) w0 w':=by
 have YK:=KJ a4 0 J J Vy rfl;have U:=aah.a0 w0;go_enter func198,ntmps198;go_wp2_with(first|(go_at_call 104;refine(fM _ _ _ _).mono ?_;rintro e w' ⟨rfl,rfl⟩)|(refine Ws U 363 ?_;clear U;intro Fw w U AI)|(refine ac2 U ?_;clear U;intro w U));go_ret2;exact⟨_,rfl,⟨_,U.b (g:=Fw) (by exact cX),.inl ⟨rfl,rfl,rfl,Int.le_refl _⟩⟩,AI,U.Wu⟩
end
section
open Go.RowKit Tryz
abbrev ux(p:afy)(ap:Nat)(k:Int):Value:=.agg #[.pointer (some ⟨ap,0,none⟩),.int .i64 p.s,.int .i64 p.t,.int .i64 p.i,.int .i64 p.h,.int .i64 k]
section
variable(w0:World)(p:afy)(ap WC n:Nat)(V:Nat->Int)
include w0 p ap WC n V
theorem BN(k q:Int)(Xg:ar w0 ap WC n V)(aeJ:a9 p)(ae3:0<=k/\k<p.s)(VX:0<=q/\q<=4)(abi:8*p.s<=n):
 Calls prog 316 #[ux p ap k,.int .i64 q] w0 fun e w'=>e= .returned (.int .u64 (V (8*k.toNat+q.toNat)))/\Below w0.heap.size w0 w':=by
 have U:=aah.a0 w0;have Zn:=I Xg;clear Xg;go_enter func316,ntmps316;go_wp2_with(first|(go_at_call 155;refine a6 U (iX p _ _ _ aeJ VX ae3) ?_;clear U;intro aaM U)|(go_at_call 176;refine Calls.mono (eL _ _ _ n V _ (8*k.toNat+q.toNat) (U.jZ Zn.out) J J) ?_;rintro e aaM ⟨rfl,rfl⟩)|(refine aq ?_)|(refine aT ?_;clear U;intro X8 w U aay));go_ret;exact⟨rfl,U.all⟩
theorem tw(k q x:Int)(Xg:ar w0 ap WC n V)(aeJ:a9 p)(ae3:0<=k/\k<p.s)(VX:0<=q/\q<=4)(abi:8*p.s<=n)(Wy:aR x):
 Calls prog 201 #[ux p ap k,.int .i64 q,.int .u64 x] w0 fun e w'=>e= .returned (.tuple #[])/\ar w' ap WC n (upd V (8*k.toNat+q.toNat) x)/\ce w0.heap.size WC w0 w':=by
 have U:=aah.start (A:=some ⟨ap,WC,n,V⟩) (fun b=>b≠WC) w0 Xg fun a e k=>(by cases e;exact k rfl)
 clear Xg;go_enter func201,ntmps201;go_wp2_with(first|(go_at_call 155;refine a6 U (iX p _ _ _ aeJ VX ae3) ?_;clear U;intro aaM U)|(go_at_call 279;refine Calls.mono (iJ _ _ _ n V _ _ (8*k.toNat+q.toNat) U.bB J J Wy) ?_;rintro e aaM ⟨rfl,aH,N⟩;replace U:=U.arena aH N;clear aH N)|(refine aq ?_)|(refine aT ?_;clear U;intro X8 w U aay));refine fY ?_;exact⟨rfl,U.bB,U.mW⟩
theorem AJ(k:Int)(c:g7)(Xg:ar w0 ap WC n V)(aeJ:a9 p)(ae3:0<=k/\k<p.s)(abi:8*p.s<=n)(XP:hZ c):
 Calls prog 200 #[ux p ap k,hf c] w0 fun e w'=>e= .returned (.tuple #[])/\ar w' ap WC n (upd V (8*k.toNat) (afa c))/\ce w0.heap.size WC w0 w':=by
 have U:=aah.start (A:=some ⟨ap,WC,n,V⟩) (fun b=>b≠WC) w0 Xg fun a e k=>(by cases e;exact k rfl)
 have kg:=XP.aas;have YT:=I XP;have Wy:aR (afa c):=by unfold aR;omega
 clear Xg XP kg;go_enter func200,ntmps200;go_wp2_with(first|(go_at_call 278;refine a6 U (nD c _ YT.out) ?_;clear U;intro aaM U)|(go_at_call 201;refine Calls.mono (tw _ p ap WC n V k 0 _ U.bB aeJ ae3 J abi Wy) ?_;rintro e aaM ⟨rfl,aH,N⟩;replace U:=U.arena aH N;clear aH N)|(refine aq ?_)|(refine aT ?_;clear U;intro X8 w U aay));refine fY ?_;exact⟨rfl,U.bB,U.mW⟩
end
end
section
theorem vM{V:Nat->Int}{n k:Nat}(ae3:k<n)(h:(Wi V k).st=0)(abi: ∀j,j<k->(Wi V j).st≠0):fv V n=some k:=by
 unfold fv;rw[List.find?_range_eq_some];exact⟨by simpa using h,List.mem_range.2 ae3,fun j aeD=>by simpa using abi j aeD⟩
theorem sn{V:Nat->Int}{n:Nat}(abi: ∀j,j<n->(Wi V j).st≠0):fv V n=none:=by
 unfold fv;rw[List.find?_range_eq_none];exact fun j aeD=>by simpa using abi j aeD
end
section
open Go.RowKit
variable{w0 aaM w w':World}{S:Nat->Prop}{A W9:Option XS}{L L' L1:List abN}{e:TypeId}{sz n:Nat}{v:Value}{xs:List Value}
variable{P:Program}{o:Oper}{a:Act}{K:Act->World->Prop}{Q:Exit->Act->World->Prop}{ops:Array Oper}{rest:List Oper}
theorem aah.c6{x:abN}(h:aah w0 S w A (x::L)):aah w0 S w A L:=
 ⟨fun y hy=>h.bC y (ao _ hy),by have:=h.aed;rw[aS,bS]at this;exact this.2,fun y hy=>h.fr y (ao _ hy),h.Wu,h.VB,
   fun a e=>⟨fun y hy=>(h.WN a e).1 y (ao _ hy),fun y hy=>(h.WN a e).2.1 y (ao _ hy),(h.WN a e).2.2⟩⟩
theorem aah.open_(h:aah w0 S w A L)(adS:aaQ w0 w A L e sz v n xs)(abi:0<n): ∃g cap rest,v= .slice (some ⟨g,0,none⟩) n cap/\aah w0 S w A (⟨g,e,xs++rest⟩::L)/\w0.heap.size<=g/\n<=cap/\cap<=maxLen/\(xs++rest).length=cap*sz:=by
 rcases adS.own.2 with⟨_,YM⟩|⟨g,cap,cS,rfl,h1,aaV,ZV,Ya,afY,XX⟩
 ·omega
 ·have acA:=adS.fresh g rfl;have aal:cS=(xs++cS.toList.drop (n*sz)).toArray:=by rw[<-XX,b9]
  refine⟨g,cap,cS.toList.drop (n*sz),rfl,h.jY (by rw[<-aal];exact aaV) (fun x Wy=>acA.1.1 x Wy) (.inl h1) (fun a Xg=>⟨acA.2 a Xg,fun e=>acA.1.2 a Xg e⟩),h1,ZV,Ya,by rw[<-XX,b9,Array.length_toList];exact afY⟩
theorem aah.close_{g cap:Nat}{cs:List Value}(h:aah w0 S w A (⟨g,e,cs⟩::L))(afj:w0.heap.size<=g)(abi:n<=cap)(XP:cap<=maxLen)(YJ:cs.length=cap*sz)(Wy:cs.take (n*sz)=xs):aah w0 S w A L/\aaQ w0 w A L e sz (.slice (some ⟨g,0,none⟩) n cap) n xs:=by
 refine⟨h.c6,⟨⟨?_,.inr ⟨g,cap,cs.toArray,rfl,afj,h.bC _ a8,abi,XP,by simpa using YJ,by simpa using Wy⟩⟩,fun j aeD=>?_⟩⟩
 ·rw[<-Wy,List.length_take,YJ];exact Nat.min_eq_left (Nat.mul_le_mul_right _ abi)
 ·simp only[Value.ownBlock,Option.some.injEq]at aeD;subst aeD;have aed:=h.aed;rw[aS,bS]at aed;exact⟨⟨fun x Wy Lv=>aed.1 (List.mem_map.2 ⟨x,Wy,Lv⟩),fun a Xg vD=>(h.WN a Xg).2.1 _ a8 vD⟩,fun a Xg vD=>(h.WN a Xg).1 _ a8 vD⟩
theorem sV(h:aah w0 S w A L)(s x:Operand)(t:TypeId)(ZQ:o.op= .call {callee:=.builtin .append,args:= #[s,x],argTypes:= #[t,t]})
 (z:Value)(bytes:Nat)(afq:P.underlying t=some (.slice e))(cC:(P.info? e).map (fun i=>(i.zero,i.size,i.bytes))=some (some z,sz,bytes))(qG:z.cells.size=sz)(dI:0<sz)
 (g:Nat)(YF:a.eval s= .slice (some ⟨g,0,none⟩) n n){t':TypeId}{l6 cs:List Value}(hi:In L g t' (l6++cs))(Sk:l6.length=n*sz)
 (afF:Addr)(m c:Nat)(news:List Value)(Wy:a.eval x= .slice (some afF) m c)(YJ:news.length=m*sz)(hm:0<m)(kz: ∀j u,news[j]? =some u->w.cell? (afF.add j)=some u)(qH:n+m<=maxLen)(gR:(n+m)*bytes<=140737488355328)
 (Z7: ∀v' w',aah w0 S w' A L->aaQ w0 w' A L e sz v' (n+m) (l6++news)->K (a.put o.dst v') w'):Oper.wp P o a w K Q:=by
 obtain⟨i,lF,aeN,lG,jt⟩:=info_parts cC;have hb:=h.b hi;obtain⟨v',w',abk,aaV,ZV⟩:=run_append_arg_grows (P:=P) w t o.type e i z sz bytes afq lF aeN lG jt qG dI ⟨g,0,none⟩ n n l6 Sk (fun j u hu=>by
  rw[iL,ax,hb.cell,aE,aA (List.getElem?_eq_some_iff.1 hu).1];exact hu) afF m c news YJ kz J qH gR
 unfold Oper.wp execOp;simp only[ZQ,resolve,invoke,builtin,Sem.run_bind,Sem.run_pure,Result.andThen_ok,b8,aS,ck,YF,Wy,abk];have VW:=h.grown ZV (fun j aeD=>by cases aeD);refine Z7 v' w' VW ⟨?_,fun j aeD=>?_⟩
 ·refine⟨aaV.1,?_⟩;rcases aaV.2 with Ya|⟨Y6,cap,cS,rfl,Ya,afY⟩
  ·exact .inl Ya
  ·exact .inr ⟨Y6,cap,cS,rfl,D h.size Ya,afY⟩
 ·have:=(aaV.lt j aeD).1;refine⟨(h.hO this).2,fun a Xg vD=>?_⟩;subst Xg;have:=ar.c9 (w:=w) h.VB;omega
end
section
open Tryz
theorem vN{G:Prop}(h:G:=by
 rw[cm (by rw[iY.out];exact ai _)]at VW;have aaq:=I VW;clear VW;go_wp2_with fail;go_ret;rcases aaq.out with⟨ZQ,-⟩|⟨ZQ,VS,wo,n1,U,h1,aaV,ZV,Ya⟩
 ·exact absurd ZQ (yW abK (fun e=>by have:=iY.out;rw[e]at this;cases this))
 ·have Mc:give l m z=abK.foldl fz []:=by rw[<-uy,<-pY.out,<-BO l [] ⟨m,z⟩ mx.out (fun x h=>by cases h),br]
  rw[Mc];exact⟨VS,rfl,⟨_,U.b (g:=aff) (by exact r3),.inr ⟨wo,n1,rfl,U.b (g:=VS) (by exact cX),aaV,ZV,Ya,fun e=>by have:=U.aed;simp[e]at this⟩⟩,.inr h1,U.Wu⟩):G:=h
theorem n2{G:Prop}(h:G:=by
 have afQ:(0:Int)<=(k:Int):=by omega
 unfold pZ at LM;rw[Md]at VW;clear YF Md IQ;rcases VW with⟨ZQ,U⟩|⟨ZQ,VS,wo,n1,U,h1,aaV,ZV,Ya⟩
 ·have ry:=I ZQ;clear ZQ n3;go_wp2_with(first|(refine jE U rfl 130 _ rfl abt (k*2) 2 rfl ag _ IR.out underlying130 rfl (by kernel_rfl) ?_;refine cN ?_)|(first|(refine aq ?_)|(refine Ws U 3 ?_;clear U;intro ad2 w U j7)|(refine VP U eK ?_;clear U;intro hQ w U gU)|(refine ac2 U ?_;clear U;intro w U)));replace U:=U.drew;refine b0 ?_;intro X;refine az [[0,1,2,3,4,5,6,7,8,9,10,11,12,13,14,15,16,17,18,19,20,21,22,23]] ?_;have aaH:=U;have adS:=aaH.KK 130 2;clear U;have U:=aaH.base;go_wp2_with(first|(refine aq ?_)|(refine Ws U 3 ?_;clear U;intro ad2 w U j7)|(refine VP U eK ?_;clear U;intro hQ w U gU)|(refine ac2 U ?_;clear U;intro w U));replace U:=U.drew;refine wp_region_held_drew (S:=(c0 [⟨hQ,130,[.int .i64 x.a,.int .i64 x.z]⟩])) (by kernel_rfl) ?_ (fun X=>?_)
  ·exact U.bG (by simp)
  refine az [[0,1,2,3,5]] ?_;refine Zj [4,6] ?_;refine ea (fun K Z7=>?_) ?_
  ·refine YL U ?_;refine WE Z7 fun X=>?_;refine aF 6 fun K Z7=>?_;rw[Z (by rfl)];refine bK U 58 130 _ rfl _ [.int .i64 x.a,.int .i64 x.z] rfl rfl (.agg #[.int .i64 0,.int .i64 0]) 2 16 bw cj rfl (by decide) (by decide) ?_;clear U;intro di w U dO;refine WE Z7 fun X=>?_;refine aF 7 fun K Z7=>?_;rw[Z (by rfl)];refine gG aaH U adS rfl _ _ 58 rfl (.agg #[.int .i64 0,.int .i64 0]) 16 bw cj rfl (by decide) rfl ⟨di,0,none⟩ 1 1 [.int .i64 x.a,.int .i64 x.z] rfl rfl (U.news ag) rfl (by unfold maxLen;omega) (by omega) ?_;clear U aaH adS;intro WP w U adS;obtain⟨afC,ace,rfl⟩:=adS.form;have aaH:=U;clear U;have U:=aaH.base;refine WE Z7 fun X=>?_;refine az [[8,9],[10]] ?_;clear U;intro w U;go_wp2_with(first|(refine aq ?_)|(refine Ws U 3 ?_;clear U;intro ad2 w U j7)|(refine VP U eK ?_;clear U;intro hQ w U gU)|(refine ac2 U ?_;clear U;intro w U));go_roundw
   case rel=>
    refine⟨k+1,by omega,by go_num,?_⟩;rw[xo.out,List.foldl_append,ry.out];rw[show List.foldl fz [] [x]= [x]from rfl];have Yq:=aaH.back U;have p0:=adS.on aaH U rfl;obtain⟨p1,n4,mG,abF,adu,hR,kd,lk,fx⟩:=Yq.open_ p0 (by omega);simp only[Value.slice.injEq]at abF;obtain⟨rfl,-,rfl⟩:=abF;have qM:=adu.rz;exact .inr ⟨by simp,p1,_,mG,by simpa [bu]using qM,hR,by simpa using kd,lk,by simpa [bu]using fx⟩
   case measure=>simp[intOf];omega
  refine ei (fun K Z7=>?_);rw[Z (by rfl)];refine bK U 58 130 _ rfl _ [.int .i64 x.a,.int .i64 x.z] rfl rfl (.agg #[.int .i64 0,.int .i64 0]) 2 16 bw cj rfl (by decide) (by decide) ?_;clear U;intro di w U dO;refine WE Z7 fun X=>?_;refine aF 4 fun K Z7=>?_;refine YL U ?_;refine WE Z7 fun X=>?_;refine aF 7 fun K Z7=>?_;rw[Z (by rfl)];refine gG aaH U adS rfl _ _ 58 rfl (.agg #[.int .i64 0,.int .i64 0]) 16 bw cj rfl (by decide) rfl ⟨di,0,none⟩ 1 1 [.int .i64 x.a,.int .i64 x.z] rfl rfl (U.news ag) rfl (by unfold maxLen;omega) (by omega) ?_;clear U aaH adS;intro WP w U adS;obtain⟨afC,ace,rfl⟩:=adS.form;have aaH:=U;clear U;have U:=aaH.base;refine WE Z7 fun X=>?_;refine az [[8,9],[10]] ?_;clear U;intro w U;go_wp2_with(first|(refine aq ?_)|(refine Ws U 3 ?_;clear U;intro ad2 w U j7)|(refine VP U eK ?_;clear U;intro hQ w U gU)|(refine ac2 U ?_;clear U;intro w U));go_roundw
  case rel=>
   refine⟨k+1,by omega,by go_num,?_⟩;rw[xo.out,List.foldl_append,ry.out];rw[show List.foldl fz [] [x]= [x]from rfl];have Yq:=aaH.back U;have p0:=adS.on aaH U rfl;obtain⟨p1,n4,mG,abF,adu,hR,kd,lk,fx⟩:=Yq.open_ p0 (by omega);simp only[Value.slice.injEq]at abF;obtain⟨rfl,-,rfl⟩:=abF;have qM:=adu.rz;exact .inr ⟨by simp,p1,_,mG,by simpa [bu]using qM,hR,by simpa using kd,lk,by simpa [bu]using fx⟩
  case measure=>simp[intOf];omega
 ·obtain⟨out,wq⟩: ∃out,pre.foldl fz []=out:=⟨_,rfl⟩
  rw[wq]at ZQ U aaV Ya n3;rcases kh out with rfl|⟨o',y,rfl⟩
  ·exact absurd rfl ZQ
  obtain⟨adL,lH⟩: ∃adL,o'.length=adL:=⟨_,rfl⟩
  have O6:(o'++ [y]).length=adL+1:=by rw[ak,lH];rfl
  have O7:=n3.1 y (by simp);have uz:=n3.2;rw[O6]at U aaV uz;rw[dS,aJ]at U Ya;unfold pZ at O7;have ry:=I wq;have AK:=I lH;have fV:=I (show(bu o').length=adL*2 by rw[e3,lH]);have O8:=I h1;have O9:=I aaV;have Pa:=I ZV;have Pb:=I Ya;have T6:adL+1<=k:=by simpa [ih]using uz
  have aeB:IntKind.i64.wrap ((adL:Int)+1-1)=(adL:Int):=by rw[IntKind.wrap_i64];omega
  have Wa:decide ((adL:Int)≥0)=true:=by simp
  have abh:(adL:Int)<(adL:Int)+1:=by omega
  have agc:(0:Int)<=(adL:Int):=by omega
  have ab5:IntKind.i64.wrap (y.a+y.z)=y.a+y.z:=by rw[IntKind.wrap_i64];omega
  clear ZQ n3 wq lH O6 uz h1 aaV ZV Ya;change aah w0 _ _ none [⟨VS,130,bu o'++(.int .i64 y.a:: .int .i64 y.z::n1)⟩,_,_]at U;by_cases aeD:y.a+y.z=x.a
  ·have xp:=I aeD;have Z6:(y.a+y.z==x.a)=true:=by simpa using aeD
   have ad9:IntKind.i64.wrap (y.z+x.z)=y.z+x.z:=by rw[IntKind.wrap_i64];omega
   clear aeD;go_wp2_with(first|(refine jE U rfl 130 _ rfl abt (k*2) 2 rfl ag _ IR.out underlying130 rfl (by kernel_rfl) ?_;refine cN ?_)|(first|(refine aq ?_)|(refine Ws U 3 ?_;clear U;intro ad2 w U j7)|(refine VP U eK ?_;clear U;intro hQ w U gU)|(refine ac2 U ?_;clear U;intro w U)));replace U:=U.drew;refine b0 ?_;intro X;refine az [[0,1,2,3,4,5,6,7,8,9]] ?_;first|(refine afk 10 ?_)|(refine eE 10 rfl (cb (by rfl) 3 _ rfl VS (adL*2) rfl (c0.at_ ag) _ (rv fV.out) underlying3 rfl) ?_)
   refine az [[11,12,13,14,15,16,17]] ?_;first|(refine afk 18 ?_)|(refine eE 18 rfl (cb (by rfl) 3 _ rfl VS (adL*2+1) rfl (c0.at_ ag) _ (rx fV.out) underlying3 rfl) ?_)
   refine az [[19,20,21,22,23]] ?_;go_wp2_with(first|(refine aq ?_)|(refine Ws U 3 ?_;clear U;intro ad2 w U j7)|(refine VP U eK ?_;clear U;intro hQ w U gU)|(refine ac2 U ?_;clear U;intro w U));replace U:=U.drew;refine wp_region_held_drew (S:=(c0 [⟨hQ,130,[.int .i64 x.a,.int .i64 x.z]⟩,⟨aff,363,[.int .i64 a4,.int .i64 aaY,.slice (some ⟨VS,0,none⟩) (adL+1) wo]⟩])) (by kernel_rfl) ?_ (fun X=>?_)
   ·exact U.bG (by simp)
   refine az [[0,1,2,3,4,5,6,8,9]] ?_;refine aF 7 fun K Z7=>?_;rw[Z (by rfl)];refine bU U 3 _ rfl VS (adL*2+1) rfl ag _ (rx fV.out) underlying3 rfl ?_;refine WE Z7 fun X=>?_;refine az [[10,11,12]] ?_;refine aF 13 fun K Z7=>?_;rw[Z (by rfl)];refine ev U 3 _ _ rfl VS (adL*2+1) _ _ rfl rfl rfl cf (by have:=fV.out;simp;omega) (by kernel_rfl) (by first|rfl|(simp[*];done)) ?_;clear U;intro w U;rw[AG fV.out]at U;refine WE Z7 fun X=>?_;refine adB ?_;dsimp only[Exit.then]
   apply_assumption
   go_wp2_with fail;go_roundw
   case rel=>
    refine⟨k+1,by omega,by go_num,?_⟩;rw[xo.out,List.foldl_append,ry.out];rw[show List.foldl fz (o'++ [y]) [x]=o'++ [⟨y.a,y.z+x.z⟩]from by rw[dy,iB,Z xp.out];rfl];have adu:=U.c6;exact .inr ⟨by simp,VS,wo,n1,by rw[dS,aJ,ak,AK.out];exact adu,O8.out,by rw[ak,AK.out];exact O9.out,Pa.out,by have:=Pb.out;simp[dS,e3,eS]at this⊢;omega⟩
   case measure=>simp[intOf];omega
  ·have xp:=I aeD;have Z6:(y.a+y.z==x.a)=false:=by simpa using aeD
   clear aeD;go_wp2_with(first|(refine jE U rfl 130 _ rfl abt (k*2) 2 rfl ag _ IR.out underlying130 rfl (by kernel_rfl) ?_;refine cN ?_)|(first|(refine aq ?_)|(refine Ws U 3 ?_;clear U;intro ad2 w U j7)|(refine VP U eK ?_;clear U;intro hQ w U gU)|(refine ac2 U ?_;clear U;intro w U)));replace U:=U.drew;refine b0 ?_;intro X;refine az [[0,1,2,3,4,5,6,7,8,9]] ?_;first|(refine afk 10 ?_)|(refine eE 10 rfl (cb (by rfl) 3 _ rfl VS (adL*2) rfl (c0.at_ ag) _ (rv fV.out) underlying3 rfl) ?_)
   refine az [[11,12,13,14,15,16,17]] ?_;first|(refine afk 18 ?_)|(refine eE 18 rfl (cb (by rfl) 3 _ rfl VS (adL*2+1) rfl (c0.at_ ag) _ (rx fV.out) underlying3 rfl) ?_)
   refine az [[19,20,21,22,23]] ?_;have Cp:=U.swap;obtain⟨aaH,adS⟩:=Cp.close_ O8.out O9.out Pa.out Pb.out (n:=adL+1) (xs:=bu (o'++ [y])) (by rw[show bu o'++(.int .i64 y.a:: .int .i64 y.z::n1)=bu (o'++ [y])++n1 from by rw[dS,aJ];rfl];exact List.take_left' (by rw[e3,ak,AK.out];rfl));clear U Cp;have U:=aaH.base;go_wp2_with(first|(refine aq ?_)|(refine Ws U 3 ?_;clear U;intro ad2 w U j7)|(refine VP U eK ?_;clear U;intro hQ w U gU)|(refine ac2 U ?_;clear U;intro w U));replace U:=U.drew;refine wp_region_held_drew (S:=(c0 [⟨hQ,130,[.int .i64 x.a,.int .i64 x.z]⟩])) (by kernel_rfl) ?_ (fun X=>?_)
   ·exact U.bG (by simp)
   refine az [[0,1,2,3,5]] ?_;refine Zj [4,6] ?_;refine ea (fun K Z7=>?_) ?_
   ·refine YL U ?_;refine WE Z7 fun X=>?_;refine aF 6 fun K Z7=>?_;rw[Z (by rfl)];refine bK U 58 130 _ rfl _ [.int .i64 x.a,.int .i64 x.z] rfl rfl (.agg #[.int .i64 0,.int .i64 0]) 2 16 bw cj rfl (by decide) (by decide) ?_;clear U;intro di w U dO;refine WE Z7 fun X=>?_;refine aF 7 fun K Z7=>?_;rw[Z (by rfl)];refine gG aaH U adS rfl _ _ 58 rfl (.agg #[.int .i64 0,.int .i64 0]) 16 bw cj rfl (by decide) rfl ⟨di,0,none⟩ 1 1 [.int .i64 x.a,.int .i64 x.z] rfl rfl (U.news ag) rfl (by unfold maxLen;omega) (by omega) ?_;clear U aaH adS;intro WP w U adS;obtain⟨afC,ace,rfl⟩:=adS.form;have aaH:=U;clear U;have U:=aaH.base;refine WE Z7 fun X=>?_;refine az [[8,9],[10]] ?_;clear U;intro w U;go_wp2_with(first|(refine aq ?_)|(refine Ws U 3 ?_;clear U;intro ad2 w U j7)|(refine VP U eK ?_;clear U;intro hQ w U gU)|(refine ac2 U ?_;clear U;intro w U));go_roundw
    case rel=>
     refine⟨k+1,by omega,by go_num,?_⟩;rw[xo.out,List.foldl_append,ry.out];rw[show List.foldl fz (o'++ [y]) [x]=(o'++ [y])++ [x]from by rw[dy,iB,Y xp.out];rfl];have Yq:=aaH.back U;have p0:=adS.on aaH U rfl;obtain⟨p1,n4,mG,abF,adu,hR,kd,lk,fx⟩:=Yq.open_ p0 (by omega);simp only[Value.slice.injEq]at abF;obtain⟨rfl,-,rfl⟩:=abF;have qM:=adu.rz;exact .inr ⟨by simp,p1,_,mG,by rw[dS,ak,ak,AK.out];exact qM,hR,by rw[ak,ak,AK.out];exact kd,lk,by rw[dS];exact fx⟩
    case measure=>simp[intOf];omega
   refine ei (fun K Z7=>?_);rw[Z (by rfl)];refine bK U 58 130 _ rfl _ [.int .i64 x.a,.int .i64 x.z] rfl rfl (.agg #[.int .i64 0,.int .i64 0]) 2 16 bw cj rfl (by decide) (by decide) ?_;clear U;intro di w U dO;refine WE Z7 fun X=>?_;refine aF 4 fun K Z7=>?_;refine YL U ?_;refine WE Z7 fun X=>?_;refine aF 7 fun K Z7=>?_;rw[Z (by rfl)];refine gG aaH U adS rfl _ _ 58 rfl (.agg #[.int .i64 0,.int .i64 0]) 16 bw cj rfl (by decide) rfl ⟨di,0,none⟩ 1 1 [.int .i64 x.a,.int .i64 x.z] rfl rfl (U.news ag) rfl (by unfold maxLen;omega) (by omega) ?_;clear U aaH adS;intro WP w U adS;obtain⟨afC,ace,rfl⟩:=adS.form;have aaH:=U;clear U;have U:=aaH.base;refine WE Z7 fun X=>?_;refine az [[8,9],[10]] ?_;clear U;intro w U;go_wp2_with(first|(refine aq ?_)|(refine Ws U 3 ?_;clear U;intro ad2 w U j7)|(refine VP U eK ?_;clear U;intro hQ w U gU)|(refine ac2 U ?_;clear U;intro w U));go_roundw
   case rel=>
    refine⟨k+1,by omega,by go_num,?_⟩;rw[xo.out,List.foldl_append,ry.out];rw[show List.foldl fz (o'++ [y]) [x]=(o'++ [y])++ [x]from by rw[dy,iB,Y xp.out];rfl];have Yq:=aaH.back U;have p0:=adS.on aaH U rfl;obtain⟨p1,n4,mG,abF,adu,hR,kd,lk,fx⟩:=Yq.open_ p0 (by omega);simp only[Value.slice.injEq]at abF;obtain⟨rfl,-,rfl⟩:=abF;have qM:=adu.rz;exact .inr ⟨by simp,p1,_,mG,by rw[dS,ak,ak,AK.out];exact qM,hR,by rw[ak,ak,AK.out];exact kd,lk,by rw[dS];exact fx⟩
   case measure=>simp[intOf];omega):G:=h
theorem n5{G:Prop}(h:G:=by
 replace U:=U.drew;refine b0 ?_;intro X;refine az [[0,1,2,3,4,5,6,7,8,9,10,11,12,13,14,15,16,17,18,19,20]] ?_;go_wp2_with(first|(refine aq ?_)|(refine Ws U 3 ?_;clear U;intro ad2 w U j7)|(refine VP U eK ?_;clear U;intro hQ w U gU)|(refine ac2 U ?_;clear U;intro w U));replace U:=U.drew;refine b0 ?_;intro X;refine az [[0,1,2,3,4,5,6,7,8,9]] ?_;refine aF 10 fun K Z7=>?_;rw[Z (by rfl)];refine bK U 58 130 _ rfl _ [.int .i64 m,.int .i64 z] rfl rfl (.agg #[.int .i64 0,.int .i64 0]) 2 16 bw cj rfl (by decide) (by decide) ?_;clear U;intro di w U dO;refine abR Z7 fun X=>?_;refine aF 11 fun K Z7=>?_;rw[Z (by rfl)];refine sV U _ _ 58 rfl (.agg #[.int .i64 0,.int .i64 0]) 16 bw cj rfl (by decide) rg rfl ag Pc.out ⟨di,0,none⟩ 1 1 [.int .i64 m,.int .i64 z] rfl rfl (by decide) (U.news ag) (by unfold maxLen;omega) (by omega) ?_;clear U;intro WP w U adS;obtain⟨afC,ace,rfl⟩:=adS.form;refine abR Z7 fun X=>?_;refine Xh 12 ?_;refine adB ?_;dsimp only[Exit.then]
 apply_assumption
 have aaH:=U;clear U;have U:=aaH.base;go_wp2_with(first|(refine gZ aaH U adS rfl rfl _ _ 58 rfl (.agg #[.int .i64 0,.int .i64 0]) 16 bw cj rfl (by decide) rfl _ _ _ rfl (show acr _ (fun _=>True) _ 0 2 (fun _=> [.int .i64 0,.int .i64 0])from⟨_,_,rfl,aL _,by unfold maxLen;omega,fun h=>absurd h (by decide)⟩) (fun i h=>absurd h (by omega)) (by unfold maxLen;omega) (by omega) ?_;clear U aaH adS;intro WP w U adS;obtain⟨aaA,Zo,rfl⟩:=adS.form;have aaH:=U;clear U;have U:=aaH.base)|(refine aq ?_)|(refine Ws U 3 ?_;clear U;intro ad2 w U j7)|(refine VP U eK ?_;clear U;intro hQ w U gU)|(refine ac2 U ?_;clear U;intro w U));have Yq:=aaH.back U;have p0:=adS.on aaH U rfl;clear aaH U adS;obtain⟨abt,n4,iq,abF,adu,Sl,kd,lk,fx⟩:=Yq.open_ p0 (by omega);simp only[Value.slice.injEq]at abF;obtain⟨rfl,-,rfl⟩:=abF;clear Yq p0;have bo:abt≠aff:=by have:=adu.aed;simp only[aS,ck,bS,ad,not_or]at this;exact this.1.2.2.1
 have VW:=adu.b (g:=aff) (by exact N6);have qM:=adu.drop (L':= [⟨abt,_,_⟩,⟨aff,_,_⟩]) (fun x Wy=>by rcases List.mem_cons.1 Wy with rfl|Wy;exact a8;rcases List.mem_cons.1 Wy with rfl|Wy;exact ao _ (ao _ (ao _ a8));cases Wy) (by simpa using bo);clear adu VW;rw[show(bu l++ [.int .i64 m,.int .i64 z]++bx 0 2 fun _=> [.int .i64 0,.int .i64 0])++iq=bu (l++ [Ext.mk m z])++iq from by rw[dS];simp[bx,bu]]at qM;have AL:=I qM;clear qM;obtain⟨abK,pY⟩: ∃abK,Hid (l++ [Ext.mk m z]=abK):=⟨_,I rfl⟩
 rw[pY.out]at AL;have iY:=I (show abK.length=n+1 by rw[<-pY.out,ak,fH.out];rfl);have Fx:=I (show∀y,y∈abK->pZ y by intro y hy;rw[<-pY.out]at hy;rcases List.mem_append.1 hy with hy|hy;have:=VN.out y hy;unfold pZ;omega;rw[List.mem_singleton.1 hy];unfold pZ;dsimp only;omega);go_loopw [107] (fun i wr=> ∃k:Nat,k<=n+1/\i= .int .i64 k/\BP w0 aff rg abt a4 aaY (bu abK++iq) ((abK.take k).foldl fz []) wr) (fun i _=>n+1-(intOf i).toNat)
 case atStart=>exact⟨0,by omega,rfl,.inl ⟨rfl,AL.out⟩⟩
 case round=>
  obtain⟨k,ae3,rfl,VW⟩:=hrel;by_cases ip:k<n+1
  ·obtain⟨pre,x,post,YF,ih,Md,IQ⟩:=so abK k (by rw[iY.out];exact ip);have IR:=I (show((bu abK++iq).drop (k*2)).take 2= [.int .i64 x.a,.int .i64 x.z]from by rw[YF];exact wu ih);have LM:=Fx.out x (by rw[YF];simp);have n3:=yX pre [] (fun y hy=>(by cases hy)) (fun y hy=>Fx.out y (by rw[YF];simp[hy]));have xo:=I IQ;have aaX:(k:Int)<((n+1:Nat):Int):=by omega
   have Sm:(k:Int)<(n:Int)+1:=by omega
   exact n2
  ·obtain rfl:k=n+1:=by omega
   exact vN):G:=h
def BP(w0:World)(aff rg abt:Nat)(a4 aaY:Int)(Pd:List Value)(out:List Ext)(w:World):Prop:=
 out= []/\aah w0 (fun b=>b≠aff/\b≠rg) w none [⟨abt,130,Pd⟩,⟨aff,363,[.int .i64 a4,.int .i64 aaY,.slice none 0 0]⟩]\/
 out≠ []/\∃VS cap rest,aah w0 (fun b=>b≠aff/\b≠rg) w none [⟨VS,130,bu out++rest⟩,⟨abt,130,Pd⟩,⟨aff,363,[.int .i64 a4,.int .i64 aaY,.slice (some ⟨VS,0,none⟩) out.length cap]⟩]/\
  w0.heap.size<=VS/\out.length<=cap/\cap<=maxLen/\(bu out++rest).length=cap*2
def fz(out:List Ext)(x:Ext):List Ext:=match out.getLast? with
 |none=>out++ [x]
 |some y=>if y.a+y.z=x.a then out.dropLast++ [⟨y.a,y.z+x.z⟩]else out++ [x]
theorem qN(x:Ext):fz [] x= [x]:=rfl
theorem iB(o:List Ext)(y x:Ext):fz (o++ [y]) x=if y.a+y.z=x.a then o++ [⟨y.a,y.z+x.z⟩]else(o++ [y])++ [x]:=by
 unfold fz;rw[List.getLast?_concat,List.dropLast_concat]
theorem AM(l:List Ext): ∀(o:List Ext) (x:Ext),l.foldl fz (o++ [x])=o++lY x l:=by
 induction l with
 |nil=>intro o x;rfl
 |cons y l aes=>
  intro o x;rw[dy,iB,lY];split
  ·exact aes o _
  ·rw[aes (o++ [x]) y,aJ];rfl
theorem uy(l:List Ext)(a z:Int):(q6 l ⟨a,z⟩).foldl fz []=give l a z:=by
 unfold give;cases h:q6 l ⟨a,z⟩with
 |nil=>rfl
 |cons x l'=>rw[dy,qN];exact AM l' [] x
theorem BO(pre post:List Ext)(y:Ext)(h1: ∀x,x∈pre->x.a+x.z<=y.a)(aaV: ∀x,post.head?=some x->y.a<x.a+x.z):q6 (pre++post) y=pre++y::post:=by
 induction pre with
 |nil=>
  cases post with
  |nil=>rfl
  |cons x post=>rw[au,q6,Z (aaV x rfl)];rfl
 |cons x pre aes=>
  rw[aU,q6,Y (by have:=h1 x a8;omega),aes fun z aeN=>h1 z (ao _ aeN)];rfl
theorem Fy(l:List Ext)(a:Int): ∃pre post,l=pre++post/\(∀x,x∈pre->x.a+x.z<=a)/\∀x,post.head?=some x->a<x.a+x.z:=by
 induction l with
 |nil=>exact⟨[],[],rfl,fun x h=>(by cases h),fun x h=>by simp at h⟩
 |cons y l aes=>
  by_cases c:a<y.a+y.z
  ·exact⟨[],y::l,rfl,fun x h=>(by cases h),fun x h=>by simp at h;rw[<-h];exact c⟩
  ·obtain⟨pre,post,rfl,h1,aaV⟩:=aes;refine⟨y::pre,post,rfl,fun x Wy=>?_,aaV⟩;rcases List.mem_cons.1 Wy with rfl|Wy
   ·omega
   ·exact h1 x Wy
theorem wv{l:List Ext}{n:Nat}{m r:Int}(YJ:l.length=n)(dU: ∀y,y∈l->y.a+y.z<=m)(h:r= -1/\(∀i,i<n->(decide (m<(l.getD i ⟨0,0⟩).a+(l.getD i ⟨0,0⟩).z))=false)\/∃i:Nat,r=i/\i<n/\decide (m<(l.getD i ⟨0,0⟩).a+(l.getD i ⟨0,0⟩).z)=true/\∀j,j<i->decide (m<(l.getD j ⟨0,0⟩).a+(l.getD j ⟨0,0⟩).z)=false):r= -1:=by
 exact nT
section
variable{w0 w:World}{S:Nat->Prop}{A:Option XS}
include w0 w S A
theorem aah.KK{L:List abN}(h:aah w0 S w A L)(e:TypeId)(sz:Nat):aaQ w0 w A L e sz (.slice none 0 0) 0 []:=aaQ.nil _ _ _ _ _ _
theorem aah.rz{a b c d e:abN}(h:aah w0 S w A [a,b,c,d,e]):aah w0 S w A [a,d,e]:=h.swap.c6.swap.c6
theorem aah.Me{a b c d e:abN}(h:aah w0 S w A [a,b,c,d,e]):aah w0 S w A [a,d]:=by
 have aaV:=h.rz;refine aaV.drop (fun x Wy=>?_) ?_
 ·simp only[ad,E,av]at Wy⊢;rcases Wy with rfl|rfl<;>simp
 ·have:=aaV.aed;simp only[aS,ck,bS,ad,E,av,not_or,not_false_eq_true,List.nodup_nil,and_true]at this⊢;exact this.1.1
end
theorem yW(l:List Ext)(h:l≠ []):l.foldl fz []≠ []:=by
 rcases ct l with rfl|⟨o',y,rfl⟩
 ·exact absurd rfl h
 ·rw[cu,List.foldl_append];show fz _ y≠ [];unfold fz;split
  ·simp
  ·split<;>simp
theorem Fz{w:World}{rg p c:Nat}{pre l:List Ext}{rest:List Value}(h:ah w rg 130 (bu pre++(bu l++rest)).toArray)(aeJ:pre.length=p)(h1:l.length<=c)(aaV:c<=maxLen):acr w (fun b=>b=rg) (.slice (some ⟨rg,p*2,none⟩) l.length c) l.length 2 (eP l):=
 ⟨_,_,rfl,h1,aaV,fun _=>⟨rg,p*2,rfl,rfl,h.lt,fun i j u hi hu=>by
   have ZV:=sk l i j u hi hu
   rw[h.cell,aE,ay (by rw[e3,aeJ];omega),e3,aeJ,show p*2+(i*2+j)-p*2=i*2+j from J,aA (List.getElem?_eq_some_iff.1 ZV).1]
   exact ZV⟩⟩
theorem yY(l:List Ext):bx l.length 2 (eP l)=bu l:=by
 apply List.ext_getElem?;intro j;by_cases c:j<l.length*2
 ·have hi:j/2<l.length:=by omega
  obtain⟨a,b,e,_⟩:=iA l (j/2) hi;have hu: ∃u,(eP l (j/2))[j %2]? =some u:=by
   rw[e];rcases(by omega:j %2=0\/j %2=1)with h|h<;>rw[h]<;>exact⟨_,rfl⟩
  obtain⟨u,hu⟩:=hu;have h1:=pO (F:=eP l) (n:=l.length) (sz:=2) (fun i hi=>(kn l l.length i hi).1) hi hu;have aaV:=sk l (j/2) (j %2) u hi hu;rw[show j/2*2+j %2=j from J]at h1 aaV;rw[h1,aaV]
 ·rw[aV (by rw[cv];omega),aV (by rw[e3];omega)]
theorem kh{α:Type}(o:List α):o= []\/∃o' y,o=o'++ [y]:=by
 rcases ct o with h|⟨o',y,h⟩
 ·exact .inl h
 ·exact .inr ⟨o',y,by rw[h,cu]⟩
theorem so{α:Type}(l:List α)(k:Nat)(h:k<l.length): ∃pre x post,l=pre++x::post/\pre.length=k/\l.take k=pre/\l.take (k+1)=pre++ [x]:=by
 refine⟨l.take k,l[k],l.drop (k+1),?_,by simp;omega,rfl,?_⟩
 ·rw[List.getElem_cons_drop,b9]
 ·rw[List.take_add_one,an h];rfl
theorem wu{pre post:List Ext}{x:Ext}{rest:List Value}{k:Nat}(h:pre.length=k):((bu (pre++x::post)++rest).drop (k*2)).take 2= [.int .i64 x.a,.int .i64 x.z]:=by
 rw[dS,aJ,List.drop_left' (by rw[e3,h]),eS];rfl
def pZ(y:Ext):Prop:=0<=y.a/\y.a<=65536/\0<=y.z/\y.a+y.z<=131072
theorem CP{o:List Ext}{x:Ext}(ZQ: ∀y,y∈o->pZ y)(Wy:pZ x): ∀y,y∈fz o x->pZ y:=by
 rcases kh o with rfl|⟨o',y,rfl⟩
 ·intro z aeN;rw[qN]at aeN;rw[List.mem_singleton.1 aeN];exact Wy
 ·rw[iB];have hy:=ZQ y aN;split
  ·rename_i c;intro z aeN;rcases List.mem_append.1 aeN with aeN|aeN
   ·exact ZQ z (by simp[aeN])
   ·rw[List.mem_singleton.1 aeN];unfold pZ at*;exact⟨hy.1,hy.2.1,by show 0<=y.z+x.z;omega,by show y.a+(y.z+x.z)<=_;omega⟩
  ·intro z aeN;rcases List.mem_append.1 aeN with aeN|aeN
   ·exact ZQ z aeN
   ·rw[List.mem_singleton.1 aeN];exact Wy
theorem AN(o:List Ext)(x:Ext):(fz o x).length<=o.length+1:=by
 rcases kh o with rfl|⟨o',y,rfl⟩
 ·simp[qN]
 ·rw[iB];split<;>simp
theorem yX(l:List Ext): ∀o,(∀y,y∈o->pZ y)->(∀y,y∈l->pZ y)->(∀y,y∈l.foldl fz o->pZ y)/\(l.foldl fz o).length<=o.length+l.length:=by
 induction l with
 |nil=>intro o h _;exact⟨h,aN⟩
 |cons x l aes=>
  intro o h aaV;have ZV:=aes (fz o x) (CP h (aaV x aN)) (fun y hy=>aaV y (by simp[hy]));have:=AN o x;refine⟨ZV.1,?_⟩;rw[dy,aI];omega
theorem CQ{pre post:List Ext}{x:Ext}{p n:Nat}{m r:Int}(aeJ:pre.length=p)(abi:p<n)(ed:m<x.a+x.z)(dU: ∀y,y∈pre->y.a+y.z<=m)(h:r= -1/\(∀i,i<n->(decide (m<((pre++x::post).getD i ⟨0,0⟩).a+((pre++x::post).getD i ⟨0,0⟩).z))=false)\/∃i:Nat,r=i/\i<n/\decide (m<((pre++x::post).getD i ⟨0,0⟩).a+((pre++x::post).getD i ⟨0,0⟩).z)=true/\∀j,j<i->decide (m<((pre++x::post).getD j ⟨0,0⟩).a+((pre++x::post).getD j ⟨0,0⟩).z)=false):r=p:=by
 have Wy:(pre++x::post).getD p ⟨0,0⟩=x:=by
  rw[ae,ay J,aeJ,Nat.sub_self];rfl
 have bV: ∀i,i<p->((pre++x::post).getD i ⟨0,0⟩).a+((pre++x::post).getD i ⟨0,0⟩).z<=m:=fun i hi=>by
  exact nU
 exact nV
end
section
open Go.RowKit
abbrev gh(p:afy)(Y8:Value)(ap aff:Nat)(acc Z2:Value)(st:Int):List Value:= [.int .i64 p.s,.int .i64 p.t,.int .i64 p.i,.int .i64 p.h,Y8,.pointer (some ⟨ap,0,none⟩),.pointer (some ⟨aff,0,none⟩),acc,Z2,.int .i64 st]
abbrev fI(aa3 aep VZ:Value)(r:aax)(x:Yr)(busy:Bool)(aK:Nat):List Value:= [aa3,aep,VZ,
 .int .u8 r.call.op,.int .u8 r.call.r,.int .u8 r.call.h,.int .u8 r.call.v,.int .i64 r.call.a,.int .i64 r.call.b,.int .i64 r.call.c,
 .int .i64 r.Xj,.int .i64 r.af,.int .u64 r.hand,.int .u64 r.val,x.ads,.int .u64 r.word,.int .u64 r.next,.int .i64 r.at_,.int .i64 r.top,x.ls,.int .i64 r.op,x.Wh,.int .i64 r.n,.bool r.held,.bool r.fin,.bool r.bF,
 .int .i64 r.aC.code,.int .i64 r.aC.n,x.Y1,.bool busy,.int .i64 aK]
theorem ah.ne{w:World}{a b:Nat}{s t:TypeId}{cs ds:Array Value}(h:ah w a s cs)(k:ah w b t ds)(abi:s≠t):a≠b:=fun e=>by
 subst e;have:=Option.some.inj (h.symm.trans k);injection this with _ aaV
 exact abi aaV
section
variable{w0 w aaM w':World}{S:Nat->Prop}{L:List abN}{aeh ap WC n aff rg aO:Nat}{V V2:Nat->Int}{t:TypeId}{cs:List Value}
theorem aah.found(h:aah w0 (fun b=>b≠aeh) w none L)(aH:ar aaM ap WC n V2)(Xg:ar w0 ap WC n V)(bV:aff<w0.heap.size/\rg<w0.heap.size)(dK:ap≠aff/\ap≠rg/\WC≠aff/\WC≠rg)(afl:aeh≠ap/\aeh≠WC/\aeh≠aff/\aeh≠rg)
 (k:Z1 (fun b=>b≠WC/\b≠aff/\b≠rg) w aaM)(cT:aO=rg\/w.heap.size<=aO):
 aah w0 (fun b=>b≠aeh/\b≠WC/\b≠aff/\b≠rg) aaM (some ⟨ap,WC,n,V2⟩) L/\bq (some ⟨ap,WC,n,V2⟩) L aff/\bq (some ⟨ap,WC,n,V2⟩) L aO:=by
 have YJ:=ar.c9 Xg;obtain⟨aeB,Wa,abh,agc⟩:=dK;have l5:aO≠WC:=by
  rcases cT with c|c
  ·rw[c];exact fun e=>agc e.symm
  ·have:=h.size;omega
 have hY: ∀x,x∈L->x.g≠ap/\x.g≠WC/\x.g≠aff/\x.g≠rg:=fun x Wy=>by
  rcases h.fr x Wy with c|c
  ·exact⟨J,J,J,J⟩
  ·have:x.g=aeh:=Classical.byContradiction c;rw[this];exact afl
 refine⟨⟨fun x Wy=>?_,h.aed,fun x Wy=>?_,⟨k.os.trans h.Wu.os,k.tape.trans h.Wu.tape,k.output.trans h.Wu.output,D h.Wu.size k.size,fun b hb YF=>?_⟩,aH,fun a e=>?_⟩,⟨fun x Wy e=>(hY x Wy).2.2.1 e,fun a e abF=>?_⟩,⟨fun x Wy e=>?_,fun a e abF=>?_⟩⟩
 ·have:=hY x Wy;exact(k.block x.g (h.bC x Wy).lt ⟨this.2.1,this.2.2.1,this.2.2.2⟩).trans (h.bC x Wy)
 ·rcases h.fr x Wy with c|c
  ·exact .inl c
  ·exact .inr fun YF=>c YF.1
 ·exact(k.block b (aj hb h.Wu.size) YF.2).trans (h.Wu.block b hb YF.1)
 ·cases e;exact⟨fun x Wy=>(hY x Wy).1,fun x Wy=>(hY x Wy).2.1,.inr fun YF=>YF.2.1 rfl⟩
 ·cases e;exact abh abF.symm
 ·rcases cT with rfl|cT
  ·exact(hY x Wy).2.2.2 e
  ·have:=(h.bC x Wy).lt;omega
 ·cases e;exact l5 abF
theorem aah.rA{XY:aax}{x:Yr}(h:aah w0 (fun b=>b≠aeh) w none L)(bv:aW aaM (fun b=>(S b\/w.heap.size<=b)/\b≠WC/\b≠aff/\b≠aO) XY x)(hS: ∀b,S b->b<w0.heap.size/\b≠aeh):
 aW aaM (fun b=>((S b\/w0.heap.size<=b)/\b≠WC/\b≠aff/\b≠aO)/\bq (some ⟨ap,WC,n,V2⟩) L b) XY x:=
 bv.mono fun b _ hb=>by
  refine⟨⟨hb.1.imp id fun aaV=>D h.size aaV,hb.2⟩,fun y hy e=>?_,fun a e abF=>?_⟩
  ·rcases hb.1 with YF|YF
   ·have:=hS b YF
    rcases h.fr y hy with c|c
    ·omega
    ·exact c (by rw[e];exact this.2)
   ·have:=(h.bC y hy).lt;omega
  ·cases e;exact hb.2.1 abF
theorem aah.Pe(h:aah w0 (fun b=>b≠aeh/\b≠WC/\b≠aff/\b≠rg) w (some ⟨ap,WC,n,V2⟩) L)(hb:ah w0 aeh t cs.toArray)(hi:In L aeh t cs):Z1 (fun b=>b≠WC/\b≠aff/\b≠rg) w0 w:=
 ⟨h.Wu.os,h.Wu.tape,h.Wu.output,h.Wu.size,fun b be YF=>by
   by_cases c:b=aeh
   ·subst c
    exact(show w.heap[b]? =_ from h.bC _ hi.mem).trans (show w0.heap[b]? =_ from hb).symm
   ·exact h.Wu.block b be ⟨c,YF⟩⟩
end
end
section
open Go.RowKit Tryz
theorem n6{G:Prop}(h:G:=by
 rw[Pf]at U aav;clear Pf ga;go_enter func105,ntmps105;go_wp2_with(first|(refine aq ?_));go_ret;exact⟨rfl,U.ro aav.out ag⟩):G:=h
structure WB where
 aeh:Nat
 ap:Nat
 WC:Nat
 aff:Nat
 rg:Nat
 VS:Nat
 Y8:Value
 acc:Value
 Z2:Value
 Vs:Nat->Value
 aaF:Nat->Nat
 YS:Nat->Nat
 aa3:Nat->Value
 VZ:Nat->Value
 x:Nat->Yr
 Yi:Nat->Prop
def afi(B:WB)(T b:Nat):Prop:=b=B.aeh\/b=B.ap\/b=B.WC\/b=B.aff\/b=B.rg\/b=B.VS\/∃i,i<T/\(b=B.aaF i\/b=B.YS i)
abbrev aaJ(B:WB)(T:Nat):Nat->Prop:=fun b=> ¬afi B T b
abbrev aek(B:WB)(T:Nat):Nat->Prop:=fun b=> ¬afi B T b/\B.Yi b
def yZ(l:List dM)(i:Nat):List Value:=(l[i]?.map fun c=>(hP c).toList).getD []
abbrev vO(w:World)(S:Nat->Prop)(v:Value)(l:List dM):Prop:=acr w S v l.length 7 (yZ l)
def dN(o:db)(v:Value):List Value:= [.int .i64 o.XT,.int .u8 o.call.op,.int .u8 o.call.r,.int .u8 o.call.h,.int .u8 o.call.v,.int .i64 o.call.a,.int .i64 o.call.b,.int .i64 o.call.c,.int .i64 o.fr,.int .i64 o.pt,.int .i64 o.e2,.int .i64 o.aC.code,.int .i64 o.aC.n,v]
theorem kK(o:db)(v:Value):(dN o v).length=14:=rfl
def opsV(l:List (db×Value)):List Value:=l.flatMap fun q=>dN q.1 q.2
def ll(l:List (db×Value))(i:Nat):List Value:=(l[i]?.map fun q=>dN q.1 q.2).getD []
structure fp(w:World)(S:Nat->Prop)(aaF YS:Nat)(aa3 VZ:Value)(x:Yr)(t:eD):Prop where
 bC:ah w aaF 200 (fI aa3 (.slice (some ⟨YS,0,none⟩) 4 4) VZ t.run x t.busy t.at_).toArray
 reg:ah w YS 59 (bN .u64 4 t.regs).toArray
 sq:vO w S aa3 t.calls
 m6:de w S VZ t.aD
 run:aW w S t.run x
structure FA(w:World)(S:Nat->Prop)(VS:Nat)(Z2:Value)(l:List db):Prop where
 ex: ∃acB:List (db×Value),acB.map Prod.fst=l/\(∀q,q∈acB->cF w S q.2 q.1.aC.said)/\
  (Z2= .slice none 0 0/\acB= []\/∃cap rest,Z2= .slice (some ⟨VS,0,none⟩) acB.length cap/\ah w VS 46 (opsV acB++rest).toArray/\acB.length<=cap/\cap<=maxLen/\(opsV acB++rest).length=cap*14)
structure df(w:World)(B:WB)(p:afy)(F:b1)(n:Nat)(W:Wd):Prop where
 wd:ah w B.aeh 142 (gh p B.Y8 B.ap B.aff B.acc B.Z2 W.n).toArray
 VB:ar w B.ap B.WC n W.V
 gr:cY w B.aff B.rg (64*p.s+p.i) (64*p.s+p.i+p.h) W.fr
 YV:eF w (aek B p.t.toNat) B.Y8 F B.Vs
 Wl:acr w (aek B p.t.toNat) B.acc p.t.toNat 1 fun i=> [.pointer (some ⟨B.aaF i,0,none⟩)]
 XT: ∀i,i<p.t.toNat->fp w (aek B p.t.toNat) (B.aaF i) (B.YS i) (B.aa3 i) (B.VZ i) (B.x i) (W.XT i)
 op:FA w (aek B p.t.toNat) B.VS B.Z2 W.ops
 CR: ∀i j,i<p.t.toNat->j<p.t.toNat->i≠j->B.aaF i≠B.aaF j/\B.YS i≠B.YS j
 CS: ∀i,i<p.t.toNat->B.YS i≠B.WC
 AO:B.ap≠B.aff/\B.ap≠B.rg/\B.ap≠B.VS/\B.ap≠B.aeh/\∀i,i<p.t.toNat->B.ap≠B.aaF i/\B.ap≠B.YS i
 FB:B.VS≠B.aeh/\B.VS≠B.WC/\B.VS≠B.aff/\B.VS≠B.rg/\∀i,i<p.t.toNat->B.VS≠B.aaF i/\B.VS≠B.YS i
theorem l7(w0:World)(S:Nat->Prop)(aaF YS:Nat)(aa3 VZ:Value)(x:Yr)(t:eD)(h:fp w0 S aaF YS aa3 VZ x t)(YJ:t.calls.length<=65536):
 Calls prog 105 #[.pointer (some ⟨aaF,0,none⟩)] w0 fun e w'=>e= .returned (.bool t.ended)/\Below w0.heap.size w0 w':=by
 obtain⟨A,c,e,-,-,-⟩:=id h.sq;subst e;have hb:=h.bC;have aav:=I hb;have U:=aah.g8 hb;unfold eD.ended;obtain⟨l,fx⟩: ∃l,t.calls.length=l:=⟨_,rfl⟩
 have V1:t.calls.isEmpty=((l:Int)==0):=by
  rw[<-fx];cases t.calls with
  |nil=>rfl
  |cons c l=>simp;omega
 rw[V1];rw[fx]at U aav;have ga: ∀b,t.busy=b->Hid (t.busy=b):=fun b h=>I h;clear h V1 fx hb YJ;cases Pf:t.busy with
 |true=>
  exact n6
 |false=>
  exact n6
end
section
open Go.RowKit Tryz
theorem n7{G:Prop}(h:G:=by
 refine aF 5 fun K Z7=>?_;refine aaU U (ds:= [.int .u8 A',.int .u8 B']) (hv:=by rw[Zn.out,aav.out];rfl) ?_;clear U;intro w U;rw[Zn.out,aav.out]at U;refine abR Z7 fun X=>?_;refine adB ?_;dsimp only[Exit.then]
 apply_assumption
 go_upto_region 2 with fail
 replace U:=U.swap;replace U:=U.drew;refine wp_region_held_drew (by kernel_rfl) U.l0 (fun X=>?_);refine az [[0,1,2,3,4,5,6,7,8,9,10,11,12,13,14],[15]] ?_;clear U;intro w U;dsimp only[Exit.then]
 apply_assumption
 go_wp2_with fail;refine cw results115 rfl rfl ⟨_,U.b ag,rfl⟩ underlying100 rfl (by kernel_rfl) ?_;exact⟨FC (by first|(rw[al Ya.1,IntKind.wrap_i64];omega)|(rw[IntKind.wrap_i64];omega)) (by first|(rw[al afY.1,IntKind.wrap_i64];omega)|(rw[IntKind.wrap_i64];omega)),U.all⟩):G:=h
abbrev sW(e:Nat->Int):Value:=.agg #[.int .u8 (e 0),.int .u8 (e 1),.int .u8 (e 2),.int .u8 (e 3),.int .u8 (e 4),.int .u8 (e 5),.int .u8 (e 6),.int .u8 (e 7)]
def e0(e:Nat->Int):Prop:= ∀i,0<=e i/\e i<=255
def numOf(e:Nat->Int):Int:=e 4+256*e 5
def fJ(e:Nat->Int):dM:=⟨e 2,e 3 %4,e 3/4 %4,e 3/16 %4,if 32768<=numOf e then numOf e-65536 else numOf e,e 6,e 7 %8⟩
def dV(e:Nat->Int):jc:=⟨e 2,e 4 %(if e 2=0 then 64 else if e 2=4 then 1 else 6),e 5 %(if e 2=2 then 6 else if e 2=3 then 9 else 1)⟩
theorem IT(a b:Int)(Xg:0<=a/\a<=255)(hb:0<=b/\b<=255):bits .or .i64 a (b*256)=a+256*b:=by
 obtain⟨rX,rfl⟩:=bn Xg.1;obtain⟨K,rfl⟩:=bn hb.1;have e:((K:Int)*256)=((2^8*K:Nat):Int):=J;rw[e,(bits_nat .i64 63 am gM rX (2^8*K) J J).2,Nat.or_comm,<-Nat.two_pow_add_eq_or_of_lt (by omega:rX<2^8)];omega
theorem wraps_u8(n:Int)(Kw:0<=n)(Kx:n<2^8):IntKind.u8.wrap n=n:=by rw[IntKind.wrap_u8];omega
theorem uA(x:Int)(h:0<=x/\x<=255):bits .and .u8 x 3=x %4:=by
 obtain⟨n,rfl⟩:=bn h.1;rw[show(3:Int)=((3:Nat):Int)from rfl,(bits_nat .u8 8 am wraps_u8 n 3 J J).1,show(3:Nat)=2^2-1 from rfl,cD];rfl
theorem sr(w0:World)(e:Nat->Int)(V1:e0 e):
 Calls prog 116 #[sW e] w0 fun x w'=>x= .returned (.int .i64 (numOf e))/\Below w0.heap.size w0 w':=by
 have Ya:=V1 4;have afY:=V1 5;have U:=aah.a0 w0;go_enter func116,ntmps116;go_wp2_with(first|(refine aq ?_)|(refine aT ?_;clear U;intro X8 w U aay));go_ret;exact⟨lC (IT _ _ Ya afY),U.all⟩
theorem BQ(w0:World)(e:Nat->Int)(V1:e0 e):
 Calls prog 114 #[sW e] w0 fun x w'=>x= .returned (.agg (hP (fJ e)))/\Below w0.heap.size w0 w':=by
 have Yl:=I V1;have ZV:=V1 3;have adH:=V1 7;have XX:=V1 6;have Ya:=V1 4;have afY:=V1 5;have acW:=uA (e 3) ZV;have abT:=uA (e 3/4) J;have YR:=uA (e 3/16) J;have adv:IntKind.i64.wrap (numOf e-65536)=numOf e-65536:=by rw[IntKind.wrap_i64];unfold numOf;omega
 clear V1;have U:=aah.a0 w0;go_enter func114,ntmps114;go_wp2_with(first|(go_at_call 116;refine a6 U (sr _ e Yl.out) ?_;clear U;intro aaM U)|(refine aq ?_)|(refine aT ?_;clear U;intro X8 w U aay))
 ·refine cw results114 rfl rfl ⟨_,U.b ag,rfl⟩ underlying42 rfl aM ?_;refine⟨?_,U.all⟩;unfold fJ;rw[Z ‹ _ ›]
 ·refine cw results114 rfl rfl ⟨_,U.b ag,rfl⟩ underlying42 rfl aM ?_;refine⟨?_,U.all⟩;unfold fJ;rw[aB]
theorem ww(w0:World):Calls prog 194 #[] w0 fun x w'=>x= .returned (.agg #[.int .u8 64,.int .u8 1,.int .u8 6,.int .u8 1,.int .u8 6,.int .u8 6,.int .u8 6,.int .u8 9,.int .u8 1,.int .u8 1])/\Below w0.heap.size w0 w':=by
 have U:=aah.a0 w0;go_enter func194,ntmps194;go_wp2_with(first|(refine aT ?_;clear U;intro X8 w U aay));refine cw results194 rfl rfl ⟨_,U.b ag,rfl⟩ underlying299 rfl aM ?_;exact⟨rfl,U.all⟩
theorem FC{b YN XW WJ adr:Int}(h1:YN=XW)(aaV:WJ=adr):Ending.returned (.agg #[.int .u8 b,.int .i64 YN,.int .i64 WJ])= .returned (.agg #[.int .u8 b,.int .i64 XW,.int .i64 adr]):=by rw[h1,aaV]
theorem IU(w0:World)(afg acW abT YR adv WT abB WQ A B:Int)(Ya:0<=adv/\adv<=255)(afY:0<=WT/\WT<=255)(h:abT=0/\A=64/\B=1\/abT=1/\A=6/\B=1\/abT=2/\A=6/\B=6\/abT=3/\A=6/\B=9\/abT=4/\A=1/\B=1):
 Calls prog 115 #[.agg #[.int .u8 afg,.int .u8 acW,.int .u8 abT,.int .u8 YR,.int .u8 adv,.int .u8 WT,.int .u8 abB,.int .u8 WQ]] w0 fun x w'=>x= .returned (.agg #[.int .u8 abT,.int .i64 (adv %A),.int .i64 (WT %B)])/\Below w0.heap.size w0 w':=by
 have U:=aah.a0 w0;obtain⟨A',Zn⟩: ∃x,Hid (x=A):=⟨A,I rfl⟩
 obtain⟨B',aav⟩: ∃x,Hid (x=B):=⟨B,I rfl⟩
 rcases h with⟨rfl,rfl,rfl⟩|⟨rfl,rfl,rfl⟩|⟨rfl,rfl,rfl⟩|⟨rfl,rfl,rfl⟩|⟨rfl,rfl,rfl⟩<;>(
  go_enter func115,ntmps115;go_upto_region 1 with(first|(refine aq ?_)|(refine aT ?_;clear U;intro X8 w U aay))
  replace U:=U.drew;refine b0 ?_;intro X;refine az [[1,2]] ?_;refine Zj [0,4] ?_;refine ea (fun K Z7=>?_) ?_
  ·go_simp;go_at_call 194;refine a6 U (ww _) ?_;clear U;intro aaM U;go_wp2_with fail;refine abR Z7 fun X=>?_;refine Zj [3,4] ?_;refine ea (fun K Z7=>?_) ?_
   ·go_simp;refine abR Z7 fun X=>?_;refine az [[],[4]] ?_;clear U;intro KL FD w U;exact n7
   refine ei (fun K Z7=>?_);refine ZZ U Ag ?_;clear U;intro KL w U FD;refine abR Z7 fun X=>?_;refine aF 3 fun K Z7=>?_;go_simp;refine abR Z7 fun X=>?_;exact n7
  refine ei (fun K Z7=>?_);refine ZZ U Ag ?_;clear U;intro KL w U FD;refine abR Z7 fun X=>?_;refine aF 0 fun K Z7=>?_;go_simp;go_at_call 194;refine a6 U (ww _) ?_;clear U;intro aaM U;go_wp2_with fail;refine abR Z7 fun X=>?_;refine aF 3 fun K Z7=>?_;go_simp;refine abR Z7 fun X=>?_;refine aF 5 fun K Z7=>?_;refine aaU U (ds:= [.int .u8 A',.int .u8 B']) (hv:=by rw[Zn.out,aav.out];rfl) ?_;clear U;intro w U;rw[Zn.out,aav.out]at U;refine abR Z7 fun X=>?_;refine adB ?_;dsimp only[Exit.then]
  apply_assumption
  go_upto_region 2 with fail
  replace U:=U.swap;replace U:=U.drew;refine wp_region_held_drew aM U.l0 (fun X=>?_);refine az [[0,1,2,3,4,5,6,7,8,9,10,11,12,13,14],[15]] ?_;clear U;intro w U;dsimp only[Exit.then]
  apply_assumption
  go_wp2_with fail;refine cw results115 rfl rfl ⟨_,U.b ag,rfl⟩ underlying100 rfl aM ?_;exact⟨FC (by first|(rw[al Ya.1,IntKind.wrap_i64];omega)|(rw[IntKind.wrap_i64];omega)) (by first|(rw[al afY.1,IntKind.wrap_i64];omega)|(rw[IntKind.wrap_i64];omega)),U.all⟩)
theorem KM(w0:World)(e:Nat->Int)(V1:e0 e)(aaV:e 2<=4):
 Calls prog 115 #[sW e] w0 fun x w'=>x= .returned (.agg #[.int .u8 (dV e).op,.int .i64 (dV e).a,.int .i64 (dV e).b])/\Below w0.heap.size w0 w':=by
 have CG:=V1 2;exact IU w0 (e 0) (e 1) (e 2) (e 3) (e 4) (e 5) (e 6) (e 7) _ _ (V1 4) (V1 5) (by
  rcases(by omega:e 2=0\/e 2=1\/e 2=2\/e 2=3\/e 2=4)with h|h|h|h|h<;>simp[h])
end
section
open Go.RowKit Tryz
theorem Jm(w0:World)(aff rg:Nat)(a4 aaY m z:Int)(pre post:List Ext)(y:Ext)(hm:a4<=m/\0<=a4/\m %8=0)(aeN:1<=z/\z %8=0/\m+z<=aaY/\aaY<=65536)(cV:(pre++y::post).length<=65536)(dU: ∀x,x∈pre->x.a+x.z<=m)(zv:m<y.a+y.z)(T7:m+z<=y.a)(Wy: ∀x,x∈pre++y::post->0<=x.a/\x.a<=65536/\0<=x.z/\x.z<=65536)(cap:Nat)(rest:List Value)(abk:ah w0 rg 130 (bu (pre++y::post)++rest).toArray)(XP:(pre++y::post).length<=cap)(c7:cap<=maxLen)(l5:aff≠rg)(hb:ah w0 aff 363 ([.int .i64 a4,.int .i64 aaY,.slice (some ⟨rg,0,none⟩) (pre++y::post).length cap]:List Value).toArray):
 Calls prog 284 #[.pointer (some ⟨aff,0,none⟩),.int .i64 m,.int .i64 z] w0 fun e w'=> ∃aO,e= .returned (.int .i64 0)/\cY w' aff aO a4 aaY (give (pre++y::post) m z)/\(aO=rg\/w0.heap.size<=aO)/\Z1 (fun b=>b≠aff/\b≠rg) w0 w':=by
 obtain⟨p,gv⟩: ∃p,Hid (pre.length=p):=⟨_,I rfl⟩
 obtain⟨q,sm⟩: ∃q,Hid (post.length=q):=⟨_,I rfl⟩
 have qL:(pre++y::post).length=p+1+q:=by rw[ak,aI,gv.out,sm.out];omega
 have Dy:=I (show(y::post).length=q+1 by rw[aI,sm.out]);have hL: ∀aaM:World,ah aaM rg 130 (bu (pre++y::post)++rest).toArray->acr aaM (fun b=>b=rg) (.slice (some ⟨rg,0,none⟩) (p+1+q) cap) (p+1+q) 2 (eP (pre++y::post)):=fun aaM h=>by
  have:=mF h XP c7;rw[qL]at this;exact this
 replace hL:=I hL;rw[qL]at hb XP cV;have MM: ∀aaM:World,ah aaM rg 130 (bu pre++(bu (y::post)++rest)).toArray->acr aaM (fun b=>b=rg) (.slice (some ⟨rg,p*2,none⟩) (q+1) (cap-p)) (q+1) 2 (eP (y::post)):=fun aaM h=>by
  have:=Fz (c:=cap-p) h gv.out (by rw[Dy.out];omega) (by unfold maxLen at*;omega);rw[Dy.out]at this;exact this
 replace MM:=I MM;have fH:=I qL;have aal:bu (pre++y::post)++rest=bu pre++(.int .i64 y.a:: .int .i64 y.z::(bu post++rest)):=by rw[dS,eS,aJ];rfl
 have Yl:=I aal;have F5:=I (show bu pre++(bu (y::post)++rest)=bu pre++(.int .i64 y.a:: .int .i64 y.z::(bu post++rest)) by rw[eS];rfl);rw[aal]at abk;have jx:=I (show(bu pre).length=p*2 by rw[e3,gv.out]);have Gw:=I (show∀i,i<p+1+q->0<=((pre++y::post).getD i ⟨0,0⟩).a/\((pre++y::post).getD i ⟨0,0⟩).a<=65536/\0<=((pre++y::post).getD i ⟨0,0⟩).z/\((pre++y::post).getD i ⟨0,0⟩).z<=65536 from fun i hi=>by
  rw[ae,an (by rw[qL];exact hi)];exact Wy _ (bA _))
 have mx:=I dU;have CO:=I zv;have VN:=I Wy;have ab7: ∀args w,(callFunc 337 args).run prog w= .ok (.enter 337 args) w:=enters_of func337 aM rfl;have ae6:=I ab7;have rs: ∀(fn:Fn) (first cap:Array Value) (w:World),(Instr.makeFunc fn first cap).run prog w= .ok (.func fn first cap) w:=fun _ _ _ _=>rfl;have U:=aah.two hb abk l5;have O7:=Wy y aN;have adL:decide (z<1)=false:=by simp;omega
 have abw:IntKind.i64.wrap (aaY-1)=aaY-1:=by rw[IntKind.wrap_i64];omega
 have VD:IntKind.i64.wrap (aaY-m)=aaY-m:=by rw[IntKind.wrap_i64];omega
 have Zq:decide (z>aaY-m)=false:=by simp;omega
 have acv:(0:Int)<=z:=J;have t2:(z.tmod 8 !=0)=false:=by rw[al J];simp;omega
 have t3:(m.tmod 8 !=0)=false:=by rw[al J];simp;omega
 have PL:decide (a4<=m)=true:=by simpa using hm.1
 have PM:decide (m<=aaY-1)=true:=by simp;omega
 have UC:decide ((p:Int)<0)=false:=aN;have UD:IntKind.i64.wrap (m+z)=m+z:=by rw[IntKind.wrap_i64];omega
 have UE:decide (y.a<m+z)=false:=by simp;omega
 have UF:(p:Int)<(p:Int)+1+(q:Int):=J;have YK:(0:Int)<=m:=J;have ad6:a4<=m:=J;have PN:m<=aaY-1:=J;have afg:(0:Int)<=(p:Int):=J;have acW:(p:Int)<=(cap:Int):=J;have abT:(p:Int)+1+(q:Int)<=(cap:Int):=J;have YR:(p:Int)<=(p:Int):=J;have WT:(p:Int)<=(p:Int)+1+(q:Int):=J;have adv:p+1+q-p=q+1:=J;have abB:p<cap:=J;have yU:=I c7;unfold maxLen at c7;clear dU Wy ab7 hb abk qL aal zv;go_enter func284,ntmps284;go_wp2_with(first|(refine aq ?_)|(refine Ws U 3 ?_;clear U;intro ad2 w U j7)|(refine VP U eK ?_;clear U;intro hQ w U gU)|(refine ac2 U ?_;clear U;intro w U));replace U:=U.drew;refine b0 ?_;intro X;refine az [[0,1,2,3,4,5,6,7,8,9,10,11,12,13,14,15,16,17,18,19,20,21,22]] ?_;refine aF 23 fun K Z7=>?_;go_simp
 (first|(go_at_call 104;refine(fM _ _ _ _).mono ?_;rintro e w' ⟨rfl,rfl⟩)|skip)
 (try go_wp2_with fail)
 refine abR Z7 fun X=>?_;refine az [[24,25,26,27,28,29,30,31,32,33,34,35]] ?_;go_wp2_with(first|(go_at_call 301;have Yq:=U.b (g:=ad2) ag;refine Calls.mono (jw _ (fun b=>b=rg) (.slice (some ⟨rg,0,none⟩) (p+1+q) cap) (p+1+q) (eP (pre++y::post)) (fun i=>.agg #[.int .i64 ((pre++y::post).getD i ⟨0,0⟩).a,.int .i64 ((pre++y::post).getD i ⟨0,0⟩).z]) 337 #[.pointer (some ⟨ad2,0,none⟩)] (fun i=>decide (m<((pre++y::post).getD i ⟨0,0⟩).a+((pre++y::post).getD i ⟨0,0⟩).z)) ae6.out (hL.out _ (by rw[Yl.out];exact U.b (g:=rg) ag)) (fun i hi=>iA (pre++y::post) i (by rw[fH.out];exact hi)) J (fun i hi w' afl=>uv w' _ m _ _ (Yq.below afl Yq.lt) (Gw.out i hi))) ?_;rintro e aaM ⟨r,rfl,abk,N⟩;replace U:=U.below N;clear Yq N;obtain rfl:r=(p:Int):=CQ gv.out J CO.out mx.out abk;clear abk)|(refine aq ?_)|(refine Ws U 3 ?_;clear U;intro ad2 w U j7)|(refine VP U eK ?_;clear U;intro hQ w U gU)|(refine ac2 U ?_;clear U;intro w U));replace U:=U.drew;refine b0 ?_;intro X;refine az [[0,1,2,3,4,5,6,7,8,9,10,11,12,13,14]] ?_;first|(refine afk 15 ?_)|(refine eE 15 rfl (cb (by rfl) 3 _ rfl rg (p*2) rfl (c0.at_ ag) _ (rv jx.out) underlying3 rfl) ?_)
 refine az [[16,17,18,19,20]] ?_;go_wp2_with(first|(refine aq ?_)|(refine Ws U 3 ?_;clear U;intro ad2 w U j7)|(refine VP U eK ?_;clear U;intro hQ w U gU)|(refine ac2 U ?_;clear U;intro w U));replace U:=U.drew;refine b0 ?_;intro X;refine az [[0,1,2,3,4,5,6,7,8,9]] ?_;refine aF 10 fun K Z7=>?_;rw[Z (by rfl)];refine bK U 58 130 _ rfl _ [.int .i64 m,.int .i64 z] rfl rfl (.agg #[.int .i64 0,.int .i64 0]) 2 16 bw cj rfl am am ?_;clear U;intro di w U dO;refine abR Z7 fun X=>?_;refine aF 11 fun K Z7=>?_;rw[Z (by rfl)];refine sV U _ _ 58 rfl (.agg #[.int .i64 0,.int .i64 0]) 16 bw cj rfl am rg rfl ag jx.out ⟨di,0,none⟩ 1 1 [.int .i64 m,.int .i64 z] rfl rfl am (U.news ag) (by unfold maxLen;omega) J ?_;clear U;intro WP w U adS;obtain⟨afC,ace,rfl⟩:=adS.form;refine abR Z7 fun X=>?_;refine Xh 12 ?_;refine adB ?_;dsimp only[Exit.then]
 apply_assumption
 have aaH:=U;clear U;have U:=aaH.base;go_wp2_with(first|(refine gZ aaH U adS rfl rfl _ _ 58 rfl (.agg #[.int .i64 0,.int .i64 0]) 16 bw cj rfl am rfl (some ⟨rg,p*2,none⟩) (q+1) (cap-p) rfl (F:=eP (y::post)) (MM.out _ (by rw[F5.out];exact U.b (g:=rg) ag)) (kn _ _) (by unfold maxLen;omega) J ?_;clear U aaH adS;intro WP w U adS;obtain⟨aaA,Zo,rfl⟩:=adS.form;have aaH:=U;clear U;have U:=aaH.base)|(refine aq ?_)|(refine Ws U 3 ?_;clear U;intro ad2 w U j7)|(refine VP U eK ?_;clear U;intro hQ w U gU)|(refine ac2 U ?_;clear U;intro w U));have Yq:=aaH.back U;have p0:=adS.on aaH U rfl;clear aaH U adS;obtain⟨abt,n4,iq,abF,adu,Sl,kd,lk,fx⟩:=Yq.open_ p0 J;simp only[Value.slice.injEq]at abF;obtain⟨rfl,-,rfl⟩:=abF;clear Yq p0;have qM:=adu.Me;clear adu;rw[show(bu pre++ [.int .i64 m,.int .i64 z]++bx (q+1) 2 (eP (y::post)))++iq=bu (pre++⟨m,z⟩::y::post)++iq from by rw[<-Dy.out,yY];simp only[dS,eS,aJ,aU,au]]at qM;have AL:=I qM;clear qM;obtain⟨abK,pY⟩: ∃abK,Hid (pre++⟨m,z⟩::y::post=abK):=⟨_,I rfl⟩
 rw[pY.out]at AL;have iY:=I (show abK.length=p+1+(q+1) by rw[<-pY.out,ak,aI,aI,gv.out,sm.out];omega);have Fx:=I (show∀x,x∈abK->pZ x by
  intro x Wy;rw[<-pY.out,List.mem_append,ad]at Wy;rcases Wy with Wy|rfl|Wy
  ·have:=VN.out x (by simp[Wy]);unfold pZ;omega
  ·unfold pZ;dsimp only;omega
  ·have:=VN.out x (List.mem_append_right _ Wy);unfold pZ;omega)
 go_loopw [107] (fun i wr=> ∃k:Nat,k<=p+1+(q+1)/\i= .int .i64 k/\BP w0 aff rg abt a4 aaY (bu abK++iq) ((abK.take k).foldl fz []) wr) (fun i _=>p+1+(q+1)-(intOf i).toNat)
 case atStart=>exact⟨0,J,rfl,.inl ⟨rfl,AL.out⟩⟩
 case round=>
  obtain⟨k,ae3,rfl,VW⟩:=hrel;by_cases ip:k<p+1+(q+1)
  ·obtain⟨pre,x,post,YF,ih,Md,IQ⟩:=so abK k (by rw[iY.out];exact ip);have IR:=I (show((bu abK++iq).drop (k*2)).take 2= [.int .i64 x.a,.int .i64 x.z]from by rw[YF];exact wu ih);have LM:=Fx.out x (by rw[YF];simp);have n3:=yX pre [] (fun y hy=>(by cases hy)) (fun y hy=>Fx.out y (by rw[YF];simp[hy]));have xo:=I IQ;have aaX:(k:Int)<((p+1+(q+1):Nat):Int):=J;have Sm:(k:Int)<(p:Int)+1+((q:Int)+1):=J;exact n2
  ·obtain rfl:k=p+1+(q+1):=by omega
   rw[cm (by rw[iY.out];exact ai _)]at VW;have aaq:=I VW;clear VW;go_wp2_with fail;go_ret;rcases aaq.out with⟨ZQ,-⟩|⟨ZQ,VS,wo,n1,U,h1,aaV,ZV,Ya⟩
   ·exact absurd ZQ (yW abK (fun e=>by have:=iY.out;rw[e,bR]at this;omega))
   ·have Mc:give (pre++y::post) m z=abK.foldl fz []:=by rw[<-uy,<-pY.out,<-BO pre (y::post) ⟨m,z⟩ mx.out (fun x h=>by simp at h;rw[<-h];exact CO.out)]
    rw[Mc];exact⟨VS,rfl,⟨_,U.b (g:=aff) (by exact r3),.inr ⟨wo,n1,rfl,U.b (g:=VS) (by exact cX),aaV,ZV,Ya,fun e=>by have:=U.aed;simp[e]at this⟩⟩,.inr h1,U.Wu⟩
end
end Go.Proofs.YtcimojgkeoecfaaGreat
