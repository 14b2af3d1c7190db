import Derived.Test.YtcimojgkeoecfaaGreatXbi
import Derived.Test.YtcimojgkeoecfaaGreatXbk
set_option linter.all false
set_option maxHeartbeats 16000000
set_option maxRecDepth 100000
namespace Go.Proofs.YtcimojgkeoecfaaGreat
open Go.RowKit Tryz
structure zu(p:afy)(n:Nat)(V:Nat->Int)(r:aax):Prop where
 XJ:aR r.hand
 ael:aR r.val
 Xj:5<=r.Xj/\r.Xj<=12
 afY:r.Xj=5\/r.Xj=6->dr r.hand/\VA r.hand<p.s
 adH:r.Xj=7\/r.Xj=8->dr r.val/\VA r.val<p.s
 Vy:r.Xj=8->r.call.op=9->dr r.hand
 adp:r.Xj=9\/r.Xj=10->∃k:Nat,r.at_=8*k/\k<n
 sb:r.Xj=11\/r.Xj=12->0<=r.call.a/\r.call.a<p.s
 ft: ∀s:Nat,s<p.s->okW (V (8*s))
 jd: ∀k,aR (V k)
theorem jm{h:Int}(ok:dr h):WR h=8*((WR h/8).toNat:Nat):=by unfold dr WR at*;omega
theorem Gu(w0:World)(S:Nat->Prop)(p:afy)(ap WC n:Nat)(V:Nat->Int)(r:aax)(x:Yr)(Xg:ar w0 ap WC n V)(abk:aW w0 S r x)(bE:dx r)(hS: ∀b,b<w0.heap.size->S b->b≠WC)(hd:r.fin=false)(aeJ:a9 p)(abi:8*p.s<=n)(h:zu p n V r):
 Calls prog 189 #[ej p,.pointer (some ⟨ap,0,none⟩),.agg (aY r x)] w0 fun e w'=> ∃x',e= .returned (.tuple #[.agg (aY (cK p n V r).2 x'),.int .i64 0])/\ar w' ap WC n (cK p n V r).1/\aW w' (fun b=>(S b\/w0.heap.size<=b)/\b≠WC) (cK p n V r).2 x'/\ce w0.heap.size WC w0 w':=by
 have Ds: ∀h,dr h->0<=VA h:=fun h o=>o.1;have vH: ∀(h:Int),dr h->VA h<p.s->(VA h).toNat<p.s:=fun h o l=>by have:=o.1;omega
 have a5:=h.Xj;rcases(by omega:r.Xj=5\/r.Xj=6\/r.Xj=7\/r.Xj=8\/r.Xj=9\/r.Xj=10\/r.Xj=11\/r.Xj=12)with q|q|q|q|q|q|q|q
 ·obtain⟨o,l⟩:=h.afY (.inl q);have ok:=h.ft _ (vH _ o l);by_cases c:(Wi V (VA r.hand).toNat).afB=afT r.hand
  ·have e:cK p n V r=(V,{r with Xj:=6,at_:=r.at_}):=by unfold cK ie;rw[Z q,Z c]
   rw[e];exact Do w0 S p ap WC n V r x Xg abk bE hS hd q 6 r.at_ (fun aaM Yc X7 hb aH h1 aaV bv iH=>wG _ p ap WC n Yc V r x hb aH h1 aaV aeJ abi r.hand 6 h.XJ o l ok c)
  ·have e:cK p n V r=(V,tell {r with at_:=r.at_} 19 0):=by unfold cK ie;rw[Z q,Y c]
   rw[e];exact Dp w0 S p ap WC n V r x Xg abk bE hS hd q 6 r.at_ 19 am (fun aaM Yc X7 hb aH h1 aaV bv iH=>wH _ p ap WC n Yc V r x hb aH h1 aaV aeJ abi r.hand 6 h.XJ o l ok c)
 ·obtain⟨o,l⟩:=h.afY (.inr q);have Wx:cK p n V r=(V,qz p n V r):=by unfold cK;rw[aB,Z q]
  rw[Wx];unfold qz;rcases s5 n V (WR r.hand/8).toNat (VA r.hand) (afT r.hand) (fun i _=>h.jd i)with⟨c,ae3,acP⟩|⟨c,no⟩
  ·rw[Z c];have YJ:((fl V (WR r.hand/8).toNat).l:Int)=V (WR r.hand/8).toNat/4294967296 %256:=by show((V (WR r.hand/8).toNat/4294967296 %256).toNat:Int)=_;omega
   rw[YJ];by_cases d:0<=r.call.b/\r.call.b<V (WR r.hand/8).toNat/4294967296 %256
   ·rw[Z d];by_cases aa5:r.call.op=8
    ·rw[Z aa5];exact sH w0 S p ap WC n V r x Xg abk bE hS hd q 9 (WR r.hand+16+8*r.call.b) (fun aaM Yc X7 hb aH h1 aaV bv iH=>Gs _ p ap WC n Yc V r x hb aH h1 aaV aeJ abi h.XJ o _ (jm o) ae3 _ _ _ _ acP d aa5)
    ·rw[Y aa5];by_cases Xr:r.val=0
     ·rw[Z Xr];exact sH w0 S p ap WC n V r x Xg abk bE hS hd q 10 (WR r.hand+16+8*r.call.b) (fun aaM Yc X7 hb aH h1 aaV bv iH=>Gt _ p ap WC n Yc V r x hb aH h1 aaV aeJ abi h.XJ o _ (jm o) ae3 _ _ _ _ acP d aa5 Xr)
     ·rw[Y Xr];by_cases acZ:check p r.chain r.val=0
      ·rw[Z acZ];refine sH w0 S p ap WC n V r x Xg abk bE hS hd q 7 (WR r.hand+16+8*r.call.b) (fun aaM Yc X7 hb aH h1 aaV bv iH=>?_);have:=zs _ p ap WC n Yc V r x hb aH h1 aaV aeJ abi h.XJ o _ (jm o) ae3 _ _ _ _ acP d aa5 Xr h.ael X7 bv.ads bE.ads iH;rw[acZ]at this;exact this
      ·rw[Y acZ];exact pT w0 S p ap WC n V r x Xg abk bE hS hd q 7 (WR r.hand+16+8*r.call.b) _ acZ (fun aaM Yc X7 hb aH h1 aaV bv iH=>zs _ p ap WC n Yc V r x hb aH h1 aaV aeJ abi h.XJ o _ (jm o) ae3 _ _ _ _ acP d aa5 Xr h.ael X7 bv.ads bE.ads iH)
   ·rw[Y d];exact pT w0 S p ap WC n V r x Xg abk bE hS hd q r.Xj r.at_ 21 am (fun aaM Yc X7 hb aH h1 aaV bv iH=>Gr _ p ap WC n Yc V r x hb aH h1 aaV aeJ abi h.XJ o _ (jm o) ae3 _ _ _ _ acP J)
  ·rw[Y c];rcases no with no|⟨s',e',bo,ae3,acP⟩
   ·exact pT w0 S p ap WC n V r x Xg abk bE hS hd q r.Xj r.at_ 18 am (fun aaM Yc X7 hb aH h1 aaV bv iH=>Gq _ p ap WC n Yc V r x hb aH h1 aaV aeJ abi h.XJ o _ (jm o) (by rw[jm o];exact no))
   ·exact pT w0 S p ap WC n V r x Xg abk bE hS hd q r.Xj r.at_ 18 am (fun aaM Yc X7 hb aH h1 aaV bv iH=>Gp _ p ap WC n Yc V r x hb aH h1 aaV aeJ abi h.XJ o _ (jm o) ae3 _ _ _ _ _ _ acP bo)
 ·obtain⟨o,l⟩:=h.adH (.inl q);have ok:=h.ft _ (vH _ o l);have Wx:cK p n V r=(V,ie V r r.val 8):=by unfold cK;rw[aB,aB,Z q]
  rw[Wx];unfold ie;by_cases c:(Wi V (VA r.val).toNat).afB=afT r.val
  ·rw[Z c];exact Dq w0 S p ap WC n V r x Xg abk bE hS hd q 8 r.at_ (fun aaM Yc X7 hb aH h1 aaV bv iH=>wG _ p ap WC n Yc V r x hb aH h1 aaV aeJ abi r.val 8 h.ael o l ok c)
  ·rw[Y c];exact Dr w0 S p ap WC n V r x Xg abk bE hS hd q 8 r.at_ 19 am (fun aaM Yc X7 hb aH h1 aaV bv iH=>wH _ p ap WC n Yc V r x hb aH h1 aaV aeJ abi r.val 8 h.ael o l ok c)
 ·obtain⟨o,l⟩:=h.adH (.inr q);have Wx:cK p n V r=(V,lr n V r):=by unfold cK;rw[aB,aB,aB,Z q]
  rw[Wx];unfold lr;rcases s5 n V (WR r.val/8).toNat (VA r.val) (afT r.val) (fun i _=>h.jd i)with⟨c,ae3,acP⟩|⟨c,no⟩
  ·rw[Z c];by_cases Z8:r.call.op=9
   ·have acV:=h.Vy q Z8;rw[Z Z8,Z Z8];by_cases ab:kt r.chain (VA r.val) (VA r.hand)=true
    ·rw[Z ab];exact wE w0 S p ap WC n V r x Xg abk bE hS hd q 10 r.at_ (fun aaM Yc X7 hb aH h1 aaV bv iH=>Dw _ p ap WC n Yc V r x hb aH h1 aaV aeJ abi h.ael o _ (jm o) ae3 _ _ _ _ acP Z8 h.XJ acV X7 bv.ads bE.ads iH ab)
    ·rw[Y ab];exact ko w0 S p ap WC n V r x Xg abk bE hS hd q 10 r.at_ 22 am (fun aaM Yc X7 hb aH h1 aaV bv iH=>Dx _ p ap WC n Yc V r x hb aH h1 aaV aeJ abi h.ael o _ (jm o) ae3 _ _ _ _ acP Z8 h.XJ acV X7 bv.ads bE.ads iH (by simpa using ab))
   ·rw[Y Z8,Y Z8];by_cases ab:kt r.chain (VA r.val) r.call.a=true
    ·rw[Z ab];exact wE w0 S p ap WC n V r x Xg abk bE hS hd q 12 r.at_ (fun aaM Yc X7 hb aH h1 aaV bv iH=>Bc _ p ap WC n Yc V r x hb aH h1 aaV aeJ abi h.ael o _ (jm o) ae3 _ _ _ _ acP Z8 X7 bv.ads bE.ads iH ab)
    ·rw[Y ab];exact ko w0 S p ap WC n V r x Xg abk bE hS hd q 12 r.at_ 22 am (fun aaM Yc X7 hb aH h1 aaV bv iH=>Bd _ p ap WC n Yc V r x hb aH h1 aaV aeJ abi h.ael o _ (jm o) ae3 _ _ _ _ acP Z8 X7 bv.ads bE.ads iH (by simpa using ab))
  ·rw[Y c];by_cases Z8:r.call.op=9
   ·have acV:=h.Vy q Z8;rcases no with no|⟨s',e',bo,ae3,acP⟩
    ·exact ko w0 S p ap WC n V r x Xg abk bE hS hd q 10 r.at_ 18 am (fun aaM Yc X7 hb aH h1 aaV bv iH=>Dv _ p ap WC n Yc V r x hb aH h1 aaV aeJ abi h.ael o _ (jm o) (by rw[jm o];exact no) Z8 h.XJ acV)
    ·exact ko w0 S p ap WC n V r x Xg abk bE hS hd q 10 r.at_ 18 am (fun aaM Yc X7 hb aH h1 aaV bv iH=>Du _ p ap WC n Yc V r x hb aH h1 aaV aeJ abi h.ael o _ (jm o) ae3 _ _ _ _ _ _ acP bo Z8 h.XJ acV)
   ·rcases no with no|⟨s',e',bo,ae3,acP⟩
    ·exact ko w0 S p ap WC n V r x Xg abk bE hS hd q 12 r.at_ 18 am (fun aaM Yc X7 hb aH h1 aaV bv iH=>Bb _ p ap WC n Yc V r x hb aH h1 aaV aeJ abi h.ael o _ (jm o) (by rw[jm o];exact no) Z8)
    ·exact ko w0 S p ap WC n V r x Xg abk bE hS hd q 12 r.at_ 18 am (fun aaM Yc X7 hb aH h1 aaV bv iH=>Ba _ p ap WC n Yc V r x hb aH h1 aaV aeJ abi h.ael o _ (jm o) ae3 _ _ _ _ _ _ acP bo Z8)
 ·obtain⟨k,XD,ae3⟩:=h.adp (.inl q);have Wx:cK p n V r=(V,tell r 0 (afK (V k))):=by unfold cK;rw[aB,aB,aB,aB,Z q,show(r.at_/8).toNat=k from J]
  rw[Wx];exact rM w0 S p ap WC n V r x Xg abk bE hS hd J _ V (fun aaM Yc X7 hb aH h1 aaV bv iH=>Gk _ p ap WC n Yc V r x hb aH h1 aaV aeJ abi q k XD ae3 (h.jd k))
 ·obtain⟨k,XD,ae3⟩:=h.adp (.inr q);have Wx:cK p n V r=(upd V k r.val,tell r 0 0):=by unfold cK;rw[aB,aB,aB,aB,aB,Z q,show(r.at_/8).toNat=k from J];rfl
  rw[Wx];exact rM w0 S p ap WC n V r x Xg abk bE hS hd J 0 _ (fun aaM Yc X7 hb aH h1 aaV bv iH=>Dl _ p ap WC n Yc V r x hb aH h1 aaV aeJ abi q k XD ae3 h.ael)
 ·have dv:=h.sb (.inl q);have Wx:cK p n V r=(V,tell r 0 (afK (V (8*r.call.a.toNat+4)))):=by unfold cK;rw[aB,aB,aB,aB,aB,aB,Z q];rfl
  rw[Wx];exact rM w0 S p ap WC n V r x Xg abk bE hS hd J _ V (fun aaM Yc X7 hb aH h1 aaV bv iH=>Dm _ p ap WC n Yc V r x hb aH h1 aaV aeJ abi q dv (h.jd _))
 ·have dv:=h.sb (.inr q);have Wx:cK p n V r=(upd V (8*r.call.a.toNat+4) r.val,tell r 0 0):=by unfold cK;rw[aB,aB,aB,aB,aB,aB,aB];rfl
  rw[Wx];exact rM w0 S p ap WC n V r x Xg abk bE hS hd J 0 _ (fun aaM Yc X7 hb aH h1 aaV bv iH=>Dn _ p ap WC n Yc V r x hb aH h1 aaV aeJ abi q dv h.ael)
section
section
variable{G:Prop}
include G
theorem qm(h:G:=by
 refine WE Z7 fun X=>?_;refine aF 11 fun K Z7=>?_;go_simp;go_at_call 184;refine Calls.mono (hg _ _ r ⟨.slice W9 r.chain.length adX,.slice aeQ r.list.length acN,.slice acG r.said.length aeb,.slice af3 r.aC.said.length ZM⟩ _ _ (aby.out.Wu (U.Wu.mono hS)) bE) ?_;rintro e aaM ⟨v',rfl,bD,N⟩;obtain⟨aeU,aaP,rfl,-,-,-⟩:=id bD;have hv:=U.eh bD;clear bD;have aaH:=U.below N;clear U N;have U:=aaH.base;go_wp2_with fail;refine WE Z7 fun X=>?_;refine az [[12,13],[14]] ?_;clear U;intro w U;go_wp2_with(first|(refine aq ?_)|(refine aT ?_;clear U;intro X8 w U aay));refine fY ?_;have Yq:=U.b (g:=Yc) ag;exact⟨_,rfl,(U.carry hv fun _ _ h=>h.2).mono (fun b _ h=>⟨h.1,fun e=>h.2.1 _ (In.mem ag) e.symm,h.2.2 _ rfl⟩),Yq,U.bB,(aaH.back U).Wu⟩):G:=h
theorem o7(h:G:=by
 go_wp2_with(first|(refine aq ?_)|(refine ac2 U ?_;clear U;intro w U));refine fY ?_;exact⟨rfl,U.b (g:=Yc) ag,U.mW⟩):G:=h
theorem k6(h:G:=by
 go_wp2_with(first|(refine aq ?_)|(refine ac2 U ?_;clear U;intro w U));replace U:=U.drew;refine b0 ?_;intro X;refine az [[0,1,2,3,4,5,6,7,8,9,10]] ?_;go_wp2_with(first|(refine aq ?_)|(refine ac2 U ?_;clear U;intro w U));refine fY ?_;exact⟨rfl,U.b (g:=Yc) ag,U.mW⟩):G:=h
theorem i5(h:G:=by
 go_wp2_with(first|(refine g1 Za ?_)|(refine aq ?_)|(refine ac2 U ?_;clear U;intro w U));refine fY ?_;exact⟨rfl,U.b (g:=Yc) ag,U.mW⟩):G:=h
theorem k7(h:G:=by
 have:=XP pre.length 0 (.int .i64 a) (by omega) (by unfold hq;rw[ae,ay (ai _)];simp);simpa using this):G:=h
theorem o8(h:G:=by
 replace U:=U.drew;refine wp_region_held_drew (S:=(fun _=>True)) (by kernel_rfl) ?_ (fun X=>?_)
 ·trivial
 refine az [[0,1,2,3,5,6,7,8,9]] ?_;refine Zj [4,10] ?_;refine ea (fun K Z7=>?_) ?_
 ·refine Wf U 26 ?_;refine WE Z7 fun X=>?_;refine aF 10 fun K Z7=>?_;refine YL U ?_;exact qm
 refine ei (fun K Z7=>?_);refine YL U ?_;refine WE Z7 fun X=>?_;refine aF 4 fun K Z7=>?_;refine Wf U 26 ?_;exact qm):G:=h
end
theorem dZ{P:Program}{fn:Func}{R:Ending->World->Prop}(h: ∀tmps w,(results fn tmps).run P w= .ok (.tuple #[]) w):
 ∀(ds:List Deferred) (u:FrameMode) (w:World) (tmps MS:Array Value),Leaves P fn tmps R ds u w->Leaves P fn MS R ds u w:=by
 intro ds;induction ds with
 |nil=>
  intro u w t t' YJ;cases u with
  |run=>exact YJ
  |returning=>
   obtain⟨v,abk,adS⟩:=YJ;exact⟨v,by rw[h]at abk⊢;exact abk,adS⟩
  |panicking c=>exact YJ
 |cons d ds aes=>
  intro u w t t' YJ;obtain⟨h1,af9,cap,f,args,aaV,ZV,Ya⟩:=YJ;refine⟨h1,af9,cap,f,args,aaV,ZV,Ya.mono fun e u' w' V1=>?_⟩;cases e with
  |returned v=>exact aes _ _ _ _ V1
  |panicked c=>exact aes _ _ _ _ V1
  |outgrown=>exact V1
theorem zy(w0:World)(p:afy)(Y8:Value)(ap Yc:Nat)(r:aax)(x:Yr)(aeQ:Option Addr)(acN:Nat)(li:x.ls= .slice aeQ r.list.length acN)(hb:ah w0 Yc 386 (bp p Y8 ap r x).toArray):
 Calls prog 355 #[.pointer (some ⟨Yc,0,none⟩)] w0 fun e w'=>e= .returned (.tuple #[])/\ah w' Yc 386 (bp p Y8 ap (bP r) x).toArray/\ce w0.heap.size Yc w0 w':=by
 have U:=aah.g8 hb;clear hb;obtain⟨ads,ls,Wh,Y1⟩:=x;simp only at li;subst li;by_cases WJ:r.list= []
 ·have WS:r.list.length=0:=by rw[WJ];rfl
  rw[WS]at U⊢;clear WS;by_cases adr:r.held=true
  ·
   have aal:bP r= {r with Xj:=22}:=by unfold bP;simp[*]
   rw[aal];clear aal;have Za:=I adr;clear WJ adr;go_enter func355,ntmps355;exact i5
  ·
   have aal:bP r= {r with Xj:=23}:=by unfold bP;simp[*]
   rw[aal];clear aal;have XO:r.held=false:=by simpa using adr
   have Za:=I XO;clear WJ adr XO;go_enter func355,ntmps355;exact i5
 ·have SJ:0<r.list.length:=List.length_pos_iff.2 WJ
  ·
   have aal:bP r= {r with Xj:=20}:=by unfold bP;simp[*]
   rw[aal];clear aal;generalize r.list.length=m at*;have d1:decide ((0:Int)<(m:Int))=true:=by simp;omega
   clear WJ;go_enter func355,ntmps355;exact o7
section
variable(u:FrameMode)(w0:World)(p:afy)(Y8:Value)(ap Yc:Nat)(r:aax)(x:Yr)
include u w0 p Y8 ap Yc r x
theorem zz(aeQ:Option Addr)(acN:Nat)(li:x.ls= .slice aeQ r.list.length acN)(hb:ah w0 Yc 386 (bp p Y8 ap r x).toArray):
 CallsD prog 355 #[.pointer (some ⟨Yc,0,none⟩)] u w0 fun e u' w'=>u'=u/\(e= .returned (.tuple #[])/\ah w' Yc 386 (bp p Y8 ap (bP r) x).toArray/\ce w0.heap.size Yc w0 w'):=by
 have U:=aah.g8 hb;clear hb;obtain⟨ads,ls,Wh,Y1⟩:=x;simp only at li;subst li;by_cases WJ:r.list= []
 ·have WS:r.list.length=0:=by rw[WJ];rfl
  rw[WS]at U⊢;clear WS;by_cases adr:r.held=true
  ·
   have aal:bP r= {r with Xj:=22}:=by unfold bP;simp[*]
   rw[aal];clear aal;have Za:=I adr;clear WJ adr;go_enter_d func355,ntmps355;exact i5
  ·
   have aal:bP r= {r with Xj:=23}:=by unfold bP;simp[*]
   rw[aal];clear aal;have XO:r.held=false:=by simpa using adr
   have Za:=I XO;clear WJ adr XO;go_enter_d func355,ntmps355;exact i5
 ·have SJ:0<r.list.length:=List.length_pos_iff.2 WJ
  ·
   have aal:bP r= {r with Xj:=20}:=by unfold bP;simp[*]
   rw[aal];clear aal;generalize r.list.length=m at*;have d1:decide ((0:Int)<(m:Int))=true:=by simp;omega
   clear WJ;go_enter_d func355,ntmps355;exact o7
theorem wJ(hb:ah w0 Yc 386 (bp p Y8 ap r x).toArray):
 CallsD prog 359 #[.pointer (some ⟨Yc,0,none⟩)] u w0 fun e u' w'=>u'=u/\(e= .returned (.tuple #[])/\ah w' Yc 386 (bp p Y8 ap (dT r) x).toArray/\ce w0.heap.size Yc w0 w'):=by
 have U:=aah.g8 hb;clear hb;by_cases WJ:r.at_<r.top
 ·
  have aal:dT r= {r with Xj:=24}:=by unfold dT;simp[WJ]
  rw[aal];clear aal;have d1:decide (r.at_<r.top)=true:=by simpa using WJ
  clear WJ;go_enter_d func359,ntmps359;exact k6
 ·
  have aal:dT r= {r with Xj:=25}:=by unfold dT;simp[WJ]
  rw[aal];clear aal;have d1:decide (r.at_<r.top)=false:=by simpa using WJ
  clear WJ;go_enter_d func359,ntmps359;exact k6
theorem Bg(aeQ:Option Addr)(acN:Nat)(li:x.ls= .slice aeQ r.list.length acN)(hb:ah w0 Yc 386 (bp p Y8 ap r x).toArray):
 CallsD prog 352 #[.pointer (some ⟨Yc,0,none⟩)] u w0 fun e u' w'=>u'=u/\(e= .returned (.tuple #[])/\ah w' Yc 386 (bp p Y8 ap (ee r) x).toArray/\ce w0.heap.size Yc w0 w'):=by
 have U:=aah.g8 hb;clear hb;by_cases WJ:r.at_<r.top
 ·
  have aal:ee r= {r with Xj:=19}:=by unfold ee;rw[Z WJ]
  rw[aal];clear aal;have d1:decide (r.at_<r.top)=true:=by simpa using WJ
  clear WJ;go_enter_d func352,ntmps352;exact k6
 ·
  have aal:ee r=bP r:=by unfold ee;rw[Y WJ]
  rw[aal];clear aal;have d1:decide (r.at_<r.top)=false:=by simpa using WJ
  clear WJ;go_enter_d func352,ntmps352;go_wp2_with(first|(refine aq ?_)|(refine ac2 U ?_;clear U;intro w U));replace U:=U.drew;refine b0 ?_;intro X;refine az [[0,1,2,3,4,5,6,7,8,9,10]] ?_;go_wp2_with(first|(go_at_call 355;refine Calls.mono (zy _ p Y8 ap Yc r x aeQ acN li (U.b ag)) ?_;rintro e aaM ⟨rfl,N,jT⟩;replace U:=U.hX cf N jT;clear N jT)|(refine aq ?_)|(refine ac2 U ?_;clear U;intro w U));refine fY ?_;exact⟨rfl,U.b (g:=Yc) ag,U.mW⟩
end
section
variable(w0:World)(p:afy)(Y8:Value)(ap WC n Yc:Nat)(V:Nat->Int)(r:aax)(x:Yr)
include w0 p Y8 ap WC n Yc V r x
theorem Jx(aeQ:Option Addr)(acN:Nat)(li:x.ls= .slice aeQ r.list.length acN)(hb:ah w0 Yc 386 (bp p Y8 ap r x).toArray)(Xg:ar w0 ap WC n V)(h1:Yc≠ap)(aaV:Yc≠WC)(aeJ:a9 p)(abi:8*p.s<=n)(ci:0<=r.af/\r.af<p.s)(kg:0<=adh V r.af.toNat/\adh V r.af.toNat<=65536)(fG:0<=r.at_/\r.at_<=65536):
 Calls prog 326 #[.pointer (some ⟨Yc,0,none⟩)] w0 fun e w'=>e= .returned (.tuple #[])/\ah w' Yc 386 (bp p Y8 ap (ee {r with top:=r.at_+adh V r.af.toNat}) x).toArray/\ar w' ap WC n V/\Z1 (fun b=>b≠Yc/\b≠WC) w0 w':=by
 have U:=aah.dp hb Xg h1 aaV;clear Xg hb;obtain⟨b,V7⟩: ∃b,Hid (adh V r.af.toNat=b):=⟨_,I rfl⟩
 rw[V7.out]at kg⊢;have Jy:=I li;clear li;have xm:IntKind.i64.wrap b=b:=by rw[IntKind.wrap_i64];omega
 have ur:IntKind.i64.wrap (r.at_+b)=r.at_+b:=by rw[IntKind.wrap_i64];omega
 go_enter_defers func326,ntmps326;go_wp2_with(first|(refine aq ?_)|(refine ac2 U ?_;clear U;intro w U));replace U:=U.drew;refine wp_region_held_drew aM (U.h5 (xs:= [21])) (fun X=>?_);refine az [[0,1,2,3,4]] ?_;refine td 5 ?_;refine Xh 6 ?_;refine aF 7 fun K Z7=>?_;go_simp;go_at_call 350;refine a6 U (u2 _ p Y8 ap WC n Yc V _ _ 3 b V7.out (U.b ag) U.bB aeJ abi ci J) ?_;clear U;intro aaM U;go_wp2_with fail;refine abR Z7 (fun X=>?_) (by first|exact U.h5|exact U.j1|exact U.j2);refine az [[8,9,10,11,12]] ?_;refine aF 13 fun K Z7=>?_;refine adk U ?_;clear U;intro w U VG;refine abR Z7 (fun X=>?_) (by exact X.store VG (by rfl));refine adB ?_;go_wp2_with(first|(refine aq ?_)|(refine ac2 U ?_;clear U;intro w U));refine leaves_cons (f:=352) (args:= #[.pointer (some ⟨Yc,0,none⟩)]) aN (by simp[go_sem]) ?_;have Yq:=U.b (g:=Yc) ag;refine CallsD.mono (Bg _ _ p Y8 ap Yc {r with top:=r.at_+b} x aeQ acN Jy.out Yq) ?_;rintro e u' aaM ⟨rfl,rfl,N,jT⟩;replace U:=U.hX cf N jT;exact⟨_,results_none results326 _ _ _,rfl,U.b (g:=Yc) ag,U.bB,U.Wu⟩
section
variable(hb:ah w0 Yc 386 (bp p Y8 ap r x).toArray)(Xg:ar w0 ap WC n V)(h1:Yc≠ap)(aaV:Yc≠WC)
include hb Xg h1 aaV
theorem DP(aeJ:a9 p)(abi:8*p.s<=n)(ci:0<=r.af/\r.af<p.s)(kg:0<=r.word/\r.word<=65536):
 Calls prog 331 #[.pointer (some ⟨Yc,0,none⟩)] w0 fun e w'=>e= .returned (.tuple #[])/\ah w' Yc 386 (bp p Y8 ap (dT {r with at_:=r.word}) x).toArray/\ar w' ap WC n (upd V (8*r.af.toNat+4) 0)/\Z1 (fun b=>b≠Yc/\b≠WC) w0 w':=by
 have U:=aah.dp hb Xg h1 aaV;clear Xg hb;go_enter_defers func331,ntmps331;go_wp2_with(first|(go_at_call 360;refine Calls.mono (tA _ p Y8 ap WC n Yc V r x 4 0 (U.b ag) U.bB h1 aaV aeJ abi ci J am) ?_;rintro e aaM ⟨rfl,N,aH,aX⟩;replace U:=U.call cf N aH aX;clear N aH aX)|(refine aq ?_)|(refine ac2 U ?_;clear U;intro w U));refine leaves_cons (f:=359) (args:= #[.pointer (some ⟨Yc,0,none⟩)]) aN (by simp[go_sem]) ?_;have Yq:=U.b (g:=Yc) ag;refine CallsD.mono (wJ _ _ p Y8 ap Yc {r with at_:=r.word} x Yq) ?_;rintro e u' aaM ⟨rfl,rfl,N,jT⟩;replace U:=U.hX cf N jT;exact⟨_,results_none results331 _ _ _,rfl,U.b (g:=Yc) ag,U.bB,U.Wu⟩
theorem GQ(fG:0<=r.at_/\r.at_<8*n/\r.at_ %8=0):
 Calls prog 332 #[.pointer (some ⟨Yc,0,none⟩)] w0 fun e w'=>e= .returned (.tuple #[])/\ah w' Yc 386 (bp p Y8 ap (dT {r with at_:=r.at_+8}) x).toArray/\ar w' ap WC n (upd V (r.at_/8).toNat 0)/\Z1 (fun b=>b≠Yc/\b≠WC) w0 w':=by
 have U:=aah.dp hb Xg h1 aaV;have hm:=Xg.cE;clear Xg hb;go_enter_defers func332,ntmps332;go_wp2_with(first|(refine aq ?_)|(refine ac2 U ?_;clear U;intro w U));replace U:=U.drew;refine b0 ?_;intro X;refine az [[0,1,2,3,4,5,6,7,8]] ?_;refine aF 9 fun K Z7=>?_;go_simp;go_at_call 279;refine Calls.mono (iJ _ _ _ n V _ _ (r.at_/8).toNat U.bB J J am) ?_;rintro e aaM ⟨rfl,aH,N⟩;replace U:=U.arena aH N;clear aH N;go_wp2_with fail;refine abR Z7 fun X=>?_;refine adB ?_;go_wp2_with(first|(refine aq ?_)|(refine ac2 U ?_;clear U;intro w U));refine leaves_cons (f:=359) (args:= #[.pointer (some ⟨Yc,0,none⟩)]) aN (by simp[go_sem]) ?_;have Yq:=U.b (g:=Yc) ag;refine CallsD.mono (wJ _ _ p Y8 ap Yc {r with at_:=r.at_+8} x Yq) ?_;rintro e u' aaM ⟨rfl,rfl,N,jT⟩;replace U:=U.hX cf N jT;exact⟨_,results_none results332 _ _ _,rfl,U.b (g:=Yc) ag,U.bB,U.Wu⟩
section
variable(S:Nat->Prop)(abk:aW w0 S r x)(bE:dx r)(hS: ∀b,b<w0.heap.size->S b->b≠Yc/\b≠WC)(aeJ:a9 p)(abi:8*p.s<=n)(ci:0<=r.af/\r.af<p.s)(ok:okW r.next)(cx:(up r.next).st=3)
include S abk bE hS aeJ abi ci ok cx
theorem Jz:
 Calls prog 357 #[.pointer (some ⟨Yc,0,none⟩),.func (.func 358) #[] #[],.int .i64 25] w0 fun e w'=> ∃v,e= .returned (.tuple #[])/\cF w' (fun b=>w0.heap.size<=b/\b≠Yc/\b≠WC) v r.said/\ah w' Yc 386 (bp p Y8 ap (tell r 25 r.n) {x with Y1:=v}).toArray/\ar w' ap WC n (upd V (8*r.af.toNat) (afa (mp (up r.next))))/\Z1 (fun b=>b≠Yc/\b≠WC) w0 w':=by
 have U:=aah.dp hb Xg h1 aaV;have aby:=I abk;obtain⟨W9,adX,aeQ,acN,acG,aeb,af3,ZM,rfl⟩:=eW abk;have hm:=Xg.cE;clear Xg hb abk;have ki:=I ok;have Wy:aR r.next:=by have:=ok.ok.aas;have e:=ok.eq;unfold aR;omega
 have adZ:=I ok.ok;have ab3:=I ok.ok.hold;clear ok;obtain⟨c,Wj⟩: ∃c,Hid (up r.next=c):=⟨_,I rfl⟩
 rw[Wj.out]at adZ ab3 cx⊢;have h0:=fun w=>EW c w adZ.out cx;obtain⟨d,ach⟩: ∃d,Hid (mp c=d):=⟨_,I rfl⟩
 rw[ach.out]at ab3 h0⊢;clear cx;have hd:aR (afa d):=by have:=ab3.out.aas;unfold aR;omega
 go_enter func357,ntmps357;go_wp2_with(first|(go_at_call 239;refine a6 U (gQ _ _ ki.out Wy) ?_;clear U;intro aaM U;rw[Wj.out])|(go_at_call 358;refine a6 U (h0 _) ?_;clear U;intro aaM U)|(go_at_call 278;refine a6 U (nD _ _ ab3.out) ?_;clear U;intro aaM U)|(go_at_call 360;refine Calls.mono (tA _ p Y8 ap WC n Yc V r ⟨.slice W9 r.chain.length adX,.slice aeQ r.list.length acN,.slice acG r.said.length aeb,.slice af3 r.aC.said.length ZM⟩ 0 (afa d) (U.b ag) U.bB h1 aaV aeJ abi ci J hd) ?_;rintro e aaM ⟨rfl,N,aH,aX⟩;replace U:=U.call cf N aH aX;clear N aH aX)|(refine aq ?_)|(refine aT ?_;clear U;intro X8 w U aay));exact o8
theorem JA:
 Calls prog 357 #[.pointer (some ⟨Yc,0,none⟩),.func (.func 292) #[] #[],.int .i64 0] w0 fun e w'=> ∃v,e= .returned (.tuple #[])/\cF w' (fun b=>w0.heap.size<=b/\b≠Yc/\b≠WC) v r.said/\ah w' Yc 386 (bp p Y8 ap (tell r 0 r.n) {x with Y1:=v}).toArray/\ar w' ap WC n (upd V (8*r.af.toNat) (afa (jX (up r.next))))/\Z1 (fun b=>b≠Yc/\b≠WC) w0 w':=by
 have U:=aah.dp hb Xg h1 aaV;have aby:=I abk;obtain⟨W9,adX,aeQ,acN,acG,aeb,af3,ZM,rfl⟩:=eW abk;have hm:=Xg.cE;clear Xg hb abk;have ki:=I ok;have Wy:aR r.next:=by have:=ok.ok.aas;have e:=ok.eq;unfold aR;omega
 have adZ:=I ok.ok;have ab3:=I ok.ok.open_;clear ok;obtain⟨c,Wj⟩: ∃c,Hid (up r.next=c):=⟨_,I rfl⟩
 rw[Wj.out]at adZ ab3 cx⊢;have h0:=fun w=>EV c w adZ.out cx;obtain⟨d,ach⟩: ∃d,Hid (jX c=d):=⟨_,I rfl⟩
 rw[ach.out]at ab3 h0⊢;clear cx;have hd:aR (afa d):=by have:=ab3.out.aas;unfold aR;omega
 go_enter func357,ntmps357;go_wp2_with(first|(go_at_call 239;refine a6 U (gQ _ _ ki.out Wy) ?_;clear U;intro aaM U;rw[Wj.out])|(go_at_call 292;refine a6 U (h0 _) ?_;clear U;intro aaM U)|(go_at_call 278;refine a6 U (nD _ _ ab3.out) ?_;clear U;intro aaM U)|(go_at_call 360;refine Calls.mono (tA _ p Y8 ap WC n Yc V r ⟨.slice W9 r.chain.length adX,.slice aeQ r.list.length acN,.slice acG r.said.length aeb,.slice af3 r.aC.said.length ZM⟩ 0 (afa d) (U.b ag) U.bB h1 aaV aeJ abi ci J hd) ?_;rintro e aaM ⟨rfl,N,aH,aX⟩;replace U:=U.call cf N aH aX;clear N aH aX)|(refine aq ?_)|(refine aT ?_;clear U;intro X8 w U aay));exact o8
end
end
end
end
section
theorem lN{G:Prop}(h:G:=by
 replace U:=U.drew;refine b0 ?_;intro X;refine az [[0,1,2,3,4,5,6,7,8]] ?_;refine Zj [9,13] ?_;refine ea (fun K Z7=>?_) ?_
 ·go_simp;go_at_call 353;refine a6 U (oS _ _ _ n V _ k _ _ _ _ _ _ U.bB abu.out ae3 O.out) ?_;clear U;intro aaM U;go_wp2_with fail;refine abR Z7 fun X=>?_;refine az [[10,11,12],[13,14],[15]] ?_;clear U;intro g3 gJ w U;go_wp2_with fail;go_meet;exact⟨_,rfl,U⟩
 refine ei (fun K Z7=>?_);refine ZZ U gW ?_;clear U;intro g3 w U gJ;refine abR Z7 fun X=>?_;refine aF 9 fun K Z7=>?_;go_simp;go_at_call 353;refine a6 U (oS _ _ _ n V _ k _ _ _ _ _ _ U.bB abu.out ae3 O.out) ?_;clear U;intro aaM U;go_wp2_with fail;refine abR Z7 fun X=>?_;refine az [[10,11,12],[14],[15]] ?_;clear U;intro w U;go_wp2_with fail;go_meet;exact⟨_,rfl,U⟩):G:=h
theorem qn{G:Prop}(h:G:=by
 refine abR Z7 (fun X=>?_) (by first|exact U.h5|exact U.j1|exact U.j2);refine aF 13 fun K Z7=>?_;rw[Z (by rfl)];refine gG aaH U adS rfl _ _ 30 rfl (.int .i64 0) 8 bg b6 rfl (by decide) rfl ⟨di,0,none⟩ 1 1 [.int .i64 r.at_] rfl rfl (U.news ag) rfl (by have:=aey.out;unfold maxLen;omega) (by have:=aey.out;omega) ?_;clear U aaH adS;intro WP w U adS;obtain⟨afC,ace,rfl⟩:=adS.form;have hv:=adS.yl;clear adS;have aaH:=U;clear U;have U:=aaH.base;refine abR Z7 (fun X=>?_) (by first|exact U.h5|exact U.j1|exact U.j2);refine az [[14,15,16]] ?_;refine aF 17 fun K Z7=>?_;refine adk U ?_;clear U;intro w U VG;refine abR Z7 (fun X=>?_) (by exact X.store VG (by rfl));refine adB ?_;go_wp2_with(first|(refine aq ?_)|(refine aT ?_;clear U;intro X8 w U aay));replace U:=U.drew;refine wp_region_held_drew (by kernel_rfl) (U.h5 (xs:= [20])) (fun X=>?_);refine az [[0,1,2,3,5]] ?_;refine td 6 ?_;refine Xh 7 ?_;refine aF 4 fun K Z7=>?_;refine YL U ?_;refine abR Z7 (fun X=>?_) (by first|exact U.h5|exact U.j1|exact U.j2);refine az [[8,9,10,11]] ?_;refine aF 12 fun K Z7=>?_;refine adk U ?_;clear U;intro w U VG;refine abR Z7 (fun X=>?_) (by exact X.store VG (by rfl));refine adB ?_;go_wp2_with(first|(refine aq ?_)|(refine aT ?_;clear U;intro X8 w U aay));refine leaves_cons (f:=352) (args:= #[.pointer (some ⟨Yc,0,none⟩)]) (by simp) (by simp[go_sem]) ?_;have Yq:=U.b (g:=Yc) ag;refine CallsD.mono (Bg _ _ p Y8 ap Yc {r with list:=r.list++ [r.at_],at_:=r.at_+z*8} ⟨ads,.slice afC (r.list.length+1) ace,Wh,Y1⟩ afC ace (by simp) Yq) ?_;rintro e u' aaM ⟨rfl,rfl,N,jT⟩;replace U:=U.hX cf N jT;have c4:=aaH.back U;exact⟨_,results_none results327 _ _ _,.slice afC (r.list.length+1) ace,(U.carry hv fun b _ h=>h.2).mono (fun b _ h=>⟨h.1,fun e=>h.2.1 _ (In.mem ag) e.symm,h.2.2 _ rfl⟩),rfl,c4.b (g:=Yc) ag,c4.bB,c4.Wu⟩):G:=h
theorem o9{G:Prop}(h:G:=by
 (try go_wp2_with fail)
 refine abR Z7 fun X=>?_;refine az [[11,12,13]] ?_;go_wp2_with(first|(refine aq ?_)|(refine aT ?_;clear U;intro X8 w U aay));replace U:=U.drew;refine wp_region_held_drew (by kernel_rfl) (U.h5 (xs:= [20])) (fun X=>?_);refine az [[0,1,2,3,5]] ?_;refine td 6 ?_;refine Xh 7 ?_;refine aF 4 fun K Z7=>?_;refine YL U ?_;refine abR Z7 (fun X=>?_) (by first|exact U.h5|exact U.j1|exact U.j2);refine az [[8,9,10,11]] ?_;refine aF 12 fun K Z7=>?_;refine adk U ?_;clear U;intro w U VG;refine abR Z7 (fun X=>?_) (by exact X.store VG (by rfl));refine adB ?_;go_wp2_with(first|(refine aq ?_)|(refine aT ?_;clear U;intro X8 w U aay));refine leaves_cons (f:=352) (args:= #[.pointer (some ⟨Yc,0,none⟩)]) (by simp) (by simp[go_sem]) ?_;have Yq:=U.b (g:=Yc) ag;refine CallsD.mono (Bg _ _ p Y8 ap Yc {r with at_:=r.at_+z*8} x aeQ acN Jy.out Yq) ?_;rintro e u' aaM ⟨rfl,rfl,N,jT⟩;replace U:=U.hX cf N jT;exact⟨_,results_none results327 _ _ _,rfl,U.b (g:=Yc) ag,U.bB,U.Wu⟩):G:=h
theorem pa{G:Prop}(h:G:=by
 refine abR Z7 (fun X=>?_) (by first|exact U.h5|exact U.j1|exact U.j2);refine aF 6 fun K Z7=>?_;go_simp;go_at_call 59;refine Calls.mono (sY _ S _ _ _ (WS.out.Wu (U.Wu.mono hS)) aey.out (gp _ _)) ?_;rintro e aaM ⟨Zv,rfl,h2,N⟩;have adS:=aaQ.made U N h2;obtain⟨WY,act,rfl⟩:=adS.form;have aaH:=U.below N;clear U h2 N;have U:=aaH.base;go_wp2_with fail;exact qn):G:=h
section
variable(w0:World)(p:afy)(Y8:Value)(ap WC n Yc:Nat)(V:Nat->Int)(r:aax)(x:Yr)(aeQ:Option Addr)(acN:Nat)(li:x.ls= .slice aeQ r.list.length acN)(hb:ah w0 Yc 386 (bp p Y8 ap r x).toArray)(Xg:ar w0 ap WC n V)(h1:Yc≠ap)(aaV:Yc≠WC)(aeJ:a9 p)(abi:8*p.s<=n)(ci:0<=r.af/\r.af<p.s)(F:b1)(Vs:Nat->Value)(Sf:Nat->Prop)(hF:eF w0 Sf Y8 F Vs)(m7:F.length<=8)(v1: ∀b,b<w0.heap.size->Sf b->b≠Yc/\b≠WC)(k:Nat)(XD:r.at_=8*k)(ae3:k+1<n)(z l t s' e':Int)
include w0 p Y8 ap WC n Yc V r x aeQ acN li hb Xg h1 aaV aeJ abi ci F Vs Sf hF m7 v1 k XD ae3 z l t s' e'
theorem GR(o:isObj (V k) (V (k+1)) z l t true s' e'):
 Calls prog 327 #[.pointer (some ⟨Yc,0,none⟩)] w0 fun e w'=>e= .returned (.tuple #[])/\ah w' Yc 386 (bp p Y8 ap (ee {r with at_:=r.at_+z*8}) x).toArray/\ar w' ap WC n V/\Z1 (fun b=>b≠Yc/\b≠WC) w0 w':=by
 have hm:=Xg.cE;have aeN:0<=z/\z<=72:=by have:=o.ok.2.1;have:=o.ok.1;omega
 have ia:0<=t/\t<=7:=o.ok.2.2.1;have O:=I o;have abu:=I XD;have WX:=I hF;have fG:0<=r.at_/\r.at_<=65536:=J;have xm:IntKind.i64.wrap (z*8)=z*8:=by rw[IntKind.wrap_i64];omega
 have ur:IntKind.i64.wrap (r.at_+z*8)=r.at_+z*8:=by rw[IntKind.wrap_i64];omega
 clear o XD hF;have Jy:=I li;clear li;have U:=aah.dp hb Xg h1 aaV;clear Xg hb;go_enter_defers func327,ntmps327;go_wp2_with(first|(refine aq ?_)|(refine aT ?_;clear U;intro X8 w U aay));go_cut [2,3]from 5 to 18 (fun abq abb ZT=> ∃g,abq= .pointer (some ⟨g,0,none⟩)/\aah w0 (fun b=>b≠Yc/\b≠WC) ZT (some ⟨ap,WC,n,V⟩) [⟨g,91,[.int .i64 z,.int .i64 l,.int .i64 t,.bool true,.int .i64 s',.int .i64 e']⟩,⟨Yc,386,bp p Y8 ap r x⟩])
 case first=>
  exact lN
 case rest=>
 obtain⟨g,rfl,U⟩:=hcut;go_wp2_with(first|(refine aq ?_)|(refine aT ?_;clear U;intro X8 w U aay));replace U:=U.drew;refine b0 ?_;intro X;refine az [[0,1,2,3,4,5,6,7,8,9]] ?_;refine aF 10 fun K Z7=>?_;go_simp
 (first|fail|skip)
 exact o9
theorem GU(o:isObj (V k) (V (k+1)) z l t false s' e')(n3:bY F t.toNat= []):
 Calls prog 327 #[.pointer (some ⟨Yc,0,none⟩)] w0 fun e w'=>e= .returned (.tuple #[])/\ah w' Yc 386 (bp p Y8 ap (ee {r with at_:=r.at_+z*8}) x).toArray/\ar w' ap WC n V/\Z1 (fun b=>b≠Yc/\b≠WC) w0 w':=by
 have hm:=Xg.cE;have aeN:0<=z/\z<=72:=by have:=o.ok.2.1;have:=o.ok.1;omega
 have ia:0<=t/\t<=7:=o.ok.2.2.1;have O:=I o;have abu:=I XD;have WX:=I hF;have fG:0<=r.at_/\r.at_<=65536:=J;have xm:IntKind.i64.wrap (z*8)=z*8:=by rw[IntKind.wrap_i64];omega
 have ur:IntKind.i64.wrap (r.at_+z*8)=r.at_+z*8:=by rw[IntKind.wrap_i64];omega
 clear o XD hF;have Jy:=I li;clear li;have MT:=I n3;clear n3;have U:=aah.dp hb Xg h1 aaV;clear Xg hb;go_enter_defers func327,ntmps327;go_wp2_with(first|(refine aq ?_)|(refine aT ?_;clear U;intro X8 w U aay));go_cut [2,3]from 5 to 18 (fun abq abb ZT=> ∃g,abq= .pointer (some ⟨g,0,none⟩)/\aah w0 (fun b=>b≠Yc/\b≠WC) ZT (some ⟨ap,WC,n,V⟩) [⟨g,91,[.int .i64 z,.int .i64 l,.int .i64 t,.bool false,.int .i64 s',.int .i64 e']⟩,⟨Yc,386,bp p Y8 ap r x⟩])
 case first=>
  exact lN
 case rest=>
 obtain⟨g,rfl,U⟩:=hcut;go_wp2_with(first|(refine aq ?_)|(refine aT ?_;clear U;intro X8 w U aay));replace U:=U.drew;refine b0 ?_;intro X;refine az [[0,1,2,3,4,5,6,7,8,9]] ?_;refine aF 10 fun K Z7=>?_;go_simp
 (first|(go_at_call 289;refine Calls.mono (Fh _ Sf Y8 F Vs t (WX.out.Wu (U.Wu.mono v1)) m7 ia) ?_;rintro e aaM ⟨A9,Zi,rfl,-,rfl⟩;rw[MT.out])|skip)
 exact o9
end
theorem GV(w0:World)(p:afy)(Y8:Value)(ap WC n Yc:Nat)(V:Nat->Int)(r:aax)(x:Yr)(S:Nat->Prop)(abk:cF w0 S x.ls r.list)(YJ:r.list.length<=65536)(hS: ∀b,b<w0.heap.size->S b->b≠Yc/\b≠WC)(hb:ah w0 Yc 386 (bp p Y8 ap r x).toArray)(Xg:ar w0 ap WC n V)(h1:Yc≠ap)(aaV:Yc≠WC)(aeJ:a9 p)(abi:8*p.s<=n)(ci:0<=r.af/\r.af<p.s)(F:b1)(Vs:Nat->Value)(Sf:Nat->Prop)(hF:eF w0 Sf Y8 F Vs)(m7:F.length<=8)(v1: ∀b,b<w0.heap.size->Sf b->b≠Yc/\b≠WC)(k:Nat)(XD:r.at_=8*k)(ae3:k+1<n)(z l t s' e':Int)(o:isObj (V k) (V (k+1)) z l t false s' e')(n3:bY F t.toNat≠ []):
 Calls prog 327 #[.pointer (some ⟨Yc,0,none⟩)] w0 fun e w'=> ∃v,cF w' (fun b=>w0.heap.size<=b/\b≠Yc/\b≠WC) v (r.list++ [r.at_])/\e= .returned (.tuple #[])/\ah w' Yc 386 (bp p Y8 ap (ee {r with list:=r.list++ [r.at_],at_:=r.at_+z*8}) {x with ls:=v}).toArray/\ar w' ap WC n V/\Z1 (fun b=>b≠Yc/\b≠WC) w0 w':=by
 have hm:=Xg.cE;have aeN:0<=z/\z<=72:=by have:=o.ok.2.1;have:=o.ok.1;omega
 have ia:0<=t/\t<=7:=o.ok.2.2.1;have O:=I o;have abu:=I XD;have WX:=I hF;have fG:0<=r.at_/\r.at_<=65536:=J;have xm:IntKind.i64.wrap (z*8)=z*8:=by rw[IntKind.wrap_i64];omega
 have ur:IntKind.i64.wrap (r.at_+z*8)=r.at_+z*8:=by rw[IntKind.wrap_i64];omega
 clear o XD hF;obtain⟨ads,ls,Wh,Y1⟩:=x;simp only at abk;obtain⟨aeQ,acN,abF,-,-,-⟩:=id abk;have WS:=I abk;have aey:=I YJ;clear abk YJ;subst abF;have MT:=I n3;clear n3;have rQ:=I (List.length_pos_iff.2 MT.out);obtain⟨ad6,aac⟩: ∃ad6,Hid ((bY F t.toNat).length=ad6):=⟨_,I rfl⟩
 have JB:0<ad6:=by rw[<-aac.out];exact rQ.out
 have d9:decide ((0:Int)<(ad6:Int))=true:=by simp;omega
 clear rQ;have U:=aah.dp hb Xg h1 aaV;clear Xg hb;go_enter_defers func327,ntmps327;go_wp2_with(first|(refine aq ?_)|(refine aT ?_;clear U;intro X8 w U aay));go_cut [2,3]from 5 to 18 (fun abq abb ZT=> ∃g,abq= .pointer (some ⟨g,0,none⟩)/\aah w0 (fun b=>b≠Yc/\b≠WC) ZT (some ⟨ap,WC,n,V⟩) [⟨g,91,[.int .i64 z,.int .i64 l,.int .i64 t,.bool false,.int .i64 s',.int .i64 e']⟩,⟨Yc,386,bp p Y8 ap r ⟨ads,.slice aeQ r.list.length acN,Wh,Y1⟩⟩])
 case first=>
  exact lN
 case rest=>
 obtain⟨g,rfl,U⟩:=hcut;go_wp2_with(first|(refine aq ?_)|(refine aT ?_;clear U;intro X8 w U aay));replace U:=U.drew;refine b0 ?_;intro X;refine az [[0,1,2,3,4,5,6,7,8,9]] ?_;refine aF 10 fun K Z7=>?_;go_simp
 (first|(go_at_call 289;refine Calls.mono (Fh _ Sf Y8 F Vs t (WX.out.Wu (U.Wu.mono v1)) m7 ia) ?_;rintro e aaM ⟨A9,Zi,rfl,-,rfl⟩;rw[aac.out])|skip)
 (try go_wp2_with fail)
 refine abR Z7 fun X=>?_;refine az [[11,12,13]] ?_;go_wp2_with(first|(refine aq ?_)|(refine aT ?_;clear U;intro X8 w U aay));replace U:=U.drew;refine wp_region_held_drew aM (U.h5 (xs:= [22])) (fun X=>?_);refine az [[0,1,2,3,4,7,8,9,10]] ?_;refine td 11 ?_;refine Zj [5,12] ?_;refine ea (fun K Z7=>?_) ?_
 ·refine YL U ?_;refine abR Z7 (fun X=>?_) (by first|exact U.h5|exact U.j1|exact U.j2);refine Zj [6,12] ?_;refine ea (fun K Z7=>?_) ?_
  ·go_simp;go_at_call 59;refine Calls.mono (sY _ S _ _ _ (WS.out.Wu (U.Wu.mono hS)) aey.out (gp _ _)) ?_;rintro e aaM ⟨Zv,rfl,h2,N⟩;have adS:=aaQ.made U N h2;obtain⟨WY,act,rfl⟩:=adS.form;have aaH:=U.below N;clear U h2 N;have U:=aaH.base;go_wp2_with fail;refine abR Z7 (fun X=>?_) (by first|exact U.h5|exact U.j1|exact U.j2);refine aF 12 fun K Z7=>?_;rw[Z (by rfl)];refine bK U 30 3 _ rfl _ [.int .i64 r.at_] rfl rfl (.int .i64 0) 1 8 bg b6 rfl am am ?_;clear U;intro di w U dO;exact qn
  refine ei (fun K Z7=>?_);rw[Z (by rfl)];refine bK U 30 3 _ rfl _ [.int .i64 r.at_] rfl rfl (.int .i64 0) 1 8 bg b6 rfl am am ?_;clear U;intro di w U dO;exact pa
 refine ei (fun K Z7=>?_);rw[Z (by rfl)];refine bK U 30 3 _ rfl _ [.int .i64 r.at_] rfl rfl (.int .i64 0) 1 8 bg b6 rfl am am ?_;clear U;intro di w U dO;refine abR Z7 (fun X=>?_) (by first|exact U.h5|exact U.j1|exact U.j2);refine aF 5 fun K Z7=>?_;refine YL U ?_;exact pa
end
theorem qo{G:Prop}(h:G:=by
 go_wp2_with(first|(refine aq ?_)|(refine ac2 U ?_;clear U;intro w U));refine leaves_cons (f:=355) (args:= #[.pointer (some ⟨Yc,0,none⟩)]) (by simp) (by simp[go_sem]) ?_;have Yq:=U.b (g:=Yc) ag;refine CallsD.mono (zz _ _ p Y8 ap Yc {r with list:=pre,n:=r.n+1,op:=0} ⟨ads,.slice WY m act,Wh,Y1⟩ WY act (by rw[<-gv.out]) Yq) ?_;rintro e u' aaM ⟨rfl,rfl,N,jT⟩;replace U:=U.hX cf N jT;have c4:=aaH.back U;exact⟨_,results_none results329 _ _ _,.slice WY m act,(by show acr _ _ _ pre.length 1 _;rw[gv.out];exact(U.carry hv fun b _ h=>h.2).mono (fun b _ h=>⟨h.1,fun e=>h.2.1 _ (In.mem ag) e.symm,h.2.2 _ rfl⟩)),rfl,c4.b (g:=Yc) ag,c4.bB,c4.Wu⟩):G:=h
theorem qp{G:Prop}(h:G:=by
 refine aF 10 fun K Z7=>?_;go_simp;go_at_call 59;refine Calls.mono (lu _ S _ m (hq pre) (jx.out.Wu (U.Wu.mono hS)) aey.out (gp _ _)) ?_;rintro e aaM ⟨Zv,rfl,bD,N⟩;obtain⟨WY,act,rfl,-,-,-⟩:=id bD;have hv:=U.eh bD;have aaH:=U.below N;clear U bD N;have U:=aaH.base;go_wp2_with fail;refine WE Z7 fun X=>?_;refine az [[17,18,19],[20],[21,22,23],[24],[25,26,27],[28]] ?_;clear U;intro w U;exact qo):G:=h
theorem GX(w0:World)(p:afy)(Y8:Value)(ap WC n Yc:Nat)(V:Nat->Int)(r:aax)(x:Yr)(S:Nat->Prop)(pre:List Int)(a:Int)(abk:cF w0 S x.ls (pre++ [a]))(YJ:pre.length<=65536)(hS: ∀b,b<w0.heap.size->S b->b≠Yc/\b≠WC)(hb:ah w0 Yc 386 (bp p Y8 ap r x).toArray)(Xg:ar w0 ap WC n V)(h1:Yc≠ap)(aaV:Yc≠WC)(Bh:0<=r.n/\r.n<=65536)(k:Nat)(XD:a=8*k)(ae3:k+1<n)(z l t s' e':Int)(d:Bool)(o:isObj (V k) (V (k+1)) z l t d s' e'):
 Calls prog 329 #[.pointer (some ⟨Yc,0,none⟩)] w0 fun e w'=> ∃v,cF w' (fun b=>w0.heap.size<=b/\b≠Yc/\b≠WC) v pre/\e= .returned (.tuple #[])/\ah w' Yc 386 (bp p Y8 ap (bP {r with list:=pre,n:=r.n+1,op:=0}) {x with ls:=v}).toArray/\ar w' ap WC n (upd V k (hF z l t 1))/\Z1 (fun b=>b≠Yc/\b≠WC) w0 w':=by
 have hm:=Xg.cE;obtain⟨ads,ls,Wh,Y1⟩:=x;simp only at abk;obtain⟨aeQ,acN,abF,jN,uR,kA⟩:=id abk;rw[ak,dh]at abF jN kA;obtain⟨b,off,rfl,zA,fC,XP⟩:=kA J;subst abF;have c3:w0.cell? ⟨b,off+pre.length,none⟩=some (.int .i64 a):=by
  exact k7
 have ZR:=I (show cF w0 S (.slice (some ⟨b,off,none⟩) pre.length acN) pre from⟨_,_,rfl,J,uR,fun abi=>⟨b,off,rfl,zA,fC,fun i j u hi hu=>XP i j u J (by unfold hq at hu⊢;rw[ae,aA hi,<-ae];exact hu)⟩⟩);have aey:=I YJ;obtain⟨m,gv⟩: ∃m,Hid (pre.length=m):=⟨_,I rfl⟩
 rw[gv.out]at c3 ZR aey jN;rw[gv.out]at hb;have gC:m<=65536:=aey.out;have jx:=I (show acr w0 S (.slice (some ⟨b,off,none⟩) m acN) m 1 (hq pre) by have:=ZR.out;unfold cF at this;rw[gv.out]at this;exact this);unfold maxLen at uR;have KV:(m:Int)<=(acN:Int):=J;have iF:(0:Int)<=(m:Int):=J;have iu:(m:Int)<(m:Int)+1:=J;have xm:IntKind.i64.wrap (r.n+1)=r.n+1:=by rw[IntKind.wrap_i64];omega
 have ur:IntKind.i64.wrap ((m:Int)+1-1)=(m:Int):=by rw[IntKind.wrap_i64];omega
 clear YJ XP kA abk;have lO:=hS;have O:=I o;have abu:=I XD;clear o XD;have U:=aah.dp hb Xg h1 aaV;clear Xg hb;go_enter_defers func329,ntmps329;go_wp2_with(first|(refine aq ?_)|(refine ac2 U ?_;clear U;intro w U));replace U:=U.drew;refine wp_region_held_drew (S:=(fun w=>c0 [⟨Yc,386,bp p Y8 ap r ⟨ads,.slice (some ⟨b,off,none⟩) (m+1) acN,Wh,Y1⟩⟩] w/\w.cell? ⟨b,off+m,none⟩=some (.int .i64 a))) aM ?_ (fun X=>?_)
 ·exact⟨U.has,U.Wu.cell (p:=⟨b,off+m,none⟩) fC (lO _ fC zA)|>.trans c3⟩
 refine az [[0,1,2]] ?_;refine eE 3 rfl (cb (by rfl) 138 _ rfl _ _ rfl (fun w h=>c0.at_ ag w h.1) _ (by rfl) underlying138 rfl) ?_;refine az [[4,5,6,7]] ?_;refine eE 8 rfl (cb (by rfl) 30 _ rfl _ _ rfl (fun w h=>c0.at_ ag w h.1) _ (by rfl) underlying30 rfl) ?_;refine az [[9,10]] ?_;refine eE 11 rfl (bl (by rfl) 3 _ rfl _ _ rfl _ (fun w h=>h.2) underlying3 rfl) ?_;refine aF 12 fun K Z7=>?_;go_simp
 (go_at_call 356;refine Calls.mono (Gn _ _ _ n V _ k _ _ _ _ _ _ U.bB abu.out ae3 O.out) ?_;rintro e aaM ⟨rfl,aH,N⟩;have pV:aaM.cell? ⟨b,off+m,none⟩=some (.int .i64 a):=(N.cell (p:=⟨b,off+m,none⟩) (aj fC U.size) (lO _ fC zA).2).trans (U.Wu.cell (p:=⟨b,off+m,none⟩) fC (lO _ fC zA)|>.trans c3);replace U:=U.arena aH N;clear aH N)
 go_wp2_with fail;refine abR Z7 (fun X=>?_) (by exact⟨U.has,pV⟩);refine adB ?_;go_wp2_with(first|(refine aq ?_)|(refine ac2 U ?_;clear U;intro w U));replace U:=U.drew;refine wp_region_held_drew (S:=(fun _=>True)) aM ?_ (fun X=>?_)
 ·trivial
 refine az [[0,1,2,3,4,5,6,8,11,12,13,14]] ?_;refine Zj [7,15] ?_;refine ea (fun K Z7=>?_) ?_
 ·refine YL U ?_;refine WE Z7 fun X=>?_;refine Xh 9 ?_;refine Zj [10,15] ?_;refine ea (fun K Z7=>?_) ?_
  ·go_simp;go_at_call 59;refine Calls.mono (lu _ S _ m (hq pre) (jx.out.Wu (U.Wu.mono hS)) aey.out (gp _ _)) ?_;rintro e aaM ⟨Zv,rfl,bD,N⟩;obtain⟨WY,act,rfl,-,-,-⟩:=id bD;have hv:=U.eh bD;have aaH:=U.below N;clear U bD N;have U:=aaH.base;go_wp2_with fail;refine WE Z7 fun X=>?_;refine az [[],[15],[16,17,18,19],[20],[21,22,23],[24],[25,26,27],[28]] ?_;clear U;intro w U;exact qo
  refine ei (fun K Z7=>?_);refine YL U ?_;refine WE Z7 fun X=>?_;refine Xh 16 ?_;exact qp
 refine ei (fun K Z7=>?_);refine YL U ?_;refine WE Z7 fun X=>?_;refine az [[16],[7],[9]] ?_;exact qp
section
section
variable(w0:World)(S:Nat->Prop)(p:afy)(Y8:Value)(F:b1)(Vs:Nat->Value)(ap WC n:Nat)(V V2:Nat->Int)(r XY:aax)(x:Yr)(Xg:ar w0 ap WC n V)(abk:aW w0 S r x)(hF:eF w0 S Y8 F Vs)(hS: ∀b,b<w0.heap.size->S b->b≠WC)(hd:r.fin=false)
include w0 S p Y8 F Vs ap WC n V V2 r XY x Xg abk hF hS hd
theorem sL(a5:r.Xj=19)(YT: ∀(aaM:World) (Yc:Nat) (X7:Nat->Prop),ah aaM Yc 386 (bp p Y8 ap r x).toArray->ar aaM ap WC n V->Yc≠ap->Yc≠WC->aW aaM X7 r x->eF aaM X7 Y8 F Vs->(∀b,b<aaM.heap.size->X7 b->b≠Yc/\b≠WC)->Calls prog 327 #[.pointer (some ⟨Yc,0,none⟩)] aaM fun e w'=> ∃x',e= .returned (.tuple #[])/\aW w' (fun b=>X7 b\/aaM.heap.size<=b/\b≠Yc/\b≠WC) XY x'/\ah w' Yc 386 (bp p Y8 ap XY x').toArray/\ar w' ap WC n V2/\Z1 (fun b=>b≠Yc/\b≠WC) aaM w'):
 Calls prog 188 #[ej p,Y8,.pointer (some ⟨ap,0,none⟩),.agg (aY r x)] w0 fun e w'=> ∃x',e= .returned (.tuple #[.agg (aY XY x'),.int .i64 0])/\ar w' ap WC n V2/\aW w' (fun b=>(S b\/w0.heap.size<=b)/\b≠WC) XY x'/\ce w0.heap.size WC w0 w':=by
 have U:=aah.start (A:=some ⟨ap,WC,n,V⟩) (fun b=>b≠WC) w0 Xg fun a e k=>(by cases e;exact k rfl)
 have aby:=I abk;obtain⟨W9,adX,aeQ,acN,acG,aeb,af3,ZM,rfl⟩:=eW abk;have ach:=I hd;have fE:=I a5;have YT:=I YT;have WX:=I hF;obtain⟨af5,acR,aa0,-,-,-⟩:=id hF.row;subst aa0;clear Xg abk hd a5 hF;go_enter func188,ntmps188;go_wp2_with(first|(refine aq ?_)|(refine Ws U 386 ?_;clear U;intro dF w U dG)|(refine aT ?_;clear U;intro X8 w U aay));replace U:=U.drew;refine b0 ?_;intro X;refine az [[1,2]] ?_;refine aF 0 fun K Z7=>?_;go_simp
 (go_at_call 272;refine Calls.mono (fL _) ?_;rintro e aaM ⟨abG,rfl,hm,sB,N⟩;have af7:ew aaM abG _:=hm;replace U:=U.below N;clear hm N)
 go_wp2_with fail;refine abR Z7 fun X=>?_;refine aF 3 fun K Z7=>?_;rw[Z (by rfl)];refine eJ af7 382 _ _ rfl underlying382 underlying3 rfl _ _ rfl (by rw[fE.out];rfl) ?_;refine abR Z7 fun X=>?_;refine az [[4,5,6,7,8]] ?_;go_wp2_with(first|(refine g1 ach ?_)|(go_at_call 327;refine Calls.mono (YT.out _ dF (fun b=>b<w0.heap.size/\S b) (U.b (g:=dF) ag) U.bB ((U.WN _ rfl).1 _ (In.mem ag)) ((U.WN _ rfl).2.1 _ (In.mem ag)) ((aby.out.mono fun b hb h=>⟨hb,h⟩).Wu (U.Wu.mono fun b _ h=>hS b h.1 h.2)) ((WX.out.mono fun b hb h=>⟨hb,h⟩).Wu (U.Wu.mono fun b _ h=>hS b h.1 h.2)) (fun b _ h=>⟨fun e=>by have:=dG;omega,hS b h.1 h.2⟩)) ?_;rintro e aaM ⟨x',rfl,bv,N,aH,aX⟩;obtain⟨agd,X3,f1,-,-,-⟩:=id bv.ads;obtain⟨abl,aaZ,f2,-,-,-⟩:=id bv.ls;obtain⟨Xl,XB,f3,-,-,-⟩:=id bv.Wh;obtain⟨XR,Zz,f4,-,-,-⟩:=id bv.Y1;obtain⟨u7,tr,u9,va⟩:=x';simp only at f1 f2 f3 f4;subst f1 f2 f3 f4;have rd:=U.ig (cs':=bp p (.slice af5 F.length acR) ap XY ⟨.slice agd XY.chain.length X3,.slice abl XY.list.length aaZ,.slice Xl XY.said.length XB,.slice XR XY.aC.said.length Zz⟩) (V':=V2) cf hS bv;replace U:=U.call cf N aH aX;clear N aH aX bv;have aaH:=U;clear U;have U:=aaH.base)|(refine aq ?_)|(refine Ws U 386 ?_;clear U;intro dF w U dG)|(refine aT ?_;clear U;intro X8 w U aay));exact dg
theorem DU(a5:r.Xj=20)(YT: ∀(aaM:World) (Yc:Nat) (X7:Nat->Prop),ah aaM Yc 386 (bp p Y8 ap r x).toArray->ar aaM ap WC n V->Yc≠ap->Yc≠WC->aW aaM X7 r x->eF aaM X7 Y8 F Vs->(∀b,b<aaM.heap.size->X7 b->b≠Yc/\b≠WC)->Calls prog 328 #[.pointer (some ⟨Yc,0,none⟩)] aaM fun e w'=> ∃x',e= .returned (.tuple #[])/\aW w' (fun b=>X7 b\/aaM.heap.size<=b/\b≠Yc/\b≠WC) XY x'/\ah w' Yc 386 (bp p Y8 ap XY x').toArray/\ar w' ap WC n V2/\Z1 (fun b=>b≠Yc/\b≠WC) aaM w'):
 Calls prog 188 #[ej p,Y8,.pointer (some ⟨ap,0,none⟩),.agg (aY r x)] w0 fun e w'=> ∃x',e= .returned (.tuple #[.agg (aY XY x'),.int .i64 0])/\ar w' ap WC n V2/\aW w' (fun b=>(S b\/w0.heap.size<=b)/\b≠WC) XY x'/\ce w0.heap.size WC w0 w':=by
 have U:=aah.start (A:=some ⟨ap,WC,n,V⟩) (fun b=>b≠WC) w0 Xg fun a e k=>(by cases e;exact k rfl)
 have aby:=I abk;obtain⟨W9,adX,aeQ,acN,acG,aeb,af3,ZM,rfl⟩:=eW abk;have ach:=I hd;have fE:=I a5;have YT:=I YT;have WX:=I hF;obtain⟨af5,acR,aa0,-,-,-⟩:=id hF.row;subst aa0;clear Xg abk hd a5 hF;go_enter func188,ntmps188;go_wp2_with(first|(refine aq ?_)|(refine Ws U 386 ?_;clear U;intro dF w U dG)|(refine aT ?_;clear U;intro X8 w U aay));replace U:=U.drew;refine b0 ?_;intro X;refine az [[1,2]] ?_;refine aF 0 fun K Z7=>?_;go_simp
 (go_at_call 272;refine Calls.mono (fL _) ?_;rintro e aaM ⟨abG,rfl,hm,sB,N⟩;have af7:ew aaM abG _:=hm;replace U:=U.below N;clear hm N)
 go_wp2_with fail;refine abR Z7 fun X=>?_;refine aF 3 fun K Z7=>?_;rw[Z (by rfl)];refine eJ af7 382 _ _ rfl underlying382 underlying3 rfl _ _ rfl (by rw[fE.out];rfl) ?_;refine abR Z7 fun X=>?_;refine az [[4,5,6,7,8]] ?_;go_wp2_with(first|(refine g1 ach ?_)|(go_at_call 328;refine Calls.mono (YT.out _ dF (fun b=>b<w0.heap.size/\S b) (U.b (g:=dF) ag) U.bB ((U.WN _ rfl).1 _ (In.mem ag)) ((U.WN _ rfl).2.1 _ (In.mem ag)) ((aby.out.mono fun b hb h=>⟨hb,h⟩).Wu (U.Wu.mono fun b _ h=>hS b h.1 h.2)) ((WX.out.mono fun b hb h=>⟨hb,h⟩).Wu (U.Wu.mono fun b _ h=>hS b h.1 h.2)) (fun b _ h=>⟨fun e=>by have:=dG;omega,hS b h.1 h.2⟩)) ?_;rintro e aaM ⟨x',rfl,bv,N,aH,aX⟩;obtain⟨agd,X3,f1,-,-,-⟩:=id bv.ads;obtain⟨abl,aaZ,f2,-,-,-⟩:=id bv.ls;obtain⟨Xl,XB,f3,-,-,-⟩:=id bv.Wh;obtain⟨XR,Zz,f4,-,-,-⟩:=id bv.Y1;obtain⟨u7,tr,u9,va⟩:=x';simp only at f1 f2 f3 f4;subst f1 f2 f3 f4;have rd:=U.ig (cs':=bp p (.slice af5 F.length acR) ap XY ⟨.slice agd XY.chain.length X3,.slice abl XY.list.length aaZ,.slice Xl XY.said.length XB,.slice XR XY.aC.said.length Zz⟩) (V':=V2) cf hS bv;replace U:=U.call cf N aH aX;clear N aH aX bv;have aaH:=U;clear U;have U:=aaH.base)|(refine aq ?_)|(refine Ws U 386 ?_;clear U;intro dF w U dG)|(refine aT ?_;clear U;intro X8 w U aay));exact dg
theorem DV(a5:r.Xj=21)(YT: ∀(aaM:World) (Yc:Nat) (X7:Nat->Prop),ah aaM Yc 386 (bp p Y8 ap r x).toArray->ar aaM ap WC n V->Yc≠ap->Yc≠WC->aW aaM X7 r x->eF aaM X7 Y8 F Vs->(∀b,b<aaM.heap.size->X7 b->b≠Yc/\b≠WC)->Calls prog 329 #[.pointer (some ⟨Yc,0,none⟩)] aaM fun e w'=> ∃x',e= .returned (.tuple #[])/\aW w' (fun b=>X7 b\/aaM.heap.size<=b/\b≠Yc/\b≠WC) XY x'/\ah w' Yc 386 (bp p Y8 ap XY x').toArray/\ar w' ap WC n V2/\Z1 (fun b=>b≠Yc/\b≠WC) aaM w'):
 Calls prog 188 #[ej p,Y8,.pointer (some ⟨ap,0,none⟩),.agg (aY r x)] w0 fun e w'=> ∃x',e= .returned (.tuple #[.agg (aY XY x'),.int .i64 0])/\ar w' ap WC n V2/\aW w' (fun b=>(S b\/w0.heap.size<=b)/\b≠WC) XY x'/\ce w0.heap.size WC w0 w':=by
 have U:=aah.start (A:=some ⟨ap,WC,n,V⟩) (fun b=>b≠WC) w0 Xg fun a e k=>(by cases e;exact k rfl)
 have aby:=I abk;obtain⟨W9,adX,aeQ,acN,acG,aeb,af3,ZM,rfl⟩:=eW abk;have ach:=I hd;have fE:=I a5;have YT:=I YT;have WX:=I hF;obtain⟨af5,acR,aa0,-,-,-⟩:=id hF.row;subst aa0;clear Xg abk hd a5 hF;go_enter func188,ntmps188;go_wp2_with(first|(refine aq ?_)|(refine Ws U 386 ?_;clear U;intro dF w U dG)|(refine aT ?_;clear U;intro X8 w U aay));replace U:=U.drew;refine b0 ?_;intro X;refine az [[1,2]] ?_;refine aF 0 fun K Z7=>?_;go_simp
 (go_at_call 272;refine Calls.mono (fL _) ?_;rintro e aaM ⟨abG,rfl,hm,sB,N⟩;have af7:ew aaM abG _:=hm;replace U:=U.below N;clear hm N)
 go_wp2_with fail;refine abR Z7 fun X=>?_;refine aF 3 fun K Z7=>?_;rw[Z (by rfl)];refine eJ af7 382 _ _ rfl underlying382 underlying3 rfl _ _ rfl (by rw[fE.out];rfl) ?_;refine abR Z7 fun X=>?_;refine az [[4,5,6,7,8]] ?_;go_wp2_with(first|(refine g1 ach ?_)|(go_at_call 329;refine Calls.mono (YT.out _ dF (fun b=>b<w0.heap.size/\S b) (U.b (g:=dF) ag) U.bB ((U.WN _ rfl).1 _ (In.mem ag)) ((U.WN _ rfl).2.1 _ (In.mem ag)) ((aby.out.mono fun b hb h=>⟨hb,h⟩).Wu (U.Wu.mono fun b _ h=>hS b h.1 h.2)) ((WX.out.mono fun b hb h=>⟨hb,h⟩).Wu (U.Wu.mono fun b _ h=>hS b h.1 h.2)) (fun b _ h=>⟨fun e=>by have:=dG;omega,hS b h.1 h.2⟩)) ?_;rintro e aaM ⟨x',rfl,bv,N,aH,aX⟩;obtain⟨agd,X3,f1,-,-,-⟩:=id bv.ads;obtain⟨abl,aaZ,f2,-,-,-⟩:=id bv.ls;obtain⟨Xl,XB,f3,-,-,-⟩:=id bv.Wh;obtain⟨XR,Zz,f4,-,-,-⟩:=id bv.Y1;obtain⟨u7,tr,u9,va⟩:=x';simp only at f1 f2 f3 f4;subst f1 f2 f3 f4;have rd:=U.ig (cs':=bp p (.slice af5 F.length acR) ap XY ⟨.slice agd XY.chain.length X3,.slice abl XY.list.length aaZ,.slice Xl XY.said.length XB,.slice XR XY.aC.said.length Zz⟩) (V':=V2) cf hS bv;replace U:=U.call cf N aH aX;clear N aH aX bv;have aaH:=U;clear U;have U:=aaH.base)|(refine aq ?_)|(refine Ws U 386 ?_;clear U;intro dF w U dG)|(refine aT ?_;clear U;intro X8 w U aay));exact dg
theorem DW(a5:r.Xj=22)(YT: ∀(aaM:World) (Yc:Nat) (X7:Nat->Prop),ah aaM Yc 386 (bp p Y8 ap r x).toArray->ar aaM ap WC n V->Yc≠ap->Yc≠WC->aW aaM X7 r x->eF aaM X7 Y8 F Vs->(∀b,b<aaM.heap.size->X7 b->b≠Yc/\b≠WC)->Calls prog 330 #[.pointer (some ⟨Yc,0,none⟩)] aaM fun e w'=> ∃x',e= .returned (.tuple #[])/\aW w' (fun b=>X7 b\/aaM.heap.size<=b/\b≠Yc/\b≠WC) XY x'/\ah w' Yc 386 (bp p Y8 ap XY x').toArray/\ar w' ap WC n V2/\Z1 (fun b=>b≠Yc/\b≠WC) aaM w'):
 Calls prog 188 #[ej p,Y8,.pointer (some ⟨ap,0,none⟩),.agg (aY r x)] w0 fun e w'=> ∃x',e= .returned (.tuple #[.agg (aY XY x'),.int .i64 0])/\ar w' ap WC n V2/\aW w' (fun b=>(S b\/w0.heap.size<=b)/\b≠WC) XY x'/\ce w0.heap.size WC w0 w':=by
 have U:=aah.start (A:=some ⟨ap,WC,n,V⟩) (fun b=>b≠WC) w0 Xg fun a e k=>(by cases e;exact k rfl)
 have aby:=I abk;obtain⟨W9,adX,aeQ,acN,acG,aeb,af3,ZM,rfl⟩:=eW abk;have ach:=I hd;have fE:=I a5;have YT:=I YT;have WX:=I hF;obtain⟨af5,acR,aa0,-,-,-⟩:=id hF.row;subst aa0;clear Xg abk hd a5 hF;go_enter func188,ntmps188;go_wp2_with(first|(refine aq ?_)|(refine Ws U 386 ?_;clear U;intro dF w U dG)|(refine aT ?_;clear U;intro X8 w U aay));replace U:=U.drew;refine b0 ?_;intro X;refine az [[1,2]] ?_;refine aF 0 fun K Z7=>?_;go_simp
 (go_at_call 272;refine Calls.mono (fL _) ?_;rintro e aaM ⟨abG,rfl,hm,sB,N⟩;have af7:ew aaM abG _:=hm;replace U:=U.below N;clear hm N)
 go_wp2_with fail;refine abR Z7 fun X=>?_;refine aF 3 fun K Z7=>?_;rw[Z (by rfl)];refine eJ af7 382 _ _ rfl underlying382 underlying3 rfl _ _ rfl (by rw[fE.out];rfl) ?_;refine abR Z7 fun X=>?_;refine az [[4,5,6,7,8]] ?_;go_wp2_with(first|(refine g1 ach ?_)|(go_at_call 330;refine Calls.mono (YT.out _ dF (fun b=>b<w0.heap.size/\S b) (U.b (g:=dF) ag) U.bB ((U.WN _ rfl).1 _ (In.mem ag)) ((U.WN _ rfl).2.1 _ (In.mem ag)) ((aby.out.mono fun b hb h=>⟨hb,h⟩).Wu (U.Wu.mono fun b _ h=>hS b h.1 h.2)) ((WX.out.mono fun b hb h=>⟨hb,h⟩).Wu (U.Wu.mono fun b _ h=>hS b h.1 h.2)) (fun b _ h=>⟨fun e=>by have:=dG;omega,hS b h.1 h.2⟩)) ?_;rintro e aaM ⟨x',rfl,bv,N,aH,aX⟩;obtain⟨agd,X3,f1,-,-,-⟩:=id bv.ads;obtain⟨abl,aaZ,f2,-,-,-⟩:=id bv.ls;obtain⟨Xl,XB,f3,-,-,-⟩:=id bv.Wh;obtain⟨XR,Zz,f4,-,-,-⟩:=id bv.Y1;obtain⟨u7,tr,u9,va⟩:=x';simp only at f1 f2 f3 f4;subst f1 f2 f3 f4;have rd:=U.ig (cs':=bp p (.slice af5 F.length acR) ap XY ⟨.slice agd XY.chain.length X3,.slice abl XY.list.length aaZ,.slice Xl XY.said.length XB,.slice XR XY.aC.said.length Zz⟩) (V':=V2) cf hS bv;replace U:=U.call cf N aH aX;clear N aH aX bv;have aaH:=U;clear U;have U:=aaH.base)|(refine aq ?_)|(refine Ws U 386 ?_;clear U;intro dF w U dG)|(refine aT ?_;clear U;intro X8 w U aay));exact dg
end
end
end Go.Proofs.YtcimojgkeoecfaaGreat
