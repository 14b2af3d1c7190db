import Derived.Test.YtcimojgkeoecfaaGreatVbi
import Derived.Test.YtcimojgkeoecfaaGreatVbk
set_option linter.all false
set_option maxHeartbeats 16000000
set_option maxRecDepth 100000
namespace Go.Proofs.YtcimojgkeoecfaaGreat
open Go.RowKit Tryz
structure zu(p:PO)(n:Nat)(V:Nat->Int)(r:RJ):Prop where
 XJ:aR r.hand
 Xu:aR r.val
 Xj:5<=r.Xj/\r.Xj<=12
 UJ:r.Xj=5\/r.Xj=6->dr r.hand/\VA r.hand<p.s
 Un:r.Xj=7\/r.Xj=8->dr r.val/\VA r.val<p.s
 Vy:r.Xj=8->r.call.op=9->dr r.hand
 Yy:r.Xj=9\/r.Xj=10->∃k:Nat,r.at_=8*k/\k<n
 sb:r.Xj=11\/r.Xj=12->0<=r.call.a/\r.call.a<p.s
 ft: ∀s:Nat,s<p.s->okW (V (8*s))
 jd: ∀k,aR (V k)
theorem jm{h:Int}(ok:dr h):WR h=8*((WR h/8).toNat:Nat):=by unfold dr WR at*;omega
theorem Gu(w0:World)(S:Nat->Prop)(p:PO)(ap g n:Nat)(V:Nat->Int)(r:RJ)(x:Yr)(G:ar w0 ap g n V)(m:aW w0 S r x)(A:dx r)(hS: ∀b,b<w0.heap.size->S b->b≠g)(hd:r.fin=false)(t:a9 p)(j:8*p.s<=n)(h:zu p n V r):
 Calls prog 189 #[ej p,.pointer (some ⟨ap,0,none⟩),.agg (aY r x)] w0 fun e w'=> ∃x',e= .returned (.tuple #[.agg (aY (cK p n V r).2 x'),.int .i64 0])/\ar w' ap g n (cK p n V r).1/\aW w' (fun b=>(S b\/w0.heap.size<=b)/\b≠g) (cK p n V r).2 x'/\ce w0.heap.size g w0 w':=by
 have W: ∀h,dr h->0<=VA h:=fun h o=>o.1;have T: ∀(h:Int),dr h->VA h<p.s->(VA h).toNat<p.s:=fun h o l=>by have:=o.1;omega
 have X:=h.Xj;rcases(by omega:r.Xj=5\/r.Xj=6\/r.Xj=7\/r.Xj=8\/r.Xj=9\/r.Xj=10\/r.Xj=11\/r.Xj=12)with q|q|q|q|q|q|q|q
 ·obtain⟨o,l⟩:=h.UJ (.inl q);have ok:=h.ft _ (T _ o l);by_cases c:(Wi V (VA r.hand).toNat).T5=UP r.hand
  ·have e:cK p n V r=(V,{r with Xj:=6,at_:=r.at_}):=by unfold cK ie;rw[Z q,Z c]
   rw[e];exact Do w0 S p ap g n V r x G m A hS hd q 6 r.at_ (fun w u B hb v h1 f C F=>wG _ p ap g n u V r x hb v h1 f t j r.hand 6 h.XJ o l ok c)
  ·have e:cK p n V r=(V,tell {r with at_:=r.at_} 19 0):=by unfold cK ie;rw[Z q,Y c]
   rw[e];exact Dp w0 S p ap g n V r x G m A hS hd q 6 r.at_ 19 am (fun w u B hb v h1 f C F=>wH _ p ap g n u V r x hb v h1 f t j r.hand 6 h.XJ o l ok c)
 ·obtain⟨o,l⟩:=h.UJ (.inr q);have K:cK p n V r=(V,qz p n V r):=by unfold cK;rw[aB,Z q]
  rw[K];unfold qz;rcases s5 n V (WR r.hand/8).toNat (VA r.hand) (UP r.hand) (fun i _=>h.jd i)with⟨c,y,z⟩|⟨c,no⟩
  ·rw[Z c];have U:((fl V (WR r.hand/8).toNat).l:Int)=V (WR r.hand/8).toNat/4294967296 %256:=by show((V (WR r.hand/8).toNat/4294967296 %256).toNat:Int)=_;omega
   rw[U];by_cases d:0<=r.call.b/\r.call.b<V (WR r.hand/8).toNat/4294967296 %256
   ·rw[Z d];by_cases L:r.call.op=8
    ·rw[Z L];exact sH w0 S p ap g n V r x G m A hS hd q 9 (WR r.hand+16+8*r.call.b) (fun w u B hb v h1 f C F=>Gs _ p ap g n u V r x hb v h1 f t j h.XJ o _ (jm o) y _ _ _ _ z d L)
    ·rw[Y L];by_cases O:r.val=0
     ·rw[Z O];exact sH w0 S p ap g n V r x G m A hS hd q 10 (WR r.hand+16+8*r.call.b) (fun w u B hb v h1 f C F=>Gt _ p ap g n u V r x hb v h1 f t j h.XJ o _ (jm o) y _ _ _ _ z d L O)
     ·rw[Y O];by_cases N:check p r.chain r.val=0
      ·rw[Z N];refine sH w0 S p ap g n V r x G m A hS hd q 7 (WR r.hand+16+8*r.call.b) (fun w u B hb v h1 f C F=>?_);have:=zs _ p ap g n u V r x hb v h1 f t j h.XJ o _ (jm o) y _ _ _ _ z d L O h.Xu B C.TQ A.TQ F;rw[N]at this;exact this
      ·rw[Y N];exact pT w0 S p ap g n V r x G m A hS hd q 7 (WR r.hand+16+8*r.call.b) _ N (fun w u B hb v h1 f C F=>zs _ p ap g n u V r x hb v h1 f t j h.XJ o _ (jm o) y _ _ _ _ z d L O h.Xu B C.TQ A.TQ F)
   ·rw[Y d];exact pT w0 S p ap g n V r x G m A hS hd q r.Xj r.at_ 21 am (fun w u B hb v h1 f C F=>Gr _ p ap g n u V r x hb v h1 f t j h.XJ o _ (jm o) y _ _ _ _ z J)
  ·rw[Y c];rcases no with no|⟨s',e',P,y,z⟩
   ·exact pT w0 S p ap g n V r x G m A hS hd q r.Xj r.at_ 18 am (fun w u B hb v h1 f C F=>Gq _ p ap g n u V r x hb v h1 f t j h.XJ o _ (jm o) (by rw[jm o];exact no))
   ·exact pT w0 S p ap g n V r x G m A hS hd q r.Xj r.at_ 18 am (fun w u B hb v h1 f C F=>Gp _ p ap g n u V r x hb v h1 f t j h.XJ o _ (jm o) y _ _ _ _ _ _ z P)
 ·obtain⟨o,l⟩:=h.Un (.inl q);have ok:=h.ft _ (T _ o l);have K:cK p n V r=(V,ie V r r.val 8):=by unfold cK;rw[aB,aB,Z q]
  rw[K];unfold ie;by_cases c:(Wi V (VA r.val).toNat).T5=UP r.val
  ·rw[Z c];exact Dq w0 S p ap g n V r x G m A hS hd q 8 r.at_ (fun w u B hb v h1 f C F=>wG _ p ap g n u V r x hb v h1 f t j r.val 8 h.Xu o l ok c)
  ·rw[Y c];exact Dr w0 S p ap g n V r x G m A hS hd q 8 r.at_ 19 am (fun w u B hb v h1 f C F=>wH _ p ap g n u V r x hb v h1 f t j r.val 8 h.Xu o l ok c)
 ·obtain⟨o,l⟩:=h.Un (.inr q);have K:cK p n V r=(V,lr n V r):=by unfold cK;rw[aB,aB,aB,Z q]
  rw[K];unfold lr;rcases s5 n V (WR r.val/8).toNat (VA r.val) (UP r.val) (fun i _=>h.jd i)with⟨c,y,z⟩|⟨c,no⟩
  ·rw[Z c];by_cases H:r.call.op=9
   ·have M:=h.Vy q H;rw[Z H,Z H];by_cases ab:kt r.chain (VA r.val) (VA r.hand)=true
    ·rw[Z ab];exact wE w0 S p ap g n V r x G m A hS hd q 10 r.at_ (fun w u B hb v h1 f C F=>Dw _ p ap g n u V r x hb v h1 f t j h.Xu o _ (jm o) y _ _ _ _ z H h.XJ M B C.TQ A.TQ F ab)
    ·rw[Y ab];exact ko w0 S p ap g n V r x G m A hS hd q 10 r.at_ 22 am (fun w u B hb v h1 f C F=>Dx _ p ap g n u V r x hb v h1 f t j h.Xu o _ (jm o) y _ _ _ _ z H h.XJ M B C.TQ A.TQ F (by simpa using ab))
   ·rw[Y H,Y H];by_cases ab:kt r.chain (VA r.val) r.call.a=true
    ·rw[Z ab];exact wE w0 S p ap g n V r x G m A hS hd q 12 r.at_ (fun w u B hb v h1 f C F=>Bc _ p ap g n u V r x hb v h1 f t j h.Xu o _ (jm o) y _ _ _ _ z H B C.TQ A.TQ F ab)
    ·rw[Y ab];exact ko w0 S p ap g n V r x G m A hS hd q 12 r.at_ 22 am (fun w u B hb v h1 f C F=>Bd _ p ap g n u V r x hb v h1 f t j h.Xu o _ (jm o) y _ _ _ _ z H B C.TQ A.TQ F (by simpa using ab))
  ·rw[Y c];by_cases H:r.call.op=9
   ·have M:=h.Vy q H;rcases no with no|⟨s',e',P,y,z⟩
    ·exact ko w0 S p ap g n V r x G m A hS hd q 10 r.at_ 18 am (fun w u B hb v h1 f C F=>Dv _ p ap g n u V r x hb v h1 f t j h.Xu o _ (jm o) (by rw[jm o];exact no) H h.XJ M)
    ·exact ko w0 S p ap g n V r x G m A hS hd q 10 r.at_ 18 am (fun w u B hb v h1 f C F=>Du _ p ap g n u V r x hb v h1 f t j h.Xu o _ (jm o) y _ _ _ _ _ _ z P H h.XJ M)
   ·rcases no with no|⟨s',e',P,y,z⟩
    ·exact ko w0 S p ap g n V r x G m A hS hd q 12 r.at_ 18 am (fun w u B hb v h1 f C F=>Bb _ p ap g n u V r x hb v h1 f t j h.Xu o _ (jm o) (by rw[jm o];exact no) H)
    ·exact ko w0 S p ap g n V r x G m A hS hd q 12 r.at_ 18 am (fun w u B hb v h1 f C F=>Ba _ p ap g n u V r x hb v h1 f t j h.Xu o _ (jm o) y _ _ _ _ _ _ z P H)
 ·obtain⟨k,Q,y⟩:=h.Yy (.inl q);have K:cK p n V r=(V,tell r 0 (Z6 (V k))):=by unfold cK;rw[aB,aB,aB,aB,Z q,show(r.at_/8).toNat=k from J]
  rw[K];exact rM w0 S p ap g n V r x G m A hS hd J _ V (fun w u B hb v h1 f C F=>Gk _ p ap g n u V r x hb v h1 f t j q k Q y (h.jd k))
 ·obtain⟨k,Q,y⟩:=h.Yy (.inr q);have K:cK p n V r=(upd V k r.val,tell r 0 0):=by unfold cK;rw[aB,aB,aB,aB,aB,Z q,show(r.at_/8).toNat=k from J];rfl
  rw[K];exact rM w0 S p ap g n V r x G m A hS hd J 0 _ (fun w u B hb v h1 f C F=>Dl _ p ap g n u V r x hb v h1 f t j q k Q y h.Xu)
 ·have R:=h.sb (.inl q);have K:cK p n V r=(V,tell r 0 (Z6 (V (8*r.call.a.toNat+4)))):=by unfold cK;rw[aB,aB,aB,aB,aB,aB,Z q];rfl
  rw[K];exact rM w0 S p ap g n V r x G m A hS hd J _ V (fun w u B hb v h1 f C F=>Dm _ p ap g n u V r x hb v h1 f t j q R (h.jd _))
 ·have R:=h.sb (.inr q);have K:cK p n V r=(upd V (8*r.call.a.toNat+4) r.val,tell r 0 0):=by unfold cK;rw[aB,aB,aB,aB,aB,aB,aB];rfl
  rw[K];exact rM w0 S p ap g n V r x G m A hS hd J 0 _ (fun w u B hb v h1 f C F=>Dn _ p ap g n u V r x hb v h1 f t j q R h.Xu)
section
section
variable{G:Prop}
include G
theorem qm(h:G:=by
 refine WE Z7 fun X=>?_;refine aF 11 fun K Z7=>?_;go_simp;go_at_call 184;refine Calls.mono (hg _ _ r ⟨.slice W9 r.chain.length Tv,.slice Tz r.list.length Tt,.slice Tu r.said.length Tm,.slice Tx r.aC.said.length ZM⟩ _ _ (U3.out.Wu (U.Wu.mono hS)) bE) ?_;rintro e EH ⟨v',rfl,bD,N⟩;obtain⟨Uu,Ug,rfl,-,-,-⟩:=id bD;have hv:=U.eh bD;clear bD;have DI:=U.below N;clear U N;have U:=DI.base;go_wp2_with fail;refine WE Z7 fun X=>?_;refine az [[12,13],[14]] ?_;clear U;intro w U;go_wp2_with(first|(refine aq ?_)|(refine aT ?_;clear U;intro X8 w U T7));refine fY ?_;have Yq:=U.b (g:=Yc) ag;exact⟨_,rfl,(U.carry hv fun _ _ h=>h.2).mono (fun b _ h=>⟨h.1,fun e=>h.2.1 _ (In.mem ag) e.symm,h.2.2 _ rfl⟩),Yq,U.bB,(DI.back U).Wu⟩):G:=h
theorem o7(h:G:=by
 go_wp2_with(first|(refine aq ?_)|(refine Po U ?_;clear U;intro w U));refine fY ?_;exact⟨rfl,U.b (g:=Yc) ag,U.mW⟩):G:=h
theorem k6(h:G:=by
 go_wp2_with(first|(refine aq ?_)|(refine Po U ?_;clear U;intro w U));replace U:=U.drew;refine b0 ?_;intro X;refine az [[0,1,2,3,4,5,6,7,8,9,10]] ?_;go_wp2_with(first|(refine aq ?_)|(refine Po U ?_;clear U;intro w U));refine fY ?_;exact⟨rfl,U.b (g:=Yc) ag,U.mW⟩):G:=h
theorem i5(h:G:=by
 go_wp2_with(first|(refine g1 Za ?_)|(refine aq ?_)|(refine Po U ?_;clear U;intro w U));refine fY ?_;exact⟨rfl,U.b (g:=Yc) ag,U.mW⟩):G:=h
theorem k7(h:G:=by
 have:=XP pre.length 0 (.int .i64 a) (by omega) (by unfold hq;rw[ae,ay (ai _)];simp);simpa using this):G:=h
theorem o8(h:G:=by
 replace U:=U.drew;refine wp_region_held_drew (S:=(fun _=>True)) (by kernel_rfl) ?_ (fun X=>?_)
 ·trivial
 refine az [[0,1,2,3,5,6,7,8,9]] ?_;refine Zj [4,10] ?_;refine ea (fun K Z7=>?_) ?_
 ·refine Wf U 26 ?_;refine WE Z7 fun X=>?_;refine aF 10 fun K Z7=>?_;refine YL U ?_;exact qm
 refine ei (fun K Z7=>?_);refine YL U ?_;refine WE Z7 fun X=>?_;refine aF 4 fun K Z7=>?_;refine Wf U 26 ?_;exact qm):G:=h
end
theorem dZ{P:Program}{fn:Func}{R:Ending->World->Prop}(h: ∀tmps w,(results fn tmps).run P w= .ok (.tuple #[]) w):
 ∀(ds:List Deferred) (u:FrameMode) (w:World) (tmps l:Array Value),Leaves P fn tmps R ds u w->Leaves P fn l R ds u w:=by
 intro ds;induction ds with
 |nil=>
  intro u w t t' a;cases u with
  |run=>exact a
  |returning=>
   obtain⟨v,b,k⟩:=a;exact⟨v,by rw[h]at b⊢;exact b,k⟩
  |panicking c=>exact a
 |cons d ds g=>
  intro u w t t' a;obtain⟨h1,U5,cap,f,args,j,n,m⟩:=a;refine⟨h1,U5,cap,f,args,j,n,m.mono fun e u' w' i=>?_⟩;cases e with
  |returned v=>exact g _ _ _ _ i
  |panicked c=>exact g _ _ _ _ i
  |outgrown=>exact i
theorem adU(w0:World)(p:PO)(l:Value)(ap Yc:Nat)(r:RJ)(x:Yr)(h:Option Addr)(f:Nat)(n:x.ls= .slice h r.list.length f)(hb:ah w0 Yc 386 (bp p l ap r x).toArray):
 Calls prog 355 #[.pointer (some ⟨Yc,0,none⟩)] w0 fun e w'=>e= .returned (.tuple #[])/\ah w' Yc 386 (bp p l ap (bP r) x).toArray/\ce w0.heap.size Yc w0 w':=by
 have U:=Bx.g8 hb;clear hb;obtain⟨o,ls,s,Y1⟩:=x;simp only at n;subst n;by_cases d:r.list= []
 ·have i:r.list.length=0:=by rw[d];rfl
  rw[i]at U⊢;clear i;by_cases c:r.held=true
  ·
   have a:bP r= {r with Xj:=22}:=by unfold bP;simp[*]
   rw[a];clear a;have Za:=I c;clear d c;go_enter func355,ntmps355;exact i5
  ·
   have a:bP r= {r with Xj:=23}:=by unfold bP;simp[*]
   rw[a];clear a;have j:r.held=false:=by simpa using c
   have Za:=I j;clear d c j;go_enter func355,ntmps355;exact i5
 ·have q:0<r.list.length:=List.length_pos_iff.2 d
  ·
   have a:bP r= {r with Xj:=20}:=by unfold bP;simp[*]
   rw[a];clear a;generalize r.list.length=m at*;have d1:decide ((0:Int)<(m:Int))=true:=by simp;omega
   clear d;go_enter func355,ntmps355;exact o7
section
variable(u:FrameMode)(w0:World)(p:PO)(a:Value)(ap Yc:Nat)(r:RJ)(x:Yr)
include u w0 p a ap Yc r x
theorem adX(i:Option Addr)(h:Nat)(n:x.ls= .slice i r.list.length h)(hb:ah w0 Yc 386 (bp p a ap r x).toArray):
 CallsD prog 355 #[.pointer (some ⟨Yc,0,none⟩)] u w0 fun e u' w'=>u'=u/\(e= .returned (.tuple #[])/\ah w' Yc 386 (bp p a ap (bP r) x).toArray/\ce w0.heap.size Yc w0 w'):=by
 have U:=Bx.g8 hb;clear hb;obtain⟨o,ls,s,Y1⟩:=x;simp only at n;subst n;by_cases f:r.list= []
 ·have j:r.list.length=0:=by rw[f];rfl
  rw[j]at U⊢;clear j;by_cases d:r.held=true
  ·
   have c:bP r= {r with Xj:=22}:=by unfold bP;simp[*]
   rw[c];clear c;have Za:=I d;clear f d;go_enter_d func355,ntmps355;exact i5
  ·
   have c:bP r= {r with Xj:=23}:=by unfold bP;simp[*]
   rw[c];clear c;have l:r.held=false:=by simpa using d
   have Za:=I l;clear f d l;go_enter_d func355,ntmps355;exact i5
 ·have q:0<r.list.length:=List.length_pos_iff.2 f
  ·
   have c:bP r= {r with Xj:=20}:=by unfold bP;simp[*]
   rw[c];clear c;generalize r.list.length=m at*;have d1:decide ((0:Int)<(m:Int))=true:=by simp;omega
   clear f;go_enter_d func355,ntmps355;exact o7
theorem wJ(hb:ah w0 Yc 386 (bp p a ap r x).toArray):
 CallsD prog 359 #[.pointer (some ⟨Yc,0,none⟩)] u w0 fun e u' w'=>u'=u/\(e= .returned (.tuple #[])/\ah w' Yc 386 (bp p a ap (dT r) x).toArray/\ce w0.heap.size Yc w0 w'):=by
 have U:=Bx.g8 hb;clear hb;by_cases d:r.at_<r.top
 ·
  have c:dT r= {r with Xj:=24}:=by unfold dT;simp[d]
  rw[c];clear c;have d1:decide (r.at_<r.top)=true:=by simpa using d
  clear d;go_enter_d func359,ntmps359;exact k6
 ·
  have c:dT r= {r with Xj:=25}:=by unfold dT;simp[d]
  rw[c];clear c;have d1:decide (r.at_<r.top)=false:=by simpa using d
  clear d;go_enter_d func359,ntmps359;exact k6
theorem Bg(i:Option Addr)(f:Nat)(l:x.ls= .slice i r.list.length f)(hb:ah w0 Yc 386 (bp p a ap r x).toArray):
 CallsD prog 352 #[.pointer (some ⟨Yc,0,none⟩)] u w0 fun e u' w'=>u'=u/\(e= .returned (.tuple #[])/\ah w' Yc 386 (bp p a ap (ee r) x).toArray/\ce w0.heap.size Yc w0 w'):=by
 have U:=Bx.g8 hb;clear hb;by_cases d:r.at_<r.top
 ·
  have c:ee r= {r with Xj:=19}:=by unfold ee;rw[Z d]
  rw[c];clear c;have d1:decide (r.at_<r.top)=true:=by simpa using d
  clear d;go_enter_d func352,ntmps352;exact k6
 ·
  have c:ee r=bP r:=by unfold ee;rw[Y d]
  rw[c];clear c;have d1:decide (r.at_<r.top)=false:=by simpa using d
  clear d;go_enter_d func352,ntmps352;go_wp2_with(first|(refine aq ?_)|(refine Po U ?_;clear U;intro w U));replace U:=U.drew;refine b0 ?_;intro X;refine az [[0,1,2,3,4,5,6,7,8,9,10]] ?_;go_wp2_with(first|(go_at_call 355;refine Calls.mono (adU _ p a ap Yc r x i f l (U.b ag)) ?_;rintro e m ⟨rfl,N,j⟩;replace U:=U.hX cf N j;clear N j)|(refine aq ?_)|(refine Po U ?_;clear U;intro w U));refine fY ?_;exact⟨rfl,U.b (g:=Yc) ag,U.mW⟩
end
section
variable(w0:World)(p:PO)(i:Value)(ap a n Yc:Nat)(V:Nat->Int)(r:RJ)(x:Yr)
include w0 p i ap a n Yc V r x
theorem Jx(d:Option Addr)(c:Nat)(y:x.ls= .slice d r.list.length c)(hb:ah w0 Yc 386 (bp p i ap r x).toArray)(v:ar w0 ap a n V)(h1:Yc≠ap)(m:Yc≠a)(q:a9 p)(o:8*p.s<=n)(C:0<=r.af/\r.af<p.s)(G:0<=TJ V r.af.toNat/\TJ V r.af.toNat<=65536)(H:0<=r.at_/\r.at_<=65536):
 Calls prog 326 #[.pointer (some ⟨Yc,0,none⟩)] w0 fun e w'=>e= .returned (.tuple #[])/\ah w' Yc 386 (bp p i ap (ee {r with top:=r.at_+TJ V r.af.toNat}) x).toArray/\ar w' ap a n V/\Z1 (fun b=>b≠Yc/\b≠a) w0 w':=by
 have U:=Bx.dp hb v h1 m;clear v hb;obtain⟨b,u⟩: ∃b,Hid (TJ V r.af.toNat=b):=⟨_,I rfl⟩
 rw[u.out]at G⊢;have z:=I y;clear y;have M:IntKind.i64.wrap b=b:=by rw[IntKind.wrap_i64];omega
 have L:IntKind.i64.wrap (r.at_+b)=r.at_+b:=by rw[IntKind.wrap_i64];omega
 go_enter_defers func326,ntmps326;go_wp2_with(first|(refine aq ?_)|(refine Po U ?_;clear U;intro w U));replace U:=U.drew;refine wp_region_held_drew aM (U.h5 (xs:= [21])) (fun X=>?_);refine az [[0,1,2,3,4]] ?_;refine td 5 ?_;refine Xh 6 ?_;refine aF 7 fun K j=>?_;go_simp;go_at_call 350;refine a6 U (u2 _ p i ap a n Yc V _ _ 3 b u.out (U.b ag) U.bB q o C J) ?_;clear U;intro l U;go_wp2_with fail;refine PK j (fun X=>?_) (by first|exact U.h5|exact U.j1|exact U.j2);refine az [[8,9,10,11,12]] ?_;refine aF 13 fun K j=>?_;refine uN U ?_;clear U;intro w U A;refine PK j (fun X=>?_) (by exact X.store A (by rfl));refine UF ?_;go_wp2_with(first|(refine aq ?_)|(refine Po U ?_;clear U;intro w U));refine leaves_cons (f:=352) (args:= #[.pointer (some ⟨Yc,0,none⟩)]) aN (by simp[go_sem]) ?_;have B:=U.b (g:=Yc) ag;refine CallsD.mono (Bg _ _ p i ap Yc {r with top:=r.at_+b} x d c z.out B) ?_;rintro e u' l ⟨rfl,rfl,N,F⟩;replace U:=U.hX cf N F;exact⟨_,results_none results326 _ _ _,rfl,U.b (g:=Yc) ag,U.bB,U.Wu⟩
section
variable(hb:ah w0 Yc 386 (bp p i ap r x).toArray)(l:ar w0 ap a n V)(h1:Yc≠ap)(j:Yc≠a)
include hb l h1 j
theorem DP(h:a9 p)(d:8*p.s<=n)(t:0<=r.af/\r.af<p.s)(v:0<=r.word/\r.word<=65536):
 Calls prog 331 #[.pointer (some ⟨Yc,0,none⟩)] w0 fun e w'=>e= .returned (.tuple #[])/\ah w' Yc 386 (bp p i ap (dT {r with at_:=r.word}) x).toArray/\ar w' ap a n (upd V (8*r.af.toNat+4) 0)/\Z1 (fun b=>b≠Yc/\b≠a) w0 w':=by
 have U:=Bx.dp hb l h1 j;clear l hb;go_enter_defers func331,ntmps331;go_wp2_with(first|(go_at_call 360;refine Calls.mono (tA _ p i ap a n Yc V r x 4 0 (U.b ag) U.bB h1 j h d t J am) ?_;rintro e c ⟨rfl,N,m,o⟩;replace U:=U.call cf N m o;clear N m o)|(refine aq ?_)|(refine Po U ?_;clear U;intro w U));refine leaves_cons (f:=359) (args:= #[.pointer (some ⟨Yc,0,none⟩)]) aN (by simp[go_sem]) ?_;have q:=U.b (g:=Yc) ag;refine CallsD.mono (wJ _ _ p i ap Yc {r with at_:=r.word} x q) ?_;rintro e u' c ⟨rfl,rfl,N,u⟩;replace U:=U.hX cf N u;exact⟨_,results_none results331 _ _ _,rfl,U.b (g:=Yc) ag,U.bB,U.Wu⟩
theorem GQ(s:0<=r.at_/\r.at_<8*n/\r.at_ %8=0):
 Calls prog 332 #[.pointer (some ⟨Yc,0,none⟩)] w0 fun e w'=>e= .returned (.tuple #[])/\ah w' Yc 386 (bp p i ap (dT {r with at_:=r.at_+8}) x).toArray/\ar w' ap a n (upd V (r.at_/8).toNat 0)/\Z1 (fun b=>b≠Yc/\b≠a) w0 w':=by
 have U:=Bx.dp hb l h1 j;have hm:=l.cE;clear l hb;go_enter_defers func332,ntmps332;go_wp2_with(first|(refine aq ?_)|(refine Po U ?_;clear U;intro w U));replace U:=U.drew;refine b0 ?_;intro X;refine az [[0,1,2,3,4,5,6,7,8]] ?_;refine aF 9 fun K o=>?_;go_simp;go_at_call 279;refine Calls.mono (iJ _ _ _ n V _ _ (r.at_/8).toNat U.bB J J am) ?_;rintro e c ⟨rfl,d,N⟩;replace U:=U.arena d N;clear d N;go_wp2_with fail;refine PK o fun X=>?_;refine UF ?_;go_wp2_with(first|(refine aq ?_)|(refine Po U ?_;clear U;intro w U));refine leaves_cons (f:=359) (args:= #[.pointer (some ⟨Yc,0,none⟩)]) aN (by simp[go_sem]) ?_;have m:=U.b (g:=Yc) ag;refine CallsD.mono (wJ _ _ p i ap Yc {r with at_:=r.at_+8} x m) ?_;rintro e u' c ⟨rfl,rfl,N,q⟩;replace U:=U.hX cf N q;exact⟨_,results_none results332 _ _ _,rfl,U.b (g:=Yc) ag,U.bB,U.Wu⟩
section
variable(S:Nat->Prop)(f:aW w0 S r x)(bE:dx r)(hS: ∀b,b<w0.heap.size->S b->b≠Yc/\b≠a)(o:a9 p)(m:8*p.s<=n)(u:0<=r.af/\r.af<p.s)(ok:okW r.next)(q:(up r.next).st=3)
include S f bE hS o m u ok q
theorem Jz:
 Calls prog 357 #[.pointer (some ⟨Yc,0,none⟩),.func (.func 358) #[] #[],.int .i64 25] w0 fun e w'=> ∃v,e= .returned (.tuple #[])/\cF w' (fun b=>w0.heap.size<=b/\b≠Yc/\b≠a) v r.said/\ah w' Yc 386 (bp p i ap (tell r 25 r.n) {x with Y1:=v}).toArray/\ar w' ap a n (upd V (8*r.af.toNat) (TK (mp (up r.next))))/\Z1 (fun b=>b≠Yc/\b≠a) w0 w':=by
 have U:=Bx.dp hb l h1 j;have U3:=I f;obtain⟨W9,Tv,Tz,Tt,Tu,Tm,Tx,ZM,rfl⟩:=eW f;have hm:=l.cE;clear l hb f;have L:=I ok;have H:aR r.next:=by have:=ok.ok.UK;have e:=ok.eq;unfold aR;omega
 have z:=I ok.ok;have y:=I ok.ok.hold;clear ok;obtain⟨c,B⟩: ∃c,Hid (up r.next=c):=⟨_,I rfl⟩
 rw[B.out]at z y q⊢;have G:=fun w=>EW c w z.out q;obtain⟨d,A⟩: ∃d,Hid (mp c=d):=⟨_,I rfl⟩
 rw[A.out]at y G⊢;clear q;have hd:aR (TK d):=by have:=y.out.UK;unfold aR;omega
 go_enter func357,ntmps357;go_wp2_with(first|(go_at_call 239;refine a6 U (gQ _ _ L.out H) ?_;clear U;intro EH U;rw[B.out])|(go_at_call 358;refine a6 U (G _) ?_;clear U;intro EH U)|(go_at_call 278;refine a6 U (nD _ _ y.out) ?_;clear U;intro EH U)|(go_at_call 360;refine Calls.mono (tA _ p i ap a n Yc V r ⟨.slice W9 r.chain.length Tv,.slice Tz r.list.length Tt,.slice Tu r.said.length Tm,.slice Tx r.aC.said.length ZM⟩ 0 (TK d) (U.b ag) U.bB h1 j o m u J hd) ?_;rintro e EH ⟨rfl,N,C,F⟩;replace U:=U.call cf N C F;clear N C F)|(refine aq ?_)|(refine aT ?_;clear U;intro X8 w U T7));exact o8
theorem JA:
 Calls prog 357 #[.pointer (some ⟨Yc,0,none⟩),.func (.func 292) #[] #[],.int .i64 0] w0 fun e w'=> ∃v,e= .returned (.tuple #[])/\cF w' (fun b=>w0.heap.size<=b/\b≠Yc/\b≠a) v r.said/\ah w' Yc 386 (bp p i ap (tell r 0 r.n) {x with Y1:=v}).toArray/\ar w' ap a n (upd V (8*r.af.toNat) (TK (jX (up r.next))))/\Z1 (fun b=>b≠Yc/\b≠a) w0 w':=by
 have U:=Bx.dp hb l h1 j;have U3:=I f;obtain⟨W9,Tv,Tz,Tt,Tu,Tm,Tx,ZM,rfl⟩:=eW f;have hm:=l.cE;clear l hb f;have L:=I ok;have H:aR r.next:=by have:=ok.ok.UK;have e:=ok.eq;unfold aR;omega
 have z:=I ok.ok;have y:=I ok.ok.open_;clear ok;obtain⟨c,B⟩: ∃c,Hid (up r.next=c):=⟨_,I rfl⟩
 rw[B.out]at z y q⊢;have G:=fun w=>EV c w z.out q;obtain⟨d,A⟩: ∃d,Hid (jX c=d):=⟨_,I rfl⟩
 rw[A.out]at y G⊢;clear q;have hd:aR (TK d):=by have:=y.out.UK;unfold aR;omega
 go_enter func357,ntmps357;go_wp2_with(first|(go_at_call 239;refine a6 U (gQ _ _ L.out H) ?_;clear U;intro EH U;rw[B.out])|(go_at_call 292;refine a6 U (G _) ?_;clear U;intro EH U)|(go_at_call 278;refine a6 U (nD _ _ y.out) ?_;clear U;intro EH U)|(go_at_call 360;refine Calls.mono (tA _ p i ap a n Yc V r ⟨.slice W9 r.chain.length Tv,.slice Tz r.list.length Tt,.slice Tu r.said.length Tm,.slice Tx r.aC.said.length ZM⟩ 0 (TK d) (U.b ag) U.bB h1 j o m u J hd) ?_;rintro e EH ⟨rfl,N,C,F⟩;replace U:=U.call cf N C F;clear N C F)|(refine aq ?_)|(refine aT ?_;clear U;intro X8 w U T7));exact o8
end
end
end
end
section
theorem lN{G:Prop}(h:G:=by
 replace U:=U.drew;refine b0 ?_;intro X;refine az [[0,1,2,3,4,5,6,7,8]] ?_;refine Zj [9,13] ?_;refine ea (fun K Z7=>?_) ?_
 ·go_simp;go_at_call 353;refine a6 U (oS _ _ _ n V _ k _ _ _ _ _ _ U.bB Vd.out TS O.out) ?_;clear U;intro EH U;go_wp2_with fail;refine PK Z7 fun X=>?_;refine az [[10,11,12],[13,14],[15]] ?_;clear U;intro g3 gJ w U;go_wp2_with fail;go_meet;exact⟨_,rfl,U⟩
 refine ei (fun K Z7=>?_);refine ZZ U gW ?_;clear U;intro g3 w U gJ;refine PK Z7 fun X=>?_;refine aF 9 fun K Z7=>?_;go_simp;go_at_call 353;refine a6 U (oS _ _ _ n V _ k _ _ _ _ _ _ U.bB Vd.out TS O.out) ?_;clear U;intro EH U;go_wp2_with fail;refine PK Z7 fun X=>?_;refine az [[10,11,12],[14],[15]] ?_;clear U;intro w U;go_wp2_with fail;go_meet;exact⟨_,rfl,U⟩):G:=h
theorem qn{G:Prop}(h:G:=by
 refine PK Z7 (fun X=>?_) (by first|exact U.h5|exact U.j1|exact U.j2);refine aF 13 fun K Z7=>?_;rw[Z (by rfl)];refine gG DI U T9 rfl _ _ 30 rfl (.int .i64 0) 8 bg b6 rfl (by decide) rfl ⟨di,0,none⟩ 1 1 [.int .i64 r.at_] rfl rfl (U.news ag) rfl (by have:=Wm.out;unfold maxLen;omega) (by have:=Wm.out;omega) ?_;clear U DI T9;intro WP w U T9;obtain⟨Wq,Wz,rfl⟩:=T9.form;have hv:=T9.yl;clear T9;have DI:=U;clear U;have U:=DI.base;refine PK Z7 (fun X=>?_) (by first|exact U.h5|exact U.j1|exact U.j2);refine az [[14,15,16]] ?_;refine aF 17 fun K Z7=>?_;refine uN U ?_;clear U;intro w U VG;refine PK Z7 (fun X=>?_) (by exact X.store VG (by rfl));refine UF ?_;go_wp2_with(first|(refine aq ?_)|(refine aT ?_;clear U;intro X8 w U T7));replace U:=U.drew;refine wp_region_held_drew (by kernel_rfl) (U.h5 (xs:= [20])) (fun X=>?_);refine az [[0,1,2,3,5]] ?_;refine td 6 ?_;refine Xh 7 ?_;refine aF 4 fun K Z7=>?_;refine YL U ?_;refine PK Z7 (fun X=>?_) (by first|exact U.h5|exact U.j1|exact U.j2);refine az [[8,9,10,11]] ?_;refine aF 12 fun K Z7=>?_;refine uN U ?_;clear U;intro w U VG;refine PK Z7 (fun X=>?_) (by exact X.store VG (by rfl));refine UF ?_;go_wp2_with(first|(refine aq ?_)|(refine aT ?_;clear U;intro X8 w U T7));refine leaves_cons (f:=352) (args:= #[.pointer (some ⟨Yc,0,none⟩)]) (by simp) (by simp[go_sem]) ?_;have Yq:=U.b (g:=Yc) ag;refine CallsD.mono (Bg _ _ p Y8 ap Yc {r with list:=r.list++ [r.at_],at_:=r.at_+z*8} ⟨TQ,.slice Wq (r.list.length+1) Wz,Wh,Y1⟩ Wq Wz (by simp) Yq) ?_;rintro e u' EH ⟨rfl,rfl,N,jT⟩;replace U:=U.hX cf N jT;have c4:=DI.back U;exact⟨_,results_none results327 _ _ _,.slice Wq (r.list.length+1) Wz,(U.carry hv fun b _ h=>h.2).mono (fun b _ h=>⟨h.1,fun e=>h.2.1 _ (In.mem ag) e.symm,h.2.2 _ rfl⟩),rfl,c4.b (g:=Yc) ag,c4.bB,c4.Wu⟩):G:=h
theorem o9{G:Prop}(h:G:=by
 (try go_wp2_with fail)
 refine PK Z7 fun X=>?_;refine az [[11,12,13]] ?_;go_wp2_with(first|(refine aq ?_)|(refine aT ?_;clear U;intro X8 w U T7));replace U:=U.drew;refine wp_region_held_drew (by kernel_rfl) (U.h5 (xs:= [20])) (fun X=>?_);refine az [[0,1,2,3,5]] ?_;refine td 6 ?_;refine Xh 7 ?_;refine aF 4 fun K Z7=>?_;refine YL U ?_;refine PK Z7 (fun X=>?_) (by first|exact U.h5|exact U.j1|exact U.j2);refine az [[8,9,10,11]] ?_;refine aF 12 fun K Z7=>?_;refine uN U ?_;clear U;intro w U VG;refine PK Z7 (fun X=>?_) (by exact X.store VG (by rfl));refine UF ?_;go_wp2_with(first|(refine aq ?_)|(refine aT ?_;clear U;intro X8 w U T7));refine leaves_cons (f:=352) (args:= #[.pointer (some ⟨Yc,0,none⟩)]) (by simp) (by simp[go_sem]) ?_;have Yq:=U.b (g:=Yc) ag;refine CallsD.mono (Bg _ _ p Y8 ap Yc {r with at_:=r.at_+z*8} x Tz Tt Jy.out Yq) ?_;rintro e u' EH ⟨rfl,rfl,N,jT⟩;replace U:=U.hX cf N jT;exact⟨_,results_none results327 _ _ _,rfl,U.b (g:=Yc) ag,U.bB,U.Wu⟩):G:=h
theorem pa{G:Prop}(h:G:=by
 refine PK Z7 (fun X=>?_) (by first|exact U.h5|exact U.j1|exact U.j2);refine aF 6 fun K Z7=>?_;go_simp;go_at_call 59;refine Calls.mono (sY _ S _ _ _ (WS.out.Wu (U.Wu.mono hS)) Wm.out (gp _ _)) ?_;rintro e EH ⟨Zv,rfl,h2,N⟩;have T9:=UC.made U N h2;obtain⟨WY,YY,rfl⟩:=T9.form;have DI:=U.below N;clear U h2 N;have U:=DI.base;go_wp2_with fail;exact qn):G:=h
section
variable(w0:World)(p:PO)(Y8:Value)(ap a n Yc:Nat)(V:Nat->Int)(r:RJ)(x:Yr)(Tz:Option Addr)(Tt:Nat)(j:x.ls= .slice Tz r.list.length Tt)(hb:ah w0 Yc 386 (bp p Y8 ap r x).toArray)(c:ar w0 ap a n V)(h1:Yc≠ap)(d:Yc≠a)(q:a9 p)(m:8*p.s<=n)(y:0<=r.af/\r.af<p.s)(F:b1)(Vs:Nat->Value)(Sf:Nat->Prop)(hF:eF w0 Sf Y8 F Vs)(u:F.length<=8)(v: ∀b,b<w0.heap.size->Sf b->b≠Yc/\b≠a)(k:Nat)(i:r.at_=8*k)(TS:k+1<n)(z l t s' e':Int)
include w0 p Y8 ap a n Yc V r x Tz Tt j hb c h1 d q m y F Vs Sf hF u v k i TS z l t s' e'
theorem GR(o:isObj (V k) (V (k+1)) z l t true s' e'):
 Calls prog 327 #[.pointer (some ⟨Yc,0,none⟩)] w0 fun e w'=>e= .returned (.tuple #[])/\ah w' Yc 386 (bp p Y8 ap (ee {r with at_:=r.at_+z*8}) x).toArray/\ar w' ap a n V/\Z1 (fun b=>b≠Yc/\b≠a) w0 w':=by
 have hm:=c.cE;have G:0<=z/\z<=72:=by have:=o.ok.2.1;have:=o.ok.1;omega
 have M:0<=t/\t<=7:=o.ok.2.2.1;have O:=I o;have Vd:=I i;have H:=I hF;have L:0<=r.at_/\r.at_<=65536:=J;have Q:IntKind.i64.wrap (z*8)=z*8:=by rw[IntKind.wrap_i64];omega
 have P:IntKind.i64.wrap (r.at_+z*8)=r.at_+z*8:=by rw[IntKind.wrap_i64];omega
 clear o i hF;have Jy:=I j;clear j;have U:=Bx.dp hb c h1 d;clear c hb;go_enter_defers func327,ntmps327;go_wp2_with(first|(refine aq ?_)|(refine aT ?_;clear U;intro X8 w U T7));go_cut [2,3]from 5 to 18 (fun A C B=> ∃g,A= .pointer (some ⟨g,0,none⟩)/\Bx w0 (fun b=>b≠Yc/\b≠a) B (some ⟨ap,a,n,V⟩) [⟨g,91,[.int .i64 z,.int .i64 l,.int .i64 t,.bool true,.int .i64 s',.int .i64 e']⟩,⟨Yc,386,bp p Y8 ap r x⟩])
 case first=>
  exact lN
 case rest=>
 obtain⟨g,rfl,U⟩:=hcut;go_wp2_with(first|(refine aq ?_)|(refine aT ?_;clear U;intro X8 w U T7));replace U:=U.drew;refine b0 ?_;intro X;refine az [[0,1,2,3,4,5,6,7,8,9]] ?_;refine aF 10 fun K Z7=>?_;go_simp
 (first|fail|skip)
 exact o9
theorem GU(o:isObj (V k) (V (k+1)) z l t false s' e')(B:bY F t.toNat= []):
 Calls prog 327 #[.pointer (some ⟨Yc,0,none⟩)] w0 fun e w'=>e= .returned (.tuple #[])/\ah w' Yc 386 (bp p Y8 ap (ee {r with at_:=r.at_+z*8}) x).toArray/\ar w' ap a n V/\Z1 (fun b=>b≠Yc/\b≠a) w0 w':=by
 have hm:=c.cE;have P:0<=z/\z<=72:=by have:=o.ok.2.1;have:=o.ok.1;omega
 have L:0<=t/\t<=7:=o.ok.2.2.1;have O:=I o;have Vd:=I i;have G:=I hF;have R:0<=r.at_/\r.at_<=65536:=J;have T:IntKind.i64.wrap (z*8)=z*8:=by rw[IntKind.wrap_i64];omega
 have S:IntKind.i64.wrap (r.at_+z*8)=r.at_+z*8:=by rw[IntKind.wrap_i64];omega
 clear o i hF;have Jy:=I j;clear j;have C:=I B;clear B;have U:=Bx.dp hb c h1 d;clear c hb;go_enter_defers func327,ntmps327;go_wp2_with(first|(refine aq ?_)|(refine aT ?_;clear U;intro X8 w U T7));go_cut [2,3]from 5 to 18 (fun A M H=> ∃g,A= .pointer (some ⟨g,0,none⟩)/\Bx w0 (fun b=>b≠Yc/\b≠a) H (some ⟨ap,a,n,V⟩) [⟨g,91,[.int .i64 z,.int .i64 l,.int .i64 t,.bool false,.int .i64 s',.int .i64 e']⟩,⟨Yc,386,bp p Y8 ap r x⟩])
 case first=>
  exact lN
 case rest=>
 obtain⟨g,rfl,U⟩:=hcut;go_wp2_with(first|(refine aq ?_)|(refine aT ?_;clear U;intro X8 w U T7));replace U:=U.drew;refine b0 ?_;intro X;refine az [[0,1,2,3,4,5,6,7,8,9]] ?_;refine aF 10 fun K Z7=>?_;go_simp
 (first|(go_at_call 289;refine Calls.mono (Fh _ Sf Y8 F Vs t (G.out.Wu (U.Wu.mono v)) u L) ?_;rintro e EH ⟨A9,Q,rfl,-,rfl⟩;rw[C.out])|skip)
 exact o9
end
theorem GV(w0:World)(p:PO)(Y8:Value)(ap a n Yc:Nat)(V:Nat->Int)(r:RJ)(x:Yr)(S:Nat->Prop)(c:cF w0 S x.ls r.list)(C:r.list.length<=65536)(hS: ∀b,b<w0.heap.size->S b->b≠Yc/\b≠a)(hb:ah w0 Yc 386 (bp p Y8 ap r x).toArray)(j:ar w0 ap a n V)(h1:Yc≠ap)(m:Yc≠a)(UG:a9 p)(U4:8*p.s<=n)(ci:0<=r.af/\r.af<p.s)(F:b1)(Vs:Nat->Value)(Sf:Nat->Prop)(hF:eF w0 Sf Y8 F Vs)(T:F.length<=8)(W: ∀b,b<w0.heap.size->Sf b->b≠Yc/\b≠a)(k:Nat)(B:r.at_=8*k)(TS:k+1<n)(z l t s' e':Int)(o:isObj (V k) (V (k+1)) z l t false s' e')(H:bY F t.toNat≠ []):
 Calls prog 327 #[.pointer (some ⟨Yc,0,none⟩)] w0 fun e w'=> ∃v,cF w' (fun b=>w0.heap.size<=b/\b≠Yc/\b≠a) v (r.list++ [r.at_])/\e= .returned (.tuple #[])/\ah w' Yc 386 (bp p Y8 ap (ee {r with list:=r.list++ [r.at_],at_:=r.at_+z*8}) {x with ls:=v}).toArray/\ar w' ap a n V/\Z1 (fun b=>b≠Yc/\b≠a) w0 w':=by
 have hm:=j.cE;have Ub:0<=z/\z<=72:=by have:=o.ok.2.1;have:=o.ok.1;omega
 have R:0<=t/\t<=7:=o.ok.2.2.1;have O:=I o;have Vd:=I B;have P:=I hF;have fG:0<=r.at_/\r.at_<=65536:=J;have xm:IntKind.i64.wrap (z*8)=z*8:=by rw[IntKind.wrap_i64];omega
 have ur:IntKind.i64.wrap (r.at_+z*8)=r.at_+z*8:=by rw[IntKind.wrap_i64];omega
 clear o B hF;obtain⟨TQ,ls,Wh,Y1⟩:=x;simp only at c;obtain⟨A,y,q,-,-,-⟩:=id c;have WS:=I c;have Wm:=I C;clear c C;subst q;have M:=I H;clear H;have L:=I (List.length_pos_iff.2 M.out);obtain⟨d,i⟩: ∃d,Hid ((bY F t.toNat).length=d):=⟨_,I rfl⟩
 have JB:0<d:=by rw[<-i.out];exact L.out
 have d9:decide ((0:Int)<(d:Int))=true:=by simp;omega
 clear L;have U:=Bx.dp hb j h1 m;clear j hb;go_enter_defers func327,ntmps327;go_wp2_with(first|(refine aq ?_)|(refine aT ?_;clear U;intro X8 w U T7));go_cut [2,3]from 5 to 18 (fun u w7 Q=> ∃g,u= .pointer (some ⟨g,0,none⟩)/\Bx w0 (fun b=>b≠Yc/\b≠a) Q (some ⟨ap,a,n,V⟩) [⟨g,91,[.int .i64 z,.int .i64 l,.int .i64 t,.bool false,.int .i64 s',.int .i64 e']⟩,⟨Yc,386,bp p Y8 ap r ⟨TQ,.slice A r.list.length y,Wh,Y1⟩⟩])
 case first=>
  exact lN
 case rest=>
 obtain⟨g,rfl,U⟩:=hcut;go_wp2_with(first|(refine aq ?_)|(refine aT ?_;clear U;intro X8 w U T7));replace U:=U.drew;refine b0 ?_;intro X;refine az [[0,1,2,3,4,5,6,7,8,9]] ?_;refine aF 10 fun K Z7=>?_;go_simp
 (first|(go_at_call 289;refine Calls.mono (Fh _ Sf Y8 F Vs t (P.out.Wu (U.Wu.mono W)) T R) ?_;rintro e EH ⟨A9,Zi,rfl,-,rfl⟩;rw[i.out])|skip)
 (try go_wp2_with fail)
 refine PK Z7 fun X=>?_;refine az [[11,12,13]] ?_;go_wp2_with(first|(refine aq ?_)|(refine aT ?_;clear U;intro X8 w U T7));replace U:=U.drew;refine wp_region_held_drew aM (U.h5 (xs:= [22])) (fun X=>?_);refine az [[0,1,2,3,4,7,8,9,10]] ?_;refine td 11 ?_;refine Zj [5,12] ?_;refine ea (fun K Z7=>?_) ?_
 ·refine YL U ?_;refine PK Z7 (fun X=>?_) (by first|exact U.h5|exact U.j1|exact U.j2);refine Zj [6,12] ?_;refine ea (fun K Z7=>?_) ?_
  ·go_simp;go_at_call 59;refine Calls.mono (sY _ S _ _ _ (WS.out.Wu (U.Wu.mono hS)) Wm.out (gp _ _)) ?_;rintro e EH ⟨Zv,rfl,h2,N⟩;have T9:=UC.made U N h2;obtain⟨WY,YY,rfl⟩:=T9.form;have DI:=U.below N;clear U h2 N;have U:=DI.base;go_wp2_with fail;refine PK Z7 (fun X=>?_) (by first|exact U.h5|exact U.j1|exact U.j2);refine aF 12 fun K Z7=>?_;rw[Z (by rfl)];refine bK U 30 3 _ rfl _ [.int .i64 r.at_] rfl rfl (.int .i64 0) 1 8 bg b6 rfl am am ?_;clear U;intro di w U G;exact qn
  refine ei (fun K Z7=>?_);rw[Z (by rfl)];refine bK U 30 3 _ rfl _ [.int .i64 r.at_] rfl rfl (.int .i64 0) 1 8 bg b6 rfl am am ?_;clear U;intro di w U G;exact pa
 refine ei (fun K Z7=>?_);rw[Z (by rfl)];refine bK U 30 3 _ rfl _ [.int .i64 r.at_] rfl rfl (.int .i64 0) 1 8 bg b6 rfl am am ?_;clear U;intro di w U G;refine PK Z7 (fun X=>?_) (by first|exact U.h5|exact U.j1|exact U.j2);refine aF 5 fun K Z7=>?_;refine YL U ?_;exact pa
end
theorem qo{G:Prop}(h:G:=by
 go_wp2_with(first|(refine aq ?_)|(refine Po U ?_;clear U;intro w U));refine leaves_cons (f:=355) (args:= #[.pointer (some ⟨Yc,0,none⟩)]) (by simp) (by simp[go_sem]) ?_;have Yq:=U.b (g:=Yc) ag;refine CallsD.mono (adX _ _ p Y8 ap Yc {r with list:=pre,n:=r.n+1,op:=0} ⟨TQ,.slice WY m YY,Wh,Y1⟩ WY YY (by rw[<-gv.out]) Yq) ?_;rintro e u' EH ⟨rfl,rfl,N,jT⟩;replace U:=U.hX cf N jT;have c4:=DI.back U;exact⟨_,results_none results329 _ _ _,.slice WY m YY,(by show KC _ _ _ pre.length 1 _;rw[gv.out];exact(U.carry hv fun b _ h=>h.2).mono (fun b _ h=>⟨h.1,fun e=>h.2.1 _ (In.mem ag) e.symm,h.2.2 _ rfl⟩)),rfl,c4.b (g:=Yc) ag,c4.bB,c4.Wu⟩):G:=h
theorem qp{G:Prop}(h:G:=by
 refine aF 10 fun K Z7=>?_;go_simp;go_at_call 59;refine Calls.mono (lu _ S _ m (hq pre) (jx.out.Wu (U.Wu.mono hS)) Wm.out (gp _ _)) ?_;rintro e EH ⟨Zv,rfl,bD,N⟩;obtain⟨WY,YY,rfl,-,-,-⟩:=id bD;have hv:=U.eh bD;have DI:=U.below N;clear U bD N;have U:=DI.base;go_wp2_with fail;refine WE Z7 fun X=>?_;refine az [[17,18,19],[20],[21,22,23],[24],[25,26,27],[28]] ?_;clear U;intro w U;exact qo):G:=h
theorem GX(w0:World)(p:PO)(Y8:Value)(ap y n Yc:Nat)(V:Nat->Int)(r:RJ)(x:Yr)(S:Nat->Prop)(pre:List Int)(a:Int)(s:cF w0 S x.ls (pre++ [a]))(R:pre.length<=65536)(hS: ∀b,b<w0.heap.size->S b->b≠Yc/\b≠y)(hb:ah w0 Yc 386 (bp p Y8 ap r x).toArray)(C:ar w0 ap y n V)(h1:Yc≠ap)(L:Yc≠y)(Bh:0<=r.n/\r.n<=65536)(k:Nat)(Q:a=8*k)(P:k+1<n)(z l t s' e':Int)(d:Bool)(o:isObj (V k) (V (k+1)) z l t d s' e'):
 Calls prog 329 #[.pointer (some ⟨Yc,0,none⟩)] w0 fun e w'=> ∃v,cF w' (fun b=>w0.heap.size<=b/\b≠Yc/\b≠y) v pre/\e= .returned (.tuple #[])/\ah w' Yc 386 (bp p Y8 ap (bP {r with list:=pre,n:=r.n+1,op:=0}) {x with ls:=v}).toArray/\ar w' ap y n (upd V k (hF z l t 1))/\Z1 (fun b=>b≠Yc/\b≠y) w0 w':=by
 have hm:=C.cE;obtain⟨TQ,ls,Wh,Y1⟩:=x;simp only at s;obtain⟨Tz,c,A,jN,uR,G⟩:=id s;rw[ak,dh]at A jN G;obtain⟨b,off,rfl,B,q,XP⟩:=G J;subst A;have F:w0.cell? ⟨b,off+pre.length,none⟩=some (.int .i64 a):=by
  exact k7
 have T:=I (show cF w0 S (.slice (some ⟨b,off,none⟩) pre.length c) pre from⟨_,_,rfl,J,uR,fun U4=>⟨b,off,rfl,B,q,fun i j u hi hu=>XP i j u J (by unfold hq at hu⊢;rw[ae,aA hi,<-ae];exact hu)⟩⟩);have Wm:=I R;obtain⟨m,gv⟩: ∃m,Hid (pre.length=m):=⟨_,I rfl⟩
 rw[gv.out]at F T Wm jN;rw[gv.out]at hb;have afw:m<=65536:=Wm.out;have jx:=I (show KC w0 S (.slice (some ⟨b,off,none⟩) m c) m 1 (hq pre) by have:=T.out;unfold cF at this;rw[gv.out]at this;exact this);unfold maxLen at uR;have KV:(m:Int)<=(c:Int):=J;have iF:(0:Int)<=(m:Int):=J;have iu:(m:Int)<(m:Int)+1:=J;have xm:IntKind.i64.wrap (r.n+1)=r.n+1:=by rw[IntKind.wrap_i64];omega
 have ur:IntKind.i64.wrap ((m:Int)+1-1)=(m:Int):=by rw[IntKind.wrap_i64];omega
 clear R XP G s;have H:=hS;have O:=I o;have M:=I Q;clear o Q;have U:=Bx.dp hb C h1 L;clear C hb;go_enter_defers func329,ntmps329;go_wp2_with(first|(refine aq ?_)|(refine Po U ?_;clear U;intro w U));replace U:=U.drew;refine wp_region_held_drew (S:=(fun w=>c0 [⟨Yc,386,bp p Y8 ap r ⟨TQ,.slice (some ⟨b,off,none⟩) (m+1) c,Wh,Y1⟩⟩] w/\w.cell? ⟨b,off+m,none⟩=some (.int .i64 a))) aM ?_ (fun X=>?_)
 ·exact⟨U.has,U.Wu.cell (p:=⟨b,off+m,none⟩) q (H _ q B)|>.trans F⟩
 refine az [[0,1,2]] ?_;refine eE 3 rfl (cb (by rfl) 138 _ rfl _ _ rfl (fun w h=>c0.at_ ag w h.1) _ (by rfl) underlying138 rfl) ?_;refine az [[4,5,6,7]] ?_;refine eE 8 rfl (cb (by rfl) 30 _ rfl _ _ rfl (fun w h=>c0.at_ ag w h.1) _ (by rfl) underlying30 rfl) ?_;refine az [[9,10]] ?_;refine eE 11 rfl (bl (by rfl) 3 _ rfl _ _ rfl _ (fun w h=>h.2) underlying3 rfl) ?_;refine aF 12 fun K Z7=>?_;go_simp
 (go_at_call 356;refine Calls.mono (Gn _ _ _ n V _ k _ _ _ _ _ _ U.bB M.out P O.out) ?_;rintro e EH ⟨rfl,W,N⟩;have pV:EH.cell? ⟨b,off+m,none⟩=some (.int .i64 a):=(N.cell (p:=⟨b,off+m,none⟩) (aj q U.size) (H _ q B).2).trans (U.Wu.cell (p:=⟨b,off+m,none⟩) q (H _ q B)|>.trans F);replace U:=U.arena W N;clear W N)
 go_wp2_with fail;refine PK Z7 (fun X=>?_) (by exact⟨U.has,pV⟩);refine UF ?_;go_wp2_with(first|(refine aq ?_)|(refine Po U ?_;clear U;intro w U));replace U:=U.drew;refine wp_region_held_drew (S:=(fun _=>True)) aM ?_ (fun X=>?_)
 ·trivial
 refine az [[0,1,2,3,4,5,6,8,11,12,13,14]] ?_;refine Zj [7,15] ?_;refine ea (fun K Z7=>?_) ?_
 ·refine YL U ?_;refine WE Z7 fun X=>?_;refine Xh 9 ?_;refine Zj [10,15] ?_;refine ea (fun K Z7=>?_) ?_
  ·go_simp;go_at_call 59;refine Calls.mono (lu _ S _ m (hq pre) (jx.out.Wu (U.Wu.mono hS)) Wm.out (gp _ _)) ?_;rintro e EH ⟨Zv,rfl,bD,N⟩;obtain⟨WY,YY,rfl,-,-,-⟩:=id bD;have hv:=U.eh bD;have DI:=U.below N;clear U bD N;have U:=DI.base;go_wp2_with fail;refine WE Z7 fun X=>?_;refine az [[],[15],[16,17,18,19],[20],[21,22,23],[24],[25,26,27],[28]] ?_;clear U;intro w U;exact qo
  refine ei (fun K Z7=>?_);refine YL U ?_;refine WE Z7 fun X=>?_;refine Xh 16 ?_;exact qp
 refine ei (fun K Z7=>?_);refine YL U ?_;refine WE Z7 fun X=>?_;refine az [[16],[7],[9]] ?_;exact qp
section
section
variable(w0:World)(S:Nat->Prop)(p:PO)(f:Value)(F:b1)(Vs:Nat->Value)(ap c n:Nat)(V V2:Nat->Int)(r XY:RJ)(x:Yr)(i:ar w0 ap c n V)(d:aW w0 S r x)(hF:eF w0 S f F Vs)(hS: ∀b,b<w0.heap.size->S b->b≠c)(hd:r.fin=false)
include w0 S p f F Vs ap c n V V2 r XY x i d hF hS hd
theorem sL(M:r.Xj=19)(q: ∀(j:World) (l:Nat) (o:Nat->Prop),ah j l 386 (bp p f ap r x).toArray->ar j ap c n V->l≠ap->l≠c->aW j o r x->eF j o f F Vs->(∀b,b<j.heap.size->o b->b≠l/\b≠c)->Calls prog 327 #[.pointer (some ⟨l,0,none⟩)] j fun e w'=> ∃x',e= .returned (.tuple #[])/\aW w' (fun b=>o b\/j.heap.size<=b/\b≠l/\b≠c) XY x'/\ah w' l 386 (bp p f ap XY x').toArray/\ar w' ap c n V2/\Z1 (fun b=>b≠l/\b≠c) j w'):
 Calls prog 188 #[ej p,f,.pointer (some ⟨ap,0,none⟩),.agg (aY r x)] w0 fun e w'=> ∃x',e= .returned (.tuple #[.agg (aY XY x'),.int .i64 0])/\ar w' ap c n V2/\aW w' (fun b=>(S b\/w0.heap.size<=b)/\b≠c) XY x'/\ce w0.heap.size c w0 w':=by
 have U:=Bx.start (A:=some ⟨ap,c,n,V⟩) (fun b=>b≠c) w0 i fun a e k=>(by cases e;exact k rfl)
 have B:=I d;obtain⟨W9,Tv,Tz,Tt,Tu,Tm,Tx,ZM,rfl⟩:=eW d;have G:=I hd;have W:=I M;have q:=I q;have R:=I hF;obtain⟨H,C,v,-,-,-⟩:=id hF.row;subst v;clear i d hd M hF;go_enter func188,ntmps188;go_wp2_with(first|(refine aq ?_)|(refine Ws U 386 ?_;clear U;intro u w U Q)|(refine aT ?_;clear U;intro T w U y));replace U:=U.drew;refine b0 ?_;intro X;refine az [[1,2]] ?_;refine aF 0 fun K s=>?_;go_simp
 (go_at_call 272;refine Calls.mono (fL _) ?_;rintro e j ⟨z,rfl,hm,sB,N⟩;have L:ew j z _:=hm;replace U:=U.below N;clear hm N)
 go_wp2_with fail;refine PK s fun X=>?_;refine aF 3 fun K s=>?_;rw[Z (by rfl)];refine eJ L 382 _ _ rfl underlying382 underlying3 rfl _ _ rfl (by rw[W.out];rfl) ?_;refine PK s fun X=>?_;refine az [[4,5,6,7,8]] ?_;go_wp2_with(first|(refine g1 G ?_)|(go_at_call 327;refine Calls.mono (q.out _ u (fun b=>b<w0.heap.size/\S b) (U.b (g:=u) ag) U.bB ((U.WN _ rfl).1 _ (In.mem ag)) ((U.WN _ rfl).2.1 _ (In.mem ag)) ((B.out.mono fun b hb h=>⟨hb,h⟩).Wu (U.Wu.mono fun b _ h=>hS b h.1 h.2)) ((R.out.mono fun b hb h=>⟨hb,h⟩).Wu (U.Wu.mono fun b _ h=>hS b h.1 h.2)) (fun b _ h=>⟨fun e=>by have:=Q;omega,hS b h.1 h.2⟩)) ?_;rintro e j ⟨x',rfl,m,N,O,P⟩;obtain⟨UY,X3,f1,-,-,-⟩:=id m.TQ;obtain⟨UM,UV,f2,-,-,-⟩:=id m.ls;obtain⟨Xl,XB,f3,-,-,-⟩:=id m.Wh;obtain⟨XR,Zz,f4,-,-,-⟩:=id m.Y1;obtain⟨u7,tr,u9,va⟩:=x';simp only at f1 f2 f3 f4;subst f1 f2 f3 f4;have rd:=U.ig (cs':=bp p (.slice H F.length C) ap XY ⟨.slice UY XY.chain.length X3,.slice UM XY.list.length UV,.slice Xl XY.said.length XB,.slice XR XY.aC.said.length Zz⟩) (V':=V2) cf hS m;replace U:=U.call cf N O P;clear N O P m;have DI:=U;clear U;have U:=DI.base)|(refine aq ?_)|(refine Ws U 386 ?_;clear U;intro u w U Q)|(refine aT ?_;clear U;intro T w U y));exact dg
theorem DU(M:r.Xj=20)(q: ∀(j:World) (l:Nat) (o:Nat->Prop),ah j l 386 (bp p f ap r x).toArray->ar j ap c n V->l≠ap->l≠c->aW j o r x->eF j o f F Vs->(∀b,b<j.heap.size->o b->b≠l/\b≠c)->Calls prog 328 #[.pointer (some ⟨l,0,none⟩)] j fun e w'=> ∃x',e= .returned (.tuple #[])/\aW w' (fun b=>o b\/j.heap.size<=b/\b≠l/\b≠c) XY x'/\ah w' l 386 (bp p f ap XY x').toArray/\ar w' ap c n V2/\Z1 (fun b=>b≠l/\b≠c) j w'):
 Calls prog 188 #[ej p,f,.pointer (some ⟨ap,0,none⟩),.agg (aY r x)] w0 fun e w'=> ∃x',e= .returned (.tuple #[.agg (aY XY x'),.int .i64 0])/\ar w' ap c n V2/\aW w' (fun b=>(S b\/w0.heap.size<=b)/\b≠c) XY x'/\ce w0.heap.size c w0 w':=by
 have U:=Bx.start (A:=some ⟨ap,c,n,V⟩) (fun b=>b≠c) w0 i fun a e k=>(by cases e;exact k rfl)
 have B:=I d;obtain⟨W9,Tv,Tz,Tt,Tu,Tm,Tx,ZM,rfl⟩:=eW d;have G:=I hd;have W:=I M;have q:=I q;have R:=I hF;obtain⟨H,C,v,-,-,-⟩:=id hF.row;subst v;clear i d hd M hF;go_enter func188,ntmps188;go_wp2_with(first|(refine aq ?_)|(refine Ws U 386 ?_;clear U;intro u w U Q)|(refine aT ?_;clear U;intro T w U y));replace U:=U.drew;refine b0 ?_;intro X;refine az [[1,2]] ?_;refine aF 0 fun K s=>?_;go_simp
 (go_at_call 272;refine Calls.mono (fL _) ?_;rintro e j ⟨z,rfl,hm,sB,N⟩;have L:ew j z _:=hm;replace U:=U.below N;clear hm N)
 go_wp2_with fail;refine PK s fun X=>?_;refine aF 3 fun K s=>?_;rw[Z (by rfl)];refine eJ L 382 _ _ rfl underlying382 underlying3 rfl _ _ rfl (by rw[W.out];rfl) ?_;refine PK s fun X=>?_;refine az [[4,5,6,7,8]] ?_;go_wp2_with(first|(refine g1 G ?_)|(go_at_call 328;refine Calls.mono (q.out _ u (fun b=>b<w0.heap.size/\S b) (U.b (g:=u) ag) U.bB ((U.WN _ rfl).1 _ (In.mem ag)) ((U.WN _ rfl).2.1 _ (In.mem ag)) ((B.out.mono fun b hb h=>⟨hb,h⟩).Wu (U.Wu.mono fun b _ h=>hS b h.1 h.2)) ((R.out.mono fun b hb h=>⟨hb,h⟩).Wu (U.Wu.mono fun b _ h=>hS b h.1 h.2)) (fun b _ h=>⟨fun e=>by have:=Q;omega,hS b h.1 h.2⟩)) ?_;rintro e j ⟨x',rfl,m,N,O,P⟩;obtain⟨UY,X3,f1,-,-,-⟩:=id m.TQ;obtain⟨UM,UV,f2,-,-,-⟩:=id m.ls;obtain⟨Xl,XB,f3,-,-,-⟩:=id m.Wh;obtain⟨XR,Zz,f4,-,-,-⟩:=id m.Y1;obtain⟨u7,tr,u9,va⟩:=x';simp only at f1 f2 f3 f4;subst f1 f2 f3 f4;have rd:=U.ig (cs':=bp p (.slice H F.length C) ap XY ⟨.slice UY XY.chain.length X3,.slice UM XY.list.length UV,.slice Xl XY.said.length XB,.slice XR XY.aC.said.length Zz⟩) (V':=V2) cf hS m;replace U:=U.call cf N O P;clear N O P m;have DI:=U;clear U;have U:=DI.base)|(refine aq ?_)|(refine Ws U 386 ?_;clear U;intro u w U Q)|(refine aT ?_;clear U;intro T w U y));exact dg
theorem DV(M:r.Xj=21)(q: ∀(j:World) (l:Nat) (o:Nat->Prop),ah j l 386 (bp p f ap r x).toArray->ar j ap c n V->l≠ap->l≠c->aW j o r x->eF j o f F Vs->(∀b,b<j.heap.size->o b->b≠l/\b≠c)->Calls prog 329 #[.pointer (some ⟨l,0,none⟩)] j fun e w'=> ∃x',e= .returned (.tuple #[])/\aW w' (fun b=>o b\/j.heap.size<=b/\b≠l/\b≠c) XY x'/\ah w' l 386 (bp p f ap XY x').toArray/\ar w' ap c n V2/\Z1 (fun b=>b≠l/\b≠c) j w'):
 Calls prog 188 #[ej p,f,.pointer (some ⟨ap,0,none⟩),.agg (aY r x)] w0 fun e w'=> ∃x',e= .returned (.tuple #[.agg (aY XY x'),.int .i64 0])/\ar w' ap c n V2/\aW w' (fun b=>(S b\/w0.heap.size<=b)/\b≠c) XY x'/\ce w0.heap.size c w0 w':=by
 have U:=Bx.start (A:=some ⟨ap,c,n,V⟩) (fun b=>b≠c) w0 i fun a e k=>(by cases e;exact k rfl)
 have B:=I d;obtain⟨W9,Tv,Tz,Tt,Tu,Tm,Tx,ZM,rfl⟩:=eW d;have G:=I hd;have W:=I M;have q:=I q;have R:=I hF;obtain⟨H,C,v,-,-,-⟩:=id hF.row;subst v;clear i d hd M hF;go_enter func188,ntmps188;go_wp2_with(first|(refine aq ?_)|(refine Ws U 386 ?_;clear U;intro u w U Q)|(refine aT ?_;clear U;intro T w U y));replace U:=U.drew;refine b0 ?_;intro X;refine az [[1,2]] ?_;refine aF 0 fun K s=>?_;go_simp
 (go_at_call 272;refine Calls.mono (fL _) ?_;rintro e j ⟨z,rfl,hm,sB,N⟩;have L:ew j z _:=hm;replace U:=U.below N;clear hm N)
 go_wp2_with fail;refine PK s fun X=>?_;refine aF 3 fun K s=>?_;rw[Z (by rfl)];refine eJ L 382 _ _ rfl underlying382 underlying3 rfl _ _ rfl (by rw[W.out];rfl) ?_;refine PK s fun X=>?_;refine az [[4,5,6,7,8]] ?_;go_wp2_with(first|(refine g1 G ?_)|(go_at_call 329;refine Calls.mono (q.out _ u (fun b=>b<w0.heap.size/\S b) (U.b (g:=u) ag) U.bB ((U.WN _ rfl).1 _ (In.mem ag)) ((U.WN _ rfl).2.1 _ (In.mem ag)) ((B.out.mono fun b hb h=>⟨hb,h⟩).Wu (U.Wu.mono fun b _ h=>hS b h.1 h.2)) ((R.out.mono fun b hb h=>⟨hb,h⟩).Wu (U.Wu.mono fun b _ h=>hS b h.1 h.2)) (fun b _ h=>⟨fun e=>by have:=Q;omega,hS b h.1 h.2⟩)) ?_;rintro e j ⟨x',rfl,m,N,O,P⟩;obtain⟨UY,X3,f1,-,-,-⟩:=id m.TQ;obtain⟨UM,UV,f2,-,-,-⟩:=id m.ls;obtain⟨Xl,XB,f3,-,-,-⟩:=id m.Wh;obtain⟨XR,Zz,f4,-,-,-⟩:=id m.Y1;obtain⟨u7,tr,u9,va⟩:=x';simp only at f1 f2 f3 f4;subst f1 f2 f3 f4;have rd:=U.ig (cs':=bp p (.slice H F.length C) ap XY ⟨.slice UY XY.chain.length X3,.slice UM XY.list.length UV,.slice Xl XY.said.length XB,.slice XR XY.aC.said.length Zz⟩) (V':=V2) cf hS m;replace U:=U.call cf N O P;clear N O P m;have DI:=U;clear U;have U:=DI.base)|(refine aq ?_)|(refine Ws U 386 ?_;clear U;intro u w U Q)|(refine aT ?_;clear U;intro T w U y));exact dg
theorem DW(M:r.Xj=22)(q: ∀(j:World) (l:Nat) (o:Nat->Prop),ah j l 386 (bp p f ap r x).toArray->ar j ap c n V->l≠ap->l≠c->aW j o r x->eF j o f F Vs->(∀b,b<j.heap.size->o b->b≠l/\b≠c)->Calls prog 330 #[.pointer (some ⟨l,0,none⟩)] j fun e w'=> ∃x',e= .returned (.tuple #[])/\aW w' (fun b=>o b\/j.heap.size<=b/\b≠l/\b≠c) XY x'/\ah w' l 386 (bp p f ap XY x').toArray/\ar w' ap c n V2/\Z1 (fun b=>b≠l/\b≠c) j w'):
 Calls prog 188 #[ej p,f,.pointer (some ⟨ap,0,none⟩),.agg (aY r x)] w0 fun e w'=> ∃x',e= .returned (.tuple #[.agg (aY XY x'),.int .i64 0])/\ar w' ap c n V2/\aW w' (fun b=>(S b\/w0.heap.size<=b)/\b≠c) XY x'/\ce w0.heap.size c w0 w':=by
 have U:=Bx.start (A:=some ⟨ap,c,n,V⟩) (fun b=>b≠c) w0 i fun a e k=>(by cases e;exact k rfl)
 have B:=I d;obtain⟨W9,Tv,Tz,Tt,Tu,Tm,Tx,ZM,rfl⟩:=eW d;have G:=I hd;have W:=I M;have q:=I q;have R:=I hF;obtain⟨H,C,v,-,-,-⟩:=id hF.row;subst v;clear i d hd M hF;go_enter func188,ntmps188;go_wp2_with(first|(refine aq ?_)|(refine Ws U 386 ?_;clear U;intro u w U Q)|(refine aT ?_;clear U;intro T w U y));replace U:=U.drew;refine b0 ?_;intro X;refine az [[1,2]] ?_;refine aF 0 fun K s=>?_;go_simp
 (go_at_call 272;refine Calls.mono (fL _) ?_;rintro e j ⟨z,rfl,hm,sB,N⟩;have L:ew j z _:=hm;replace U:=U.below N;clear hm N)
 go_wp2_with fail;refine PK s fun X=>?_;refine aF 3 fun K s=>?_;rw[Z (by rfl)];refine eJ L 382 _ _ rfl underlying382 underlying3 rfl _ _ rfl (by rw[W.out];rfl) ?_;refine PK s fun X=>?_;refine az [[4,5,6,7,8]] ?_;go_wp2_with(first|(refine g1 G ?_)|(go_at_call 330;refine Calls.mono (q.out _ u (fun b=>b<w0.heap.size/\S b) (U.b (g:=u) ag) U.bB ((U.WN _ rfl).1 _ (In.mem ag)) ((U.WN _ rfl).2.1 _ (In.mem ag)) ((B.out.mono fun b hb h=>⟨hb,h⟩).Wu (U.Wu.mono fun b _ h=>hS b h.1 h.2)) ((R.out.mono fun b hb h=>⟨hb,h⟩).Wu (U.Wu.mono fun b _ h=>hS b h.1 h.2)) (fun b _ h=>⟨fun e=>by have:=Q;omega,hS b h.1 h.2⟩)) ?_;rintro e j ⟨x',rfl,m,N,O,P⟩;obtain⟨UY,X3,f1,-,-,-⟩:=id m.TQ;obtain⟨UM,UV,f2,-,-,-⟩:=id m.ls;obtain⟨Xl,XB,f3,-,-,-⟩:=id m.Wh;obtain⟨XR,Zz,f4,-,-,-⟩:=id m.Y1;obtain⟨u7,tr,u9,va⟩:=x';simp only at f1 f2 f3 f4;subst f1 f2 f3 f4;have rd:=U.ig (cs':=bp p (.slice H F.length C) ap XY ⟨.slice UY XY.chain.length X3,.slice UM XY.list.length UV,.slice Xl XY.said.length XB,.slice XR XY.aC.said.length Zz⟩) (V':=V2) cf hS m;replace U:=U.call cf N O P;clear N O P m;have DI:=U;clear U;have U:=DI.base)|(refine aq ?_)|(refine Ws U 386 ?_;clear U;intro u w U Q)|(refine aT ?_;clear U;intro T w U y));exact dg
end
end
end Go.Proofs.YtcimojgkeoecfaaGreat
