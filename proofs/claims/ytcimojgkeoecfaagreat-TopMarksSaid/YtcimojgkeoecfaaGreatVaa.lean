set_option linter.all false
set_option maxHeartbeats 16000000
set_option maxRecDepth 100000
namespace Go.Proofs.YtcimojgkeoecfaaGreat
section
abbrev Z:=@if_pos
abbrev Y:=@if_neg
abbrev E:=@List.not_mem_nil
abbrev D:=@Nat.le_trans
abbrev ae:=@List.getD_eq_getElem?_getD
abbrev ad:=@List.mem_cons
abbrev aj:=@Nat.lt_of_lt_of_le
abbrev ak:=@List.length_append
abbrev al:=@Int.tmod_eq_emod_of_nonneg
abbrev ai:=@Nat.le_refl
abbrev an:=@List.getElem?_eq_getElem
abbrev ao:=@List.mem_cons_of_mem
abbrev au:=@List.nil_append
abbrev av:=@or_false
abbrev ax:=@Nat.zero_add
abbrev ay:=@List.getElem?_append_right
abbrev aA:=@List.getElem?_append_left
abbrev aE:=@List.getElem?_toArray
abbrev aI:=@List.length_cons
abbrev aJ:=@List.append_assoc
abbrev aL:=@Nat.zero_le
abbrev aQ:=@Nat.eq_zero_or_pos
abbrev aS:=@List.map_cons
abbrev aU:=@List.cons_append
abbrev aV:=@List.getElem?_eq_none
abbrev a1:=@List.getElem?_range
abbrev a3:=@List.getElem?_map
abbrev a8:=@List.mem_cons_self
abbrev bf:=@List.mem_of_getElem?
abbrev bk:=@Array.getElem?_setIfInBounds_ne
abbrev bn:=@Int.eq_ofNat_of_zero_le
abbrev br:=@List.append_nil
abbrev bt:=@Option.map_some
abbrev bA:=@List.getElem_mem
abbrev bJ:=@List.length_map
abbrev bL:=@Int.toNat_natCast
abbrev bR:=@List.length_nil
abbrev bS:=@List.nodup_cons
abbrev bQ:=@Nat.le_of_ble_eq_true
abbrev bZ:=@List.getElem?_of_mem
abbrev b3:=@List.pairwise_cons
abbrev b5:=@Int.emod_nonneg
abbrev b8:=@List.map_toArray
abbrev b9:=@List.take_append_drop
abbrev ck:=@List.map_nil
abbrev cl:=@List.drop_eq_nil_of_le
abbrev cm:=@List.take_of_length_le
abbrev ct:=@List.eq_nil_or_concat
abbrev cu:=@List.concat_eq_append
abbrev cA:=@Int.emod_lt_of_pos
abbrev cz:=@List.getElem?_cons_succ
abbrev cB:=@List.mem_append_left
abbrev cr:=@Array.getElem?_setIfInBounds_self_of_lt
abbrev cI:=@Int.add_zero
abbrev cD:=@Nat.and_two_pow_sub_one_eq_mod
abbrev cP:=@List.map_append
abbrev cJ:=@List.take_append_of_le_length
abbrev cZ:=@Nat.add_zero
abbrev c8:=@List.drop_succ_cons
abbrev dh:=@List.length_singleton
abbrev dy:=@List.foldl_cons
abbrev dz:=@congrArg
abbrev dn:=@List.eq_nil_of_length_eq_zero
section
variable{p:Prop}
include p
theorem J(h:p:=by omega):p:=h
theorem am(h:p:=by decide):p:=h
theorem aN(h:p:=by simp):p:=h
theorem aez(h:p:=by trivial):p:=h
theorem fa(h:p:=by
 (try simp only[Act.put,List.setIfInBounds_toArray,List.set_cons_zero,List.set_cons_succ])
 exact rfl):p:=h
theorem qZ(h:p:=by
 (try simp only[er,List.drop_succ_cons,List.drop_zero,List.take_succ_cons,List.take_zero,List.take_nil,List.drop_nil,List.cons_append,List.nil_append,List.append_nil,List.length_cons,List.length_nil,Nat.zero_add,Nat.reduceAdd,Nat.add_zero])
 exact rfl):p:=h
theorem et(h:p:=by
 (try simp only[Act.put,List.setIfInBounds_toArray,List.set_cons_zero,List.set_cons_succ,List.getElem_toArray,List.getElem_cons_zero,List.getElem_cons_succ])
 exact rfl):p:=h
theorem eu(h:p:=by
 (try simp only[List.setIfInBounds_toArray,List.set_cons_zero,List.set_cons_succ])
 exact rfl):p:=h
theorem lT(h:p:=by
 (try simp only[List.drop_succ_cons,List.drop_zero,List.take_succ_cons,List.take_zero,List.take_nil,List.drop_nil,List.cons_append,List.nil_append,List.append_nil,List.length_cons,List.length_nil,Nat.zero_add,Nat.reduceAdd,Nat.add_zero])
 exact rfl):p:=h
theorem ch(h:p:=by first|omega|(simp;done)|(simp;omega)):p:=h
end
theorem aB{c:Prop}[Decidable c]{α:Sort _}{a b:α}(h: ¬c:=by omega):(if c then a else b)=b:=if_neg h
theorem m3{c:Prop}[Decidable c]{α:Sort _}{a b:α}(h:c:=by omega):(if c then a else b)=a:=if_pos h
theorem af0{p:Prop}(h:p:=by
 apply Exists.intro;apply And.intro;(focus(repeat(first|(with_reducible exact dL _ _)|((with_reducible apply eg);(focus(first|(simp;done)|omega)))|(with_reducible apply eC)|((with_reducible apply eQ);(focus(first|omega|(simp;done)|(simp;omega))))|((with_reducible apply dA);(focus(with_reducible assumption));(focus(first|omega|(simp;done)|(simp;omega))))|((with_reducible apply cQ);(focus(first|omega|(simp;done)|(simp;omega)))))));(focus rfl)):p:=h
end
structure Ext where
 a:Int
 z:Int
structure g7 where
 st:Int
 Xf:Int
 YX:Int
 T5:Int
structure dM where
 op:Int
 r:Int
 h:Int
 v:Int
 a:Int
 b:Int
 c:Int
structure bO where
 s:Int
 c:Bool
deriving DecidableEq
structure jc where
 op:Int
 a:Int
 b:Int
structure Ln where
 code:Int
 n:Int
 said:List Int
structure db where
 XT:Int
 call:dM
 fr:Int
 pt:Int
 e2:Int
 aC:Ln
structure RJ where
 call:dM
 Xj:Int
 af:Int
 hand:Int
 val:Int
 chain:List bO
 word:Int
 next:Int
 at_:Int
 top:Int
 list:List Int
 op:Int
 said:List Int
 n:Int
 held:Bool
 fin:Bool
 bF:Bool
 aC:Ln
structure PO where
 s:Int
 t:Int
 i:Int
 h:Int
structure eD where
 calls:List dM
 regs:Nat->Int
 aD:List bO
 run:RJ
 busy:Bool
 at_:Nat
structure Wd where
 V:Nat->Int
 fr:List Ext
 XT:Nat->eD
 ops:List db
 n:Nat
def put{α:Type}(f:Nat->α)(j:Nat)(v:α):Nat->α:=fun i=>if i=j then v else f i
theorem aP{α:Type}(f:Nat->α)(j:Nat)(v:α):put f j v j=v:=by simp[put]
theorem aw{α:Type}(f:Nat->α){i j:Nat}(v:α)(h:i≠j):put f j v i=f i:=by simp[put,h]
def TK(c:g7):Int:=c.st+4*c.Xf+1024*(c.YX+1)+262144*c.T5
def up(w:Int):g7:=⟨w %4,w/4 %256,w/1024 %256-1,w/262144 %16777216⟩
structure hZ(c:g7):Prop where
 T5:0<=c.T5/\c.T5<=16777215
 st:0<=c.st/\c.st<=3
 Xf:(c.st=2->1<=c.Xf/\c.Xf<=7)/\(c.st≠2->c.Xf=0)
 YX: -1<=c.YX/\c.YX<=7/\(c.st<2->c.YX= -1)
theorem hZ.UK{c:g7}(h:hZ c):0<=TK c/\TK c<4398046511104:=by
 have:=h.T5;have:=h.st;have:=h.Xf;have:=h.YX;unfold TK;omega
theorem ni{c:g7}(h:hZ c):up (TK c)=c:=by
 have:=h.T5;have:=h.st;have:=h.Xf;have:=h.YX;cases c;simp only[up,TK]at*;simp only[g7.mk.injEq];omega
structure okW(w:Int):Prop where
 ok:hZ (up w)
 eq:TK (up w)=w
theorem hZ.w{c:g7}(h:hZ c):okW (TK c):=⟨by rw[ni h];exact h,by rw[ni h]⟩
def ca(c:g7)(a:Int):g7×Int:=
 if c.st=0 then(⟨0,0,0,0⟩,11)else if c.st=3 then(⟨0,0,0,0⟩,10)else if c.st=1 then(⟨2,1,a,c.T5⟩,0)
 else if c.YX≠a then(⟨0,0,0,0⟩,15)else if c.Xf=7 then(⟨0,0,0,0⟩,16)else(⟨2,c.Xf+1,c.YX,c.T5⟩,0)
def ic(c:g7):g7:=⟨if c.Xf=1 then 3 else 2,c.Xf-1,c.YX,c.T5⟩
def jX(c:g7):g7:=⟨1,0,-1,(c.T5+1)%16777216⟩
def mp(c:g7):g7:=⟨2,1,c.YX,c.T5⟩
theorem hZ.enter{c:g7}{f:Int}(h:hZ c)(i:0<=f/\f<=7)(e:(ca c f).2=0):hZ (ca c f).1/\(ca c f).1.st=2/\(ca c f).1.T5=c.T5/\(ca c f).1.Xf=c.Xf+1/\(c.st=1\/c.st=2)/\(ca c f).1.YX=f:=by
 have:=h.T5;have:=h.st;have:=h.Xf;have:=h.YX;unfold ca at*;by_cases a:c.st=0
 ·simp[a]at e
 by_cases b:c.st=3
 ·simp[b]at e
 by_cases h1:c.st=1
 ·rw[Y a,Y b,Z h1];exact⟨⟨by simp;omega,aN,aN,by simp;omega⟩,by simp;omega⟩
 by_cases g:c.YX=f
 ·by_cases d:c.Xf=7
  ·simp[a,b,h1,g,d]at e
  ·rw[Y a,Y b,Y h1,Y (by simpa using g),Y d];exact⟨⟨by simp;omega,aN,by simp;omega,by simp;omega⟩,by simp;omega⟩
 ·simp[a,b,h1,g]at e
theorem hZ.leave{c:g7}(h:hZ c)(a:c.st=2):hZ (ic c)/\((ic c).st=3↔c.Xf=1)/\((ic c).st=2↔c.Xf≠1):=by
 have:=h.T5;have:=h.st;have:=h.Xf;have:=h.YX;unfold ic;by_cases e:c.Xf=1
 ·simp only[e,if_true];exact⟨⟨by simp;omega,aN,aN,by simp;omega⟩,aN,aN⟩
 ·simp only[e,if_false];exact⟨⟨by simp;omega,aN,by simp;omega,by simp;omega⟩,aN,by simp[e]⟩
theorem hZ.open_{c:g7}(h:hZ c):hZ (jX c):=by
 have:=h.T5;unfold jX;exact⟨by simp;omega,aN,aN,aN⟩
theorem hZ.hold{c:g7}(h:hZ c):hZ (mp c):=by
 have:=h.T5;have:=h.YX;unfold mp;exact⟨by simp;omega,aN,aN,by simp;omega⟩
def Wi(V:Nat->Int)(s:Nat):g7:=up (V (8*s))
def bs(V:Nat->Int)(s:Nat):Int:=V (8*s+1)
def Ts(V:Nat->Int)(s:Nat):Int:=V (8*s+2)
def TJ(V:Nat->Int)(s:Nat):Int:=V (8*s+3)
def gt(V:Nat->Int)(s:Nat):Int:=V (8*s+4)
def q5(z l t d:Int):Int:=z+l*4294967296+t*1099511627776+d*281474976710656+11889503016258109440
def vP(d:Bool):Int:=if d then 1 else 0
theorem Ac(d:Bool):0<=vP d/\vP d<=1:=by cases d<;>decide
structure Zr where
 at_:Nat
 z:Nat
 l:Nat
 t:Nat
 d:Bool
def Zr.w(o:Zr):Int:=q5 o.z o.l o.t (vP o.d)
def Zr.ok(o:Zr):Prop:=o.l<=6/\2+o.l<=o.z/\o.z<=72/\o.t<=7
theorem Zr.UK{o:Zr}(h:o.ok):0<=o.w/\o.w/72057594037927936=165/\o.w<18446744073709551616:=by
 have:=Ac o.d;unfold Zr.ok at h;unfold Zr.w q5;omega
def ks:Nat->List Zr->Nat->Prop
 |a,[],e=>a=e
 |a,o::l,e=>o.at_=a/\ks (a+o.z) l e
def VA(h:Int):Int:=h/16777216 %256
def UP(h:Int):Int:=h/4294967296
def WR(h:Int):Int:=h %16777216*8
def dr(h:Int):Prop:=0<=VA h/\VA h<=7/\0<=UP h/\UP h<=16777215/\8<=WR h/\WR h<=65528
instance (h:Int):Decidable (dr h):=by unfold dr;infer_instance
def Y3(s e a:Int):Int:=a/8+16777216*s+4294967296*e
theorem dr.UK{h:Int}(ok:dr h)(a:0<=h):h<72057594037927936:=by
 unfold dr UP at ok;omega
def da(l:List bO):Int:=match l.getLast? with|none=>0|some e=>e.s
def reach(l:List bO)(s:Int):Prop:=s=0\/(⟨s,true⟩:bO)∈l
instance (l:List bO) (s:Int):Decidable (reach l s):=by unfold reach;infer_instance
def lX:List bO->Int->List bO->Int
 | [],_,_=> -1
 |e::l,s,pre=>if e=⟨s,true⟩then da pre else lX l s (pre++ [e])
def rY(l:List bO)(s:Int):Nat->Int->Bool
 |0,_=>false
 |n+1,b=>if b=s then true else rY l s n (lX l b [])
def kt(l:List bO)(s b:Int):Bool:=if s=0 then true else rY l s 9 b
def Xy(x:Int):Int:=x %18446744073709551616
def Z6(x:Int):Int:=if x<9223372036854775808 then x else x-18446744073709551616
def tell(r:RJ)(code n:Int):RJ:={r with fin:=true,bF:=true,aC:=⟨code,n,r.said⟩}
abbrev b1:=List (List jc)
def bY(F:b1)(t:Nat):List jc:=F.getD t []
def fN(a b:Int):Int:=2+a+(b+7)/8
def x3(f t:Int):Prop:=(0<=f/4294967296 %256/\f/4294967296 %256<=6)/\(2+f/4294967296 %256<=f %4294967296/\f %4294967296<=72)/\(0<=f/1099511627776 %256/\f/1099511627776 %256<=7)/\(0<=t %256/\t %256<=7)/\(0<=t/256/\t/256<=16777215)/\f/72057594037927936=165/\f/281474976710656 %256<=1
instance (f t:Int):Decidable (x3 f t):=by unfold x3;infer_instance
def fl(V:Nat->Int)(k:Nat):Zr:=⟨k,(V k %4294967296).toNat,(V k/4294967296 %256).toNat,(V k/1099511627776 %256).toNat,V k/281474976710656 %256==1⟩
def he(n:Nat)(V:Nat->Int)(k:Nat)(s e:Int):Prop:=k+1<n/\x3 (V k) (V (k+1))/\V (k+1)%256=s/\V (k+1)/256=e
instance (n:Nat) (V:Nat->Int) (k:Nat) (s e:Int):Decidable (he n V k s e):=by unfold he;infer_instance
theorem Zr.EJ{V:Nat->Int}{o:Zr}(ok:o.ok)(h:V o.at_=o.w):fl V o.at_=o:=by
 have hb:=Ac o.d;have hd:(V o.at_/281474976710656 %256==1)=o.d:=by
  rw[h];unfold Zr.ok at ok;unfold Zr.w q5;cases e:o.d
  ·simp[vP];omega
  ·simp[vP];omega
 unfold fl;rw[hd];cases o;simp only[Zr.mk.injEq];unfold Zr.ok at ok;simp only[Zr.w,q5]at*;refine⟨trivial,?_,?_,?_,trivial⟩<;>rw[h]<;>omega
theorem Zr.EK{n:Nat}{V:Nat->Int}{o:Zr}{s e:Int}(ok:o.ok)(h:V o.at_=o.w)(a:V (o.at_+1)=s+256*e)(f:0<=s/\s<=7)(c:0<=e/\e<=16777215)(b:o.at_+1<n):he n V o.at_ s e:=by
 have hb:=Ac o.d;unfold Zr.ok at ok;unfold he x3;rw[h,a];unfold Zr.w q5;omega
def hU:List Ext->Int->Option (Int×List Ext)
 | [],_=>none
 |x::l,n=>if n<=x.z then some (x.a,if x.z=n then l else⟨x.a+n,x.z-n⟩::l)else(hU l n).map fun r=>(r.1,x::r.2)
def q6:List Ext->Ext->List Ext
 | [],y=> [y]
 |x::l,y=>if y.a<x.a+x.z then y::x::l else x::q6 l y
def lY:Ext->List Ext->List Ext
 |x,[]=> [x]
 |x,y::l=>if x.a+x.z=y.a then lY ⟨x.a,x.z+y.z⟩ l else x::lY y l
def give(l:List Ext)(a z:Int):List Ext:=match q6 l ⟨a,z⟩with| []=> []|x::l=>lY x l
def dd(o:jc)(sl:List Int):Int×List Int×List Int×Bool:=
 if o.op=0 then(0,sl,[o.a],false)
 else if o.op=1 then(0,if o.a<sl.length then sl.set o.a.toNat 0 else sl,[],false)
 else if o.op=2 then(0,if o.a<sl.length/\o.b<sl.length then sl.set o.a.toNat (sl.getD o.b.toNat 0)else sl,[],false)
 else if o.op=3 then(if o.a<sl.length/\sl.getD o.a.toNat 0=0 then o.b else 0,sl,[],false)
 else(0,sl,[],true)
def eM(V:Nat->Int)(k l:Nat):List Int:=(List.range l).map fun i=>V (k+2+i)
def fW(V:Nat->Int)(k:Nat)(sl:List Int):Nat->Int:=fun j=>if k+2<=j/\j<k+2+sl.length then sl.getD (j-(k+2)) 0 else V j
def e6(V:Nat->Int)(r:RJ):(Nat->Int)×RJ:=
 if r.Xj=5 then(V,{r with next:=(Wi V r.af.toNat).T5,Xj:=2})
 else if r.Xj=2 then(V,{r with at_:=bs V r.af.toNat,Xj:=3})
 else if r.Xj=3 then(V,{r with word:=Ts V r.af.toNat,Xj:=4})
 else if TJ V r.af.toNat<=r.word/\8*fN r.call.a r.call.b<=r.word-TJ V r.af.toNat then
  (put (put (put V (8*r.af.toNat+3) (TJ V r.af.toNat+8*fN r.call.a r.call.b)) ((r.at_+TJ V r.af.toNat)/8).toNat (q5 (fN r.call.a r.call.b) r.call.a r.call.c 0)) (((r.at_+TJ V r.af.toNat)/8).toNat+1) (r.af+256*r.next),
   tell r 0 (Y3 r.af r.next (r.at_+TJ V r.af.toNat)))
 else(V,tell r 17 0)
def dR(V:Nat->Int)(r:RJ):(Nat->Int)×RJ:=
 if r.Xj=13 then
  if(ca (Wi V r.call.a.toNat) r.af).2=10 then(V,r)
  else if(ca (Wi V r.call.a.toNat) r.af).2=0 then(V,{r with word:=V (8*r.call.a.toNat),Xj:=14,next:=TK (ca (Wi V r.call.a.toNat) r.af).1})
  else(V,tell r (ca (Wi V r.call.a.toNat) r.af).2 0)
 else if V (8*r.call.a.toNat)=r.word then(put V (8*r.call.a.toNat) r.next,tell r 0 0)
 else(V,{r with word:=0,next:=0,Xj:=13})
def bP(r:RJ):RJ:=if r.list≠ []then {r with Xj:=20}else if r.held then {r with Xj:=22}else {r with Xj:=23}
def ee(r:RJ):RJ:=if r.at_<r.top then {r with Xj:=19}else bP r
def dT(r:RJ):RJ:=if r.at_<r.top then {r with Xj:=24}else {r with Xj:=25}
def iK(l:List Int):Int:=l.getLast?.getD 0
def bM(F:b1)(V:Nat->Int)(r:RJ):(Nat->Int)×RJ:=
 if r.Xj=15 then(V,{r with word:=V (8*r.af.toNat),next:=TK (ic (Wi V r.af.toNat)),Xj:=16})
 else if r.Xj=16 then
  if V (8*r.af.toNat)=r.word then
   (put V (8*r.af.toNat) r.next,if(up r.next).st=3 then {r with Xj:=17}else tell r 0 0)
  else(V,{r with word:=0,next:=0,Xj:=15})
 else if r.Xj=17 then(V,{r with word:=bs V r.af.toNat,at_:=bs V r.af.toNat,Xj:=18})
 else if r.Xj=18 then(V,ee {r with top:=r.at_+TJ V r.af.toNat})
 else if r.Xj=19 then
  (V,ee {r with list:=if(fl V (r.at_/8).toNat).d=false/\bY F (fl V (r.at_/8).toNat).t≠ []then r.list++ [r.at_]else r.list,at_:=r.at_+8*(fl V (r.at_/8).toNat).z})
 else if r.Xj=20 then
  let k:=(iK r.list/8).toNat
  let o:=fl V k
  let ops:=bY F o.t
  let q:=dd (ops.getD r.op.toNat ⟨0,0,0⟩) (eM V k o.l)
  (fW V k q.2.1,{r with op:=r.op+1+q.1,said:=r.said++q.2.2.1,held:=r.held||q.2.2.2,Xj:=if ops.length<=r.op+1+q.1 then 21 else 20})
 else if r.Xj=21 then
  let k:=(iK r.list/8).toNat
  let o:=fl V k
  (put V k (q5 o.z o.l o.t 1),bP {r with list:=r.list.dropLast,n:=r.n+1,op:=0})
 else if r.Xj=22 then(put V (8*r.af.toNat) (TK (mp (up r.next))),tell r 25 r.n)
 else if r.Xj=23 then(put V (8*r.af.toNat+4) 0,dT {r with at_:=r.word})
 else if r.Xj=24 then(put V (r.at_/8).toNat 0,dT {r with at_:=r.at_+8})
 else if r.Xj=25 then(put V (8*r.af.toNat+3) 0,{r with Xj:=26})
 else(put V (8*r.af.toNat) (TK (jX (up r.next))),tell r 0 r.n)
def check(p:PO)(l:List bO)(h:Int):Int:=if¬dr h\/p.s<=VA h then 18 else if reach l (VA h)then 0 else 20
def ie(V:Nat->Int)(r:RJ)(h next:Int):RJ:=if(Wi V (VA h).toNat).T5=UP h then {r with Xj:=next}else tell r 19 0
def qz(p:PO)(n:Nat)(V:Nat->Int)(r:RJ):RJ:=
 if he n V (WR r.hand/8).toNat (VA r.hand) (UP r.hand)then
  if 0<=r.call.b/\r.call.b<(fl V (WR r.hand/8).toNat).l then
   if r.call.op=8 then {r with at_:=WR r.hand+16+8*r.call.b,Xj:=9}
   else if r.val=0 then {r with at_:=WR r.hand+16+8*r.call.b,Xj:=10}
   else if check p r.chain r.val=0 then {r with at_:=WR r.hand+16+8*r.call.b,Xj:=7}
   else tell {r with at_:=WR r.hand+16+8*r.call.b} (check p r.chain r.val) 0
  else tell r 21 0
 else tell r 18 0
def lr(n:Nat)(V:Nat->Int)(r:RJ):RJ:=
 if he n V (WR r.val/8).toNat (VA r.val) (UP r.val)then
  if kt r.chain (VA r.val) (if r.call.op=9 then VA r.hand else r.call.a)then {r with Xj:=if r.call.op=9 then 10 else 12}
  else tell r 22 0
 else tell r 18 0
def cK(p:PO)(n:Nat)(V:Nat->Int)(r:RJ):(Nat->Int)×RJ:=
 if r.Xj=5 then(V,ie V r r.hand 6)
 else if r.Xj=6 then(V,qz p n V r)
 else if r.Xj=7 then(V,ie V r r.val 8)
 else if r.Xj=8 then(V,lr n V r)
 else if r.Xj=9 then(V,tell r 0 (Z6 (V (r.at_/8).toNat)))
 else if r.Xj=10 then(put V (r.at_/8).toNat r.val,tell r 0 0)
 else if r.Xj=11 then(V,tell r 0 (Z6 (gt V r.call.a.toNat)))
 else(put V (8*r.call.a.toNat+4) r.val,tell r 0 0)
def fv(V:Nat->Int)(n:Nat):Option Nat:=(List.range n).find? fun s=>(Wi V s).st==0
def gO(p:PO)(V:Nat->Int)(fr:List Ext)(r:RJ):(Nat->Int)×List Ext×RJ:=
 if r.call.op=3 then
  let s:=r.call.a.toNat
  if(Wi V s).st=0 then(V,fr,tell r 11 0)
  else if(Wi V s).st=1 then
   (put (put (put V (8*s) (TK ⟨0,0,-1,((Wi V s).T5+1)%16777216⟩)) (8*s+1) 0) (8*s+2) 0,give fr (bs V s) (Ts V s),tell r 0 0)
  else(V,fr,tell r 12 0)
 else
  match fv V p.s.toNat with
  |none=>(V,fr,tell r 13 0)
  |some s=>
   match hU fr ((r.call.a+7)/8*8)with
   |none=>(V,fr,tell r 14 0)
   |some (a,b)=>(put (put (put (put (put V (8*s) (TK ⟨1,0,-1,(Wi V s).T5⟩)) (8*s+1) a) (8*s+2) ((r.call.a+7)/8*8)) (8*s+3) 0) (8*s+4) 0,b,tell r 0 s)
def one(p:PO)(F:b1)(n:Nat)(V:Nat->Int)(fr:List Ext)(r:RJ):(Nat->Int)×List Ext×RJ:=
 if r.Xj=0 then(V,fr,tell r r.aC.code 0)
 else if r.Xj=1 then gO p V fr r
 else if r.call.op=7 then((e6 V r).1,fr,(e6 V r).2)
 else if r.call.op=4 then((dR V r).1,fr,(dR V r).2)
 else if r.call.op=5 then((bM F V r).1,fr,(bM F V r).2)
 else((cK p n V r).1,fr,(cK p n V r).2)
def b2(p:PO)(l:List bO)(c:dM)(h v:Int):Int:=
 if c.op=2 then(if 1<=c.a/\c.a<=8192 then 0 else 1)
 else if c.op=3 then(if 1<=c.a/\c.a<p.s then 0 else 11)
 else if c.op=4 then(if 1<=c.a/\c.a<p.s then(if l.length<6 then 0 else 24)else 11)
 else if c.op=5 then(if l= []then 23 else 0)
 else if c.op=6 then(if 0<=c.a/\c.a<p.s then(if reach l c.a then(if l.length<6 then 0 else 24)else 20)else 11)
 else if c.op=7 then(if(0<=c.a/\c.a<=6)/\0<=c.b/\c.b<=512 then 0 else 1)
 else if c.op=8\/c.op=9 then check p l h
 else if c.op=10 then(if 1<=c.a/\c.a<p.s then(if reach l c.a then 0 else 20)else 11)
 else if c.op=11 then(if 1<=c.a/\c.a<p.s then(if reach l c.a then(if v=0 then 0 else check p l v)else 20)else 11)
 else 0
def jo(l:List bO)(c:dM)(v:Int):Int:=
 if c.op=2\/c.op=3 then 1
 else if c.op=4 then 13
 else if c.op=5 then(match l.getLast? with|some ⟨_,true⟩=>15|_=>0)
 else if c.op=7\/c.op=8\/c.op=9 then 5
 else if c.op=10 then 11
 else if c.op=11 then(if v=0 then 12 else 7)
 else 0
def begun(p:PO)(regs:Nat->Int)(l:List bO)(c:dM):RJ:=
 {call:=c,Xj:=if b2 p l c (regs c.h.toNat) (regs c.v.toNat)=0 then jo l c (regs c.v.toNat)else 0,af:=da l,hand:=regs c.h.toNat,val:=regs c.v.toNat,chain:=l,
  word:=0,next:=0,at_:=0,top:=0,list:= [],op:=0,said:= [],n:=0,held:=false,fin:=false,bF:=false,aC:=⟨b2 p l c (regs c.h.toNat) (regs c.v.toNat),0,[]⟩}
def bH(t:eD):eD:=
 if t.run.aC.code≠0 then {t with busy:=false}
 else if t.run.call.op=1 then {t with busy:=false,regs:=put t.regs t.run.call.r.toNat (Xy t.run.call.a)}
 else if t.run.call.op=7\/t.run.call.op=8\/t.run.call.op=10 then {t with busy:=false,regs:=put t.regs t.run.call.r.toNat (Xy t.run.aC.n)}
 else if t.run.call.op=4 then {t with busy:=false,aD:=t.aD++ [⟨t.run.call.a,true⟩]}
 else if t.run.call.op=6 then {t with busy:=false,aD:=t.aD++ [⟨t.run.call.a,false⟩]}
 else if t.run.call.op=5 then {t with busy:=false,aD:=t.aD.dropLast}
 else {t with busy:=false}
def eD.ended(t:eD):Bool:= !t.busy&&t.calls.isEmpty
def bd(p:PO)(t:eD)(a:Nat):eD:=
 if t.busy then t else match t.calls with
  | []=>t
  |c::l=>{t with calls:=l,run:=begun p t.regs t.aD c,busy:=true,at_:=a}
def fO(W:Wd)(i:Nat):List db:=
 if(W.XT i).busy then W.ops else match(W.XT i).calls with
  | []=>W.ops
  |c::_=>W.ops++ [⟨i,c,W.n,-1,-1,⟨0,0,[]⟩⟩]
def bI(p:PO)(F:b1)(n:Nat)(W:Wd)(i:Nat):Wd:=
 let t:=bd p (W.XT i) W.ops.length
 let ops:=fO W i
 let q:=one p F n W.V W.fr t.run
 let t':={t with run:=q.2.2}
 {V:=q.1,fr:=q.2.1,
  XT:=put W.XT i (if q.2.2.fin then bH t' else t'),
  ops:=ops.modify t.at_ fun o=>{o with pt:=if q.2.2.bF then W.n else o.pt,e2:=if q.2.2.fin then W.n else o.e2,aC:=if q.2.2.fin then q.2.2.aC else o.aC},
  n:=W.n+1}
section
def gE(f:Nat->Nat):Nat->Nat
 |0=>0
 |m+1=>gE f m+f m
theorem rZ{f g:Nat->Nat}{m:Nat}(h: ∀i,i<m->f i=g i):gE f m=gE g m:=by
 induction m with
 |zero=>rfl
 |succ m a=>rw[gE,gE,a fun i hi=>h i J,h m J]
theorem nm{f:Nat->Nat}{m i:Nat}(hi:i<m):f i<=gE f m:=by
 induction m with
 |zero=>omega
 |succ m a=>
  rw[gE];by_cases h:i=m
  ·subst h;omega
  ·have:=a J;omega
theorem r0{f:Nat->Nat}{m i j:Nat}(hi:i<m)(d:j<m)(c:i≠j):f i+f j<=gE f m:=by
 induction m with
 |zero=>omega
 |succ m b=>
  rw[gE];by_cases h:i=m
  ·subst h;have:=nm (f:=f) (m:=i) (i:=j) J;omega
  ·by_cases a:j=m
   ·subst a;have:=nm (f:=f) (m:=j) (i:=i) J;omega
   ·have:=b J J;omega
theorem r1{f:Nat->Nat}{m i v:Nat}(hi:i<m):gE (put f i v) m+f i=gE f m+v:=by
 induction m with
 |zero=>omega
 |succ m a=>
  rw[gE,gE];by_cases h:i=m
  ·subst h;rw[aP,rZ (g:=f) fun j b=>aw f v J];omega
  ·rw[aw f v (fun e=>h e.symm)];have:=a J;omega
def fF(s:Nat)(l:List bO):Nat:=l.count (⟨s,true⟩:bO)
def within(W:Wd)(T s:Nat):Nat:=gE (fun i=>fF s (W.XT i).aD) T
theorem jq{s:Nat}{l:List bO}(h:(⟨s,true⟩:bO)∈l):1<=fF s l:=List.count_pos_iff.2 h
structure a9(p:PO):Prop where
 s:1<=p.s/\p.s<=8
 t:1<=p.t/\p.t<=4
 i:0<=p.i/\p.i<=504/\p.i %8=0
 h:0<=p.h/\p.h<=1016/\p.h %8=0
structure okF(o:jc):Prop where
 op:0<=o.op/\o.op<=4
 a:0<=o.a/\o.a<=99
 b:0<=o.b/\o.b<=8
def tN(F:b1):Prop:=F.length<=8/\∀l,l∈F->l.length<=8/\∀o,o∈l->okF o
structure cG(c:dM):Prop where
 op:0<=c.op/\c.op<=11
 r:0<=c.r/\c.r<=3
 h:0<=c.h/\c.h<=3
 v:0<=c.v/\c.v<=3
 a: -32768<=c.a/\c.a<=32767
 b:0<=c.b/\c.b<=255
 c:0<=c.c/\c.c<=7
structure lD(p:PO)(l:List bO):Prop where
 len:l.length<=6
 each: ∀pre e post,l=pre++e::post->0<=e.s/\e.s<p.s/\(e.c=true->1<=e.s)/\(e.c=false->reach pre e.s)
def fX(F:b1)(o:Zr):Bool:= !o.d&& !(bY F o.t).isEmpty
def cO(F:b1)(L:List Zr):List Int:=(L.filter (fX F)).map fun o=>8*(o.at_:Int)
def ku(x:Int):Prop:=x/72057594037927936≠165
inductive WF (F:b1) (V:Nat->Int) (O:List Zr) (z:Option Nat) (s:Nat) (r:RJ):Prop
 |first:r.Xj=17->r.list= []->z=none->WF F V O z s r
 |top:r.Xj=18->r.list= []->z=none->r.at_=bs V s->r.word=bs V s->WF F V O z s r
 |walk (pre:List Zr) (o:Zr) (post:List Zr):r.Xj=19->z=none->r.word=bs V s->r.top=bs V s+TJ V s->O=pre++o::post->r.at_=8*o.at_->r.list=cO F pre->WF F V O z s r
 |fin (pre:List Zr) (o:Zr) (post:List Zr):r.Xj=20->z=none->r.word=bs V s->r.top=bs V s+TJ V s->O=pre++o::post->fX F o=true->cO F post= []->r.list=cO F O->0<=r.op->r.op<(bY F o.t).length->WF F V O z s r
 |mark (pre:List Zr) (o:Zr) (post:List Zr):r.Xj=21->z=none->r.word=bs V s->r.top=bs V s+TJ V s->O=pre++o::post->fX F o=true->cO F post= []->r.list=cO F O->WF F V O z s r
 |rest:r.Xj=22\/r.Xj=23->z=none->r.word=bs V s->r.top=bs V s+TJ V s->cO F O= []->r.list= []->WF F V O z s r
 |zero:r.Xj=24->r.top=bs V s+TJ V s->bs V s<=r.at_->r.at_<r.top->r.at_ %8=0->z=some (r.at_/8).toNat->WF F V O z s r
 |last (q:Nat):r.Xj=25\/r.Xj=26->O= []->z=some q->(r.Xj=26->TJ V s=0)->WF F V O z s r
inductive XA (p:PO) (F:b1) (V:Nat->Int) (O:Nat->List Zr) (VM:Nat->Option Nat) (l:List bO) (r:RJ):Prop
 |tell:r.Xj=0->(r.aC.code=0->r.call.op=0\/r.call.op=1\/r.call.op=6/\0<=r.call.a/\r.call.a<p.s/\reach l r.call.a/\l.length<6\/r.call.op=5/\∃pre s,l=pre++ [⟨s,false⟩])->XA p F V O VM l r
 |make:r.Xj=1->r.call.op=2/\1<=r.call.a/\r.call.a<=8192\/r.call.op=3/\1<=r.call.a/\r.call.a<p.s->XA p F V O VM l r
 |take:r.call.op=7->0<=r.call.a/\r.call.a<=6->0<=r.call.b/\r.call.b<=512->0<=r.call.c/\r.call.c<=7->
   (r.Xj=5\/r.next=(Wi V r.af.toNat).T5/\(r.Xj=2\/r.at_=bs V r.af.toNat/\(r.Xj=3\/r.Xj=4/\r.word=Ts V r.af.toNat)))->XA p F V O VM l r
 |enter:r.call.op=4->1<=r.call.a/\r.call.a<p.s->l.length<6->
   (r.Xj=13\/r.Xj=14/\okW r.word/\(ca (up r.word) r.af).2=0/\r.next=TK (ca (up r.word) r.af).1)->XA p F V O VM l r
 |nn:r.call.op=5->(∃pre,l=pre++ [⟨r.af,true⟩])->r.list= []->
   (r.Xj=15\/r.Xj=16/\okW r.word/\(up r.word).st=2/\r.next=TK (ic (up r.word)))->XA p F V O VM l r
 |drain:r.call.op=5->(∃pre,l=pre++ [⟨r.af,true⟩])->17<=r.Xj/\r.Xj<=26->V (8*r.af.toNat)=r.next->(Wi V r.af.toNat).st=3->
   WF F V (O r.af.toNat) (VM r.af.toNat) r.af.toNat r->XA p F V O VM l r
 |slot:r.call.op=8\/r.call.op=9->dr r.hand->VA r.hand<p.s->reach l (VA r.hand)->
   (r.Xj=5\/(Wi V (VA r.hand).toNat).T5=UP r.hand/\(r.Xj=6\/
     ∃o,o∈O (VA r.hand).toNat/\8*(o.at_:Int)=WR r.hand/\0<=r.call.b/\r.call.b<o.l/\r.at_=WR r.hand+16+8*r.call.b/\
      (r.call.op=8/\r.Xj=9\/r.call.op=9/\r.Xj=10/\ku r.val\/
       r.call.op=9/\(r.Xj=7\/r.Xj=8)/\dr r.val/\VA r.val<p.s/\reach l (VA r.val)/\(r.Xj=8->(Wi V (VA r.val).toNat).T5=UP r.val))))->XA p F V O VM l r
 |hI:r.call.op=10->r.Xj=11->1<=r.call.a/\r.call.a<p.s->reach l r.call.a->XA p F V O VM l r
 |gate:r.call.op=11->1<=r.call.a/\r.call.a<p.s->reach l r.call.a->
   (r.Xj=12/\ku r.val\/(r.Xj=7\/r.Xj=8)/\dr r.val/\VA r.val<p.s/\reach l (VA r.val)/\(r.Xj=8->(Wi V (VA r.val).toNat).T5=UP r.val))->XA p F V O VM l r
structure ZL(p:PO)(F:b1)(V:Nat->Int)(O:Nat->List Zr)(VM:Nat->Option Nat)(t:eD):Prop where
 fin:t.run.fin=false
 bF:t.run.bF=false
 af:t.run.af=da t.aD
 chain:t.run.chain=t.aD
 hand:t.run.hand=t.regs t.run.call.h.toNat
 val:t.run.val=t.regs t.run.call.v.toNat
 call:cG t.run.call
 said:t.run.said.length<=8*t.run.n+(if t.run.Xj=20 then t.run.op else if t.run.Xj=21 then 8 else 0)
 n:0<=t.run.n/\(t.run.Xj<20->t.run.n=0/\t.run.op=0)
 aC:t.run.aC.n=0/\t.run.aC.said= []
 kind:XA p F V O VM t.aD t.run
structure XH(p:PO)(n:Nat)(V:Nat->Int)(O:List Zr)(z:Option Nat)(s:Nat):Prop where
 ft:okW (V (8*s))
 zero:s=0->(Wi V 0)=⟨2,1,-1,0⟩/\bs V 0=64*p.s/\Ts V 0=p.i
 ex:1<=s->(Wi V s).st≠0->64*p.s+p.i<=bs V s/\bs V s %8=0/\8<=Ts V s/\Ts V s %8=0/\bs V s+Ts V s<=8*n
 q7:(Wi V s).st≠0->0<=TJ V s/\TJ V s<=Ts V s/\TJ V s %8=0
 hd: ∀o,o∈O->o.ok/\V o.at_=o.w/\V (o.at_+1)=s+256*(Wi V s).T5
 ZI:2<=(Wi V s).st->z=none->ks (bs V s/8).toNat O ((bs V s+TJ V s)/8).toNat
 vw: ∀q,z=some q->1<=s/\(Wi V s).st=3/\∀o,o∈O->q<=o.at_/\bs V s<=8*o.at_/\8*(o.at_:Int)+16<=bs V s+TJ V s
 no:((Wi V s).st<2->O= []/\z=none)/\((Wi V s).st=2->z=none)
 idle:(Wi V s).st=1->TJ V s=0
structure Inv(p:PO)(F:b1)(n:Nat)(W:Wd)(O:Nat->List Zr)(VM:Nat->Option Nat):Prop where
 pl:a9 p
 ZU:8*(n:Int)=64*p.s+p.i+p.h
 WK:tN F
 Zt: ∀s:Nat,s<p.s->XH p n W.V (O s) (VM s) s
 YD: ∀s s':Nat,1<=s->s<p.s->1<=s'->s'<p.s->s≠s'->(Wi W.V s).st≠0->(Wi W.V s').st≠0->bs W.V s+Ts W.V s<=bs W.V s'\/bs W.V s'+Ts W.V s'<=bs W.V s
 fr: ∀x,x∈W.fr->64*p.s+p.i<=x.a/\x.a %8=0/\8<=x.z/\x.z %8=0/\x.a+x.z<=8*n
 fs:W.fr.Pairwise fun x y=>x.a+x.z<=y.a
 fd: ∀x,x∈W.fr->∀s:Nat,1<=s->s<p.s->(Wi W.V s).st≠0->x.a+x.z<=bs W.V s\/bs W.V s+Ts W.V s<=x.a
 jd: ∀k,0<=W.V k/\W.V k<18446744073709551616
 qB: ∀k,¬ku (W.V k)->∃s:Nat,s<p.s/\∃o,o∈O s/\o.at_=k
 U2: ∀t:Nat,t<p.t->lD p (W.XT t).aD
 Xf: ∀s:Nat,1<=s->s<p.s->((Wi W.V s).st=2->(Wi W.V s).Xf=within W p.t.toNat s)/\((Wi W.V s).st=3->within W p.t.toNat s=1)/\((Wi W.V s).st<2->within W p.t.toNat s=0)
 xk: ∀s:Nat,1<=s->s<p.s->(Wi W.V s).st=3->∃t:Nat,t<p.t/\(W.XT t).busy=true/\(W.XT t).run.call.op=5/\17<=(W.XT t).run.Xj/\da (W.XT t).aD=s
 UU: ∀t:Nat,t<p.t->(W.XT t).busy=true->ZL p F W.V O VM (W.XT t)
 rg: ∀t:Nat,t<p.t->∀j,0<=(W.XT t).regs j/\(W.XT t).regs j<18446744073709551616
 ZS: ∀t:Nat,t<p.t->∀c,c∈(W.XT t).calls->cG c
theorem np{a e:Nat}{pre post:List Zr}{o:Zr}(h:ks a (pre++o::post) e):ks a pre o.at_/\ks (o.at_+o.z) post e:=by
 induction pre generalizing a with
 |nil=>obtain⟨rfl,h⟩:=h;exact⟨rfl,h⟩
 |cons x l b=>obtain⟨rfl,h⟩:=h;have:=b h;exact⟨⟨rfl,this.1⟩,this.2⟩
theorem tO{a e b:Nat}{pre post:List Zr}(h:ks a pre b)(k:ks b post e):ks a (pre++post) e:=by
 induction pre generalizing a with
 |nil=>obtain rfl:=h;exact k
 |cons x l c=>obtain⟨rfl,h⟩:=h;exact⟨rfl,c h⟩
section
variable{a e:Nat}{l:List Zr}(h:ks a l e)
include a e l h
theorem tP:a<=e:=by
 induction l generalizing a with
 |nil=>obtain rfl:=h;exact ai _
 |cons x l b=>obtain⟨rfl,h⟩:=h;have:=b h;omega
theorem kl{o:Zr}(b:o∈l):a<=o.at_/\o.at_+o.z<=e:=by
 obtain⟨pre,post,rfl⟩:=List.append_of_mem b;have:=np h;exact⟨tP this.1,tP this.2⟩
theorem nr(d: ∀o,o∈l->o.ok){o x:Zr}(b:o∈l)(g:x∈l):o=x\/o.at_+o.z<=x.at_\/x.at_+x.z<=o.at_:=by
 induction l generalizing a with
 |nil=>cases b
 |cons y l f=>
  obtain⟨rfl,h⟩:=h;rcases List.mem_cons.1 b with rfl|i
  ·rcases List.mem_cons.1 g with rfl|c
   ·exact .inl rfl
   ·exact .inr (.inl (kl h c).1)
  ·rcases List.mem_cons.1 g with rfl|c
   ·exact .inr (.inr (kl h i).1)
   ·exact f h (fun o b=>d o (ao _ b)) i c
end
theorem iQ(F:b1)(a b:List Zr):cO F (a++b)=cO F a++cO F b:=by simp[cO]
theorem jr(F:b1)(o:Zr)(b:List Zr):cO F (o::b)=(if fX F o=true then [8*(o.at_:Int)]else [])++cO F b:=by
 unfold cO;rw[List.filter_cons];split<;>simp
theorem tQ{F:b1}{L:List Zr}(h:cO F L≠ []): ∃pre o post,L=pre++o::post/\fX F o=true/\cO F post= []:=by
 induction L with
 |nil=>exact absurd rfl h
 |cons x l b=>
  by_cases c:cO F l= []
  ·rw[jr,c,br]at h;by_cases d:fX F x=true
   ·exact⟨[],x,l,rfl,d,c⟩
   ·rw[Y d]at h;exact absurd rfl h
  ·obtain⟨pre,o,post,rfl,h1,a⟩:=b c;exact⟨x::pre,o,post,rfl,h1,a⟩
theorem q8{F:b1}{pre post:List Zr}{o:Zr}(h1:fX F o=true)(a:cO F post= []):iK (cO F (pre++o::post))=8*(o.at_:Int)/\(cO F (pre++o::post)).dropLast=cO F pre:=by
 rw[iQ,jr,a,Z h1,br];simp[iK]
theorem hn(l:List bO)(e:bO):da (l++ [e])=e.s:=by simp[da]
section
variable{p:PO}{l:List bO}(h:lD p l)
include p l h
theorem lD.af(a:a9 p):0<=da l/\da l<p.s/\reach l (da l):=by
 rcases ct l with rfl|⟨pre,e,rfl⟩
 ·have:=a.s;exact⟨by simp[da],by simp[da];omega,.inl rfl⟩
 ·rw[cu]at*;have:=h.each pre e [] rfl;rw[hn];refine⟨this.1,this.2.1,?_⟩;cases c:e.c with
  |true=>exact .inr (List.mem_append_right _ (by obtain⟨s,d⟩:=e;simp_all))
  |false=>
   rcases this.2.2.2 c with h|h
   ·exact .inl h
   ·exact .inr (cB _ h)
theorem lD.Cl{s:Int}(a:reach l s)(b:a9 p):0<=s/\s<p.s:=by
 rcases a with rfl|hm
 ·have:=b.s;omega
 ·obtain⟨pre,post,rfl⟩:=List.append_of_mem hm;have:=h.each pre _ post rfl;exact⟨this.1,this.2.1⟩
theorem lD.push{e:bO}(k:l.length<6)(g:0<=e.s)(h1:e.s<p.s)(d:e.c=true->1<=e.s)(i:e.c=false->reach l e.s):lD p (l++ [e]):=by
 refine⟨by simp;omega,fun pre x post a=>?_⟩;rcases ct post with rfl|⟨q,y,rfl⟩
 ·have:=List.append_inj' a rfl;obtain⟨rfl,b⟩:=this;obtain rfl:e=x:=by simpa using b
  exact⟨g,h1,d,i⟩
 ·rw[cu]at a;have f:l++ [e]=(pre++x::q)++ [y]:=by rw[a];simp
  obtain⟨b,j⟩:=List.append_inj' f rfl;exact h.each pre x q b
end
theorem lD.pop{p:PO}{l:List bO}{e:bO}(h:lD p (l++ [e])):lD p l:=
 ⟨by have:=h.len;simp at this;omega,fun pre x post a=>h.each pre x (post++ [e]) (by rw[a];simp)⟩
end
section
structure hs(V V':Nat->Int)(O O':Nat->List Zr)(VM dk:Nat->Option Nat)(s:Nat):Prop where
 v: ∀j,j<5->V' (8*s+j)=V (8*s+j)
 o:O' s=O s
 z:dk s=VM s
structure rf(V V':Nat->Int)(O O':Nat->List Zr)(s:Nat):Prop where
 st:(Wi V s).st=2
 T5:(Wi V' s).T5=(Wi V s).T5
 bs:bs V' s=bs V s
 Ts:Ts V' s=Ts V s
 o: ∀o,o∈O s->∃o',o'∈O' s/\o'.at_=o.at_/\o'.l=o.l
section
variable{V V':Nat->Int}{O O':Nat->List Zr}{a b:Nat->Option Nat}{s:Nat}(h:hs V V' O O' a b s)
include V V' O O' a b s h
theorem hs.Wi:Wi V' s=Wi V s:=by
 unfold Go.Proofs.YtcimojgkeoecfaaGreat.Wi;rw[show 8*s=8*s+0 from rfl,h.v 0 J]
theorem hs.w:V' (8*s)=V (8*s):=h.v 0 J
theorem hs.bs:bs V' s=bs V s:=h.v 1 J
theorem hs.Ts:Ts V' s=Ts V s:=h.v 2 J
theorem hs.TJ:TJ V' s=TJ V s:=h.v 3 J
end
theorem KB{V V':Nat->Int}{O O':Nat->List Zr}{a c:Nat->Option Nat}{s:Nat}(h:hs V V' O O' a c s\/rf V V' O O' s):
 (Wi V' s).T5=(Wi V s).T5/\bs V' s=bs V s/\Ts V' s=Ts V s/\∀o,o∈O s->∃o',o'∈O' s/\o'.at_=o.at_/\o'.l=o.l:=by
 rcases h with h|h
 ·exact⟨by rw[h.Wi],h.bs,h.Ts,fun o b=>⟨o,by rw[h.o];exact b,rfl,rfl⟩⟩
 ·exact⟨h.T5,h.bs,h.Ts,h.o⟩
theorem WF.keep{F:b1}{V V':Nat->Int}{O:List Zr}{z:Option Nat}{s:Nat}{r:RJ}(h:WF F V O z s r)(hb:bs V' s=bs V s)(l:TJ V' s=TJ V s):WF F V' O z s r:=by
 cases h with
 |first a b c=>exact .first a b c
 |top a b c d e=>exact .top a b c (by rw[hb];exact d) (by rw[hb];exact e)
 |walk pre o post a b c d e f g=>exact .walk pre o post a b (by rw[hb];exact c) (by rw[hb,l];exact d) e f g
 |fin pre o post a b c d e f g i j k=>exact .fin pre o post a b (by rw[hb];exact c) (by rw[hb,l];exact d) e f g i j k
 |mark pre o post a b c d e f g i=>exact .mark pre o post a b (by rw[hb];exact c) (by rw[hb,l];exact d) e f g i
 |rest a b c d e f=>exact .rest a b (by rw[hb];exact c) (by rw[hb,l];exact d) e f
 |zero a b c d e f=>exact .zero a (by rw[hb,l];exact b) (by rw[hb];exact c) d e f
 |last q a b c d=>exact .last q a b c (by rw[l];exact d)
section
variable{p:PO}{F:b1}{V V':Nat->Int}{O O':Nat->List Zr}{g i:Nat->Option Nat}
include p F V V' O O' g i
theorem XA.keep{l:List bO}{r:RJ}(h:XA p F V O g l r)(T:r.af=da l)(t:lD p l)(v:a9 p)
 (N: ∀s:Nat,s<p.s->reach l s->hs V V' O O' g i s\/rf V V' O O' s):XA p F V' O' i l r:=by
 have P:=t.af v;rw[<-T]at P;obtain⟨k,L⟩: ∃k:Nat,r.af=k:=⟨r.af.toNat,J⟩
 have m:r.af.toNat=k:=J;have Q:hs V V' O O' g i k\/rf V V' O O' k:=N k J (by rw[<-L];exact P.2.2);have A: ∀s:Int,reach l s->(Wi V' s.toNat).T5=(Wi V s.toNat).T5/\∀o,o∈O s.toNat->∃o',o'∈O' s.toNat/\o'.at_=o.at_/\o'.l=o.l:=by
  intro s u;have:=t.Cl u v;have h1:=KB (N s.toNat J (by rw[show((s.toNat:Nat):Int)=s from J];exact u));exact⟨h1.1,h1.2.2.2⟩
 cases h with
 |tell a b=>exact .tell a b
 |make a b=>exact .make a b
 |take a b c d e=>
  have h1:=KB Q;rw[<-m]at h1;exact .take a b c d (by rw[h1.1,h1.2.1,h1.2.2.1];exact e)
 |enter a b c d=>exact .enter a b c d
 |nn a b c d=>exact .nn a b c d
 |drain a b c d e f=>
  rw[m]at d e f;rcases Q with h|h
  ·refine .drain a b c ?_ ?_ ?_
   ·rw[m,h.w];exact d
   ·rw[m,h.Wi];exact e
   ·rw[m,h.o,h.z];exact f.keep h.bs h.TJ
  ·have:=h.st;omega
 |slot a b c d e=>
  have h1:=A _ d;refine .slot a b c d ?_;rcases e with e|⟨H,e⟩
  ·exact .inl e
  ·refine .inr ⟨by rw[h1.1];exact H,?_⟩;rcases e with e|⟨o,G,W,U,M,S,j⟩
   ·exact .inl e
   ·obtain⟨o',R,K,X⟩:=h1.2 o G;refine .inr ⟨o',R,by rw[K];exact W,U,by rw[X];exact M,S,?_⟩;rcases j with j|j|⟨j,B,y,C,n,x⟩
    ·exact .inl j
    ·exact .inr (.inl j)
    ·exact .inr (.inr ⟨j,B,y,C,n,fun q=>by rw[(A _ n).1];exact x q⟩)
 |hI a b c d=>exact .hI a b c d
 |gate a b c d=>
  refine .gate a b c ?_;rcases d with d|⟨B,y,C,n,x⟩
  ·exact .inl d
  ·exact .inr ⟨B,y,C,n,fun q=>by rw[(A _ n).1];exact x q⟩
theorem ZL.keep{t:eD}(h:ZL p F V O g t)(a:lD p t.aD)(b:a9 p)
 (c: ∀s:Nat,s<p.s->reach t.aD s->hs V V' O O' g i s\/rf V V' O O' s):ZL p F V' O' i t:=
 ⟨h.fin,h.bF,h.af,h.chain,h.hand,h.val,h.call,h.said,h.n,h.aC,h.kind.keep h.af a b c⟩
end
def gi(T:eD)(s:Nat):Prop:=T.busy=true/\T.run.call.op=5/\17<=T.run.Xj/\da T.aD=s
theorem eH{W W':Wd}{t T:Nat}(a:t<T)(b: ∀u,u≠t->W'.XT u=W.XT u)(s:Nat):
 within W' T s+fF s (W.XT t).aD=within W T s+fF s (W'.XT t).aD:=by
 have h:=r1 (f:=fun i=>fF s (W.XT i).aD) (v:=fF s (W'.XT t).aD) a;have e:within W' T s=gE (put (fun i=>fF s (W.XT i).aD) t (fF s (W'.XT t).aD)) T:=by
  refine rZ fun i hi=>?_;by_cases c:i=t
  ·subst c;rw[aP]
  ·rw[aw _ _ c,b i c]
 rw[e];exact h
theorem Inv.run{p:PO}{F:b1}{n:Nat}{W W':Wd}{O:Nat->List Zr}{e:Nat->Option Nat}(h:Inv p F n W O e){t:Nat}(v:t<p.t)
 (b:W'.V=W.V)(f:W'.fr=W.fr)(d: ∀u,u≠t->W'.XT u=W.XT u)(o:lD p (W'.XT t).aD)(r: ∀s,fF s (W'.XT t).aD=fF s (W.XT t).aD)
 (k: ∀s,gi (W.XT t) s->gi (W'.XT t) s)(l:(W'.XT t).busy=true->ZL p F W.V O e (W'.XT t))
 (m: ∀j,0<=(W'.XT t).regs j/\(W'.XT t).regs j<18446744073709551616)(q: ∀c,c∈(W'.XT t).calls->cG c):Inv p F n W' O e:=by
 have each: ∀(P:eD->Prop),P (W'.XT t)->∀u:Nat,u<p.t->P (W.XT u)->P (W'.XT u):=by
  intro P h1 u hu a;by_cases c:u=t
  ·subst c;exact h1
  ·rw[d u c];exact a
 have g: ∀s,within W' p.t.toNat s=within W p.t.toNat s:=by
  intro s;have:=eH (T:=p.t.toNat) (t:=t) J d s;have:=r s;omega
 refine⟨h.pl,h.ZU,h.WK,by rw[b];exact h.Zt,by rw[b];exact h.YD,by rw[f];exact h.fr,by rw[f];exact h.fs,by rw[b,f];exact h.fd,by rw[b];exact h.jd,by rw[b];exact h.qB,?_,?_,?_,?_,?_,?_⟩
 ·exact fun u hu=>each (fun T=>lD p T.aD) o u hu (h.U2 u hu)
 ·intro s h1 a;rw[b,g s];exact h.Xf s h1 a
 ·intro s h1 a i;rw[b]at i;obtain⟨u,hu,hd⟩:=h.xk s h1 a i;refine⟨u,hu,?_⟩;by_cases c:u=t
  ·subst c;exact k s hd
  ·rw[d u c];exact hd
 ·intro u hu;rw[b];by_cases c:u=t
  ·subst c;exact l
  ·rw[d u c];exact h.UU u hu
 ·exact fun u hu=>each (fun T=> ∀j,0<=T.regs j/\T.regs j<18446744073709551616) m u hu (h.rg u hu)
 ·exact fun u hu=>each (fun T=> ∀c,c∈T.calls->cG c) q u hu (h.ZS u hu)
theorem Inv.upd{p:PO}{F:b1}{n:Nat}{W W':Wd}{O O':Nat->List Zr}{R K:Nat->Option Nat}(h:Inv p F n W O R){t k:Nat}(N:t<p.t)(TS:k<p.s)
 (H: ∀u,u≠t->W'.XT u=W.XT u)
 (hb: ∀s:Nat,s<p.s->s≠k->hs W.V W'.V O O' R K s)
 (ZQ: ∀s:Nat,s<p.s->s≠k->∀o,o∈O s->W'.V o.at_=W.V o.at_/\W'.V (o.at_+1)=W.V (o.at_+1))
 (xf:XH p n W'.V (O' k) (K k) k)
 (Q: ∀s:Nat,1<=s->s<p.s->s≠k->1<=k->(Wi W.V s).st≠0->(Wi W'.V k).st≠0->bs W'.V k+Ts W'.V k<=bs W.V s\/bs W.V s+Ts W.V s<=bs W'.V k)
 (m5: ∀x,x∈W'.fr->64*p.s+p.i<=x.a/\x.a %8=0/\8<=x.z/\x.z %8=0/\x.a+x.z<=8*n)
 (tT:W'.fr.Pairwise fun x y=>x.a+x.z<=y.a)
 (RP: ∀x,x∈W'.fr->∀s:Nat,1<=s->s<p.s->(Wi W'.V s).st≠0->x.a+x.z<=bs W'.V s\/bs W'.V s+Ts W'.V s<=x.a)
 (yo: ∀k,0<=W'.V k/\W'.V k<18446744073709551616)
 (x0: ∀k,¬ku (W'.V k)->∃s:Nat,s<p.s/\∃o,o∈O' s/\o.at_=k)
 (eO:lD p (W'.XT t).aD)(pV: ∀s,s≠k->fF s (W'.XT t).aD=fF s (W.XT t).aD)
 (X:1<=k->((Wi W'.V k).st=2->(Wi W'.V k).Xf=within W' p.t.toNat k)/\((Wi W'.V k).st=3->within W' p.t.toNat k=1)/\((Wi W'.V k).st<2->within W' p.t.toNat k=0))
 (S: ∀s,s≠k->gi (W.XT t) s->gi (W'.XT t) s)
 (E0:1<=k->(Wi W'.V k).st=3->gi (W'.XT t) k)
 (U:(W'.XT t).busy=true->ZL p F W'.V O' K (W'.XT t))
 (cx:(∀u:Nat,u<p.t->u≠t->¬reach (W.XT u).aD k)\/rf W.V W'.V O O' k)
 (cT: ∀j,0<=(W'.XT t).regs j/\(W'.XT t).regs j<18446744073709551616)(fc: ∀c,c∈(W'.XT t).calls->cG c):Inv p F n W' O' K:=by
 have each: ∀(P:eD->Prop),P (W'.XT t)->∀u:Nat,u<p.t->P (W.XT u)->P (W'.XT u):=by
  intro P h1 u hu b;by_cases c:u=t
  ·subst c;exact h1
  ·rw[H u c];exact b
 refine⟨h.pl,h.ZU,h.WK,?_,?_,m5,tT,RP,yo,x0,?_,?_,?_,?_,?_,?_⟩
 ·intro s B;by_cases c:s=k
  ·subst c;exact xf
  ·have e:=hb s B c;have g:=h.Zt s B;rw[e.o,e.z];have d:=e.Wi;have m:=e.bs;have v:=e.Ts;have q:=e.TJ;refine⟨by rw[e.w];exact g.ft,?_,?_,?_,?_,?_,?_,?_,by rw[d,q];exact g.idle⟩
   ·intro YM;subst YM;rw[d,m,v];exact g.zero rfl
   ·rw[d,m,v];exact g.ex
   ·rw[d,v,q];exact g.q7
   ·intro o hm;have:=ZQ s B c o hm;rw[this.1,this.2,d];exact g.hd o hm
   ·rw[d,m,q];exact g.ZI
   ·rw[d,m,q];exact g.vw
   ·rw[d];exact g.no
 ·intro s s' h1 b r G A C f;by_cases c:s=k
  ·subst c;have e':=hb s' G (fun e=>A e.symm);rw[e'.Wi]at f;rw[e'.bs,e'.Ts];exact Q s' r G (fun e=>A e.symm) h1 f C
  ·have e:=hb s b c;rw[e.Wi]at C;rw[e.bs,e.Ts];by_cases c':s'=k
   ·subst c';have:=Q s h1 b c r C f;omega
   ·have e':=hb s' G c';rw[e'.Wi]at f;rw[e'.bs,e'.Ts];exact h.YD s s' h1 b r G A C f
 ·exact fun u hu=>each (fun T=>lD p T.aD) eO u hu (h.U2 u hu)
 ·intro s h1 b;by_cases c:s=k
  ·subst c;exact X h1
  ·have Vu:=eH (T:=p.t.toNat) (t:=t) J H s;have r:=pV s c;have e:within W' p.t.toNat s=within W p.t.toNat s:=J;rw[(hb s b c).Wi,e];exact h.Xf s h1 b
 ·intro s h1 b r;by_cases c:s=k
  ·subst c;exact⟨t,N,E0 h1 r⟩
  ·rw[(hb s b c).Wi]at r;obtain⟨u,hu,hd⟩:=h.xk s h1 b r;refine⟨u,hu,?_⟩;by_cases l:u=t
   ·subst l;exact S s c hd
   ·rw[H u l];exact hd
 ·intro u hu L;by_cases c:u=t
  ·subst c;exact U L
  ·rw[H u c]at L⊢;refine(h.UU u hu L).keep (h.U2 u hu) h.pl fun s B M=>?_;by_cases l:s=k
   ·subst l;rcases cx with g|g
    ·exact absurd M (g u hu c)
    ·exact .inr g
   ·exact .inl (hb s B l)
 ·exact fun u hu=>each (fun T=> ∀j,0<=T.regs j/\T.regs j<18446744073709551616) cT u hu (h.rg u hu)
 ·exact fun u hu=>each (fun T=> ∀c,c∈T.calls->cG c) fc u hu (h.ZS u hu)
end
section
structure Lz(p:PO)(V V':Nat->Int)(O O':Nat->List Zr)(VM dk:Nat->Option Nat):Prop where
 T5: ∀s:Nat,s<p.s->(Wi V' s).T5=(Wi V s).T5\/(Wi V' s).T5=((Wi V s).T5+1)%16777216/\(Wi V' s).st<2
 Ty: ∀s:Nat,s<p.s->(Wi V' s).T5=(Wi V s).T5->2<=(Wi V s).st->2<=(Wi V' s).st/\
  (dk s=none->VM s=none/\∀o,o∈O s->∃o',o'∈O' s/\o'.at_=o.at_/\o'.z=o.z/\o'.l=o.l/\o'.t=o.t/\((Wi V' s).st=2->o'.d=o.d))
theorem Lz.refl(p:PO)(V:Nat->Int)(O:Nat->List Zr)(a:Nat->Option Nat):Lz p V V O O a a:=
 ⟨fun s _=>.inl rfl,fun s _ _ h=>⟨h,fun z=>⟨z,fun o b=>⟨o,b,rfl,rfl,rfl,rfl,fun _=>rfl⟩⟩⟩⟩
def iU(F:b1)(O:Nat->List Zr)(S:Nat):Nat:=gE (fun s=>(cO F (O s)).length) S
def about(r:RJ)(aD:List bO):Int:=
 if r.call.op=2 then r.aC.n else if r.call.op=3\/r.call.op=4\/r.call.op=11 then r.call.a
 else if r.call.op=5\/r.call.op=7 then da aD else if r.call.op=9 then VA r.hand else-1
def Touch(p:PO)(V V':Nat->Int)(r':RJ)(aD:List bO):Prop:=
 ∀j:Nat,V' j≠V j->∃k:Nat,about r' aD=k/\k<p.s/\
  ((8*k<=j/\j<8*k+5)/\r'.call.op≠9\/¬(8*k<=j/\j<8*k+5)/\(r'.call.op=5\/r'.call.op=7\/r'.call.op=9)/\bs V k<=8*j/\8*(j:Int)<bs V k+Ts V k)
theorem Touch.same(p:PO)(V:Nat->Int)(r':RJ)(aD:List bO):Touch p V V r' aD:=fun j h=>absurd rfl h
def eY(T:eD)(r':RJ):eD:=if r'.fin then bH {T with run:=r'}else {T with run:=r'}
def ez(F:b1)(r':RJ):Nat:=if r'.fin=true/\r'.call.op=7/\r'.aC.code=0/\bY F r'.call.c.toNat≠ []then 1 else 0
structure sd(p:PO)(F:b1)(n:Nat)(W W':Wd)(O O':Nat->List Zr)(VM dk:Nat->Option Nat)(t:Nat)(r':RJ):Prop where
 inv:Inv p F n W' O' dk
 OK:Lz p W.V W'.V O O' VM dk
 cnt:iU F O' p.s.toNat+r'.n.toNat<=iU F O p.s.toNat+(W.XT t).run.n.toNat+ez F r'
 af3:Touch p W.V W'.V r' (W.XT t).aD
structure Xb(W W':Wd)(t:Nat)(r':RJ):Prop where
 XT:W'.XT=put W.XT t (eY (W.XT t) r')
theorem Xb.other{W W':Wd}{t:Nat}{r':RJ}(h:Xb W W' t r'): ∀u,u≠t->W'.XT u=W.XT u:=fun u hu=>by rw[h.XT,aw _ _ hu]
theorem Xb.same{W W':Wd}{t:Nat}{r':RJ}(h:Xb W W' t r'):W'.XT t=eY (W.XT t) r':=by rw[h.XT,aP]
structure mC(r r':RJ):Prop where
 call:r'.call=r.call
 af:r'.af=r.af
 chain:r'.chain=r.chain
 hand:r'.hand=r.hand
 val:r'.val=r.val
theorem quiet{p:PO}{F:b1}{n:Nat}{W W':Wd}{O:Nat->List Zr}{f:Nat->Option Nat}(h:Inv p F n W O f){t:Nat}(b:t<p.t)(hb:(W.XT t).busy=true){r':RJ}
 (d:Xb W W' t r')(g:W'.V=W.V)(m:W'.fr=W.fr)(c:mC (W.XT t).run r')(e:r'.fin=false)(j:r'.bF=false)(o:r'.aC=(W.XT t).run.aC)
 (q:r'.said.length<=8*r'.n+(if r'.Xj=20 then r'.op else if r'.Xj=21 then 8 else 0))(r:r'.n=(W.XT t).run.n)(i:r'.Xj<20->r'.n=0/\r'.op=0)
 (l:(W.XT t).run.call.op=5->17<=(W.XT t).run.Xj->17<=r'.Xj)(k:XA p F W.V O f (W.XT t).aD r'):sd p F n W W' O O f f t r':=by
 have R:=h.UU t b hb;have a:eY (W.XT t) r'= {W.XT t with run:=r'}:=by unfold eY;rw[e];rfl
 refine⟨?_,?_,?_,?_⟩
 ·refine h.run b g m d.other ?_ ?_ ?_ ?_ ?_ ?_
  ·rw[d.same,a];exact h.U2 t b
  ·intro s;rw[d.same,a]
  ·intro s hd;rw[d.same,a];exact⟨hb,by show r'.call.op=5;rw[c.call];exact hd.2.1,l hd.2.1 hd.2.2.1,hd.2.2.2⟩
  ·intro _;rw[d.same,a];exact⟨e,j,c.af.trans R.af,c.chain.trans R.chain,by show r'.hand=(W.XT t).regs r'.call.h.toNat;rw[c.hand,c.call];exact R.hand,by show r'.val=(W.XT t).regs r'.call.v.toNat;rw[c.val,c.call];exact R.val,
    by show cG r'.call;rw[c.call];exact R.call,q,⟨by show 0<=r'.n;rw[r];exact R.n.1,i⟩,by show r'.aC.n=0/\_;rw[o];exact R.aC,k⟩
  ·rw[d.same,a];exact h.rg t b
  ·rw[d.same,a];exact h.ZS t b
 ·rw[g];exact .refl _ _ _ _
 ·rw[r];omega
 ·rw[g];exact .same _ _ _ _
theorem eA(t:eD):(bH t).busy=false:=by unfold bH;(repeat' split)<;>rfl
theorem es(t:eD):(bH t).calls=t.calls:=by unfold bH;(repeat' split)<;>rfl
theorem fj{t:eD}(h: ∀j,0<=t.regs j/\t.regs j<18446744073709551616): ∀j,0<=(bH t).regs j/\(bH t).regs j<18446744073709551616:=by
 unfold bH
 (repeat' split)<;>try exact h
 all_goals
  intro j;show 0<=put _ _ _ j/\put _ _ _ j<_;unfold put;split
  ·unfold Xy;omega
  ·exact h j
theorem iV(t:eD)(a:t.run.aC.code=0->t.run.call.op≠4/\t.run.call.op≠5/\t.run.call.op≠6):(bH t).aD=t.aD:=by
 unfold bH
 (repeat' split)<;>first|rfl|(exfalso;simp_all)
section
variable{p:PO}{F:b1}{n:Nat}{W W':Wd}{O:Nat->List Zr}{g:Nat->Option Nat}(h:Inv p F n W O g){t:Nat}(a:t<p.t)(hb:(W.XT t).busy=true){r':RJ}(b:Xb W W' t r')(i:W'.V=W.V)(f:W'.fr=W.fr)(c:r'.fin=true)(j:r'.n=(W.XT t).run.n)(d: ¬((W.XT t).run.call.op=5/\17<=(W.XT t).run.Xj))
include p F n W W' O g h t a hb r' b i f c j d
theorem told
 (l:lD p (bH {W.XT t with run:=r'}).aD)(m: ∀s,fF s (bH {W.XT t with run:=r'}).aD=fF s (W.XT t).aD):sd p F n W W' O O g g t r':=by
 have e:eY (W.XT t) r'=bH {W.XT t with run:=r'}:=by unfold eY;rw[c];rfl
 refine⟨?_,?_,?_,?_⟩
 ·refine h.run a i f b.other ?_ ?_ ?_ ?_ ?_ ?_
  ·rw[b.same,e];exact l
  ·intro s;rw[b.same,e];exact m s
  ·intro s hd;exact absurd ⟨hd.2.1,hd.2.2.1⟩ d
  ·intro k;rw[b.same,e,eA]at k;cases k
  ·rw[b.same,e];exact fj (h.rg t a)
  ·rw[b.same,e,es];exact h.ZS t a
 ·rw[i];exact .refl _ _ _ _
 ·rw[j];omega
 ·rw[i];exact .same _ _ _ _
theorem gu
 (k:r'.aC.code=0->r'.call.op≠4/\r'.call.op≠5/\r'.call.op≠6):sd p F n W W' O O g g t r':=by
 have e:=iV {W.XT t with run:=r'} k;exact told h a hb b i f c j d (by rw[e];exact h.U2 t a) (by intro s;rw[e])
end
section
variable{p:PO}{F:b1}{n:Nat}{W:Wd}{O:Nat->List Zr}{a:Nat->Option Nat}(h:Inv p F n W O a)
include p F n W O a h
theorem Inv.eb{s:Nat}(c:s<p.s)(b:(Wi W.V s).st≠0):
 64*p.s<=bs W.V s/\bs W.V s %8=0/\0<=Ts W.V s/\Ts W.V s %8=0/\bs W.V s+Ts W.V s<=8*n/\(1<=s->64*p.s+p.i<=bs W.V s)/\0<=TJ W.V s/\TJ W.V s<=Ts W.V s/\TJ W.V s %8=0:=by
 have g:=h.Zt s c;have f:=h.pl.s;have hi:=h.pl.i;have e:=h.pl.h;have d:=h.ZU;have:=g.q7 b;rcases aQ s with rfl|h1
 ·have:=(g.zero rfl).2;omega
 ·have:=g.ex h1 b;omega
theorem Inv.BL{s k:Nat}(c:s<p.s)(b:k<p.s)(d:s≠k)(e:(Wi W.V s).st≠0)(h1:(Wi W.V k).st≠0):
 bs W.V s+Ts W.V s<=bs W.V k\/bs W.V k+Ts W.V k<=bs W.V s:=by
 rcases aQ s with rfl|g
 ·have:=((h.Zt 0 c).zero rfl).2;have:=h.eb b h1;omega
 ·rcases aQ k with rfl|f
  ·have:=((h.Zt 0 b).zero rfl).2;have:=h.eb c e;omega
  ·exact h.YD s k g c f b d e h1
theorem Inv.ht{s:Nat}(j:s<p.s){o:Zr}(d:o∈O s):
 (Wi W.V s).st≠0/\2<=(Wi W.V s).st/\bs W.V s<=8*o.at_/\8*(o.at_:Int)+16<=bs W.V s+TJ W.V s/\(a s=none->8*((o.at_:Int)+o.z)<=bs W.V s+TJ W.V s):=by
 have g:=h.Zt s j;have l:=g.ft.ok.st;have b:2<=(Wi W.V s).st:=by
  by_cases c:(Wi W.V s).st<2
  ·rw[(g.no.1 c).1]at d;cases d
  ·omega
 have i:(Wi W.V s).st≠0:=J;have hb:=h.eb j i;have k:=(g.hd o d).1;unfold Zr.ok at k;cases f:a s with
 |none=>
  have:=kl (g.ZI b f) d;exact⟨i,b,J,J,fun _=>J⟩
 |some q=>
  have:=(g.vw q f).2.2 o d;exact⟨i,b,this.2.1,this.2.2,fun e=>by cases e⟩
end
section
variable{p:PO}{F:b1}{n:Nat}
include p F n
theorem Inv.loc{W W':Wd}{O O':Nat->List Zr}{N r:Nat->Option Nat}(h:Inv p F n W O N){t k:Nat}(M:t<p.t)(f:k<p.s)
 (v:(Wi W.V k).st≠0)
 (U: ∀j,W'.V j≠W.V j->(j=8*k\/j=8*k+3\/j=8*k+4)\/bs W.V k<=8*j/\8*(j:Int)<bs W.V k+Ts W.V k)
 (y:W'.fr=W.fr)(aat: ∀u,u≠t->W'.XT u=W.XT u)(z: ∀s,s≠k->O' s=O s)(L: ∀s,s≠k->r s=N s)
 (ft:okW (W'.V (8*k)))(af4:(Wi W'.V k).st≠0)(zero:k=0->Wi W'.V 0=⟨2,1,-1,0⟩)
 (q7:0<=TJ W'.V k/\TJ W'.V k<=Ts W.V k/\TJ W'.V k %8=0)
 (hd: ∀o,o∈O' k->o.ok/\W'.V o.at_=o.w/\W'.V (o.at_+1)=k+256*(Wi W'.V k).T5)
 (G:2<=(Wi W'.V k).st->r k=none->ks (bs W.V k/8).toNat (O' k) ((bs W.V k+TJ W'.V k)/8).toNat)
 (B: ∀q,r k=some q->1<=k/\(Wi W'.V k).st=3/\∀o,o∈O' k->q<=o.at_/\bs W.V k<=8*o.at_/\8*(o.at_:Int)+16<=bs W.V k+TJ W'.V k)
 (no:((Wi W'.V k).st<2->O' k= []/\r k=none)/\((Wi W'.V k).st=2->r k=none))
 (idle:(Wi W'.V k).st=1->TJ W'.V k=0)
 (yo: ∀k,0<=W'.V k/\W'.V k<18446744073709551616)
 (x0: ∀k,¬ku (W'.V k)->∃s:Nat,s<p.s/\∃o,o∈O' s/\o.at_=k)
 (eO:lD p (W'.XT t).aD)(pV: ∀s,s≠k->fF s (W'.XT t).aD=fF s (W.XT t).aD)
 (S:1<=k->((Wi W'.V k).st=2->(Wi W'.V k).Xf=within W' p.t.toNat k)/\((Wi W'.V k).st=3->within W' p.t.toNat k=1)/\((Wi W'.V k).st<2->within W' p.t.toNat k=0))
 (Q: ∀s,s≠k->gi (W.XT t) s->gi (W'.XT t) s)
 (T:1<=k->(Wi W'.V k).st=3->gi (W'.XT t) k)
 (R:bs W'.V k=bs W.V k->Ts W'.V k=Ts W.V k->(W'.XT t).busy=true->ZL p F W'.V O' r (W'.XT t))
 (cx:(∀u:Nat,u<p.t->u≠t->¬reach (W.XT u).aD k)\/(Wi W.V k).st=2/\(Wi W'.V k).T5=(Wi W.V k).T5/\∀o,o∈O k->∃o',o'∈O' k/\o'.at_=o.at_/\o'.l=o.l)
 (cT: ∀j,0<=(W'.XT t).regs j/\(W'.XT t).regs j<18446744073709551616)(fc: ∀c,c∈(W'.XT t).calls->cG c):Inv p F n W' O' r:=by
 have af6:=h.eb f v;have keep: ∀j:Nat,j≠8*k->j≠8*k+3->j≠8*k+4->(8*(j:Int)<bs W.V k\/bs W.V k+Ts W.V k<=8*j)->W'.V j=W.V j:=by
  intro j h1 b ZV Ya;apply Classical.byContradiction;intro bo;rcases U j bo with h|h<;>omega
 have m:bs W'.V k=bs W.V k:=keep _ J J J (.inl J);have a:Ts W'.V k=Ts W.V k:=keep _ J J J (.inl J);refine h.upd M f aat ?_ ?_ ?_ ?_ ?_ ?_ ?_ yo x0 eO pV S Q T (R m a) ?_ cT fc
 ·intro s i d;exact⟨fun j OV=>keep _ J J J (.inl J),z s d,L s d⟩
 ·intro s i d o X;have h1:=h.ht i X;have b:=h.BL i f d h1.1 v;have ZV:=h.eb i h1.1;exact⟨keep _ J J J J,keep _ J J J J⟩
 ·have g:=h.Zt k f;refine⟨ft,fun e=>⟨zero e,?_⟩,fun h1 _=>by rw[m,a];exact g.ex h1 v,fun _=>by rw[a];exact q7,hd,by rw[m];exact G,by rw[m];exact B,no,idle⟩;subst e;rw[m,a];exact(g.zero rfl).2
 ·intro s h1 i d aX b _;rw[m,a];exact h.YD k s aX f h1 i (fun e=>d e.symm) v b
 ·rw[y];exact h.fr
 ·rw[y];exact h.fs
 ·rw[y];intro x P s h1 i b;by_cases c:s=k
  ·subst c;rw[m,a];exact h.fd x P s h1 i v
  ·have A:W'.V (8*s)=W.V (8*s):=keep _ J J J (.inl J);have C:bs W'.V s=bs W.V s:=keep _ J J J (.inl J);have H:Ts W'.V s=Ts W.V s:=keep _ J J J (.inl J);have K:Wi W'.V s=Wi W.V s:=by unfold Wi;rw[A]
   rw[K]at b;rw[C,H];exact h.fd x P s h1 i b
 ·rcases cx with g|g
  ·exact .inl g
  ·exact .inr ⟨g.1,g.2.1,m,a,g.2.2⟩
section
variable{W:Wd}{O:Nat->List Zr}{l:Nat->Option Nat}(h:Inv p F n W O l){t s:Nat}(k:t<p.t)(g:s<p.s)
include W O l h t s k g
theorem Inv.live(r:reach (W.XT t).aD s)(hd: ¬gi (W.XT t) s):(Wi W.V s).st=2:=by
 rcases aQ s with rfl|h1
 ·rw[((h.Zt 0 g).zero rfl).1]
 ·have hm:(⟨s,true⟩:bO)∈(W.XT t).aD:=by
   rcases r with e|e
   ·omega
   ·exact e
  have B:=jq hm;have C:fF s (W.XT t).aD<=within W p.t.toNat s:=nm (f:=fun i=>fF s (W.XT i).aD) J;have v:=h.Xf s h1 g;have x:=(h.Zt s g).ft.ok.st;have A:0<=(Wi W.V s).st/\(Wi W.V s).st<=3:=x;by_cases c:(Wi W.V s).st=3
  ·exfalso;obtain⟨u,hu,o⟩:=h.xk s h1 g c;by_cases e:u=t
   ·subst e;exact hd o
   ·have y:(⟨s,true⟩:bO)∈(W.XT u).aD:=by
     have R:=(h.UU u hu o.1).kind;have w:=(h.UU u hu o.1).af;cases R with
     |drain a b c d e f=>
      obtain⟨pre,q⟩:=b;rw[w,o.2.2.2]at q;rw[q];simp
     |tell a b=>have:=o.2.2.1;omega
     |make a b=>have:=o.2.2.1;omega
     |take a b c d e=>have:=o.2.1;omega
     |enter a b c d=>have:=o.2.1;omega
     |nn a b c d=>have:=o.2.2.1;omega
     |slot a b c d e=>have:=o.2.1;omega
     |hI a b c d=>have:=o.2.1;omega
     |gate a b c d=>have:=o.2.1;omega
    have z:=jq y;have:=r0 (f:=fun i=>fF s (W.XT i).aD) (m:=p.t.toNat) (i:=t) (j:=u) J J (fun q=>e q.symm);have:=v.2.1 c;unfold within at this;omega
  ·have:=v.2.2;omega
theorem Inv.alone(h1:1<=s)(o:(Wi W.V s).st=3)(hm:(⟨s,true⟩:bO)∈(W.XT t).aD):
 (∀u:Nat,u<p.t->u≠t->¬reach (W.XT u).aD s)/\fF s (W.XT t).aD=1:=by
 have v:=jq hm;have d:=(h.Xf s h1 g).2.1 o;unfold within at d;refine⟨fun u hu b c=>?_,?_⟩
 ·have q:(⟨s,true⟩:bO)∈(W.XT u).aD:=by
   rcases c with e|e
   ·omega
   ·exact e
  have r:=jq q;have:=r0 (f:=fun i=>fF s (W.XT i).aD) (m:=p.t.toNat) (i:=t) (j:=u) J J (fun a=>b a.symm);omega
 ·have:=nm (f:=fun i=>fF s (W.XT i).aD) (m:=p.t.toNat) (i:=t) J;omega
end
end
end
section
theorem nH{G:Prop}(h:G:=by
 have hm:(⟨k,true⟩:bO)∈(W.XT u).aD:=by
  rcases UD with e|e
  ·omega
  ·exact e
 have:=jq hm;have:=nm (f:=fun i=>fF k (W.XT i).aD) (m:=p.t.toNat) (i:=u) (by omega);unfold within at Ub;omega):G:=h
theorem nI{G:Prop}(h:G:=by
 rw[e]at YF;exact h.run Vg Yg m5 ZQ (by rw[YF];exact h.U2 t Vg) (by intro s;rw[YF]) (by intro s;rw[YF];exact id) (by rw[YF];exact h.UU t Vg) (by rw[YF];exact h.rg t Vg) (by rw[YF];exact h.ZS t Vg)):G:=h
theorem pP{p:PO}{l:List bO}{h:Int}(e:check p l h=0):dr h/\VA h<p.s/\reach l (VA h):=by
 unfold check at e;by_cases c: ¬dr h\/p.s<=VA h
 ·rw[Z c]at e;omega
 ·rw[Y c]at e;by_cases d:reach l (VA h)
  ·have a:dr h:=Classical.byContradiction fun x=>c (.inl x);exact⟨a,J,d⟩
  ·rw[Y d]at e;omega
theorem acx{p:PO}(F:b1)(V:Nat->Int)(O:Nat->List Zr)(m:Nat->Option Nat){l:List bO}{regs:Nat->Int}{c:dM}(k:cG c)(n:lD p l)(o:a9 p):XA p F V O m l (begun p regs l c):=by
 by_cases q:b2 p l c (regs c.h.toNat) (regs c.v.toNat)=0
 case neg=>
  refine .tell ?_ ?_
  ·show(if b2 p l c (regs c.h.toNat) (regs c.v.toNat)=0 then _ else(0:Int))=0;rw[Y q]
  ·intro h;exact absurd h q
 have i:(begun p regs l c).Xj=jo l c (regs c.v.toNat):=by
  show(if b2 p l c (regs c.h.toNat) (regs c.v.toNat)=0 then _ else(0:Int))=_;rw[Z q]
 have r:=k.op;rcases(by omega:c.op=0\/c.op=1\/c.op=2\/c.op=3\/c.op=4\/c.op=5\/c.op=6\/c.op=7\/c.op=8\/c.op=9\/c.op=10\/c.op=11)with h|h|h|h|h|h|h|h|h|h|h|h
 ·exact .tell (by rw[i];unfold jo;simp[h]) fun _=>.inl h
 ·exact .tell (by rw[i];unfold jo;simp[h]) fun _=>.inr (.inl h)
 ·refine .make (by rw[i];unfold jo;simp[h]) (.inl ?_);unfold b2 at q;simp only[h,if_true]at q;exact⟨h,by show 1<=c.a/\c.a<=8192;by_cases e:1<=c.a/\c.a<=8192;(·exact e);(·rw[Y e]at q;omega)⟩
 ·refine .make (by rw[i];unfold jo;simp[h]) (.inr ?_);unfold b2 at q;simp only[h,if_true,if_false,Int.reduceEq]at q;exact⟨h,by show 1<=c.a/\c.a<p.s;by_cases e:1<=c.a/\c.a<p.s;(·exact e);(·rw[Y e]at q;omega)⟩
 ·unfold b2 at q;simp only[h,if_true,if_false,Int.reduceEq]at q;by_cases e:1<=c.a/\c.a<p.s
  ·rw[Z e]at q;by_cases f:l.length<6
   ·exact .enter h e f (.inl (by rw[i];unfold jo;simp[h]))
   ·rw[Y f]at q;omega
  ·rw[Y e]at q;omega
 ·unfold b2 at q;simp only[h,if_true,if_false,Int.reduceEq]at q;rcases ct l with rfl|⟨pre,e,rfl⟩
  ·simp at q
  ·rw[cu]at*;obtain⟨s,d⟩:=e;cases d with
   |true=>
    refine .nn h ⟨pre,?_⟩ rfl (.inl ?_)
    ·show pre++ [_]=pre++ [⟨da (pre++ [_]),true⟩];rw[hn]
    ·rw[i];unfold jo;simp[h]
   |false=>
    refine .tell ?_ fun _=>.inr (.inr (.inr ⟨h,pre,s,rfl⟩));rw[i];unfold jo;simp[h]
 ·unfold b2 at q;simp only[h,if_true,if_false,Int.reduceEq]at q;by_cases e:0<=c.a/\c.a<p.s
  ·rw[Z e]at q;by_cases f:reach l c.a
   ·rw[Z f]at q;by_cases g:l.length<6
    ·exact .tell (by rw[i];unfold jo;simp[h]) fun _=>.inr (.inr (.inl ⟨h,e.1,e.2,f,g⟩))
    ·rw[Y g]at q;omega
   ·rw[Y f]at q;omega
  ·rw[Y e]at q;omega
 ·unfold b2 at q;simp only[h,if_true,if_false,Int.reduceEq]at q;by_cases e:(0<=c.a/\c.a<=6)/\0<=c.b/\c.b<=512
  ·exact .take h e.1 e.2 k.c (.inl (by rw[i];unfold jo;simp[h]))
  ·rw[Y e]at q;omega
 ·unfold b2 at q;simp[h]at q;have:=pP q;exact .slot (.inl h) this.1 this.2.1 this.2.2 (.inl (by rw[i];unfold jo;simp[h]))
 ·unfold b2 at q;simp[h]at q;have:=pP q;exact .slot (.inr h) this.1 this.2.1 this.2.2 (.inl (by rw[i];unfold jo;simp[h]))
 ·unfold b2 at q;simp only[h,if_true,if_false,Int.reduceEq,or_self]at q;by_cases e:1<=c.a/\c.a<p.s
  ·rw[Z e]at q;by_cases f:reach l c.a
   ·exact .hI h (by rw[i];unfold jo;simp[h]) e f
   ·rw[Y f]at q;omega
  ·rw[Y e]at q;omega
 ·unfold b2 at q;simp only[h,if_true,if_false,Int.reduceEq,or_self]at q;by_cases e:1<=c.a/\c.a<p.s
  ·rw[Z e]at q;by_cases f:reach l c.a
   ·rw[Z f]at q;by_cases g:regs c.v.toNat=0
    ·exact .gate h e f (.inl ⟨by rw[i];unfold jo;simp[h,g],by show ku (regs c.v.toNat);rw[g];unfold ku;decide⟩)
    ·rw[Y g]at q;have:=pP q;have j:(begun p regs l c).Xj=7:=by rw[i];unfold jo;simp[h,g]
     exact .gate h e f (.inr ⟨.inl j,this.1,this.2.1,this.2.2,fun x=>by rw[j]at x;omega⟩)
   ·rw[Y f]at q;omega
  ·rw[Y e]at q;omega
theorem CB{p:PO}{l:List bO}{regs:Nat->Int}{c:dM}(a:cG c):(begun p regs l c).Xj<17:=by
 show(if _ then jo l c (regs c.v.toNat)else 0)<(17:Int);split
 ·unfold jo
  (repeat' split)<;>omega
 ·omega
theorem Inv.begun{p:PO}{F:b1}{n:Nat}{W W':Wd}{O:Nat->List Zr}{a:Nat->Option Nat}(h:Inv p F n W O a){t m:Nat}(Vg:t<p.t)(Yg:W'.V=W.V)(m5:W'.fr=W.fr)(g:W'.XT=put W.XT t (bd p (W.XT t) m)):Inv p F n W' O a:=by
 have YF:W'.XT t=bd p (W.XT t) m:=by rw[g,aP]
 have ZQ: ∀u,u≠t->W'.XT u=W.XT u:=fun u hu=>by rw[g,aw _ _ hu]
 by_cases hb:(W.XT t).busy=true
 ·have e:bd p (W.XT t) m=W.XT t:=by unfold bd;rw[hb];rfl
  exact nI
 ·have i:(W.XT t).busy=false:=by simpa using hb
  have j: ∀s,gi (W.XT t) s->False:=fun s hd=>hb hd.1;cases b:(W.XT t).calls with
  |nil=>
   have e:bd p (W.XT t) m=W.XT t:=by unfold bd;rw[i,b];rfl
   exact nI
  |cons c l=>
   have e:bd p (W.XT t) m= {W.XT t with calls:=l,run:=Go.Proofs.YtcimojgkeoecfaaGreat.begun p (W.XT t).regs (W.XT t).aD c,busy:=true,at_:=m}:=by unfold bd;rw[i,b];rfl
   rw[e]at YF;have d:=h.ZS t Vg;rw[b]at d;have f:=d c (a8 ..);have q:=CB (p:=p) (l:=(W.XT t).aD) (regs:=(W.XT t).regs) f;refine h.run Vg Yg m5 ZQ (by rw[YF];exact h.U2 t Vg) (by intro s;rw[YF]) (fun s hd=>(j s hd).elim) (fun _=>?_) (by rw[YF];exact h.rg t Vg) (by rw[YF];exact fun x k=>d x (ao _ k));rw[YF];have o:(((Go.Proofs.YtcimojgkeoecfaaGreat.begun p (W.XT t).regs (W.XT t).aD c).said.length:Nat):Int)<=8*0+(if(Go.Proofs.YtcimojgkeoecfaaGreat.begun p (W.XT t).regs (W.XT t).aD c).Xj=20 then 0 else if(Go.Proofs.YtcimojgkeoecfaaGreat.begun p (W.XT t).regs (W.XT t).aD c).Xj=21 then 8 else 0):=by
    show((0:Nat):Int)<=_;rw[aB,aB];decide
   exact⟨rfl,rfl,rfl,rfl,rfl,rfl,f,o,⟨Int.le_refl 0,fun _=>⟨rfl,rfl⟩⟩,⟨rfl,rfl⟩,acx F W.V O a f (h.U2 t Vg) h.pl⟩
structure mD(p:PO)(F:b1)(n:Nat)(W W':Wd)(O:Nat->List Zr)(VM:Nat->Option Nat)(t:Nat):Prop where
 inv:Inv p F n W O VM
 lt:t<p.t
 busy:(W.XT t).busy=true
 V:W'.V=(one p F n W.V W.fr (W.XT t).run).1
 fr:W'.fr=(one p F n W.V W.fr (W.XT t).run).2.1
 Wa:Xb W W' t (one p F n W.V W.fr (W.XT t).run).2.2
abbrev dm(p:PO)(F:b1)(n:Nat)(W W':Wd)(O:Nat->List Zr)(a:Nat->Option Nat)(t:Nat):Prop:=
 ∃O' b,sd p F n W W' O O' a b t (one p F n W.V W.fr (W.XT t).run).2.2
theorem hw(s:Nat)(l:List bO)(e:bO):fF s (l++ [e])=fF s l+(if e=⟨s,true⟩then 1 else 0):=by
 unfold fF;rw[List.count_append];by_cases h:e=⟨s,true⟩
 ·rw[Z h,h];simp
 ·rw[Y h];simp[List.count_singleton,h]
section
variable{p:PO}{F:b1}{n:Nat}{W W':Wd}{O:Nat->List Zr}{b:Nat->Option Nat}{t:Nat}
section
variable(S:mD p F n W W' O b t)
include S
theorem mD.fU(h:(W.XT t).run.Xj<17\/(W.XT t).run.call.op≠5)(s:Nat): ¬gi (W.XT t) s:=by
 intro d;rcases h with h|h
 ·have:=d.2.2.1;omega
 ·exact h d.2.1
theorem CC(m:(W.XT t).run.Xj=0)
 (l:(W.XT t).run.aC.code=0->(W.XT t).run.call.op=0\/(W.XT t).run.call.op=1\/(W.XT t).run.call.op=6/\0<=(W.XT t).run.call.a/\(W.XT t).run.call.a<p.s/\reach (W.XT t).aD (W.XT t).run.call.a/\(W.XT t).aD.length<6\/(W.XT t).run.call.op=5/\∃pre s,(W.XT t).aD=pre++ [⟨s,false⟩]):dm p F n W W' O b t:=by
 have e:one p F n W.V W.fr (W.XT t).run=(W.V,W.fr,tell (W.XT t).run (W.XT t).run.aC.code 0):=by unfold one;rw[Z m]
 have i:=S.V;have c:=S.fr;have g:=S.Wa;refine⟨O,b,?_⟩;rw[e]at i c g⊢;have f:=S.inv.U2 t S.lt;by_cases j:(W.XT t).run.aC.code=0
 case neg=>exact gu S.inv S.lt S.busy g i c rfl rfl J (fun h=>absurd h j)
 rcases l j with h|h|⟨h,h1,k,q,o⟩|⟨h,pre,s,h1⟩
 ·exact gu S.inv S.lt S.busy g i c rfl rfl J (fun _=>⟨by show(W.XT t).run.call.op≠4;omega,by show(W.XT t).run.call.op≠5;omega,by show(W.XT t).run.call.op≠6;omega⟩)
 ·exact gu S.inv S.lt S.busy g i c rfl rfl J (fun _=>⟨by show(W.XT t).run.call.op≠4;omega,by show(W.XT t).run.call.op≠5;omega,by show(W.XT t).run.call.op≠6;omega⟩)
 ·have d:(bH {W.XT t with run:=tell (W.XT t).run (W.XT t).run.aC.code 0}).aD=(W.XT t).aD++ [⟨(W.XT t).run.call.a,false⟩]:=by
   unfold bH;simp[tell,j,h]
  refine told S.inv S.lt S.busy g i c rfl rfl J ?_ ?_
  ·rw[d];exact f.push o h1 k aN (fun _=>q)
  ·intro s;rw[d,hw,Y aN];rfl
 ·have d:(bH {W.XT t with run:=tell (W.XT t).run (W.XT t).run.aC.code 0}).aD=pre:=by
   unfold bH;simp[tell,j,h,h1]
  refine told S.inv S.lt S.busy g i c rfl rfl J ?_ ?_
  ·rw[d];rw[h1]at f;exact f.pop
  ·intro s;rw[d,h1,hw,Y aN];rfl
theorem Am(L:(W.XT t).run.call.op=4)(Xg:1<=(W.XT t).run.call.a/\(W.XT t).run.call.a<p.s)(YJ:(W.XT t).aD.length<6)
 (TS:(W.XT t).run.Xj=13\/(W.XT t).run.Xj=14/\okW (W.XT t).run.word/\(ca (up (W.XT t).run.word) (W.XT t).run.af).2=0/\(W.XT t).run.next=TK (ca (up (W.XT t).run.word) (W.XT t).run.af).1):dm p F n W W' O b t:=by
 have R:=S.inv.UU t S.lt S.busy;have e:one p F n W.V W.fr (W.XT t).run=((dR W.V (W.XT t).run).1,W.fr,(dR W.V (W.XT t).run).2):=by
  unfold one;rw[aB,aB,aB,Z L]
 have r:=S.V;have x:=S.fr;have l:=S.Wa;have Q:=S.inv.pl;have fb:=Q.s;obtain⟨k,XD⟩: ∃k:Nat,(W.XT t).run.call.a=k:=⟨(W.XT t).run.call.a.toNat,J⟩
 have jf:(W.XT t).run.call.a.toNat=k:=J;have B:(k:Int)<p.s:=J;have aX:1<=k:=J;have N:=S.inv.U2 t S.lt;have ci:=N.af Q;rw[<-R.af]at ci;have gk:=S.inv.Zt k B;have eN:=R.n.2 J;have dJ:=R.said;rw[aB,aB]at dJ;unfold dm;rw[e]at r x l⊢;rcases TS with ab8|⟨agh,U,XP,C⟩
 ·refine⟨O,b,?_⟩;unfold dR at r l⊢;rw[Z ab8,jf]at r l⊢;by_cases G:(ca (Wi W.V k) (W.XT t).run.af).2=10
  ·rw[Z G]at r l⊢;exact quiet S.inv S.lt S.busy l r x ⟨rfl,rfl,rfl,rfl,rfl⟩ R.fin R.bF rfl R.said rfl R.n.2 (fun _ h=>h) R.kind
  ·rw[Y G]at r l⊢;by_cases A:(ca (Wi W.V k) (W.XT t).run.af).2=0
   ·rw[Z A]at r l⊢;refine quiet S.inv S.lt S.busy l r x ⟨rfl,rfl,rfl,rfl,rfl⟩ R.fin R.bF rfl (by simpa using dJ) rfl (fun _=>eN) (fun _ h=>J) (.enter L Xg YJ (.inr ⟨rfl,?_,?_,?_⟩))
    ·exact gk.ft
    ·exact A
    ·rfl
   ·rw[Y A]at r l⊢;exact gu S.inv S.lt S.busy l r x rfl rfl J (fun h=>absurd h A)
 ·unfold dR at r l⊢;rw[aB,jf]at r l⊢;by_cases G:W.V (8*k)=(W.XT t).run.word
  ·rw[Z G]at r l⊢;rw[<-G]at XP C U;have P:=U.ok.enter ⟨ci.1,J⟩ XP;obtain⟨C',xg⟩: ∃C',(ca (up (W.V (8*k))) (W.XT t).run.af).1=C':=⟨_,rfl⟩
   rw[xg]at P C;obtain⟨X,vG,yq,OM,K,af8⟩:=P;have w':W'.V (8*k)=TK C':=by rw[r];show put W.V (8*k) _ (8*k)=_;rw[aP,C]
   have d: ∀j,j≠8*k->W'.V j=W.V j:=fun j g=>by rw[r];exact aw _ _ g
   have z:Wi W'.V k=C':=by unfold Wi;rw[w',ni X]
   have adI:(bH {W.XT t with run:=tell (W.XT t).run 0 0}).aD=(W.XT t).aD++ [⟨k,true⟩]:=by
    unfold bH;simp[tell,L,XD]
   have iR:eY (W.XT t) (tell (W.XT t).run 0 0)=bH {W.XT t with run:=tell (W.XT t).run 0 0}:=rfl;have M:=l.same;rw[iR]at M;have eO:(W'.XT t).aD=(W.XT t).aD++ [⟨k,true⟩]:=by rw[M,adI]
   have nJ:up (W.V (8*k))=Wi W.V k:=rfl;rw[nJ]at yq OM K;have ky:=eH (T:=p.t.toNat) (t:=t) (by have:=S.lt;omega) l.other k;rw[eO,hw,Z rfl]at ky;have yr:=S.inv.Xf k aX B;refine⟨O,b,?_,?_,?_,?_⟩
   ·have ek: ∀s:Nat,s<p.s->∀o,o∈O s->W'.V o.at_=W.V o.at_/\W'.V (o.at_+1)=W.V (o.at_+1):=by
     intro s H o y;have:=S.inv.ht H y;have:=S.inv.eb H this.1;exact⟨d _ J,d _ J⟩
    have RS:bs W'.V k=bs W.V k:=d _ J;have af9:Ts W'.V k=Ts W.V k:=d _ J;have hx:TJ W'.V k=TJ W.V k:=d _ J;refine S.inv.loc S.lt B J ?_ x l.other (fun _ _=>rfl) (fun _ _=>rfl) ?_ ?_ (fun h=>J) ?_ ?_ ?_ ?_ ?_ ?_ ?_ ?_ ?_ ?_ ?_ ?_ ?_ ?_ ?_ ?_ ?_
    ·intro j g;by_cases c:j=8*k
     ·exact .inl (.inl c)
     ·exact absurd (d j c) g
    ·rw[w'];exact X.w
    ·rw[z];omega
    ·rw[hx];exact gk.q7 J
    ·intro o y;rw[(ek k B o y).1,(ek k B o y).2,z,yq];exact gk.hd o y
    ·intro _ Ub;rw[hx];rcases K with h1|v
     ·rw[(gk.no.1 J).1];have Ir:=gk.idle h1;rw[Ir,cI];rfl
     ·exact gk.ZI J Ub
    ·intro q VX;have:=gk.vw q VX;omega
    ·rw[z,vG];refine⟨fun h=>J,fun _=>?_⟩;rcases K with h1|v
     ·exact(gk.no.1 J).2
     ·exact gk.no.2 v
    ·intro h1;rw[z,vG]at h1;omega
    ·intro j;by_cases c:j=8*k
     ·subst c;rw[w'];have:=X.UK;omega
     ·rw[d j c];exact S.inv.jd j
    ·intro j g;by_cases c:j=8*k
     ·subst c;rw[w']at g;exfalso;apply g;have:=X.UK;unfold ku;omega
     ·rw[d j c]at g;exact S.inv.qB j g
    ·rw[eO];exact N.push YJ aN B (fun _=>by show(1:Int)<=k;omega) aN
    ·intro s H;rw[eO,hw,Y (fun e=>by injection e with UR;omega)];rfl
    ·intro _;rw[z,vG,OM];refine⟨fun _=>?_,fun h=>J,fun h=>J⟩;rcases K with h1|v
     ·have Ub:=yr.2.2 J;have lh:=gk.ft.ok.Xf.2;have c5:(Wi W.V k).Xf=0:=lh (by show(Wi W.V k).st≠2;omega);omega
     ·have:=yr.1 v;omega
    ·intro s H hd;exact absurd hd (S.fU (.inr J) s)
    ·intro _ ZV;rw[z,vG]at ZV;omega
    ·intro _ _ h6;rw[M,eA]at h6;cases h6
    ·rcases K with h1|v
     ·refine .inl fun u hu kd UD=>?_;have Ub:=yr.2.2 J;exact nH
     ·exact .inr ⟨v,by rw[z,yq],fun o y=>⟨o,y,rfl,rfl⟩⟩
    ·rw[M];exact fj (S.inv.rg t S.lt)
    ·rw[M,es];exact S.inv.ZS t S.lt
   ·refine⟨fun s H=>.inl ?_,fun s H il v=>?_⟩
    ·by_cases c:s=k
     ·subst c;rw[z,yq]
     ·unfold Wi;rw[d _ J]
    ·refine⟨?_,fun Ub=>⟨Ub,fun o y=>⟨o,y,rfl,rfl,rfl,rfl,fun _=>rfl⟩⟩⟩;by_cases c:s=k
     ·subst c;rw[z];omega
     ·unfold Wi;rw[d _ J];exact v
   ·show _+(W.XT t).run.n.toNat<=_;omega
   ·intro j g;have E2:j=8*k:=Classical.byContradiction fun c=>g (d j c);refine⟨k,?_,B,.inl ⟨J,?_⟩⟩
    ·show about (tell (W.XT t).run 0 0) _=_;unfold about;simp[tell,L,XD]
    ·show(W.XT t).run.call.op≠9;omega
  ·rw[Y G]at r l⊢;exact⟨O,b,quiet S.inv S.lt S.busy l r x ⟨rfl,rfl,rfl,rfl,rfl⟩ R.fin R.bF rfl (by simpa using dJ) rfl (fun _=>eN) (fun _ h=>J) (.enter L Xg YJ (.inl rfl))⟩
end
end
end
section
theorem qb{G:Prop}(h:G:=by
 by_cases tf:s=k
 ·subst tf;rw[aP];exact cB _ jb
 ·rw[aw _ _ tf];exact jb):G:=h
theorem lI{G:Prop}(h:G:=by
 rw[iW k bW,show within W' p.t.toNat k=within W p.t.toNat k from by omega];exact S.inv.Xf k h1 bW):G:=h
theorem rh{F:b1}{O:Nat->List Zr}{k S:Nat}(L:List Zr)(a:k<S):iU F (put O k L) S+(cO F (O k)).length=iU F O S+(cO F L).length:=by
 have h:=r1 (f:=fun s=>(cO F (O s)).length) (v:=(cO F L).length) a;have e:iU F (put O k L) S=gE (put (fun s=>(cO F (O s)).length) k (cO F L).length) S:=by
  refine rZ fun i hi=>?_;by_cases c:i=k
  ·subst c;rw[aP,aP]
  ·rw[aw _ _ c,aw _ _ c]
 rw[e];exact h
theorem c2{x:Int}(h:x<72057594037927936):ku x:=by unfold ku;omega
section
variable{p:PO}{F:b1}{n:Nat}{W W':Wd}{O:Nat->List Zr}{f:Nat->Option Nat}{t:Nat}
theorem CD(S:mD p F n W W' O f t)(G:(W.XT t).run.call.op=7)(Xg:0<=(W.XT t).run.call.a/\(W.XT t).run.call.a<=6)(hb:0<=(W.XT t).run.call.b/\(W.XT t).run.call.b<=512)(XP:0<=(W.XT t).run.call.c/\(W.XT t).run.call.c<=7)
 (TS:(W.XT t).run.Xj=5\/(W.XT t).run.next=(Wi W.V (W.XT t).run.af.toNat).T5/\((W.XT t).run.Xj=2\/(W.XT t).run.at_=bs W.V (W.XT t).run.af.toNat/\((W.XT t).run.Xj=3\/(W.XT t).run.Xj=4/\(W.XT t).run.word=Ts W.V (W.XT t).run.af.toNat))):dm p F n W W' O f t:=by
 have R:=S.inv.UU t S.lt S.busy;have e:one p F n W.V W.fr (W.XT t).run=((e6 W.V (W.XT t).run).1,W.fr,(e6 W.V (W.XT t).run).2):=by
  unfold one;rw[aB,aB,Z G]
 have r:=S.V;have H:=S.fr;have y:=S.Wa;have N:=S.inv.pl;have fb:=N.s;have U2:=S.inv.U2 t S.lt;have ci:=U2.af N;rw[<-R.af]at ci;obtain⟨k,XD⟩: ∃k:Nat,(W.XT t).run.af=k:=⟨(W.XT t).run.af.toNat,J⟩
 have Q:(W.XT t).run.af.toNat=k:=J;have bW:(k:Int)<p.s:=J;have gk:=S.inv.Zt k bW;have eN:=R.n.2 J;have dJ:=R.said;rw[aB,aB]at dJ;unfold dm;rw[e]at r H y⊢;rw[Q]at TS;unfold e6 at r y⊢;rw[Q]at r y⊢;rcases TS with UJ|⟨jg,B|⟨fG,X|⟨Ya,se⟩⟩⟩
 ·rw[Z UJ]at r y⊢;exact⟨O,f,quiet S.inv S.lt S.busy y r H ⟨rfl,rfl,rfl,rfl,rfl⟩ R.fin R.bF rfl (by simpa using dJ) rfl (fun _=>eN) (fun h=>J) (.take G Xg hb XP (.inr ⟨by show _=(Wi W.V (W.XT t).run.af.toNat).T5;rw[Q],.inl rfl⟩))⟩
 ·rw[aB,Z B]at r y⊢;exact⟨O,f,quiet S.inv S.lt S.busy y r H ⟨rfl,rfl,rfl,rfl,rfl⟩ R.fin R.bF rfl (by simpa using dJ) rfl (fun _=>eN) (fun h=>J) (.take G Xg hb XP (.inr ⟨by show(W.XT t).run.next=(Wi W.V (W.XT t).run.af.toNat).T5;rw[Q];exact jg,.inr ⟨by show _=bs W.V (W.XT t).run.af.toNat;rw[Q],.inl rfl⟩⟩))⟩
 ·rw[aB,aB,Z X]at r y⊢;exact⟨O,f,quiet S.inv S.lt S.busy y r H ⟨rfl,rfl,rfl,rfl,rfl⟩ R.fin R.bF rfl (by simpa using dJ) rfl (fun _=>eN) (fun h=>J) (.take G Xg hb XP (.inr ⟨by show(W.XT t).run.next=(Wi W.V (W.XT t).run.af.toNat).T5;rw[Q];exact jg,.inr ⟨by show(W.XT t).run.at_=bs W.V (W.XT t).run.af.toNat;rw[Q];exact fG,.inr ⟨rfl,by show _=Ts W.V (W.XT t).run.af.toNat;rw[Q]⟩⟩⟩))⟩
 ·rw[aB,aB,aB,fG,se,jg,XD]at r y⊢;obtain⟨m,hm⟩: ∃m,fN (W.XT t).run.call.a (W.XT t).run.call.b=m:=⟨_,rfl⟩
  have E3:2+(W.XT t).run.call.a<=m/\m<=72:=by unfold fN at hm;omega
  rw[hm]at r y⊢;by_cases U6:TJ W.V k<=Ts W.V k/\8*m<=Ts W.V k-TJ W.V k
  case neg=>
   rw[Y U6]at r y⊢;exact⟨O,f,gu S.inv S.lt S.busy y r H rfl rfl J (fun h=>by show(W.XT t).run.call.op≠4/\_;exact⟨J,by show(W.XT t).run.call.op≠5;omega,by show(W.XT t).run.call.op≠6;omega⟩)⟩
  rw[Z U6]at r y⊢;have live:=S.inv.live S.lt bW (by rw[<-XD];exact ci.2.2) (S.fU (.inr J) k);have U:=gk.no.2 live;have vC:=S.inv.eb bW J;have VK:=gk.ZI J U;have il:=gk.ft.ok.T5;have acy:0<=(Wi W.V k).T5/\(Wi W.V k).T5<=16777215:=il;have vH:=S.inv.ZU;have LA:=N.i;have LB:=N.h;obtain⟨j,OV⟩: ∃j:Nat,bs W.V k+TJ W.V k=8*j:=⟨((bs W.V k+TJ W.V k)/8).toNat,J⟩
  have Ck:((bs W.V k+TJ W.V k)/8).toNat=j:=J;rw[Ck]at r y VK⊢;obtain⟨A,Ut⟩: ∃A:Nat,(W.XT t).run.call.a=A:=⟨(W.XT t).run.call.a.toNat,J⟩
  obtain⟨C,VG⟩: ∃C:Nat,(W.XT t).run.call.c=C:=⟨(W.XT t).run.call.c.toNat,J⟩
  obtain⟨M,af7⟩: ∃M:Nat,m=M:=⟨m.toNat,J⟩
  obtain⟨o,ZQ⟩: ∃o:Zr,o=⟨j,M,A,C,false⟩:=⟨_,rfl⟩
  have v:o.at_=j/\o.z=M/\o.l=A/\o.t=C/\o.d=false:=by rw[ZQ];exact⟨rfl,rfl,rfl,rfl,rfl⟩
  have xh:o.ok:=by unfold Zr.ok;omega
  have ow:o.w=q5 m (W.XT t).run.call.a (W.XT t).run.call.c 0:=by unfold Zr.w;rw[v.2.1,v.2.2.1,v.2.2.2.1,v.2.2.2.2,Ut,VG,af7];rfl
  have Zv:W'.V j=o.w:=by rw[r,ow];show put _ (j+1) _ j=_;rw[aw _ _ J,aP]
  have WP:W'.V (j+1)=k+256*(Wi W.V k).T5:=by rw[r];exact aP _ _ _
  have Yv:W'.V (8*k+3)=TJ W.V k+8*m:=by rw[r];show put _ (j+1) _ (8*k+3)=_;rw[aw _ _ J,aw _ _ J,aP]
  have Z2: ∀i,i≠j->i≠j+1->i≠8*k+3->W'.V i=W.V i:=fun i h1 B X=>by rw[r];show put _ (j+1) _ i=_;rw[aw _ _ B,aw _ _ h1,aw _ _ X]
  have iW: ∀s:Nat,s<p.s->Wi W'.V s=Wi W.V s:=fun s P=>by unfold Wi;rw[Z2 _ J J J]
  have hx:TJ W'.V k=TJ W.V k+8*m:=Yv;have iR:eY (W.XT t) (tell (W.XT t).run 0 (Y3 k (Wi W.V k).T5 (bs W.V k+TJ W.V k)))=bH {W.XT t with run:=tell (W.XT t).run 0 (Y3 k (Wi W.V k).T5 (bs W.V k+TJ W.V k))}:=rfl;have b7:=y.same;rw[iR]at b7;have eO:(W'.XT t).aD=(W.XT t).aD:=by
   rw[b7,iV _ (fun _=>?_)];exact⟨by show(W.XT t).run.call.op≠4;omega,by show(W.XT t).run.call.op≠5;omega,by show(W.XT t).run.call.op≠6;omega⟩
  have ky:=fun s=>eH (T:=p.t.toNat) (t:=t) (by have:=S.lt;omega) y.other s;refine⟨put O k (O k++ [o]),f,?_,?_,?_,?_⟩
  ·refine S.inv.loc S.lt bW J ?_ H y.other (fun s P=>aw _ _ P) (fun _ _=>rfl) ?_ ?_ ?_ ?_ ?_ ?_ ?_ ?_ ?_ ?_ ?_ ?_ ?_ ?_ ?_ ?_ ?_ ?_ ?_ ?_
   ·intro i hi;by_cases K:i=j
    ·exact .inr J
    ·by_cases u:i=j+1
     ·exact .inr J
     ·by_cases L:i=8*k+3
      ·exact .inl J
      ·exact absurd (Z2 i K u L) hi
   ·rw[Z2 _ J J J];exact gk.ft
   ·rw[iW k bW];omega
   ·intro YM;subst YM;rw[iW 0 bW];exact(gk.zero rfl).1
   ·rw[hx];omega
   ·intro x hm;rw[aP]at hm;rw[iW k bW];rcases List.mem_append.1 hm with hm|hm
    ·have:=kl VK hm;have g:=gk.hd x hm;have c5:=g.1;unfold Zr.ok at c5;have fZ:=S.inv.ht bW hm;rw[Z2 _ J J J,Z2 _ J J J];exact g
    ·obtain rfl:x=o:=by simpa using hm
     rw[v.1];exact⟨xh,Zv,WP⟩
   ·intro _ _;rw[aP,hx];refine tO VK ⟨v.1,?_⟩;show j+o.z=_;rw[v.2.1];omega
   ·intro q VX;rw[U]at VX;cases VX
   ·rw[iW k bW];exact⟨fun h=>J,fun _=>U⟩
   ·intro h;rw[iW k bW]at h;omega
   ·intro i;by_cases K:i=j
    ·subst K;rw[Zv];have:=Zr.UK xh;omega
    ·by_cases u:i=j+1
     ·subst u;rw[WP];omega
     ·by_cases L:i=8*k+3
      ·subst L;rw[Yv];omega
      ·rw[Z2 i K u L];exact S.inv.jd i
   ·intro i hi;by_cases K:i=j
    ·exact⟨k,bW,o,by rw[aP];simp,by rw[v.1,K]⟩
    ·by_cases u:i=j+1
     ·subst u;rw[WP]at hi;exact absurd (c2 J) hi
     ·by_cases L:i=8*k+3
      ·subst L;rw[Yv]at hi;exact absurd (c2 J) hi
      ·rw[Z2 i K u L]at hi;obtain⟨s,P,x,jb,lV⟩:=S.inv.qB i hi;refine⟨s,P,x,?_,lV⟩;exact qb
   ·rw[eO];exact U2
   ·intro s _;rw[eO]
   ·intro h1;have B:=ky k;rw[eO]at B;exact lI
   ·intro s _ hd;exact absurd hd (S.fU (.inr J) s)
   ·intro _ X;rw[iW k bW]at X;omega
   ·intro _ _ h6;rw[b7,eA]at h6;cases h6
   ·exact .inr ⟨live,by rw[iW k bW],fun x jb=>⟨x,by rw[aP];exact cB _ jb,rfl,rfl⟩⟩
   ·rw[b7];exact fj (S.inv.rg t S.lt)
   ·rw[b7,es];exact S.inv.ZS t S.lt
  ·refine⟨fun s P=>.inl (by rw[iW s P]),fun s P adh B=>⟨by rw[iW s P];exact B,fun c5=>⟨c5,fun x jb=>⟨x,?_,rfl,rfl,rfl,rfl,fun _=>rfl⟩⟩⟩⟩;exact qb
  ·have h1:=rh (F:=F) (O:=O) (k:=k) (S:=p.s.toNat) (O k++ [o]) J;rw[iQ,jr,ak,ak]at h1;show _+(W.XT t).run.n.toNat<=iU F O p.s.toNat+(W.XT t).run.n.toNat+ez F (tell (W.XT t).run 0 (Y3 k (Wi W.V k).T5 (bs W.V k+TJ W.V k)));have B:(if fX F o=true then [8*(o.at_:Int)]else []).length<=ez F (tell (W.XT t).run 0 (Y3 k (Wi W.V k).T5 (bs W.V k+TJ W.V k))):=by
    by_cases c:fX F o=true
    ·unfold ez;have bo:bY F (W.XT t).run.call.c.toNat≠ []:=by
      unfold fX at c;rw[v.2.2.2.1]at c;intro YM;rw[show(W.XT t).run.call.c.toNat=C from J]at YM;simp[YM]at c
     rw[Z c,Z ⟨rfl,G,rfl,bo⟩];simp
    ·rw[Y c];simp
   have X:(cO F ([]:List Zr)).length=0:=rfl;omega
  ·intro i hi;refine⟨k,?_,bW,?_⟩
   ·show about (tell (W.XT t).run 0 _) _=_;unfold about;simp[tell,G,<-R.af,XD]
   ·have Yy:(tell (W.XT t).run 0 (Y3 k (Wi W.V k).T5 (bs W.V k+TJ W.V k))).call.op=7:=G;rw[Yy];by_cases L:i=8*k+3
    ·exact .inl ⟨J,J⟩
    ·by_cases K:i=j
     ·exact .inr ⟨J,J,J⟩
     ·by_cases u:i=j+1
      ·exact .inr ⟨J,J,J⟩
      ·exact absurd (Z2 i K u L) hi
end
end
end Go.Proofs.YtcimojgkeoecfaaGreat
