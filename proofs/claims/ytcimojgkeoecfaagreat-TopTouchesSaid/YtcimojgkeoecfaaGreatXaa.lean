set_option linter.all false
set_option maxHeartbeats 16000000
set_option maxRecDepth 100000
namespace Go.Proofs.YtcimojgkeoecfaaGreat
section
abbrev Z:=@if_pos
abbrev Y:=@if_neg
abbrev E:=@List.not_mem_nil
abbrev D:=@Nat.le_trans
abbrev ae:=@List.getD_eq_getElem?_getD
abbrev ad:=@List.mem_cons
abbrev aj:=@Nat.lt_of_lt_of_le
abbrev ak:=@List.length_append
abbrev al:=@Int.tmod_eq_emod_of_nonneg
abbrev ai:=@Nat.le_refl
abbrev an:=@List.getElem?_eq_getElem
abbrev ao:=@List.mem_cons_of_mem
abbrev au:=@List.nil_append
abbrev av:=@or_false
abbrev ax:=@Nat.zero_add
abbrev ay:=@List.getElem?_append_right
abbrev aA:=@List.getElem?_append_left
abbrev aE:=@List.getElem?_toArray
abbrev aI:=@List.length_cons
abbrev aJ:=@List.append_assoc
abbrev aL:=@Nat.zero_le
abbrev aQ:=@Nat.eq_zero_or_pos
abbrev aS:=@List.map_cons
abbrev aU:=@List.cons_append
abbrev aV:=@List.getElem?_eq_none
abbrev a1:=@List.getElem?_range
abbrev a3:=@List.getElem?_map
abbrev a8:=@List.mem_cons_self
abbrev bf:=@List.mem_of_getElem?
abbrev bk:=@Array.getElem?_setIfInBounds_ne
abbrev bn:=@Int.eq_ofNat_of_zero_le
abbrev br:=@List.append_nil
abbrev bt:=@Option.map_some
abbrev bA:=@List.getElem_mem
abbrev bJ:=@List.length_map
abbrev bL:=@Int.toNat_natCast
abbrev bR:=@List.length_nil
abbrev bS:=@List.nodup_cons
abbrev bQ:=@Nat.le_of_ble_eq_true
abbrev bZ:=@List.getElem?_of_mem
abbrev b3:=@List.pairwise_cons
abbrev b5:=@Int.emod_nonneg
abbrev b8:=@List.map_toArray
abbrev b9:=@List.take_append_drop
abbrev ck:=@List.map_nil
abbrev cl:=@List.drop_eq_nil_of_le
abbrev cm:=@List.take_of_length_le
abbrev ct:=@List.eq_nil_or_concat
abbrev cu:=@List.concat_eq_append
abbrev cA:=@Int.emod_lt_of_pos
abbrev cz:=@List.getElem?_cons_succ
abbrev cB:=@List.mem_append_left
abbrev cr:=@Array.getElem?_setIfInBounds_self_of_lt
abbrev cI:=@Int.add_zero
abbrev cD:=@Nat.and_two_pow_sub_one_eq_mod
abbrev cP:=@List.map_append
abbrev cJ:=@List.take_append_of_le_length
abbrev cZ:=@Nat.add_zero
abbrev c8:=@List.drop_succ_cons
abbrev dh:=@List.length_singleton
abbrev dy:=@List.foldl_cons
abbrev dz:=@congrArg
abbrev dn:=@List.eq_nil_of_length_eq_zero
section
variable{p:Prop}
include p
theorem J(h:p:=by omega):p:=h
theorem am(h:p:=by decide):p:=h
theorem aN(h:p:=by simp):p:=h
theorem Uf(h:p:=by trivial):p:=h
theorem fa(h:p:=by
 (try simp only[Act.put,List.setIfInBounds_toArray,List.set_cons_zero,List.set_cons_succ])
 exact rfl):p:=h
theorem qZ(h:p:=by
 (try simp only[er,List.drop_succ_cons,List.drop_zero,List.take_succ_cons,List.take_zero,List.take_nil,List.drop_nil,List.cons_append,List.nil_append,List.append_nil,List.length_cons,List.length_nil,Nat.zero_add,Nat.reduceAdd,Nat.add_zero])
 exact rfl):p:=h
theorem et(h:p:=by
 (try simp only[Act.put,List.setIfInBounds_toArray,List.set_cons_zero,List.set_cons_succ,List.getElem_toArray,List.getElem_cons_zero,List.getElem_cons_succ])
 exact rfl):p:=h
theorem eu(h:p:=by
 (try simp only[List.setIfInBounds_toArray,List.set_cons_zero,List.set_cons_succ])
 exact rfl):p:=h
theorem lT(h:p:=by
 (try simp only[List.drop_succ_cons,List.drop_zero,List.take_succ_cons,List.take_zero,List.take_nil,List.drop_nil,List.cons_append,List.nil_append,List.append_nil,List.length_cons,List.length_nil,Nat.zero_add,Nat.reduceAdd,Nat.add_zero])
 exact rfl):p:=h
theorem ch(h:p:=by first|omega|(simp;done)|(simp;omega)):p:=h
end
theorem aB{c:Prop}[Decidable c]{α:Sort _}{a b:α}(h: ¬c:=by omega):(if c then a else b)=b:=if_neg h
theorem m3{c:Prop}[Decidable c]{α:Sort _}{a b:α}(h:c:=by omega):(if c then a else b)=a:=if_pos h
theorem Ug{p:Prop}(h:p:=by
 apply Exists.intro;apply And.intro;(focus(repeat(first|(with_reducible exact dL _ _)|((with_reducible apply eg);(focus(first|(simp;done)|omega)))|(with_reducible apply eC)|((with_reducible apply eQ);(focus(first|omega|(simp;done)|(simp;omega))))|((with_reducible apply dA);(focus(with_reducible assumption));(focus(first|omega|(simp;done)|(simp;omega))))|((with_reducible apply cQ);(focus(first|omega|(simp;done)|(simp;omega)))))));(focus rfl)):p:=h
end
structure Ext where
 a:Int
 z:Int
structure g7 where
 st:Int
 Xf:Int
 YX:Int
 afB:Int
structure dM where
 op:Int
 r:Int
 h:Int
 v:Int
 a:Int
 b:Int
 c:Int
structure bO where
 s:Int
 c:Bool
deriving DecidableEq
structure jc where
 op:Int
 a:Int
 b:Int
structure Ln where
 code:Int
 n:Int
 said:List Int
structure db where
 XT:Int
 call:dM
 fr:Int
 pt:Int
 e2:Int
 aC:Ln
structure aax where
 call:dM
 Xj:Int
 af:Int
 hand:Int
 val:Int
 chain:List bO
 word:Int
 next:Int
 at_:Int
 top:Int
 list:List Int
 op:Int
 said:List Int
 n:Int
 held:Bool
 fin:Bool
 bF:Bool
 aC:Ln
structure afy where
 s:Int
 t:Int
 i:Int
 h:Int
structure eD where
 calls:List dM
 regs:Nat->Int
 aD:List bO
 run:aax
 busy:Bool
 at_:Nat
structure Wd where
 V:Nat->Int
 fr:List Ext
 XT:Nat->eD
 ops:List db
 n:Nat
def put{α:Type}(f:Nat->α)(j:Nat)(v:α):Nat->α:=fun i=>if i=j then v else f i
theorem aP{α:Type}(f:Nat->α)(j:Nat)(v:α):put f j v j=v:=by simp[put]
theorem aw{α:Type}(f:Nat->α){i j:Nat}(v:α)(h:i≠j):put f j v i=f i:=by simp[put,h]
def afa(c:g7):Int:=c.st+4*c.Xf+1024*(c.YX+1)+262144*c.afB
def up(w:Int):g7:=⟨w %4,w/4 %256,w/1024 %256-1,w/262144 %16777216⟩
structure hZ(c:g7):Prop where
 afB:0<=c.afB/\c.afB<=16777215
 st:0<=c.st/\c.st<=3
 Xf:(c.st=2->1<=c.Xf/\c.Xf<=7)/\(c.st≠2->c.Xf=0)
 YX: -1<=c.YX/\c.YX<=7/\(c.st<2->c.YX= -1)
theorem hZ.aas{c:g7}(h:hZ c):0<=afa c/\afa c<4398046511104:=by
 have:=h.afB;have:=h.st;have:=h.Xf;have:=h.YX;unfold afa;omega
theorem ni{c:g7}(h:hZ c):up (afa c)=c:=by
 have:=h.afB;have:=h.st;have:=h.Xf;have:=h.YX;cases c;simp only[up,afa]at*;simp only[g7.mk.injEq];omega
structure okW(w:Int):Prop where
 ok:hZ (up w)
 eq:afa (up w)=w
theorem hZ.w{c:g7}(h:hZ c):okW (afa c):=⟨by rw[ni h];exact h,by rw[ni h]⟩
def ca(c:g7)(EI:Int):g7×Int:=
 if c.st=0 then(⟨0,0,0,0⟩,11)else if c.st=3 then(⟨0,0,0,0⟩,10)else if c.st=1 then(⟨2,1,EI,c.afB⟩,0)
 else if c.YX≠EI then(⟨0,0,0,0⟩,15)else if c.Xf=7 then(⟨0,0,0,0⟩,16)else(⟨2,c.Xf+1,c.YX,c.afB⟩,0)
def ic(c:g7):g7:=⟨if c.Xf=1 then 3 else 2,c.Xf-1,c.YX,c.afB⟩
def jX(c:g7):g7:=⟨1,0,-1,(c.afB+1)%16777216⟩
def mp(c:g7):g7:=⟨2,1,c.YX,c.afB⟩
theorem hZ.enter{c:g7}{f:Int}(h:hZ c)(acA:0<=f/\f<=7)(V1:(ca c f).2=0):hZ (ca c f).1/\(ca c f).1.st=2/\(ca c f).1.afB=c.afB/\(ca c f).1.Xf=c.Xf+1/\(c.st=1\/c.st=2)/\(ca c f).1.YX=f:=by
 have:=h.afB;have:=h.st;have:=h.Xf;have:=h.YX;unfold ca at*;by_cases YM:c.st=0
 ·simp[YM]at V1
 by_cases ZV:c.st=3
 ·simp[ZV]at V1
 by_cases h1:c.st=1
 ·rw[Y YM,Y ZV,Z h1];exact⟨⟨by simp;omega,aN,aN,by simp;omega⟩,by simp;omega⟩
 by_cases Ya:c.YX=f
 ·by_cases afY:c.Xf=7
  ·simp[YM,ZV,h1,Ya,afY]at V1
  ·rw[Y YM,Y ZV,Y h1,Y (by simpa using Ya),Y afY];exact⟨⟨by simp;omega,aN,by simp;omega,by simp;omega⟩,by simp;omega⟩
 ·simp[YM,ZV,h1,Ya]at V1
theorem hZ.leave{c:g7}(h:hZ c)(YF:c.st=2):hZ (ic c)/\((ic c).st=3↔c.Xf=1)/\((ic c).st=2↔c.Xf≠1):=by
 have:=h.afB;have:=h.st;have:=h.Xf;have:=h.YX;unfold ic;by_cases e:c.Xf=1
 ·simp only[e,if_true];exact⟨⟨by simp;omega,aN,aN,by simp;omega⟩,aN,aN⟩
 ·simp only[e,if_false];exact⟨⟨by simp;omega,aN,by simp;omega,by simp;omega⟩,aN,by simp[e]⟩
theorem hZ.open_{c:g7}(h:hZ c):hZ (jX c):=by
 have:=h.afB;unfold jX;exact⟨by simp;omega,aN,aN,aN⟩
theorem hZ.hold{c:g7}(h:hZ c):hZ (mp c):=by
 have:=h.afB;have:=h.YX;unfold mp;exact⟨by simp;omega,aN,aN,by simp;omega⟩
def Wi(V:Nat->Int)(s:Nat):g7:=up (V (8*s))
def bs(V:Nat->Int)(s:Nat):Int:=V (8*s+1)
def agh(V:Nat->Int)(s:Nat):Int:=V (8*s+2)
def adh(V:Nat->Int)(s:Nat):Int:=V (8*s+3)
def gt(V:Nat->Int)(s:Nat):Int:=V (8*s+4)
def q5(z l t d:Int):Int:=z+l*4294967296+t*1099511627776+d*281474976710656+11889503016258109440
def acz(d:Bool):Int:=if d then 1 else 0
theorem Ac(d:Bool):0<=acz d/\acz d<=1:=by cases d<;>decide
structure Zr where
 at_:Nat
 z:Nat
 l:Nat
 t:Nat
 d:Bool
def Zr.w(o:Zr):Int:=q5 o.z o.l o.t (acz o.d)
def Zr.ok(o:Zr):Prop:=o.l<=6/\2+o.l<=o.z/\o.z<=72/\o.t<=7
theorem Zr.aas{o:Zr}(h:o.ok):0<=o.w/\o.w/72057594037927936=165/\o.w<18446744073709551616:=by
 have:=Ac o.d;unfold Zr.ok at h;unfold Zr.w q5;omega
def ks:Nat->List Zr->Nat->Prop
 |a,[],e=>a=e
 |a,o::l,e=>o.at_=a/\ks (a+o.z) l e
def VA(h:Int):Int:=h/16777216 %256
def afT(h:Int):Int:=h/4294967296
def WR(h:Int):Int:=h %16777216*8
def dr(h:Int):Prop:=0<=VA h/\VA h<=7/\0<=afT h/\afT h<=16777215/\8<=WR h/\WR h<=65528
instance (h:Int):Decidable (dr h):=by unfold dr;infer_instance
def ac4(s e a:Int):Int:=a/8+16777216*s+4294967296*e
theorem dr.aas{h:Int}(ok:dr h)(YM:0<=h):h<72057594037927936:=by
 unfold dr afT at ok;omega
def da(l:List bO):Int:=match l.getLast? with|none=>0|some e=>e.s
def reach(l:List bO)(s:Int):Prop:=s=0\/(⟨s,true⟩:bO)∈l
instance (l:List bO) (s:Int):Decidable (reach l s):=by unfold reach;infer_instance
def lX:List bO->Int->List bO->Int
 | [],_,_=> -1
 |e::l,s,pre=>if e=⟨s,true⟩then da pre else lX l s (pre++ [e])
def rY(l:List bO)(s:Int):Nat->Int->Bool
 |0,_=>false
 |n+1,b=>if b=s then true else rY l s n (lX l b [])
def kt(l:List bO)(s b:Int):Bool:=if s=0 then true else rY l s 9 b
def af8(x:Int):Int:=x %18446744073709551616
def afK(x:Int):Int:=if x<9223372036854775808 then x else x-18446744073709551616
def tell(r:aax)(code n:Int):aax:={r with fin:=true,bF:=true,aC:=⟨code,n,r.said⟩}
abbrev b1:=List (List jc)
def bY(F:b1)(t:Nat):List jc:=F.getD t []
def fN(a b:Int):Int:=2+a+(b+7)/8
def x3(f t:Int):Prop:=(0<=f/4294967296 %256/\f/4294967296 %256<=6)/\(2+f/4294967296 %256<=f %4294967296/\f %4294967296<=72)/\(0<=f/1099511627776 %256/\f/1099511627776 %256<=7)/\(0<=t %256/\t %256<=7)/\(0<=t/256/\t/256<=16777215)/\f/72057594037927936=165/\f/281474976710656 %256<=1
instance (f t:Int):Decidable (x3 f t):=by unfold x3;infer_instance
def fl(V:Nat->Int)(k:Nat):Zr:=⟨k,(V k %4294967296).toNat,(V k/4294967296 %256).toNat,(V k/1099511627776 %256).toNat,V k/281474976710656 %256==1⟩
def he(n:Nat)(V:Nat->Int)(k:Nat)(s e:Int):Prop:=k+1<n/\x3 (V k) (V (k+1))/\V (k+1)%256=s/\V (k+1)/256=e
instance (n:Nat) (V:Nat->Int) (k:Nat) (s e:Int):Decidable (he n V k s e):=by unfold he;infer_instance
theorem Zr.EJ{V:Nat->Int}{o:Zr}(ok:o.ok)(h:V o.at_=o.w):fl V o.at_=o:=by
 have hb:=Ac o.d;have hd:(V o.at_/281474976710656 %256==1)=o.d:=by
  rw[h];unfold Zr.ok at ok;unfold Zr.w q5;cases e:o.d
  ·simp[acz];omega
  ·simp[acz];omega
 unfold fl;rw[hd];cases o;simp only[Zr.mk.injEq];unfold Zr.ok at ok;simp only[Zr.w,q5]at*;refine⟨trivial,?_,?_,?_,trivial⟩<;>rw[h]<;>omega
theorem Zr.EK{n:Nat}{V:Nat->Int}{o:Zr}{s e:Int}(ok:o.ok)(h:V o.at_=o.w)(aaV:V (o.at_+1)=s+256*e)(YF:0<=s/\s<=7)(V1:0<=e/\e<=16777215)(abi:o.at_+1<n):he n V o.at_ s e:=by
 have hb:=Ac o.d;unfold Zr.ok at ok;unfold he x3;rw[h,aaV];unfold Zr.w q5;omega
def hU:List Ext->Int->Option (Int×List Ext)
 | [],_=>none
 |x::l,n=>if n<=x.z then some (x.a,if x.z=n then l else⟨x.a+n,x.z-n⟩::l)else(hU l n).map fun r=>(r.1,x::r.2)
def q6:List Ext->Ext->List Ext
 | [],y=> [y]
 |x::l,y=>if y.a<x.a+x.z then y::x::l else x::q6 l y
def lY:Ext->List Ext->List Ext
 |x,[]=> [x]
 |x,y::l=>if x.a+x.z=y.a then lY ⟨x.a,x.z+y.z⟩ l else x::lY y l
def give(l:List Ext)(a z:Int):List Ext:=match q6 l ⟨a,z⟩with| []=> []|x::l=>lY x l
def dd(o:jc)(sl:List Int):Int×List Int×List Int×Bool:=
 if o.op=0 then(0,sl,[o.a],false)
 else if o.op=1 then(0,if o.a<sl.length then sl.set o.a.toNat 0 else sl,[],false)
 else if o.op=2 then(0,if o.a<sl.length/\o.b<sl.length then sl.set o.a.toNat (sl.getD o.b.toNat 0)else sl,[],false)
 else if o.op=3 then(if o.a<sl.length/\sl.getD o.a.toNat 0=0 then o.b else 0,sl,[],false)
 else(0,sl,[],true)
def eM(V:Nat->Int)(k l:Nat):List Int:=(List.range l).map fun i=>V (k+2+i)
def fW(V:Nat->Int)(k:Nat)(sl:List Int):Nat->Int:=fun j=>if k+2<=j/\j<k+2+sl.length then sl.getD (j-(k+2)) 0 else V j
def e6(V:Nat->Int)(r:aax):(Nat->Int)×aax:=
 if r.Xj=5 then(V,{r with next:=(Wi V r.af.toNat).afB,Xj:=2})
 else if r.Xj=2 then(V,{r with at_:=bs V r.af.toNat,Xj:=3})
 else if r.Xj=3 then(V,{r with word:=agh V r.af.toNat,Xj:=4})
 else if adh V r.af.toNat<=r.word/\8*fN r.call.a r.call.b<=r.word-adh V r.af.toNat then
  (put (put (put V (8*r.af.toNat+3) (adh V r.af.toNat+8*fN r.call.a r.call.b)) ((r.at_+adh V r.af.toNat)/8).toNat (q5 (fN r.call.a r.call.b) r.call.a r.call.c 0)) (((r.at_+adh V r.af.toNat)/8).toNat+1) (r.af+256*r.next),
   tell r 0 (ac4 r.af r.next (r.at_+adh V r.af.toNat)))
 else(V,tell r 17 0)
def dR(V:Nat->Int)(r:aax):(Nat->Int)×aax:=
 if r.Xj=13 then
  if(ca (Wi V r.call.a.toNat) r.af).2=10 then(V,r)
  else if(ca (Wi V r.call.a.toNat) r.af).2=0 then(V,{r with word:=V (8*r.call.a.toNat),Xj:=14,next:=afa (ca (Wi V r.call.a.toNat) r.af).1})
  else(V,tell r (ca (Wi V r.call.a.toNat) r.af).2 0)
 else if V (8*r.call.a.toNat)=r.word then(put V (8*r.call.a.toNat) r.next,tell r 0 0)
 else(V,{r with word:=0,next:=0,Xj:=13})
def bP(r:aax):aax:=if r.list≠ []then {r with Xj:=20}else if r.held then {r with Xj:=22}else {r with Xj:=23}
def ee(r:aax):aax:=if r.at_<r.top then {r with Xj:=19}else bP r
def dT(r:aax):aax:=if r.at_<r.top then {r with Xj:=24}else {r with Xj:=25}
def iK(l:List Int):Int:=l.getLast?.getD 0
def bM(F:b1)(V:Nat->Int)(r:aax):(Nat->Int)×aax:=
 if r.Xj=15 then(V,{r with word:=V (8*r.af.toNat),next:=afa (ic (Wi V r.af.toNat)),Xj:=16})
 else if r.Xj=16 then
  if V (8*r.af.toNat)=r.word then
   (put V (8*r.af.toNat) r.next,if(up r.next).st=3 then {r with Xj:=17}else tell r 0 0)
  else(V,{r with word:=0,next:=0,Xj:=15})
 else if r.Xj=17 then(V,{r with word:=bs V r.af.toNat,at_:=bs V r.af.toNat,Xj:=18})
 else if r.Xj=18 then(V,ee {r with top:=r.at_+adh V r.af.toNat})
 else if r.Xj=19 then
  (V,ee {r with list:=if(fl V (r.at_/8).toNat).d=false/\bY F (fl V (r.at_/8).toNat).t≠ []then r.list++ [r.at_]else r.list,at_:=r.at_+8*(fl V (r.at_/8).toNat).z})
 else if r.Xj=20 then
  let k:=(iK r.list/8).toNat
  let o:=fl V k
  let ops:=bY F o.t
  let q:=dd (ops.getD r.op.toNat ⟨0,0,0⟩) (eM V k o.l)
  (fW V k q.2.1,{r with op:=r.op+1+q.1,said:=r.said++q.2.2.1,held:=r.held||q.2.2.2,Xj:=if ops.length<=r.op+1+q.1 then 21 else 20})
 else if r.Xj=21 then
  let k:=(iK r.list/8).toNat
  let o:=fl V k
  (put V k (q5 o.z o.l o.t 1),bP {r with list:=r.list.dropLast,n:=r.n+1,op:=0})
 else if r.Xj=22 then(put V (8*r.af.toNat) (afa (mp (up r.next))),tell r 25 r.n)
 else if r.Xj=23 then(put V (8*r.af.toNat+4) 0,dT {r with at_:=r.word})
 else if r.Xj=24 then(put V (r.at_/8).toNat 0,dT {r with at_:=r.at_+8})
 else if r.Xj=25 then(put V (8*r.af.toNat+3) 0,{r with Xj:=26})
 else(put V (8*r.af.toNat) (afa (jX (up r.next))),tell r 0 r.n)
def check(p:afy)(l:List bO)(h:Int):Int:=if¬dr h\/p.s<=VA h then 18 else if reach l (VA h)then 0 else 20
def ie(V:Nat->Int)(r:aax)(h next:Int):aax:=if(Wi V (VA h).toNat).afB=afT h then {r with Xj:=next}else tell r 19 0
def qz(p:afy)(n:Nat)(V:Nat->Int)(r:aax):aax:=
 if he n V (WR r.hand/8).toNat (VA r.hand) (afT r.hand)then
  if 0<=r.call.b/\r.call.b<(fl V (WR r.hand/8).toNat).l then
   if r.call.op=8 then {r with at_:=WR r.hand+16+8*r.call.b,Xj:=9}
   else if r.val=0 then {r with at_:=WR r.hand+16+8*r.call.b,Xj:=10}
   else if check p r.chain r.val=0 then {r with at_:=WR r.hand+16+8*r.call.b,Xj:=7}
   else tell {r with at_:=WR r.hand+16+8*r.call.b} (check p r.chain r.val) 0
  else tell r 21 0
 else tell r 18 0
def lr(n:Nat)(V:Nat->Int)(r:aax):aax:=
 if he n V (WR r.val/8).toNat (VA r.val) (afT r.val)then
  if kt r.chain (VA r.val) (if r.call.op=9 then VA r.hand else r.call.a)then {r with Xj:=if r.call.op=9 then 10 else 12}
  else tell r 22 0
 else tell r 18 0
def cK(p:afy)(n:Nat)(V:Nat->Int)(r:aax):(Nat->Int)×aax:=
 if r.Xj=5 then(V,ie V r r.hand 6)
 else if r.Xj=6 then(V,qz p n V r)
 else if r.Xj=7 then(V,ie V r r.val 8)
 else if r.Xj=8 then(V,lr n V r)
 else if r.Xj=9 then(V,tell r 0 (afK (V (r.at_/8).toNat)))
 else if r.Xj=10 then(put V (r.at_/8).toNat r.val,tell r 0 0)
 else if r.Xj=11 then(V,tell r 0 (afK (gt V r.call.a.toNat)))
 else(put V (8*r.call.a.toNat+4) r.val,tell r 0 0)
def fv(V:Nat->Int)(n:Nat):Option Nat:=(List.range n).find? fun s=>(Wi V s).st==0
def gO(p:afy)(V:Nat->Int)(fr:List Ext)(r:aax):(Nat->Int)×List Ext×aax:=
 if r.call.op=3 then
  let s:=r.call.a.toNat
  if(Wi V s).st=0 then(V,fr,tell r 11 0)
  else if(Wi V s).st=1 then
   (put (put (put V (8*s) (afa ⟨0,0,-1,((Wi V s).afB+1)%16777216⟩)) (8*s+1) 0) (8*s+2) 0,give fr (bs V s) (agh V s),tell r 0 0)
  else(V,fr,tell r 12 0)
 else
  match fv V p.s.toNat with
  |none=>(V,fr,tell r 13 0)
  |some s=>
   match hU fr ((r.call.a+7)/8*8)with
   |none=>(V,fr,tell r 14 0)
   |some (a,w5)=>(put (put (put (put (put V (8*s) (afa ⟨1,0,-1,(Wi V s).afB⟩)) (8*s+1) a) (8*s+2) ((r.call.a+7)/8*8)) (8*s+3) 0) (8*s+4) 0,w5,tell r 0 s)
def one(p:afy)(F:b1)(n:Nat)(V:Nat->Int)(fr:List Ext)(r:aax):(Nat->Int)×List Ext×aax:=
 if r.Xj=0 then(V,fr,tell r r.aC.code 0)
 else if r.Xj=1 then gO p V fr r
 else if r.call.op=7 then((e6 V r).1,fr,(e6 V r).2)
 else if r.call.op=4 then((dR V r).1,fr,(dR V r).2)
 else if r.call.op=5 then((bM F V r).1,fr,(bM F V r).2)
 else((cK p n V r).1,fr,(cK p n V r).2)
def b2(p:afy)(l:List bO)(c:dM)(h v:Int):Int:=
 if c.op=2 then(if 1<=c.a/\c.a<=8192 then 0 else 1)
 else if c.op=3 then(if 1<=c.a/\c.a<p.s then 0 else 11)
 else if c.op=4 then(if 1<=c.a/\c.a<p.s then(if l.length<6 then 0 else 24)else 11)
 else if c.op=5 then(if l= []then 23 else 0)
 else if c.op=6 then(if 0<=c.a/\c.a<p.s then(if reach l c.a then(if l.length<6 then 0 else 24)else 20)else 11)
 else if c.op=7 then(if(0<=c.a/\c.a<=6)/\0<=c.b/\c.b<=512 then 0 else 1)
 else if c.op=8\/c.op=9 then check p l h
 else if c.op=10 then(if 1<=c.a/\c.a<p.s then(if reach l c.a then 0 else 20)else 11)
 else if c.op=11 then(if 1<=c.a/\c.a<p.s then(if reach l c.a then(if v=0 then 0 else check p l v)else 20)else 11)
 else 0
def jo(l:List bO)(c:dM)(v:Int):Int:=
 if c.op=2\/c.op=3 then 1
 else if c.op=4 then 13
 else if c.op=5 then(match l.getLast? with|some ⟨_,true⟩=>15|_=>0)
 else if c.op=7\/c.op=8\/c.op=9 then 5
 else if c.op=10 then 11
 else if c.op=11 then(if v=0 then 12 else 7)
 else 0
def begun(p:afy)(regs:Nat->Int)(l:List bO)(c:dM):aax:=
 {call:=c,Xj:=if b2 p l c (regs c.h.toNat) (regs c.v.toNat)=0 then jo l c (regs c.v.toNat)else 0,af:=da l,hand:=regs c.h.toNat,val:=regs c.v.toNat,chain:=l,
  word:=0,next:=0,at_:=0,top:=0,list:= [],op:=0,said:= [],n:=0,held:=false,fin:=false,bF:=false,aC:=⟨b2 p l c (regs c.h.toNat) (regs c.v.toNat),0,[]⟩}
def bH(t:eD):eD:=
 if t.run.aC.code≠0 then {t with busy:=false}
 else if t.run.call.op=1 then {t with busy:=false,regs:=put t.regs t.run.call.r.toNat (af8 t.run.call.a)}
 else if t.run.call.op=7\/t.run.call.op=8\/t.run.call.op=10 then {t with busy:=false,regs:=put t.regs t.run.call.r.toNat (af8 t.run.aC.n)}
 else if t.run.call.op=4 then {t with busy:=false,aD:=t.aD++ [⟨t.run.call.a,true⟩]}
 else if t.run.call.op=6 then {t with busy:=false,aD:=t.aD++ [⟨t.run.call.a,false⟩]}
 else if t.run.call.op=5 then {t with busy:=false,aD:=t.aD.dropLast}
 else {t with busy:=false}
def eD.ended(t:eD):Bool:= !t.busy&&t.calls.isEmpty
def bd(p:afy)(t:eD)(N4:Nat):eD:=
 if t.busy then t else match t.calls with
  | []=>t
  |c::l=>{t with calls:=l,run:=begun p t.regs t.aD c,busy:=true,at_:=N4}
def fO(W:Wd)(i:Nat):List db:=
 if(W.XT i).busy then W.ops else match(W.XT i).calls with
  | []=>W.ops
  |c::_=>W.ops++ [⟨i,c,W.n,-1,-1,⟨0,0,[]⟩⟩]
def bI(p:afy)(F:b1)(n:Nat)(W:Wd)(i:Nat):Wd:=
 let t:=bd p (W.XT i) W.ops.length
 let ops:=fO W i
 let q:=one p F n W.V W.fr t.run
 let t':={t with run:=q.2.2}
 {V:=q.1,fr:=q.2.1,
  XT:=put W.XT i (if q.2.2.fin then bH t' else t'),
  ops:=ops.modify t.at_ fun o=>{o with pt:=if q.2.2.bF then W.n else o.pt,e2:=if q.2.2.fin then W.n else o.e2,aC:=if q.2.2.fin then q.2.2.aC else o.aC},
  n:=W.n+1}
section
def gE(f:Nat->Nat):Nat->Nat
 |0=>0
 |m+1=>gE f m+f m
theorem rZ{f g:Nat->Nat}{m:Nat}(h: ∀i,i<m->f i=g i):gE f m=gE g m:=by
 induction m with
 |zero=>rfl
 |succ m aes=>rw[gE,gE,aes fun i hi=>h i J,h m J]
theorem nm{f:Nat->Nat}{m i:Nat}(hi:i<m):f i<=gE f m:=by
 induction m with
 |zero=>omega
 |succ m aes=>
  rw[gE];by_cases h:i=m
  ·subst h;omega
  ·have:=aes J;omega
theorem r0{f:Nat->Nat}{m i j:Nat}(hi:i<m)(aeD:j<m)(abi:i≠j):f i+f j<=gE f m:=by
 induction m with
 |zero=>omega
 |succ m aes=>
  rw[gE];by_cases h:i=m
  ·subst h;have:=nm (f:=f) (m:=i) (i:=j) J;omega
  ·by_cases aaV:j=m
   ·subst aaV;have:=nm (f:=f) (m:=j) (i:=i) J;omega
   ·have:=aes J J;omega
theorem r1{f:Nat->Nat}{m i v:Nat}(hi:i<m):gE (put f i v) m+f i=gE f m+v:=by
 induction m with
 |zero=>omega
 |succ m aes=>
  rw[gE,gE];by_cases h:i=m
  ·subst h;rw[aP,rZ (g:=f) fun j aeD=>aw f v J];omega
  ·rw[aw f v (fun e=>h e.symm)];have:=aes J;omega
def fF(s:Nat)(l:List bO):Nat:=l.count (⟨s,true⟩:bO)
def within(W:Wd)(T s:Nat):Nat:=gE (fun i=>fF s (W.XT i).aD) T
theorem jq{s:Nat}{l:List bO}(h:(⟨s,true⟩:bO)∈l):1<=fF s l:=List.count_pos_iff.2 h
structure a9(p:afy):Prop where
 s:1<=p.s/\p.s<=8
 t:1<=p.t/\p.t<=4
 i:0<=p.i/\p.i<=504/\p.i %8=0
 h:0<=p.h/\p.h<=1016/\p.h %8=0
structure okF(o:jc):Prop where
 op:0<=o.op/\o.op<=4
 a:0<=o.a/\o.a<=99
 b:0<=o.b/\o.b<=8
def tN(F:b1):Prop:=F.length<=8/\∀l,l∈F->l.length<=8/\∀o,o∈l->okF o
structure cG(c:dM):Prop where
 op:0<=c.op/\c.op<=11
 r:0<=c.r/\c.r<=3
 h:0<=c.h/\c.h<=3
 v:0<=c.v/\c.v<=3
 a: -32768<=c.a/\c.a<=32767
 b:0<=c.b/\c.b<=255
 c:0<=c.c/\c.c<=7
structure lD(p:afy)(l:List bO):Prop where
 len:l.length<=6
 each: ∀pre e post,l=pre++e::post->0<=e.s/\e.s<p.s/\(e.c=true->1<=e.s)/\(e.c=false->reach pre e.s)
def fX(F:b1)(o:Zr):Bool:= !o.d&& !(bY F o.t).isEmpty
def cO(F:b1)(L:List Zr):List Int:=(L.filter (fX F)).map fun o=>8*(o.at_:Int)
def ku(x:Int):Prop:=x/72057594037927936≠165
inductive aeH (F:b1) (V:Nat->Int) (O:List Zr) (z:Option Nat) (s:Nat) (r:aax):Prop
 |first:r.Xj=17->r.list= []->z=none->aeH F V O z s r
 |top:r.Xj=18->r.list= []->z=none->r.at_=bs V s->r.word=bs V s->aeH F V O z s r
 |walk (pre:List Zr) (o:Zr) (post:List Zr):r.Xj=19->z=none->r.word=bs V s->r.top=bs V s+adh V s->O=pre++o::post->r.at_=8*o.at_->r.list=cO F pre->aeH F V O z s r
 |fin (pre:List Zr) (o:Zr) (post:List Zr):r.Xj=20->z=none->r.word=bs V s->r.top=bs V s+adh V s->O=pre++o::post->fX F o=true->cO F post= []->r.list=cO F O->0<=r.op->r.op<(bY F o.t).length->aeH F V O z s r
 |mark (pre:List Zr) (o:Zr) (post:List Zr):r.Xj=21->z=none->r.word=bs V s->r.top=bs V s+adh V s->O=pre++o::post->fX F o=true->cO F post= []->r.list=cO F O->aeH F V O z s r
 |rest:r.Xj=22\/r.Xj=23->z=none->r.word=bs V s->r.top=bs V s+adh V s->cO F O= []->r.list= []->aeH F V O z s r
 |zero:r.Xj=24->r.top=bs V s+adh V s->bs V s<=r.at_->r.at_<r.top->r.at_ %8=0->z=some (r.at_/8).toNat->aeH F V O z s r
 |last (q:Nat):r.Xj=25\/r.Xj=26->O= []->z=some q->(r.Xj=26->adh V s=0)->aeH F V O z s r
inductive ad8 (p:afy) (F:b1) (V:Nat->Int) (O:Nat->List Zr) (VM:Nat->Option Nat) (l:List bO) (r:aax):Prop
 |tell:r.Xj=0->(r.aC.code=0->r.call.op=0\/r.call.op=1\/r.call.op=6/\0<=r.call.a/\r.call.a<p.s/\reach l r.call.a/\l.length<6\/r.call.op=5/\∃pre s,l=pre++ [⟨s,false⟩])->ad8 p F V O VM l r
 |make:r.Xj=1->r.call.op=2/\1<=r.call.a/\r.call.a<=8192\/r.call.op=3/\1<=r.call.a/\r.call.a<p.s->ad8 p F V O VM l r
 |take:r.call.op=7->0<=r.call.a/\r.call.a<=6->0<=r.call.b/\r.call.b<=512->0<=r.call.c/\r.call.c<=7->
   (r.Xj=5\/r.next=(Wi V r.af.toNat).afB/\(r.Xj=2\/r.at_=bs V r.af.toNat/\(r.Xj=3\/r.Xj=4/\r.word=agh V r.af.toNat)))->ad8 p F V O VM l r
 |enter:r.call.op=4->1<=r.call.a/\r.call.a<p.s->l.length<6->
   (r.Xj=13\/r.Xj=14/\okW r.word/\(ca (up r.word) r.af).2=0/\r.next=afa (ca (up r.word) r.af).1)->ad8 p F V O VM l r
 |nn:r.call.op=5->(∃pre,l=pre++ [⟨r.af,true⟩])->r.list= []->
   (r.Xj=15\/r.Xj=16/\okW r.word/\(up r.word).st=2/\r.next=afa (ic (up r.word)))->ad8 p F V O VM l r
 |drain:r.call.op=5->(∃pre,l=pre++ [⟨r.af,true⟩])->17<=r.Xj/\r.Xj<=26->V (8*r.af.toNat)=r.next->(Wi V r.af.toNat).st=3->
   aeH F V (O r.af.toNat) (VM r.af.toNat) r.af.toNat r->ad8 p F V O VM l r
 |slot:r.call.op=8\/r.call.op=9->dr r.hand->VA r.hand<p.s->reach l (VA r.hand)->
   (r.Xj=5\/(Wi V (VA r.hand).toNat).afB=afT r.hand/\(r.Xj=6\/
     ∃o,o∈O (VA r.hand).toNat/\8*(o.at_:Int)=WR r.hand/\0<=r.call.b/\r.call.b<o.l/\r.at_=WR r.hand+16+8*r.call.b/\
      (r.call.op=8/\r.Xj=9\/r.call.op=9/\r.Xj=10/\ku r.val\/
       r.call.op=9/\(r.Xj=7\/r.Xj=8)/\dr r.val/\VA r.val<p.s/\reach l (VA r.val)/\(r.Xj=8->(Wi V (VA r.val).toNat).afB=afT r.val))))->ad8 p F V O VM l r
 |hI:r.call.op=10->r.Xj=11->1<=r.call.a/\r.call.a<p.s->reach l r.call.a->ad8 p F V O VM l r
 |gate:r.call.op=11->1<=r.call.a/\r.call.a<p.s->reach l r.call.a->
   (r.Xj=12/\ku r.val\/(r.Xj=7\/r.Xj=8)/\dr r.val/\VA r.val<p.s/\reach l (VA r.val)/\(r.Xj=8->(Wi V (VA r.val).toNat).afB=afT r.val))->ad8 p F V O VM l r
structure ZL(p:afy)(F:b1)(V:Nat->Int)(O:Nat->List Zr)(VM:Nat->Option Nat)(t:eD):Prop where
 fin:t.run.fin=false
 bF:t.run.bF=false
 af:t.run.af=da t.aD
 chain:t.run.chain=t.aD
 hand:t.run.hand=t.regs t.run.call.h.toNat
 val:t.run.val=t.regs t.run.call.v.toNat
 call:cG t.run.call
 said:t.run.said.length<=8*t.run.n+(if t.run.Xj=20 then t.run.op else if t.run.Xj=21 then 8 else 0)
 n:0<=t.run.n/\(t.run.Xj<20->t.run.n=0/\t.run.op=0)
 aC:t.run.aC.n=0/\t.run.aC.said= []
 kind:ad8 p F V O VM t.aD t.run
structure adK(p:afy)(n:Nat)(V:Nat->Int)(O:List Zr)(z:Option Nat)(s:Nat):Prop where
 ft:okW (V (8*s))
 zero:s=0->(Wi V 0)=⟨2,1,-1,0⟩/\bs V 0=64*p.s/\agh V 0=p.i
 ex:1<=s->(Wi V s).st≠0->64*p.s+p.i<=bs V s/\bs V s %8=0/\8<=agh V s/\agh V s %8=0/\bs V s+agh V s<=8*n
 q7:(Wi V s).st≠0->0<=adh V s/\adh V s<=agh V s/\adh V s %8=0
 hd: ∀o,o∈O->o.ok/\V o.at_=o.w/\V (o.at_+1)=s+256*(Wi V s).afB
 abU:2<=(Wi V s).st->z=none->ks (bs V s/8).toNat O ((bs V s+adh V s)/8).toNat
 ab6: ∀q,z=some q->1<=s/\(Wi V s).st=3/\∀o,o∈O->q<=o.at_/\bs V s<=8*o.at_/\8*(o.at_:Int)+16<=bs V s+adh V s
 no:((Wi V s).st<2->O= []/\z=none)/\((Wi V s).st=2->z=none)
 idle:(Wi V s).st=1->adh V s=0
structure Inv(p:afy)(F:b1)(n:Nat)(W:Wd)(O:Nat->List Zr)(VM:Nat->Option Nat):Prop where
 pl:a9 p
 abf:8*(n:Int)=64*p.s+p.i+p.h
 WK:tN F
 Zt: ∀s:Nat,s<p.s->adK p n W.V (O s) (VM s) s
 YD: ∀s s':Nat,1<=s->s<p.s->1<=s'->s'<p.s->s≠s'->(Wi W.V s).st≠0->(Wi W.V s').st≠0->bs W.V s+agh W.V s<=bs W.V s'\/bs W.V s'+agh W.V s'<=bs W.V s
 fr: ∀x,x∈W.fr->64*p.s+p.i<=x.a/\x.a %8=0/\8<=x.z/\x.z %8=0/\x.a+x.z<=8*n
 fs:W.fr.Pairwise fun x y=>x.a+x.z<=y.a
 fd: ∀x,x∈W.fr->∀s:Nat,1<=s->s<p.s->(Wi W.V s).st≠0->x.a+x.z<=bs W.V s\/bs W.V s+agh W.V s<=x.a
 jd: ∀k,0<=W.V k/\W.V k<18446744073709551616
 qB: ∀k,¬ku (W.V k)->∃s:Nat,s<p.s/\∃o,o∈O s/\o.at_=k
 aaY: ∀t:Nat,t<p.t->lD p (W.XT t).aD
 Xf: ∀s:Nat,1<=s->s<p.s->((Wi W.V s).st=2->(Wi W.V s).Xf=within W p.t.toNat s)/\((Wi W.V s).st=3->within W p.t.toNat s=1)/\((Wi W.V s).st<2->within W p.t.toNat s=0)
 adq: ∀s:Nat,1<=s->s<p.s->(Wi W.V s).st=3->∃t:Nat,t<p.t/\(W.XT t).busy=true/\(W.XT t).run.call.op=5/\17<=(W.XT t).run.Xj/\da (W.XT t).aD=s
 acg: ∀t:Nat,t<p.t->(W.XT t).busy=true->ZL p F W.V O VM (W.XT t)
 rg: ∀t:Nat,t<p.t->∀j,0<=(W.XT t).regs j/\(W.XT t).regs j<18446744073709551616
 ZS: ∀t:Nat,t<p.t->∀c,c∈(W.XT t).calls->cG c
theorem np{a e:Nat}{pre post:List Zr}{o:Zr}(h:ks a (pre++o::post) e):ks a pre o.at_/\ks (o.at_+o.z) post e:=by
 induction pre generalizing a with
 |nil=>obtain⟨rfl,h⟩:=h;exact⟨rfl,h⟩
 |cons x l aes=>obtain⟨rfl,h⟩:=h;have:=aes h;exact⟨⟨rfl,this.1⟩,this.2⟩
theorem tO{a e b:Nat}{pre post:List Zr}(h:ks a pre b)(k:ks b post e):ks a (pre++post) e:=by
 induction pre generalizing a with
 |nil=>obtain rfl:=h;exact k
 |cons x l aes=>obtain⟨rfl,h⟩:=h;exact⟨rfl,aes h⟩
section
variable{a e:Nat}{l:List Zr}(h:ks a l e)
include a e l h
theorem tP:a<=e:=by
 induction l generalizing a with
 |nil=>obtain rfl:=h;exact ai _
 |cons x l aes=>obtain⟨rfl,h⟩:=h;have:=aes h;omega
theorem kl{o:Zr}(ZQ:o∈l):a<=o.at_/\o.at_+o.z<=e:=by
 obtain⟨pre,post,rfl⟩:=List.append_of_mem ZQ;have:=np h;exact⟨tP this.1,tP this.2⟩
theorem nr(aeN: ∀o,o∈l->o.ok){o x:Zr}(ZQ:o∈l)(Wy:x∈l):o=x\/o.at_+o.z<=x.at_\/x.at_+x.z<=o.at_:=by
 induction l generalizing a with
 |nil=>cases ZQ
 |cons y l aes=>
  obtain⟨rfl,h⟩:=h;rcases List.mem_cons.1 ZQ with rfl|vz
  ·rcases List.mem_cons.1 Wy with rfl|jb
   ·exact .inl rfl
   ·exact .inr (.inl (kl h jb).1)
  ·rcases List.mem_cons.1 Wy with rfl|jb
   ·exact .inr (.inr (kl h vz).1)
   ·exact aes h (fun o ZQ=>aeN o (ao _ ZQ)) vz jb
end
theorem iQ(F:b1)(a b:List Zr):cO F (a++b)=cO F a++cO F b:=by simp[cO]
theorem jr(F:b1)(o:Zr)(b:List Zr):cO F (o::b)=(if fX F o=true then [8*(o.at_:Int)]else [])++cO F b:=by
 unfold cO;rw[List.filter_cons];split<;>simp
theorem tQ{F:b1}{L:List Zr}(h:cO F L≠ []): ∃pre o post,L=pre++o::post/\fX F o=true/\cO F post= []:=by
 induction L with
 |nil=>exact absurd rfl h
 |cons x l aes=>
  by_cases c:cO F l= []
  ·rw[jr,c,br]at h;by_cases d:fX F x=true
   ·exact⟨[],x,l,rfl,d,c⟩
   ·rw[Y d]at h;exact absurd rfl h
  ·obtain⟨pre,o,post,rfl,h1,aaV⟩:=aes c;exact⟨x::pre,o,post,rfl,h1,aaV⟩
theorem q8{F:b1}{pre post:List Zr}{o:Zr}(h1:fX F o=true)(aaV:cO F post= []):iK (cO F (pre++o::post))=8*(o.at_:Int)/\(cO F (pre++o::post)).dropLast=cO F pre:=by
 rw[iQ,jr,aaV,Z h1,br];simp[iK]
theorem hn(l:List bO)(e:bO):da (l++ [e])=e.s:=by simp[da]
section
variable{p:afy}{l:List bO}(h:lD p l)
include p l h
theorem lD.af(aeJ:a9 p):0<=da l/\da l<p.s/\reach l (da l):=by
 rcases ct l with rfl|⟨pre,e,rfl⟩
 ·have:=aeJ.s;exact⟨by simp[da],by simp[da];omega,.inl rfl⟩
 ·rw[cu]at*;have:=h.each pre e [] rfl;rw[hn];refine⟨this.1,this.2.1,?_⟩;cases c:e.c with
  |true=>exact .inr (List.mem_append_right _ (by obtain⟨s,d⟩:=e;simp_all))
  |false=>
   rcases this.2.2.2 c with h|h
   ·exact .inl h
   ·exact .inr (cB _ h)
theorem lD.Cl{s:Int}(abk:reach l s)(aeJ:a9 p):0<=s/\s<p.s:=by
 rcases abk with rfl|hm
 ·have:=aeJ.s;omega
 ·obtain⟨pre,post,rfl⟩:=List.append_of_mem hm;have:=h.each pre _ post rfl;exact⟨this.1,this.2.1⟩
theorem lD.push{e:bO}(YJ:l.length<6)(YM:0<=e.s)(h1:e.s<p.s)(aaV:e.c=true->1<=e.s)(ZV:e.c=false->reach l e.s):lD p (l++ [e]):=by
 refine⟨by simp;omega,fun pre x post V1=>?_⟩;rcases ct post with rfl|⟨q,y,rfl⟩
 ·have:=List.append_inj' V1 rfl;obtain⟨rfl,Ya⟩:=this;obtain rfl:e=x:=by simpa using Ya
  exact⟨YM,h1,aaV,ZV⟩
 ·rw[cu]at V1;have Rj:l++ [e]=(pre++x::q)++ [y]:=by rw[V1];simp
  obtain⟨Ya,afY⟩:=List.append_inj' Rj rfl;exact h.each pre x q Ya
end
theorem lD.pop{p:afy}{l:List bO}{e:bO}(h:lD p (l++ [e])):lD p l:=
 ⟨by have:=h.len;simp at this;omega,fun pre x post V1=>h.each pre x (post++ [e]) (by rw[V1];simp)⟩
end
section
structure hs(V V':Nat->Int)(O O':Nat->List Zr)(VM dk:Nat->Option Nat)(s:Nat):Prop where
 v: ∀j,j<5->V' (8*s+j)=V (8*s+j)
 o:O' s=O s
 z:dk s=VM s
structure rf(V V':Nat->Int)(O O':Nat->List Zr)(s:Nat):Prop where
 st:(Wi V s).st=2
 afB:(Wi V' s).afB=(Wi V s).afB
 bs:bs V' s=bs V s
 agh:agh V' s=agh V s
 o: ∀o,o∈O s->∃o',o'∈O' s/\o'.at_=o.at_/\o'.l=o.l
section
variable{V V':Nat->Int}{O O':Nat->List Zr}{VM dk:Nat->Option Nat}{s:Nat}(h:hs V V' O O' VM dk s)
include V V' O O' VM dk s h
theorem hs.Wi:Wi V' s=Wi V s:=by
 unfold Go.Proofs.YtcimojgkeoecfaaGreat.Wi;rw[show 8*s=8*s+0 from rfl,h.v 0 J]
theorem hs.w:V' (8*s)=V (8*s):=h.v 0 J
theorem hs.bs:bs V' s=bs V s:=h.v 1 J
theorem hs.agh:agh V' s=agh V s:=h.v 2 J
theorem hs.adh:adh V' s=adh V s:=h.v 3 J
end
theorem KB{V V':Nat->Int}{O O':Nat->List Zr}{VM dk:Nat->Option Nat}{s:Nat}(h:hs V V' O O' VM dk s\/rf V V' O O' s):
 (Wi V' s).afB=(Wi V s).afB/\bs V' s=bs V s/\agh V' s=agh V s/\∀o,o∈O s->∃o',o'∈O' s/\o'.at_=o.at_/\o'.l=o.l:=by
 rcases h with h|h
 ·exact⟨by rw[h.Wi],h.bs,h.agh,fun o ZQ=>⟨o,by rw[h.o];exact ZQ,rfl,rfl⟩⟩
 ·exact⟨h.afB,h.bs,h.agh,h.o⟩
theorem aeH.keep{F:b1}{V V':Nat->Int}{O:List Zr}{z:Option Nat}{s:Nat}{r:aax}(h:aeH F V O z s r)(hb:bs V' s=bs V s)(afq:adh V' s=adh V s):aeH F V' O z s r:=by
 cases h with
 |first a b c=>exact .first a b c
 |top a b c d e=>exact .top a b c (by rw[hb];exact d) (by rw[hb];exact e)
 |walk pre o post a b c d e f g=>exact .walk pre o post a b (by rw[hb];exact c) (by rw[hb,afq];exact d) e f g
 |fin pre o post a b c d e f g i j k=>exact .fin pre o post a b (by rw[hb];exact c) (by rw[hb,afq];exact d) e f g i j k
 |mark pre o post a b c d e f g i=>exact .mark pre o post a b (by rw[hb];exact c) (by rw[hb,afq];exact d) e f g i
 |rest a b c d e f=>exact .rest a b (by rw[hb];exact c) (by rw[hb,afq];exact d) e f
 |zero a b c d e f=>exact .zero a (by rw[hb,afq];exact b) (by rw[hb];exact c) d e f
 |last q a b c d=>exact .last q a b c (by rw[afq];exact d)
section
variable{p:afy}{F:b1}{V V':Nat->Int}{O O':Nat->List Zr}{VM dk:Nat->Option Nat}
include p F V V' O O' VM dk
theorem ad8.keep{l:List bO}{r:aax}(h:ad8 p F V O VM l r)(Xg:r.af=da l)(aaY:lD p l)(aeJ:a9 p)
 (YF: ∀s:Nat,s<p.s->reach l s->hs V V' O O' VM dk s\/rf V V' O O' s):ad8 p F V' O' dk l r:=by
 have ci:=aaY.af aeJ;rw[<-Xg]at ci;obtain⟨k,ae3⟩: ∃k:Nat,r.af=k:=⟨r.af.toNat,J⟩
 have XD:r.af.toNat=k:=J;have xf:hs V V' O O' VM dk k\/rf V V' O O' k:=YF k J (by rw[<-ae3];exact ci.2.2);have Ly: ∀s:Int,reach l s->(Wi V' s.toNat).afB=(Wi V s.toNat).afB/\∀o,o∈O s.toNat->∃o',o'∈O' s.toNat/\o'.at_=o.at_/\o'.l=o.l:=by
  intro s abk;have:=aaY.Cl abk aeJ;have h1:=KB (YF s.toNat J (by rw[show((s.toNat:Nat):Int)=s from J];exact abk));exact⟨h1.1,h1.2.2.2⟩
 cases h with
 |tell a b=>exact .tell a b
 |make a b=>exact .make a b
 |take a b c d e=>
  have h1:=KB xf;rw[<-XD]at h1;exact .take a b c d (by rw[h1.1,h1.2.1,h1.2.2.1];exact e)
 |enter a b c d=>exact .enter a b c d
 |nn a b c d=>exact .nn a b c d
 |drain a b c d e f=>
  rw[XD]at d e f;rcases xf with h|h
  ·refine .drain a b c ?_ ?_ ?_
   ·rw[XD,h.w];exact d
   ·rw[XD,h.Wi];exact e
   ·rw[XD,h.o,h.z];exact f.keep h.bs h.adh
  ·have:=h.st;omega
 |slot a b c d e=>
  have h1:=Ly _ d;refine .slot a b c d ?_;rcases e with e|⟨aal,e⟩
  ·exact .inl e
  ·refine .inr ⟨by rw[h1.1];exact aal,?_⟩;rcases e with e|⟨o,aaV,ZV,Ya,afY,XX,adH⟩
   ·exact .inl e
   ·obtain⟨o',Vy,adp,m4⟩:=h1.2 o aaV;refine .inr ⟨o',Vy,by rw[adp];exact ZV,Ya,by rw[m4];exact afY,XX,?_⟩;rcases adH with adH|adH|⟨adH,sb,Iq,tf,xg,EZ⟩
    ·exact .inl adH
    ·exact .inr (.inl adH)
    ·exact .inr (.inr ⟨adH,sb,Iq,tf,xg,fun q=>by rw[(Ly _ xg).1];exact EZ q⟩)
 |hI a b c d=>exact .hI a b c d
 |gate a b c d=>
  refine .gate a b c ?_;rcases d with d|⟨sb,Iq,tf,xg,EZ⟩
  ·exact .inl d
  ·exact .inr ⟨sb,Iq,tf,xg,fun q=>by rw[(Ly _ xg).1];exact EZ q⟩
theorem ZL.keep{t:eD}(h:ZL p F V O VM t)(aaY:lD p t.aD)(aeJ:a9 p)
 (YF: ∀s:Nat,s<p.s->reach t.aD s->hs V V' O O' VM dk s\/rf V V' O O' s):ZL p F V' O' dk t:=
 ⟨h.fin,h.bF,h.af,h.chain,h.hand,h.val,h.call,h.said,h.n,h.aC,h.kind.keep h.af aaY aeJ YF⟩
end
def gi(T:eD)(s:Nat):Prop:=T.busy=true/\T.run.call.op=5/\17<=T.run.Xj/\da T.aD=s
theorem eH{W W':Wd}{t T:Nat}(afq:t<T)(cq: ∀u,u≠t->W'.XT u=W.XT u)(s:Nat):
 within W' T s+fF s (W.XT t).aD=within W T s+fF s (W'.XT t).aD:=by
 have h:=r1 (f:=fun i=>fF s (W.XT i).aD) (v:=fF s (W'.XT t).aD) afq;have e:within W' T s=gE (put (fun i=>fF s (W.XT i).aD) t (fF s (W'.XT t).aD)) T:=by
  refine rZ fun i hi=>?_;by_cases c:i=t
  ·subst c;rw[aP]
  ·rw[aw _ _ c,cq i c]
 rw[e];exact h
theorem Inv.run{p:afy}{F:b1}{n:Nat}{W W':Wd}{O:Nat->List Zr}{VM:Nat->Option Nat}(h:Inv p F n W O VM){t:Nat}(afq:t<p.t)
 (Yg:W'.V=W.V)(m5:W'.fr=W.fr)(cq: ∀u,u≠t->W'.XT u=W.XT u)(eO:lD p (W'.XT t).aD)(pV: ∀s,fF s (W'.XT t).aD=fF s (W.XT t).aD)
 (Ak: ∀s,gi (W.XT t) s->gi (W'.XT t) s)(Al:(W'.XT t).busy=true->ZL p F W.V O VM (W'.XT t))
 (cT: ∀j,0<=(W'.XT t).regs j/\(W'.XT t).regs j<18446744073709551616)(fc: ∀c,c∈(W'.XT t).calls->cG c):Inv p F n W' O VM:=by
 have each: ∀(P:eD->Prop),P (W'.XT t)->∀u:Nat,u<p.t->P (W.XT u)->P (W'.XT u):=by
  intro P h1 u hu aaV;by_cases c:u=t
  ·subst c;exact h1
  ·rw[cq u c];exact aaV
 have afl: ∀s,within W' p.t.toNat s=within W p.t.toNat s:=by
  intro s;have:=eH (T:=p.t.toNat) (t:=t) J cq s;have:=pV s;omega
 refine⟨h.pl,h.abf,h.WK,by rw[Yg];exact h.Zt,by rw[Yg];exact h.YD,by rw[m5];exact h.fr,by rw[m5];exact h.fs,by rw[Yg,m5];exact h.fd,by rw[Yg];exact h.jd,by rw[Yg];exact h.qB,?_,?_,?_,?_,?_,?_⟩
 ·exact fun u hu=>each (fun T=>lD p T.aD) eO u hu (h.aaY u hu)
 ·intro s h1 aaV;rw[Yg,afl s];exact h.Xf s h1 aaV
 ·intro s h1 aaV ZV;rw[Yg]at ZV;obtain⟨u,hu,hd⟩:=h.adq s h1 aaV ZV;refine⟨u,hu,?_⟩;by_cases c:u=t
  ·subst c;exact Ak s hd
  ·rw[cq u c];exact hd
 ·intro u hu;rw[Yg];by_cases c:u=t
  ·subst c;exact Al
  ·rw[cq u c];exact h.acg u hu
 ·exact fun u hu=>each (fun T=> ∀j,0<=T.regs j/\T.regs j<18446744073709551616) cT u hu (h.rg u hu)
 ·exact fun u hu=>each (fun T=> ∀c,c∈T.calls->cG c) fc u hu (h.ZS u hu)
theorem Inv.upd{p:afy}{F:b1}{n:Nat}{W W':Wd}{O O':Nat->List Zr}{VM dk:Nat->Option Nat}(h:Inv p F n W O VM){t k:Nat}(afq:t<p.t)(ae3:k<p.s)
 (cq: ∀u,u≠t->W'.XT u=W.XT u)
 (hb: ∀s:Nat,s<p.s->s≠k->hs W.V W'.V O O' VM dk s)
 (ZQ: ∀s:Nat,s<p.s->s≠k->∀o,o∈O s->W'.V o.at_=W.V o.at_/\W'.V (o.at_+1)=W.V (o.at_+1))
 (xf:adK p n W'.V (O' k) (dk k) k)
 (OJ: ∀s:Nat,1<=s->s<p.s->s≠k->1<=k->(Wi W.V s).st≠0->(Wi W'.V k).st≠0->bs W'.V k+agh W'.V k<=bs W.V s\/bs W.V s+agh W.V s<=bs W'.V k)
 (m5: ∀x,x∈W'.fr->64*p.s+p.i<=x.a/\x.a %8=0/\8<=x.z/\x.z %8=0/\x.a+x.z<=8*n)
 (tT:W'.fr.Pairwise fun x y=>x.a+x.z<=y.a)
 (RP: ∀x,x∈W'.fr->∀s:Nat,1<=s->s<p.s->(Wi W'.V s).st≠0->x.a+x.z<=bs W'.V s\/bs W'.V s+agh W'.V s<=x.a)
 (yo: ∀k,0<=W'.V k/\W'.V k<18446744073709551616)
 (x0: ∀k,¬ku (W'.V k)->∃s:Nat,s<p.s/\∃o,o∈O' s/\o.at_=k)
 (eO:lD p (W'.XT t).aD)(pV: ∀s,s≠k->fF s (W'.XT t).aD=fF s (W.XT t).aD)
 (CA:1<=k->((Wi W'.V k).st=2->(Wi W'.V k).Xf=within W' p.t.toNat k)/\((Wi W'.V k).st=3->within W' p.t.toNat k=1)/\((Wi W'.V k).st<2->within W' p.t.toNat k=0))
 (Ak: ∀s,s≠k->gi (W.XT t) s->gi (W'.XT t) s)
 (E0:1<=k->(Wi W'.V k).st=3->gi (W'.XT t) k)
 (Al:(W'.XT t).busy=true->ZL p F W'.V O' dk (W'.XT t))
 (cx:(∀u:Nat,u<p.t->u≠t->¬reach (W.XT u).aD k)\/rf W.V W'.V O O' k)
 (cT: ∀j,0<=(W'.XT t).regs j/\(W'.XT t).regs j<18446744073709551616)(fc: ∀c,c∈(W'.XT t).calls->cG c):Inv p F n W' O' dk:=by
 have each: ∀(P:eD->Prop),P (W'.XT t)->∀u:Nat,u<p.t->P (W.XT u)->P (W'.XT u):=by
  intro P h1 u hu aaV;by_cases c:u=t
  ·subst c;exact h1
  ·rw[cq u c];exact aaV
 refine⟨h.pl,h.abf,h.WK,?_,?_,m5,tT,RP,yo,x0,?_,?_,?_,?_,?_,?_⟩
 ·intro s YF;by_cases c:s=k
  ·subst c;exact xf
  ·have e:=hb s YF c;have g:=h.Zt s YF;rw[e.o,e.z];have adg:=e.Wi;have aal:=e.bs;have abF:=e.agh;have acL:=e.adh;refine⟨by rw[e.w];exact g.ft,?_,?_,?_,?_,?_,?_,?_,by rw[adg,acL];exact g.idle⟩
   ·intro YM;subst YM;rw[adg,aal,abF];exact g.zero rfl
   ·rw[adg,aal,abF];exact g.ex
   ·rw[adg,abF,acL];exact g.q7
   ·intro o hm;have:=ZQ s YF c o hm;rw[this.1,this.2,adg];exact g.hd o hm
   ·rw[adg,aal,acL];exact g.abU
   ·rw[adg,aal,acL];exact g.ab6
   ·rw[adg];exact g.no
 ·intro s s' h1 aaV ZV Ya afY XX adH;by_cases c:s=k
  ·subst c;have e':=hb s' Ya (fun e=>afY e.symm);rw[e'.Wi]at adH;rw[e'.bs,e'.agh];exact OJ s' ZV Ya (fun e=>afY e.symm) h1 adH XX
  ·have e:=hb s aaV c;rw[e.Wi]at XX;rw[e.bs,e.agh];by_cases c':s'=k
   ·subst c';have:=OJ s h1 aaV c ZV XX adH;omega
   ·have e':=hb s' Ya c';rw[e'.Wi]at adH;rw[e'.bs,e'.agh];exact h.YD s s' h1 aaV ZV Ya afY XX adH
 ·exact fun u hu=>each (fun T=>lD p T.aD) eO u hu (h.aaY u hu)
 ·intro s h1 aaV;by_cases c:s=k
  ·subst c;exact CA h1
  ·have afl:=eH (T:=p.t.toNat) (t:=t) J cq s;have ZV:=pV s c;have e:within W' p.t.toNat s=within W p.t.toNat s:=J;rw[(hb s aaV c).Wi,e];exact h.Xf s h1 aaV
 ·intro s h1 aaV ZV;by_cases c:s=k
  ·subst c;exact⟨t,afq,E0 h1 ZV⟩
  ·rw[(hb s aaV c).Wi]at ZV;obtain⟨u,hu,hd⟩:=h.adq s h1 aaV ZV;refine⟨u,hu,?_⟩;by_cases adr:u=t
   ·subst adr;exact Ak s c hd
   ·rw[cq u adr];exact hd
 ·intro u hu h6;by_cases c:u=t
  ·subst c;exact Al h6
  ·rw[cq u c]at h6⊢;refine(h.acg u hu h6).keep (h.aaY u hu) h.pl fun s YF abk=>?_;by_cases adr:s=k
   ·subst adr;rcases cx with g|g
    ·exact absurd abk (g u hu c)
    ·exact .inr g
   ·exact .inl (hb s YF adr)
 ·exact fun u hu=>each (fun T=> ∀j,0<=T.regs j/\T.regs j<18446744073709551616) cT u hu (h.rg u hu)
 ·exact fun u hu=>each (fun T=> ∀c,c∈T.calls->cG c) fc u hu (h.ZS u hu)
end
section
structure Lz(p:afy)(V V':Nat->Int)(O O':Nat->List Zr)(VM dk:Nat->Option Nat):Prop where
 afB: ∀s:Nat,s<p.s->(Wi V' s).afB=(Wi V s).afB\/(Wi V' s).afB=((Wi V s).afB+1)%16777216/\(Wi V' s).st<2
 acP: ∀s:Nat,s<p.s->(Wi V' s).afB=(Wi V s).afB->2<=(Wi V s).st->2<=(Wi V' s).st/\
  (dk s=none->VM s=none/\∀o,o∈O s->∃o',o'∈O' s/\o'.at_=o.at_/\o'.z=o.z/\o'.l=o.l/\o'.t=o.t/\((Wi V' s).st=2->o'.d=o.d))
theorem Lz.refl(p:afy)(V:Nat->Int)(O:Nat->List Zr)(VM:Nat->Option Nat):Lz p V V O O VM VM:=
 ⟨fun s _=>.inl rfl,fun s _ _ h=>⟨h,fun z=>⟨z,fun o ZQ=>⟨o,ZQ,rfl,rfl,rfl,rfl,fun _=>rfl⟩⟩⟩⟩
def iU(F:b1)(O:Nat->List Zr)(S:Nat):Nat:=gE (fun s=>(cO F (O s)).length) S
def about(r:aax)(aD:List bO):Int:=
 if r.call.op=2 then r.aC.n else if r.call.op=3\/r.call.op=4\/r.call.op=11 then r.call.a
 else if r.call.op=5\/r.call.op=7 then da aD else if r.call.op=9 then VA r.hand else-1
def Touch(p:afy)(V V':Nat->Int)(r':aax)(aD:List bO):Prop:=
 ∀j:Nat,V' j≠V j->∃k:Nat,about r' aD=k/\k<p.s/\
  ((8*k<=j/\j<8*k+5)/\r'.call.op≠9\/¬(8*k<=j/\j<8*k+5)/\(r'.call.op=5\/r'.call.op=7\/r'.call.op=9)/\bs V k<=8*j/\8*(j:Int)<bs V k+agh V k)
theorem Touch.same(p:afy)(V:Nat->Int)(r':aax)(aD:List bO):Touch p V V r' aD:=fun j h=>absurd rfl h
def eY(T:eD)(r':aax):eD:=if r'.fin then bH {T with run:=r'}else {T with run:=r'}
def ez(F:b1)(r':aax):Nat:=if r'.fin=true/\r'.call.op=7/\r'.aC.code=0/\bY F r'.call.c.toNat≠ []then 1 else 0
structure sd(p:afy)(F:b1)(n:Nat)(W W':Wd)(O O':Nat->List Zr)(VM dk:Nat->Option Nat)(t:Nat)(r':aax):Prop where
 inv:Inv p F n W' O' dk
 OK:Lz p W.V W'.V O O' VM dk
 cnt:iU F O' p.s.toNat+r'.n.toNat<=iU F O p.s.toNat+(W.XT t).run.n.toNat+ez F r'
 Un:Touch p W.V W'.V r' (W.XT t).aD
structure acx(W W':Wd)(t:Nat)(r':aax):Prop where
 XT:W'.XT=put W.XT t (eY (W.XT t) r')
theorem acx.other{W W':Wd}{t:Nat}{r':aax}(h:acx W W' t r'): ∀u,u≠t->W'.XT u=W.XT u:=fun u hu=>by rw[h.XT,aw _ _ hu]
theorem acx.same{W W':Wd}{t:Nat}{r':aax}(h:acx W W' t r'):W'.XT t=eY (W.XT t) r':=by rw[h.XT,aP]
structure mC(r r':aax):Prop where
 call:r'.call=r.call
 af:r'.af=r.af
 chain:r'.chain=r.chain
 hand:r'.hand=r.hand
 val:r'.val=r.val
theorem quiet{p:afy}{F:b1}{n:Nat}{W W':Wd}{O:Nat->List Zr}{VM:Nat->Option Nat}(h:Inv p F n W O VM){t:Nat}(afq:t<p.t)(hb:(W.XT t).busy=true){r':aax}
 (Wy:acx W W' t r')(Yg:W'.V=W.V)(acA:W'.fr=W.fr)(c:mC (W.XT t).run r')(aal:r'.fin=false)(abF:r'.bF=false)(acL:r'.aC=(W.XT t).run.aC)
 (acS:r'.said.length<=8*r'.n+(if r'.Xj=20 then r'.op else if r'.Xj=21 then 8 else 0))(VF:r'.n=(W.XT t).run.n)(aao:r'.Xj<20->r'.n=0/\r'.op=0)
 (ac1:(W.XT t).run.call.op=5->17<=(W.XT t).run.Xj->17<=r'.Xj)(k:ad8 p F W.V O VM (W.XT t).aD r'):sd p F n W W' O O VM VM t r':=by
 have R:=h.acg t afq hb;have abi:eY (W.XT t) r'= {W.XT t with run:=r'}:=by unfold eY;rw[aal];rfl
 refine⟨?_,?_,?_,?_⟩
 ·refine h.run afq Yg acA Wy.other ?_ ?_ ?_ ?_ ?_ ?_
  ·rw[Wy.same,abi];exact h.aaY t afq
  ·intro s;rw[Wy.same,abi]
  ·intro s hd;rw[Wy.same,abi];exact⟨hb,by show r'.call.op=5;rw[c.call];exact hd.2.1,ac1 hd.2.1 hd.2.2.1,hd.2.2.2⟩
  ·intro _;rw[Wy.same,abi];exact⟨aal,abF,c.af.trans R.af,c.chain.trans R.chain,by show r'.hand=(W.XT t).regs r'.call.h.toNat;rw[c.hand,c.call];exact R.hand,by show r'.val=(W.XT t).regs r'.call.v.toNat;rw[c.val,c.call];exact R.val,
    by show cG r'.call;rw[c.call];exact R.call,acS,⟨by show 0<=r'.n;rw[VF];exact R.n.1,aao⟩,by show r'.aC.n=0/\_;rw[acL];exact R.aC,k⟩
  ·rw[Wy.same,abi];exact h.rg t afq
  ·rw[Wy.same,abi];exact h.ZS t afq
 ·rw[Yg];exact .refl _ _ _ _
 ·rw[VF];omega
 ·rw[Yg];exact .same _ _ _ _
theorem eA(t:eD):(bH t).busy=false:=by unfold bH;(repeat' split)<;>rfl
theorem es(t:eD):(bH t).calls=t.calls:=by unfold bH;(repeat' split)<;>rfl
theorem fj{t:eD}(h: ∀j,0<=t.regs j/\t.regs j<18446744073709551616): ∀j,0<=(bH t).regs j/\(bH t).regs j<18446744073709551616:=by
 unfold bH
 (repeat' split)<;>try exact h
 all_goals
  intro j;show 0<=put _ _ _ j/\put _ _ _ j<_;unfold put;split
  ·unfold af8;omega
  ·exact h j
theorem iV(t:eD)(Ya:t.run.aC.code=0->t.run.call.op≠4/\t.run.call.op≠5/\t.run.call.op≠6):(bH t).aD=t.aD:=by
 unfold bH
 (repeat' split)<;>first|rfl|(exfalso;simp_all)
section
variable{p:afy}{F:b1}{n:Nat}{W W':Wd}{O:Nat->List Zr}{VM:Nat->Option Nat}(h:Inv p F n W O VM){t:Nat}(afq:t<p.t)(hb:(W.XT t).busy=true){r':aax}(Wy:acx W W' t r')(Yg:W'.V=W.V)(acA:W'.fr=W.fr)(aal:r'.fin=true)(VF:r'.n=(W.XT t).run.n)(ac1: ¬((W.XT t).run.call.op=5/\17<=(W.XT t).run.Xj))
include p F n W W' O VM h t afq hb r' Wy Yg acA aal VF ac1
theorem told
 (V1:lD p (bH {W.XT t with run:=r'}).aD)(XP: ∀s,fF s (bH {W.XT t with run:=r'}).aD=fF s (W.XT t).aD):sd p F n W W' O O VM VM t r':=by
 have abi:eY (W.XT t) r'=bH {W.XT t with run:=r'}:=by unfold eY;rw[aal];rfl
 refine⟨?_,?_,?_,?_⟩
 ·refine h.run afq Yg acA Wy.other ?_ ?_ ?_ ?_ ?_ ?_
  ·rw[Wy.same,abi];exact V1
  ·intro s;rw[Wy.same,abi];exact XP s
  ·intro s hd;exact absurd ⟨hd.2.1,hd.2.2.1⟩ ac1
  ·intro h6;rw[Wy.same,abi,eA]at h6;cases h6
  ·rw[Wy.same,abi];exact fj (h.rg t afq)
  ·rw[Wy.same,abi,es];exact h.ZS t afq
 ·rw[Yg];exact .refl _ _ _ _
 ·rw[VF];omega
 ·rw[Yg];exact .same _ _ _ _
theorem gu
 (V1:r'.aC.code=0->r'.call.op≠4/\r'.call.op≠5/\r'.call.op≠6):sd p F n W W' O O VM VM t r':=by
 have e:=iV {W.XT t with run:=r'} V1;exact told h afq hb Wy Yg acA aal VF ac1 (by rw[e];exact h.aaY t afq) (by intro s;rw[e])
end
section
variable{p:afy}{F:b1}{n:Nat}{W:Wd}{O:Nat->List Zr}{VM:Nat->Option Nat}(h:Inv p F n W O VM)
include p F n W O VM h
theorem Inv.eb{s:Nat}(YF:s<p.s)(YM:(Wi W.V s).st≠0):
 64*p.s<=bs W.V s/\bs W.V s %8=0/\0<=agh W.V s/\agh W.V s %8=0/\bs W.V s+agh W.V s<=8*n/\(1<=s->64*p.s+p.i<=bs W.V s)/\0<=adh W.V s/\adh W.V s<=agh W.V s/\adh W.V s %8=0:=by
 have g:=h.Zt s YF;have aeJ:=h.pl.s;have hi:=h.pl.i;have acu:=h.pl.h;have abi:=h.abf;have:=g.q7 YM;rcases aQ s with rfl|h1
 ·have:=(g.zero rfl).2;omega
 ·have:=g.ex h1 YM;omega
theorem Inv.BL{s k:Nat}(YF:s<p.s)(ae3:k<p.s)(abi:s≠k)(YM:(Wi W.V s).st≠0)(h1:(Wi W.V k).st≠0):
 bs W.V s+agh W.V s<=bs W.V k\/bs W.V k+agh W.V k<=bs W.V s:=by
 rcases aQ s with rfl|lW
 ·have:=((h.Zt 0 YF).zero rfl).2;have:=h.eb ae3 h1;omega
 ·rcases aQ k with rfl|aX
  ·have:=((h.Zt 0 ae3).zero rfl).2;have:=h.eb YF YM;omega
  ·exact h.YD s k lW YF aX ae3 abi YM h1
theorem Inv.ht{s:Nat}(YF:s<p.s){o:Zr}(ZQ:o∈O s):
 (Wi W.V s).st≠0/\2<=(Wi W.V s).st/\bs W.V s<=8*o.at_/\8*(o.at_:Int)+16<=bs W.V s+adh W.V s/\(VM s=none->8*((o.at_:Int)+o.z)<=bs W.V s+adh W.V s):=by
 have g:=h.Zt s YF;have cx:=g.ft.ok.st;have aaV:2<=(Wi W.V s).st:=by
  by_cases c:(Wi W.V s).st<2
  ·rw[(g.no.1 c).1]at ZQ;cases ZQ
  ·omega
 have YM:(Wi W.V s).st≠0:=J;have hb:=h.eb YF YM;have lh:=(g.hd o ZQ).1;unfold Zr.ok at lh;cases aeN:VM s with
 |none=>
  have:=kl (g.abU aaV aeN) ZQ;exact⟨YM,aaV,J,J,fun _=>J⟩
 |some q=>
  have:=(g.ab6 q aeN).2.2 o ZQ;exact⟨YM,aaV,this.2.1,this.2.2,fun e=>by cases e⟩
end
section
variable{p:afy}{F:b1}{n:Nat}
include p F n
theorem Inv.loc{W W':Wd}{O O':Nat->List Zr}{VM dk:Nat->Option Nat}(h:Inv p F n W O VM){t k:Nat}(afq:t<p.t)(ae3:k<p.s)
 (YM:(Wi W.V k).st≠0)
 (Yg: ∀j,W'.V j≠W.V j->(j=8*k\/j=8*k+3\/j=8*k+4)\/bs W.V k<=8*j/\8*(j:Int)<bs W.V k+agh W.V k)
 (m5:W'.fr=W.fr)(cq: ∀u,u≠t->W'.XT u=W.XT u)(aaH: ∀s,s≠k->O' s=O s)(aeN: ∀s,s≠k->dk s=VM s)
 (ft:okW (W'.V (8*k)))(Uo:(Wi W'.V k).st≠0)(zero:k=0->Wi W'.V 0=⟨2,1,-1,0⟩)
 (q7:0<=adh W'.V k/\adh W'.V k<=agh W.V k/\adh W'.V k %8=0)
 (hd: ∀o,o∈O' k->o.ok/\W'.V o.at_=o.w/\W'.V (o.at_+1)=k+256*(Wi W'.V k).afB)
 (abU:2<=(Wi W'.V k).st->dk k=none->ks (bs W.V k/8).toNat (O' k) ((bs W.V k+adh W'.V k)/8).toNat)
 (ab6: ∀q,dk k=some q->1<=k/\(Wi W'.V k).st=3/\∀o,o∈O' k->q<=o.at_/\bs W.V k<=8*o.at_/\8*(o.at_:Int)+16<=bs W.V k+adh W'.V k)
 (no:((Wi W'.V k).st<2->O' k= []/\dk k=none)/\((Wi W'.V k).st=2->dk k=none))
 (idle:(Wi W'.V k).st=1->adh W'.V k=0)
 (yo: ∀k,0<=W'.V k/\W'.V k<18446744073709551616)
 (x0: ∀k,¬ku (W'.V k)->∃s:Nat,s<p.s/\∃o,o∈O' s/\o.at_=k)
 (eO:lD p (W'.XT t).aD)(pV: ∀s,s≠k->fF s (W'.XT t).aD=fF s (W.XT t).aD)
 (CA:1<=k->((Wi W'.V k).st=2->(Wi W'.V k).Xf=within W' p.t.toNat k)/\((Wi W'.V k).st=3->within W' p.t.toNat k=1)/\((Wi W'.V k).st<2->within W' p.t.toNat k=0))
 (Ak: ∀s,s≠k->gi (W.XT t) s->gi (W'.XT t) s)
 (E0:1<=k->(Wi W'.V k).st=3->gi (W'.XT t) k)
 (Al:bs W'.V k=bs W.V k->agh W'.V k=agh W.V k->(W'.XT t).busy=true->ZL p F W'.V O' dk (W'.XT t))
 (cx:(∀u:Nat,u<p.t->u≠t->¬reach (W.XT u).aD k)\/(Wi W.V k).st=2/\(Wi W'.V k).afB=(Wi W.V k).afB/\∀o,o∈O k->∃o',o'∈O' k/\o'.at_=o.at_/\o'.l=o.l)
 (cT: ∀j,0<=(W'.XT t).regs j/\(W'.XT t).regs j<18446744073709551616)(fc: ∀c,c∈(W'.XT t).calls->cG c):Inv p F n W' O' dk:=by
 have Up:=h.eb ae3 YM;have keep: ∀j:Nat,j≠8*k->j≠8*k+3->j≠8*k+4->(8*(j:Int)<bs W.V k\/bs W.V k+agh W.V k<=8*j)->W'.V j=W.V j:=by
  intro j h1 aaV ZV Ya;apply Classical.byContradiction;intro bo;rcases Yg j bo with h|h<;>omega
 have W2:bs W'.V k=bs W.V k:=keep _ J J J (.inl J);have acb:agh W'.V k=agh W.V k:=keep _ J J J (.inl J);refine h.upd afq ae3 cq ?_ ?_ ?_ ?_ ?_ ?_ ?_ yo x0 eO pV CA Ak E0 (Al W2 acb) ?_ cT fc
 ·intro s YF abi;exact⟨fun j aeD=>keep _ J J J (.inl J),aaH s abi,aeN s abi⟩
 ·intro s YF abi o ZQ;have h1:=h.ht YF ZQ;have aaV:=h.BL YF ae3 abi h1.1 YM;have ZV:=h.eb YF h1.1;exact⟨keep _ J J J J,keep _ J J J J⟩
 ·have g:=h.Zt k ae3;refine⟨ft,fun e=>⟨zero e,?_⟩,fun h1 _=>by rw[W2,acb];exact g.ex h1 YM,fun _=>by rw[acb];exact q7,hd,by rw[W2];exact abU,by rw[W2];exact ab6,no,idle⟩;subst e;rw[W2,acb];exact(g.zero rfl).2
 ·intro s h1 YF abi aX aaV _;rw[W2,acb];exact h.YD k s aX ae3 h1 YF (fun e=>abi e.symm) YM aaV
 ·rw[m5];exact h.fr
 ·rw[m5];exact h.fs
 ·rw[m5];intro x Wy s h1 YF aaV;by_cases c:s=k
  ·subst c;rw[W2,acb];exact h.fd x Wy s h1 YF YM
  ·have aal:W'.V (8*s)=W.V (8*s):=keep _ J J J (.inl J);have abF:bs W'.V s=bs W.V s:=keep _ J J J (.inl J);have acL:agh W'.V s=agh W.V s:=keep _ J J J (.inl J);have acS:Wi W'.V s=Wi W.V s:=by unfold Wi;rw[aal]
   rw[acS]at aaV;rw[abF,acL];exact h.fd x Wy s h1 YF aaV
 ·rcases cx with g|g
  ·exact .inl g
  ·exact .inr ⟨g.1,g.2.1,W2,acb,g.2.2⟩
section
variable{W:Wd}{O:Nat->List Zr}{VM:Nat->Option Nat}(h:Inv p F n W O VM){t s:Nat}(afq:t<p.t)(YF:s<p.s)
include W O VM h t s afq YF
theorem Inv.live(abk:reach (W.XT t).aD s)(hd: ¬gi (W.XT t) s):(Wi W.V s).st=2:=by
 rcases aQ s with rfl|h1
 ·rw[((h.Zt 0 YF).zero rfl).1]
 ·have hm:(⟨s,true⟩:bO)∈(W.XT t).aD:=by
   rcases abk with e|e
   ·omega
   ·exact e
  have XP:=jq hm;have vF:fF s (W.XT t).aD<=within W p.t.toNat s:=nm (f:=fun i=>fF s (W.XT i).aD) J;have pV:=h.Xf s h1 YF;have cx:=(h.Zt s YF).ft.ok.st;have T4:0<=(Wi W.V s).st/\(Wi W.V s).st<=3:=cx;by_cases c:(Wi W.V s).st=3
  ·exfalso;obtain⟨u,hu,aaV⟩:=h.adq s h1 YF c;by_cases e:u=t
   ·subst e;exact hd aaV
   ·have gS:(⟨s,true⟩:bO)∈(W.XT u).aD:=by
     have R:=(h.acg u hu aaV.1).kind;have Xg:=(h.acg u hu aaV.1).af;cases R with
     |drain a b c d e f=>
      obtain⟨pre,abF⟩:=b;rw[Xg,aaV.2.2.2]at abF;rw[abF];simp
     |tell a b=>have:=aaV.2.2.1;omega
     |make a b=>have:=aaV.2.2.1;omega
     |take a b c d e=>have:=aaV.2.1;omega
     |enter a b c d=>have:=aaV.2.1;omega
     |nn a b c d=>have:=aaV.2.2.1;omega
     |slot a b c d e=>have:=aaV.2.1;omega
     |hI a b c d=>have:=aaV.2.1;omega
     |gate a b c d=>have:=aaV.2.1;omega
    have RQ:=jq gS;have:=r0 (f:=fun i=>fF s (W.XT i).aD) (m:=p.t.toNat) (i:=t) (j:=u) J J (fun abF=>e abF.symm);have:=pV.2.1 c;unfold within at this;omega
  ·have:=pV.2.2;omega
theorem Inv.alone(h1:1<=s)(cx:(Wi W.V s).st=3)(hm:(⟨s,true⟩:bO)∈(W.XT t).aD):
 (∀u:Nat,u<p.t->u≠t->¬reach (W.XT u).aD s)/\fF s (W.XT t).aD=1:=by
 have XP:=jq hm;have afl:=(h.Xf s h1 YF).2.1 cx;unfold within at afl;refine⟨fun u hu abi abk=>?_,?_⟩
 ·have gS:(⟨s,true⟩:bO)∈(W.XT u).aD:=by
   rcases abk with e|e
   ·omega
   ·exact e
  have RQ:=jq gS;have:=r0 (f:=fun i=>fF s (W.XT i).aD) (m:=p.t.toNat) (i:=t) (j:=u) J J (fun abF=>abi abF.symm);omega
 ·have:=nm (f:=fun i=>fF s (W.XT i).aD) (m:=p.t.toNat) (i:=t) J;omega
end
end
end
section
theorem nH{G:Prop}(h:G:=by
 have hm:(⟨k,true⟩:bO)∈(W.XT u).aD:=by
  rcases abk with e|e
  ·omega
  ·exact e
 have:=jq hm;have:=nm (f:=fun i=>fF k (W.XT i).aD) (m:=p.t.toNat) (i:=u) (by omega);unfold within at aeN;omega):G:=h
theorem nI{G:Prop}(h:G:=by
 rw[e]at YF;exact h.run afq Yg m5 ZQ (by rw[YF];exact h.aaY t afq) (by intro s;rw[YF]) (by intro s;rw[YF];exact id) (by rw[YF];exact h.acg t afq) (by rw[YF];exact h.rg t afq) (by rw[YF];exact h.ZS t afq)):G:=h
theorem pP{p:afy}{l:List bO}{h:Int}(e:check p l h=0):dr h/\VA h<p.s/\reach l (VA h):=by
 unfold check at e;by_cases c: ¬dr h\/p.s<=VA h
 ·rw[Z c]at e;omega
 ·rw[Y c]at e;by_cases d:reach l (VA h)
  ·have adr:dr h:=Classical.byContradiction fun x=>c (.inl x);exact⟨adr,J,d⟩
  ·rw[Y d]at e;omega
theorem yp{p:afy}(F:b1)(V:Nat->Int)(O:Nat->List Zr)(VM:Nat->Option Nat){l:List bO}{regs:Nat->Int}{c:dM}(XP:cG c)(aaY:lD p l)(aeJ:a9 p):ad8 p F V O VM l (begun p regs l c):=by
 by_cases q:b2 p l c (regs c.h.toNat) (regs c.v.toNat)=0
 case neg=>
  refine .tell ?_ ?_
  ·show(if b2 p l c (regs c.h.toNat) (regs c.v.toNat)=0 then _ else(0:Int))=0;rw[Y q]
  ·intro h;exact absurd h q
 have a5:(begun p regs l c).Xj=jo l c (regs c.v.toNat):=by
  show(if b2 p l c (regs c.h.toNat) (regs c.v.toNat)=0 then _ else(0:Int))=_;rw[Z q]
 have ZQ:=XP.op;rcases(by omega:c.op=0\/c.op=1\/c.op=2\/c.op=3\/c.op=4\/c.op=5\/c.op=6\/c.op=7\/c.op=8\/c.op=9\/c.op=10\/c.op=11)with h|h|h|h|h|h|h|h|h|h|h|h
 ·exact .tell (by rw[a5];unfold jo;simp[h]) fun _=>.inl h
 ·exact .tell (by rw[a5];unfold jo;simp[h]) fun _=>.inr (.inl h)
 ·refine .make (by rw[a5];unfold jo;simp[h]) (.inl ?_);unfold b2 at q;simp only[h,if_true]at q;exact⟨h,by show 1<=c.a/\c.a<=8192;by_cases e:1<=c.a/\c.a<=8192;(·exact e);(·rw[Y e]at q;omega)⟩
 ·refine .make (by rw[a5];unfold jo;simp[h]) (.inr ?_);unfold b2 at q;simp only[h,if_true,if_false,Int.reduceEq]at q;exact⟨h,by show 1<=c.a/\c.a<p.s;by_cases e:1<=c.a/\c.a<p.s;(·exact e);(·rw[Y e]at q;omega)⟩
 ·unfold b2 at q;simp only[h,if_true,if_false,Int.reduceEq]at q;by_cases e:1<=c.a/\c.a<p.s
  ·rw[Z e]at q;by_cases abF:l.length<6
   ·exact .enter h e abF (.inl (by rw[a5];unfold jo;simp[h]))
   ·rw[Y abF]at q;omega
  ·rw[Y e]at q;omega
 ·unfold b2 at q;simp only[h,if_true,if_false,Int.reduceEq]at q;rcases ct l with rfl|⟨pre,e,rfl⟩
  ·simp at q
  ·rw[cu]at*;obtain⟨s,d⟩:=e;cases d with
   |true=>
    refine .nn h ⟨pre,?_⟩ rfl (.inl ?_)
    ·show pre++ [_]=pre++ [⟨da (pre++ [_]),true⟩];rw[hn]
    ·rw[a5];unfold jo;simp[h]
   |false=>
    refine .tell ?_ fun _=>.inr (.inr (.inr ⟨h,pre,s,rfl⟩));rw[a5];unfold jo;simp[h]
 ·unfold b2 at q;simp only[h,if_true,if_false,Int.reduceEq]at q;by_cases e:0<=c.a/\c.a<p.s
  ·rw[Z e]at q;by_cases abF:reach l c.a
   ·rw[Z abF]at q;by_cases acL:l.length<6
    ·exact .tell (by rw[a5];unfold jo;simp[h]) fun _=>.inr (.inr (.inl ⟨h,e.1,e.2,abF,acL⟩))
    ·rw[Y acL]at q;omega
   ·rw[Y abF]at q;omega
  ·rw[Y e]at q;omega
 ·unfold b2 at q;simp only[h,if_true,if_false,Int.reduceEq]at q;by_cases e:(0<=c.a/\c.a<=6)/\0<=c.b/\c.b<=512
  ·exact .take h e.1 e.2 XP.c (.inl (by rw[a5];unfold jo;simp[h]))
  ·rw[Y e]at q;omega
 ·unfold b2 at q;simp[h]at q;have:=pP q;exact .slot (.inl h) this.1 this.2.1 this.2.2 (.inl (by rw[a5];unfold jo;simp[h]))
 ·unfold b2 at q;simp[h]at q;have:=pP q;exact .slot (.inr h) this.1 this.2.1 this.2.2 (.inl (by rw[a5];unfold jo;simp[h]))
 ·unfold b2 at q;simp only[h,if_true,if_false,Int.reduceEq,or_self]at q;by_cases e:1<=c.a/\c.a<p.s
  ·rw[Z e]at q;by_cases abF:reach l c.a
   ·exact .hI h (by rw[a5];unfold jo;simp[h]) e abF
   ·rw[Y abF]at q;omega
  ·rw[Y e]at q;omega
 ·unfold b2 at q;simp only[h,if_true,if_false,Int.reduceEq,or_self]at q;by_cases e:1<=c.a/\c.a<p.s
  ·rw[Z e]at q;by_cases abF:reach l c.a
   ·rw[Z abF]at q;by_cases acL:regs c.v.toNat=0
    ·exact .gate h e abF (.inl ⟨by rw[a5];unfold jo;simp[h,acL],by show ku (regs c.v.toNat);rw[acL];unfold ku;decide⟩)
    ·rw[Y acL]at q;have:=pP q;have OL:(begun p regs l c).Xj=7:=by rw[a5];unfold jo;simp[h,acL]
     exact .gate h e abF (.inr ⟨.inl OL,this.1,this.2.1,this.2.2,fun x=>by rw[OL]at x;omega⟩)
   ·rw[Y abF]at q;omega
  ·rw[Y e]at q;omega
theorem CB{p:afy}{l:List bO}{regs:Nat->Int}{c:dM}(XP:cG c):(begun p regs l c).Xj<17:=by
 show(if _ then jo l c (regs c.v.toNat)else 0)<(17:Int);split
 ·unfold jo
  (repeat' split)<;>omega
 ·omega
theorem Inv.begun{p:afy}{F:b1}{n:Nat}{W W':Wd}{O:Nat->List Zr}{VM:Nat->Option Nat}(h:Inv p F n W O VM){t m:Nat}(afq:t<p.t)(Yg:W'.V=W.V)(m5:W'.fr=W.fr)(cq:W'.XT=put W.XT t (bd p (W.XT t) m)):Inv p F n W' O VM:=by
 have YF:W'.XT t=bd p (W.XT t) m:=by rw[cq,aP]
 have ZQ: ∀u,u≠t->W'.XT u=W.XT u:=fun u hu=>by rw[cq,aw _ _ hu]
 by_cases hb:(W.XT t).busy=true
 ·have e:bd p (W.XT t) m=W.XT t:=by unfold bd;rw[hb];rfl
  exact nI
 ·have kr:(W.XT t).busy=false:=by simpa using hb
  have RR: ∀s,gi (W.XT t) s->False:=fun s hd=>hb hd.1;cases XP:(W.XT t).calls with
  |nil=>
   have e:bd p (W.XT t) m=W.XT t:=by unfold bd;rw[kr,XP];rfl
   exact nI
  |cons c l=>
   have e:bd p (W.XT t) m= {W.XT t with calls:=l,run:=Go.Proofs.YtcimojgkeoecfaaGreat.begun p (W.XT t).regs (W.XT t).aD c,busy:=true,at_:=m}:=by unfold bd;rw[kr,XP];rfl
   rw[e]at YF;have fc:=h.ZS t afq;rw[XP]at fc;have ke:=fc c (a8 ..);have a5:=CB (p:=p) (l:=(W.XT t).aD) (regs:=(W.XT t).regs) ke;refine h.run afq Yg m5 ZQ (by rw[YF];exact h.aaY t afq) (by intro s;rw[YF]) (fun s hd=>(RR s hd).elim) (fun _=>?_) (by rw[YF];exact h.rg t afq) (by rw[YF];exact fun x Wy=>fc x (ao _ Wy));rw[YF];have dJ:(((Go.Proofs.YtcimojgkeoecfaaGreat.begun p (W.XT t).regs (W.XT t).aD c).said.length:Nat):Int)<=8*0+(if(Go.Proofs.YtcimojgkeoecfaaGreat.begun p (W.XT t).regs (W.XT t).aD c).Xj=20 then 0 else if(Go.Proofs.YtcimojgkeoecfaaGreat.begun p (W.XT t).regs (W.XT t).aD c).Xj=21 then 8 else 0):=by
    show((0:Nat):Int)<=_;rw[aB,aB];decide
   exact⟨rfl,rfl,rfl,rfl,rfl,rfl,ke,dJ,⟨Int.le_refl 0,fun _=>⟨rfl,rfl⟩⟩,⟨rfl,rfl⟩,yp F W.V O VM ke (h.aaY t afq) h.pl⟩
structure mD(p:afy)(F:b1)(n:Nat)(W W':Wd)(O:Nat->List Zr)(VM:Nat->Option Nat)(t:Nat):Prop where
 inv:Inv p F n W O VM
 lt:t<p.t
 busy:(W.XT t).busy=true
 V:W'.V=(one p F n W.V W.fr (W.XT t).run).1
 fr:W'.fr=(one p F n W.V W.fr (W.XT t).run).2.1
 acD:acx W W' t (one p F n W.V W.fr (W.XT t).run).2.2
abbrev dm(p:afy)(F:b1)(n:Nat)(W W':Wd)(O:Nat->List Zr)(VM:Nat->Option Nat)(t:Nat):Prop:=
 ∃O' dk,sd p F n W W' O O' VM dk t (one p F n W.V W.fr (W.XT t).run).2.2
theorem hw(s:Nat)(l:List bO)(e:bO):fF s (l++ [e])=fF s l+(if e=⟨s,true⟩then 1 else 0):=by
 unfold fF;rw[List.count_append];by_cases h:e=⟨s,true⟩
 ·rw[Z h,h];simp
 ·rw[Y h];simp[List.count_singleton,h]
section
variable{p:afy}{F:b1}{n:Nat}{W W':Wd}{O:Nat->List Zr}{VM:Nat->Option Nat}{t:Nat}
section
variable(S:mD p F n W W' O VM t)
include S
theorem mD.fU(h:(W.XT t).run.Xj<17\/(W.XT t).run.call.op≠5)(s:Nat): ¬gi (W.XT t) s:=by
 intro d;rcases h with h|h
 ·have:=d.2.2.1;omega
 ·exact h d.2.1
theorem CC(YM:(W.XT t).run.Xj=0)
 (ae3:(W.XT t).run.aC.code=0->(W.XT t).run.call.op=0\/(W.XT t).run.call.op=1\/(W.XT t).run.call.op=6/\0<=(W.XT t).run.call.a/\(W.XT t).run.call.a<p.s/\reach (W.XT t).aD (W.XT t).run.call.a/\(W.XT t).aD.length<6\/(W.XT t).run.call.op=5/\∃pre s,(W.XT t).aD=pre++ [⟨s,false⟩]):dm p F n W W' O VM t:=by
 have e:one p F n W.V W.fr (W.XT t).run=(W.V,W.fr,tell (W.XT t).run (W.XT t).run.aC.code 0):=by unfold one;rw[Z YM]
 have Yg:=S.V;have acA:=S.fr;have Wy:=S.acD;refine⟨O,VM,?_⟩;rw[e]at Yg acA Wy⊢;have aaY:=S.inv.aaY t S.lt;by_cases XP:(W.XT t).run.aC.code=0
 case neg=>exact gu S.inv S.lt S.busy Wy Yg acA rfl rfl J (fun h=>absurd h XP)
 rcases ae3 XP with h|h|⟨h,h1,aaV,ZV,Ya⟩|⟨h,pre,s,h1⟩
 ·exact gu S.inv S.lt S.busy Wy Yg acA rfl rfl J (fun _=>⟨by show(W.XT t).run.call.op≠4;omega,by show(W.XT t).run.call.op≠5;omega,by show(W.XT t).run.call.op≠6;omega⟩)
 ·exact gu S.inv S.lt S.busy Wy Yg acA rfl rfl J (fun _=>⟨by show(W.XT t).run.call.op≠4;omega,by show(W.XT t).run.call.op≠5;omega,by show(W.XT t).run.call.op≠6;omega⟩)
 ·have adI:(bH {W.XT t with run:=tell (W.XT t).run (W.XT t).run.aC.code 0}).aD=(W.XT t).aD++ [⟨(W.XT t).run.call.a,false⟩]:=by
   unfold bH;simp[tell,XP,h]
  refine told S.inv S.lt S.busy Wy Yg acA rfl rfl J ?_ ?_
  ·rw[adI];exact aaY.push Ya h1 aaV aN (fun _=>ZV)
  ·intro s;rw[adI,hw,Y aN];rfl
 ·have adI:(bH {W.XT t with run:=tell (W.XT t).run (W.XT t).run.aC.code 0}).aD=pre:=by
   unfold bH;simp[tell,XP,h,h1]
  refine told S.inv S.lt S.busy Wy Yg acA rfl rfl J ?_ ?_
  ·rw[adI];rw[h1]at aaY;exact aaY.pop
  ·intro s;rw[adI,h1,hw,Y aN];rfl
theorem Am(Ya:(W.XT t).run.call.op=4)(Xg:1<=(W.XT t).run.call.a/\(W.XT t).run.call.a<p.s)(YJ:(W.XT t).aD.length<6)
 (ae3:(W.XT t).run.Xj=13\/(W.XT t).run.Xj=14/\okW (W.XT t).run.word/\(ca (up (W.XT t).run.word) (W.XT t).run.af).2=0/\(W.XT t).run.next=afa (ca (up (W.XT t).run.word) (W.XT t).run.af).1):dm p F n W W' O VM t:=by
 have R:=S.inv.acg t S.lt S.busy;have e:one p F n W.V W.fr (W.XT t).run=((dR W.V (W.XT t).run).1,W.fr,(dR W.V (W.XT t).run).2):=by
  unfold one;rw[aB,aB,aB,Z Ya]
 have Yg:=S.V;have acA:=S.fr;have Wy:=S.acD;have aeJ:=S.inv.pl;have fb:=aeJ.s;obtain⟨k,XD⟩: ∃k:Nat,(W.XT t).run.call.a=k:=⟨(W.XT t).run.call.a.toNat,J⟩
 have jf:(W.XT t).run.call.a.toNat=k:=J;have bW:(k:Int)<p.s:=J;have aX:1<=k:=J;have aaY:=S.inv.aaY t S.lt;have ci:=aaY.af aeJ;rw[<-R.af]at ci;have gk:=S.inv.Zt k bW;have eN:=R.n.2 J;have dJ:=R.said;rw[aB,aB]at dJ;unfold dm;rw[e]at Yg acA Wy⊢;rcases ae3 with tf|⟨xg,afl,XP,abi⟩
 ·refine⟨O,VM,?_⟩;unfold dR at Yg Wy⊢;rw[Z tf,jf]at Yg Wy⊢;by_cases WJ:(ca (Wi W.V k) (W.XT t).run.af).2=10
  ·rw[Z WJ]at Yg Wy⊢;exact quiet S.inv S.lt S.busy Wy Yg acA ⟨rfl,rfl,rfl,rfl,rfl⟩ R.fin R.bF rfl R.said rfl R.n.2 (fun _ h=>h) R.kind
  ·rw[Y WJ]at Yg Wy⊢;by_cases adr:(ca (Wi W.V k) (W.XT t).run.af).2=0
   ·rw[Z adr]at Yg Wy⊢;refine quiet S.inv S.lt S.busy Wy Yg acA ⟨rfl,rfl,rfl,rfl,rfl⟩ R.fin R.bF rfl (by simpa using dJ) rfl (fun _=>eN) (fun _ h=>J) (.enter Ya Xg YJ (.inr ⟨rfl,?_,?_,?_⟩))
    ·exact gk.ft
    ·exact adr
    ·rfl
   ·rw[Y adr]at Yg Wy⊢;exact gu S.inv S.lt S.busy Wy Yg acA rfl rfl J (fun h=>absurd h adr)
 ·unfold dR at Yg Wy⊢;rw[aB,jf]at Yg Wy⊢;by_cases WJ:W.V (8*k)=(W.XT t).run.word
  ·rw[Z WJ]at Yg Wy⊢;rw[<-WJ]at XP abi afl;have abo:=afl.ok.enter ⟨ci.1,J⟩ XP;obtain⟨C',ad7⟩: ∃C',(ca (up (W.V (8*k))) (W.XT t).run.af).1=C':=⟨_,rfl⟩
   rw[ad7]at abo abi;obtain⟨iy,vG,yq,OM,E1,Uq⟩:=abo;have w':W'.V (8*k)=afa C':=by rw[Yg];show put W.V (8*k) _ (8*k)=_;rw[aP,abi]
   have acd: ∀j,j≠8*k->W'.V j=W.V j:=fun j aeD=>by rw[Yg];exact aw _ _ aeD
   have hh:Wi W'.V k=C':=by unfold Wi;rw[w',ni iy]
   have adI:(bH {W.XT t with run:=tell (W.XT t).run 0 0}).aD=(W.XT t).aD++ [⟨k,true⟩]:=by
    unfold bH;simp[tell,Ya,XD]
   have iR:eY (W.XT t) (tell (W.XT t).run 0 0)=bH {W.XT t with run:=tell (W.XT t).run 0 0}:=rfl;have b7:=Wy.same;rw[iR]at b7;have eO:(W'.XT t).aD=(W.XT t).aD++ [⟨k,true⟩]:=by rw[b7,adI]
   have nJ:up (W.V (8*k))=Wi W.V k:=rfl;rw[nJ]at yq OM E1;have ky:=eH (T:=p.t.toNat) (t:=t) (by have:=S.lt;omega) Wy.other k;rw[eO,hw,Z rfl]at ky;have yr:=S.inv.Xf k aX bW;refine⟨O,VM,?_,?_,?_,?_⟩
   ·have ek: ∀s:Nat,s<p.s->∀o,o∈O s->W'.V o.at_=W.V o.at_/\W'.V (o.at_+1)=W.V (o.at_+1):=by
     intro s YF o ZQ;have:=S.inv.ht YF ZQ;have:=S.inv.eb YF this.1;exact⟨acd _ J,acd _ J⟩
    have RS:bs W'.V k=bs W.V k:=acd _ J;have Ur:agh W'.V k=agh W.V k:=acd _ J;have hx:adh W'.V k=adh W.V k:=acd _ J;refine S.inv.loc S.lt bW J ?_ acA Wy.other (fun _ _=>rfl) (fun _ _=>rfl) ?_ ?_ (fun h=>J) ?_ ?_ ?_ ?_ ?_ ?_ ?_ ?_ ?_ ?_ ?_ ?_ ?_ ?_ ?_ ?_ ?_
    ·intro j aeD;by_cases c:j=8*k
     ·exact .inl (.inl c)
     ·exact absurd (acd j c) aeD
    ·rw[w'];exact iy.w
    ·rw[hh];omega
    ·rw[hx];exact gk.q7 J
    ·intro o ZQ;rw[(ek k bW o ZQ).1,(ek k bW o ZQ).2,hh,yq];exact gk.hd o ZQ
    ·intro _ aeN;rw[hx];rcases E1 with h1|aaV
     ·rw[(gk.no.1 J).1];have Ir:=gk.idle h1;rw[Ir,cI];rfl
     ·exact gk.abU J aeN
    ·intro q VX;have:=gk.ab6 q VX;omega
    ·rw[hh,vG];refine⟨fun h=>J,fun _=>?_⟩;rcases E1 with h1|aaV
     ·exact(gk.no.1 J).2
     ·exact gk.no.2 aaV
    ·intro h1;rw[hh,vG]at h1;omega
    ·intro j;by_cases c:j=8*k
     ·subst c;rw[w'];have:=iy.aas;omega
     ·rw[acd j c];exact S.inv.jd j
    ·intro j aeD;by_cases c:j=8*k
     ·subst c;rw[w']at aeD;exfalso;apply aeD;have:=iy.aas;unfold ku;omega
     ·rw[acd j c]at aeD;exact S.inv.qB j aeD
    ·rw[eO];exact aaY.push YJ aN bW (fun _=>by show(1:Int)<=k;omega) aN
    ·intro s YF;rw[eO,hw,Y (fun e=>by injection e with aal;omega)];rfl
    ·intro _;rw[hh,vG,OM];refine⟨fun _=>?_,fun h=>J,fun h=>J⟩;rcases E1 with h1|aaV
     ·have aeN:=yr.2.2 J;have lh:=gk.ft.ok.Xf.2;have c5:(Wi W.V k).Xf=0:=lh (by show(Wi W.V k).st≠2;omega);omega
     ·have:=yr.1 aaV;omega
    ·intro s YF hd;exact absurd hd (S.fU (.inr J) s)
    ·intro _ ZV;rw[hh,vG]at ZV;omega
    ·intro _ _ h6;rw[b7,eA]at h6;cases h6
    ·rcases E1 with h1|aaV
     ·refine .inl fun u hu kd abk=>?_;have aeN:=yr.2.2 J;exact nH
     ·exact .inr ⟨aaV,by rw[hh,yq],fun o ZQ=>⟨o,ZQ,rfl,rfl⟩⟩
    ·rw[b7];exact fj (S.inv.rg t S.lt)
    ·rw[b7,es];exact S.inv.ZS t S.lt
   ·refine⟨fun s YF=>.inl ?_,fun s YF il aaV=>?_⟩
    ·by_cases c:s=k
     ·subst c;rw[hh,yq]
     ·unfold Wi;rw[acd _ J]
    ·refine⟨?_,fun aeN=>⟨aeN,fun o ZQ=>⟨o,ZQ,rfl,rfl,rfl,rfl,fun _=>rfl⟩⟩⟩;by_cases c:s=k
     ·subst c;rw[hh];omega
     ·unfold Wi;rw[acd _ J];exact aaV
   ·show _+(W.XT t).run.n.toNat<=_;omega
   ·intro j aeD;have E2:j=8*k:=Classical.byContradiction fun c=>aeD (acd j c);refine⟨k,?_,bW,.inl ⟨J,?_⟩⟩
    ·show about (tell (W.XT t).run 0 0) _=_;unfold about;simp[tell,Ya,XD]
    ·show(W.XT t).run.call.op≠9;omega
  ·rw[Y WJ]at Yg Wy⊢;exact⟨O,VM,quiet S.inv S.lt S.busy Wy Yg acA ⟨rfl,rfl,rfl,rfl,rfl⟩ R.fin R.bF rfl (by simpa using dJ) rfl (fun _=>eN) (fun _ h=>J) (.enter Ya Xg YJ (.inl rfl))⟩
end
end
end
section
theorem qb{G:Prop}(h:G:=by
 by_cases afw:s=k
 ·subst afw;rw[aP];exact cB _ jb
 ·rw[aw _ _ afw];exact jb):G:=h
theorem lI{G:Prop}(h:G:=by
 rw[iW k bW,show within W' p.t.toNat k=within W p.t.toNat k from by omega];exact S.inv.Xf k h1 bW):G:=h
theorem rh{F:b1}{O:Nat->List Zr}{k S:Nat}(L:List Zr)(ae3:k<S):iU F (put O k L) S+(cO F (O k)).length=iU F O S+(cO F L).length:=by
 have h:=r1 (f:=fun s=>(cO F (O s)).length) (v:=(cO F L).length) ae3;have e:iU F (put O k L) S=gE (put (fun s=>(cO F (O s)).length) k (cO F L).length) S:=by
  refine rZ fun i hi=>?_;by_cases c:i=k
  ·subst c;rw[aP,aP]
  ·rw[aw _ _ c,aw _ _ c]
 rw[e];exact h
theorem c2{x:Int}(h:x<72057594037927936):ku x:=by unfold ku;omega
section
variable{p:afy}{F:b1}{n:Nat}{W W':Wd}{O:Nat->List Zr}{VM:Nat->Option Nat}{t:Nat}
theorem CD(S:mD p F n W W' O VM t)(adH:(W.XT t).run.call.op=7)(Xg:0<=(W.XT t).run.call.a/\(W.XT t).run.call.a<=6)(hb:0<=(W.XT t).run.call.b/\(W.XT t).run.call.b<=512)(XP:0<=(W.XT t).run.call.c/\(W.XT t).run.call.c<=7)
 (ae3:(W.XT t).run.Xj=5\/(W.XT t).run.next=(Wi W.V (W.XT t).run.af.toNat).afB/\((W.XT t).run.Xj=2\/(W.XT t).run.at_=bs W.V (W.XT t).run.af.toNat/\((W.XT t).run.Xj=3\/(W.XT t).run.Xj=4/\(W.XT t).run.word=agh W.V (W.XT t).run.af.toNat))):dm p F n W W' O VM t:=by
 have R:=S.inv.acg t S.lt S.busy;have e:one p F n W.V W.fr (W.XT t).run=((e6 W.V (W.XT t).run).1,W.fr,(e6 W.V (W.XT t).run).2):=by
  unfold one;rw[aB,aB,Z adH]
 have Yg:=S.V;have acA:=S.fr;have Wy:=S.acD;have aeJ:=S.inv.pl;have fb:=aeJ.s;have aaY:=S.inv.aaY t S.lt;have ci:=aaY.af aeJ;rw[<-R.af]at ci;obtain⟨k,XD⟩: ∃k:Nat,(W.XT t).run.af=k:=⟨(W.XT t).run.af.toNat,J⟩
 have jf:(W.XT t).run.af.toNat=k:=J;have bW:(k:Int)<p.s:=J;have gk:=S.inv.Zt k bW;have eN:=R.n.2 J;have dJ:=R.said;rw[aB,aB]at dJ;unfold dm;rw[e]at Yg acA Wy⊢;rw[jf]at ae3;unfold e6 at Yg Wy⊢;rw[jf]at Yg Wy⊢;rcases ae3 with afY|⟨jg,aaV|⟨fG,ZV|⟨Ya,se⟩⟩⟩
 ·rw[Z afY]at Yg Wy⊢;exact⟨O,VM,quiet S.inv S.lt S.busy Wy Yg acA ⟨rfl,rfl,rfl,rfl,rfl⟩ R.fin R.bF rfl (by simpa using dJ) rfl (fun _=>eN) (fun h=>J) (.take adH Xg hb XP (.inr ⟨by show _=(Wi W.V (W.XT t).run.af.toNat).afB;rw[jf],.inl rfl⟩))⟩
 ·rw[aB,Z aaV]at Yg Wy⊢;exact⟨O,VM,quiet S.inv S.lt S.busy Wy Yg acA ⟨rfl,rfl,rfl,rfl,rfl⟩ R.fin R.bF rfl (by simpa using dJ) rfl (fun _=>eN) (fun h=>J) (.take adH Xg hb XP (.inr ⟨by show(W.XT t).run.next=(Wi W.V (W.XT t).run.af.toNat).afB;rw[jf];exact jg,.inr ⟨by show _=bs W.V (W.XT t).run.af.toNat;rw[jf],.inl rfl⟩⟩))⟩
 ·rw[aB,aB,Z ZV]at Yg Wy⊢;exact⟨O,VM,quiet S.inv S.lt S.busy Wy Yg acA ⟨rfl,rfl,rfl,rfl,rfl⟩ R.fin R.bF rfl (by simpa using dJ) rfl (fun _=>eN) (fun h=>J) (.take adH Xg hb XP (.inr ⟨by show(W.XT t).run.next=(Wi W.V (W.XT t).run.af.toNat).afB;rw[jf];exact jg,.inr ⟨by show(W.XT t).run.at_=bs W.V (W.XT t).run.af.toNat;rw[jf];exact fG,.inr ⟨rfl,by show _=agh W.V (W.XT t).run.af.toNat;rw[jf]⟩⟩⟩))⟩
 ·rw[aB,aB,aB,fG,se,jg,XD]at Yg Wy⊢;obtain⟨m,hm⟩: ∃m,fN (W.XT t).run.call.a (W.XT t).run.call.b=m:=⟨_,rfl⟩
  have E3:2+(W.XT t).run.call.a<=m/\m<=72:=by unfold fN at hm;omega
  rw[hm]at Yg Wy⊢;by_cases acR:adh W.V k<=agh W.V k/\8*m<=agh W.V k-adh W.V k
  case neg=>
   rw[Y acR]at Yg Wy⊢;exact⟨O,VM,gu S.inv S.lt S.busy Wy Yg acA rfl rfl J (fun h=>by show(W.XT t).run.call.op≠4/\_;exact⟨J,by show(W.XT t).run.call.op≠5;omega,by show(W.XT t).run.call.op≠6;omega⟩)⟩
  rw[Z acR]at Yg Wy⊢;have live:=S.inv.live S.lt bW (by rw[<-XD];exact ci.2.2) (S.fU (.inr J) k);have aeN:=gk.no.2 live;have afp:=S.inv.eb bW J;have VK:=gk.abU J aeN;have il:=gk.ft.ok.afB;have ys:0<=(Wi W.V k).afB/\(Wi W.V k).afB<=16777215:=il;have vH:=S.inv.abf;have LA:=aeJ.i;have LB:=aeJ.h;obtain⟨j,aeD⟩: ∃j:Nat,bs W.V k+adh W.V k=8*j:=⟨((bs W.V k+adh W.V k)/8).toNat,J⟩
  have Ck:((bs W.V k+adh W.V k)/8).toNat=j:=J;rw[Ck]at Yg Wy VK⊢;obtain⟨A,adu⟩: ∃A:Nat,(W.XT t).run.call.a=A:=⟨(W.XT t).run.call.a.toNat,J⟩
  obtain⟨C,VG⟩: ∃C:Nat,(W.XT t).run.call.c=C:=⟨(W.XT t).run.call.c.toNat,J⟩
  obtain⟨M,af7⟩: ∃M:Nat,m=M:=⟨m.toNat,J⟩
  obtain⟨o,ZQ⟩: ∃o:Zr,o=⟨j,M,A,C,false⟩:=⟨_,rfl⟩
  have adt:o.at_=j/\o.z=M/\o.l=A/\o.t=C/\o.d=false:=by rw[ZQ];exact⟨rfl,rfl,rfl,rfl,rfl⟩
  have xh:o.ok:=by unfold Zr.ok;omega
  have ow:o.w=q5 m (W.XT t).run.call.a (W.XT t).run.call.c 0:=by unfold Zr.w;rw[adt.2.1,adt.2.2.1,adt.2.2.2.1,adt.2.2.2.2,adu,VG,af7];rfl
  have Zv:W'.V j=o.w:=by rw[Yg,ow];show put _ (j+1) _ j=_;rw[aw _ _ J,aP]
  have WP:W'.V (j+1)=k+256*(Wi W.V k).afB:=by rw[Yg];exact aP _ _ _
  have Yv:W'.V (8*k+3)=adh W.V k+8*m:=by rw[Yg];show put _ (j+1) _ (8*k+3)=_;rw[aw _ _ J,aw _ _ J,aP]
  have Z2: ∀i,i≠j->i≠j+1->i≠8*k+3->W'.V i=W.V i:=fun i h1 aaV ZV=>by rw[Yg];show put _ (j+1) _ i=_;rw[aw _ _ aaV,aw _ _ h1,aw _ _ ZV]
  have iW: ∀s:Nat,s<p.s->Wi W'.V s=Wi W.V s:=fun s YF=>by unfold Wi;rw[Z2 _ J J J]
  have hx:adh W'.V k=adh W.V k+8*m:=Yv;have iR:eY (W.XT t) (tell (W.XT t).run 0 (ac4 k (Wi W.V k).afB (bs W.V k+adh W.V k)))=bH {W.XT t with run:=tell (W.XT t).run 0 (ac4 k (Wi W.V k).afB (bs W.V k+adh W.V k))}:=rfl;have b7:=Wy.same;rw[iR]at b7;have eO:(W'.XT t).aD=(W.XT t).aD:=by
   rw[b7,iV _ (fun _=>?_)];exact⟨by show(W.XT t).run.call.op≠4;omega,by show(W.XT t).run.call.op≠5;omega,by show(W.XT t).run.call.op≠6;omega⟩
  have ky:=fun s=>eH (T:=p.t.toNat) (t:=t) (by have:=S.lt;omega) Wy.other s;refine⟨put O k (O k++ [o]),VM,?_,?_,?_,?_⟩
  ·refine S.inv.loc S.lt bW J ?_ acA Wy.other (fun s YF=>aw _ _ YF) (fun _ _=>rfl) ?_ ?_ ?_ ?_ ?_ ?_ ?_ ?_ ?_ ?_ ?_ ?_ ?_ ?_ ?_ ?_ ?_ ?_ ?_ ?_
   ·intro i hi;by_cases WJ:i=j
    ·exact .inr J
    ·by_cases adr:i=j+1
     ·exact .inr J
     ·by_cases XO:i=8*k+3
      ·exact .inl J
      ·exact absurd (Z2 i WJ adr XO) hi
   ·rw[Z2 _ J J J];exact gk.ft
   ·rw[iW k bW];omega
   ·intro YM;subst YM;rw[iW 0 bW];exact(gk.zero rfl).1
   ·rw[hx];omega
   ·intro x hm;rw[aP]at hm;rw[iW k bW];rcases List.mem_append.1 hm with hm|hm
    ·have:=kl VK hm;have g:=gk.hd x hm;have c5:=g.1;unfold Zr.ok at c5;have fZ:=S.inv.ht bW hm;rw[Z2 _ J J J,Z2 _ J J J];exact g
    ·obtain rfl:x=o:=by simpa using hm
     rw[adt.1];exact⟨xh,Zv,WP⟩
   ·intro _ _;rw[aP,hx];refine tO VK ⟨adt.1,?_⟩;show j+o.z=_;rw[adt.2.1];omega
   ·intro q VX;rw[aeN]at VX;cases VX
   ·rw[iW k bW];exact⟨fun h=>J,fun _=>aeN⟩
   ·intro h;rw[iW k bW]at h;omega
   ·intro i;by_cases WJ:i=j
    ·subst WJ;rw[Zv];have:=Zr.aas xh;omega
    ·by_cases adr:i=j+1
     ·subst adr;rw[WP];omega
     ·by_cases XO:i=8*k+3
      ·subst XO;rw[Yv];omega
      ·rw[Z2 i WJ adr XO];exact S.inv.jd i
   ·intro i hi;by_cases WJ:i=j
    ·exact⟨k,bW,o,by rw[aP];simp,by rw[adt.1,WJ]⟩
    ·by_cases adr:i=j+1
     ·subst adr;rw[WP]at hi;exact absurd (c2 J) hi
     ·by_cases XO:i=8*k+3
      ·subst XO;rw[Yv]at hi;exact absurd (c2 J) hi
      ·rw[Z2 i WJ adr XO]at hi;obtain⟨s,YF,x,jb,lV⟩:=S.inv.qB i hi;refine⟨s,YF,x,?_,lV⟩;exact qb
   ·rw[eO];exact aaY
   ·intro s _;rw[eO]
   ·intro h1;have aaV:=ky k;rw[eO]at aaV;exact lI
   ·intro s _ hd;exact absurd hd (S.fU (.inr J) s)
   ·intro _ ZV;rw[iW k bW]at ZV;omega
   ·intro _ _ h6;rw[b7,eA]at h6;cases h6
   ·exact .inr ⟨live,by rw[iW k bW],fun x jb=>⟨x,by rw[aP];exact cB _ jb,rfl,rfl⟩⟩
   ·rw[b7];exact fj (S.inv.rg t S.lt)
   ·rw[b7,es];exact S.inv.ZS t S.lt
  ·refine⟨fun s YF=>.inl (by rw[iW s YF]),fun s YF KC aaV=>⟨by rw[iW s YF];exact aaV,fun c5=>⟨c5,fun x jb=>⟨x,?_,rfl,rfl,rfl,rfl,fun _=>rfl⟩⟩⟩⟩;exact qb
  ·have h1:=rh (F:=F) (O:=O) (k:=k) (S:=p.s.toNat) (O k++ [o]) J;rw[iQ,jr,ak,ak]at h1;show _+(W.XT t).run.n.toNat<=iU F O p.s.toNat+(W.XT t).run.n.toNat+ez F (tell (W.XT t).run 0 (ac4 k (Wi W.V k).afB (bs W.V k+adh W.V k)));have aaV:(if fX F o=true then [8*(o.at_:Int)]else []).length<=ez F (tell (W.XT t).run 0 (ac4 k (Wi W.V k).afB (bs W.V k+adh W.V k))):=by
    by_cases c:fX F o=true
    ·unfold ez;have bo:bY F (W.XT t).run.call.c.toNat≠ []:=by
      unfold fX at c;rw[adt.2.2.2.1]at c;intro YM;rw[show(W.XT t).run.call.c.toNat=C from J]at YM;simp[YM]at c
     rw[Z c,Z ⟨rfl,adH,rfl,bo⟩];simp
    ·rw[Y c];simp
   have ZV:(cO F ([]:List Zr)).length=0:=rfl;omega
  ·intro i hi;refine⟨k,?_,bW,?_⟩
   ·show about (tell (W.XT t).run 0 _) _=_;unfold about;simp[tell,adH,<-R.af,XD]
   ·have adp:(tell (W.XT t).run 0 (ac4 k (Wi W.V k).afB (bs W.V k+adh W.V k))).call.op=7:=adH;rw[adp];by_cases XO:i=8*k+3
    ·exact .inl ⟨J,J⟩
    ·by_cases WJ:i=j
     ·exact .inr ⟨J,J,J⟩
     ·by_cases adr:i=j+1
      ·exact .inr ⟨J,J,J⟩
      ·exact absurd (Z2 i WJ adr XO) hi
end
end
end Go.Proofs.YtcimojgkeoecfaaGreat
