import Derived.Test.YtcimojgkeoecfaaGreatXbo
import Derived.Test.YtcimojgkeoecfaaGreatXbq
set_option linter.all false
set_option maxHeartbeats 16000000
set_option maxRecDepth 100000
namespace Go.Proofs.YtcimojgkeoecfaaGreat
open Go.RowKit Tryz
theorem df.below{w w':World}{B:WB}{p:afy}{F:b1}{n:Nat}{W:Wd}(h:df w B p F n W)(k:Below w.heap.size w w'):df w' B p F n W:=
 ⟨h.wd.below k h.wd.lt,h.VB.below k h.VB.c9.1 h.VB.c9.2.1,h.gr.Wu (k.block _ h.gr.lt.1) (k.block _ h.gr.lt.2),h.YV.below k,h.Wl.below k,fun i hi=>(h.XT i hi).below k,by
   obtain⟨acB,h1,aaV,ZV⟩:=h.op.ex
   exact⟨acB,h1,fun q VX=>(aaV q VX).below k,ZV.imp id fun⟨cap,rest,e,hb,r⟩=>⟨cap,rest,e,hb.below k hb.lt,r⟩⟩,h.CR,h.CS,h.AO,h.FB⟩
theorem zJ(a n:Int)(w:World)(Xg:0<=a/\a<=70000)(abi:1<=n/\n<=8):
 Calls prog 99 #[.int .i64 a,.int .i64 n] w fun e w'=>e= .returned (.int .i64 (a %n))/\w=w':=by
 have t1:a.tmod n=a %n:=al Xg.1;have adL:=b5 a (by omega:n≠0);have Yz: ¬a %n<0:=J;have acT: ¬n=0:=J;have aaM:IntKind.i64.wrap (a %n)=a %n:=by
  have:=cA a (by omega:0<n);rw[IntKind.wrap_i64];omega
 clear adL;go_enter func99,ntmps99;go_wp2;go_ret;exact⟨rfl,rfl⟩
theorem Nb(w:World)(S:Nat->Prop)(v:Value)(n:Nat)(F:Nat->List Value)(h:acr w S v n 1 F)(abi:n<=maxLen):
 Calls prog 9 #[v] w fun e w'=> ∃v',e= .returned v'/\acr w S v' (min n 400) 1 F/\w=w':=by
 obtain⟨A,c,rfl,h1,aaV,ZV⟩:=h;by_cases YJ:n<=400
 ·have fx:(n:Int)<=400:=by omega
  have g:acr w S (.slice A n c) (min n 400) 1 F:=by rw[Nat.min_eq_left YJ];exact⟨A,c,rfl,h1,aaV,ZV⟩
  have G:=I g;unfold maxLen at abi aaV;have WJ:(n:Int)<=(c:Int):=J;clear ZV g;go_enter func9,ntmps9;go_wp2;go_ret;exact⟨_,rfl,G.out,rfl⟩
 ·have fx: ¬(n:Int)<=400:=by omega
  have g:acr w S (.slice A 400 c) (min n 400) 1 F:=by
   rw[Nat.min_eq_right J];exact⟨A,c,rfl,J,aaV,fun _=>by
    obtain⟨b,off,e,YF,hb,XP⟩:=ZV J;exact⟨b,off,e,YF,hb,fun i j u hi hu=>XP i j u J hu⟩⟩
  have G:=I g;unfold maxLen at abi aaV;have WJ:(400:Int)<=(c:Int):=J;clear ZV g;go_enter func9,ntmps9;go_wp2;go_ret;exact⟨_,rfl,G.out,rfl⟩
def vg(l:List Int)(i:Nat):Int:=if i<l.length then l.getD i 0 else i
def iv(W:Wd)(T:Nat)(l:List Int)(i:Nat):Int:=if(ec W T).length=0 then-1 else(ec W T).getD (vg l i %(ec W T).length).toNat 0
theorem qU{W:Wd}{T:Nat}{x:Int}(h:x∈ec W T):0<=x/\x<T/\(W.XT x.toNat).ended=false:=by
 unfold ec at h;obtain⟨i,hi,rfl⟩:=List.mem_map.1 h;obtain⟨h1,aaV⟩:=List.mem_filter.1 hi;have:=List.mem_range.1 h1;exact⟨J,J,by simpa using aaV⟩
theorem pU{l:List Int}{i:Nat}(h:i<l.length):l.getD i 0∈l:=by
 rw[ae,an h];exact bA h
theorem acr.at_{w:World}{S:Nat->Prop}{v:Value}{l:List Int}(h:cF w S v l): ∃b off c,(0<l.length->v= .slice (some ⟨b,off,none⟩) l.length c)/\(l.length=0->v= .slice none 0 c\/∃A,v= .slice A 0 c)/\∀i,i<l.length->w.cell? ⟨b,off+i,none⟩=some (.int .i64 (l.getD i 0)):=by
 obtain⟨A,c,rfl,h1,aaV,ZV⟩:=h;rcases aQ l.length with YM|YM
 ·exact⟨0,0,c,fun h=>J,fun _=>.inr ⟨A,by rw[YM]⟩,fun i hi=>J⟩
 ·obtain⟨b,off,rfl,YF,hb,XP⟩:=ZV YM;exact⟨b,off,c,fun _=>rfl,fun h=>J,fun i hi=>by have:=XP i 0 _ hi rfl;rwa[show off+(i*1+0)=off+i by omega]at this⟩
theorem B1(w0:World)(B:WB)(p:afy)(F:b1)(n:Nat)(W:Wd)(h:df w0 B p F n W)(fc: ∀i,i<p.t.toNat->(W.XT i).calls.length<=65536)(v:abM)(s:h9)(abJ:Nat)(Yg:a7 w0 abJ v s)(ok:hV s)(ae1:s.p=p)(i:Nat)(hi:i<=65536):
 Calls prog 40 #[.pointer (some ⟨B.aeh,0,none⟩),.agg (gy s.p v).toArray,.int .i64 i] w0 fun e w'=>e= .returned (.int .i64 (iv W s.p.t.toNat s.cp i))/\Below w0.heap.size w0 w':=by
 subst ae1;have aeJ:=ok.p;obtain⟨T,aen⟩: ∃T,s.p.t.toNat=T:=⟨_,rfl⟩
 have mH:T<=4:=by have:=aeJ.t;omega
 have Yj:s.p.t=(T:Int):=by have:=aeJ.t;omega
 obtain⟨l,YJ⟩: ∃l,ec W T=l:=⟨_,rfl⟩
 obtain⟨m,hm⟩: ∃m,l.length=m:=⟨_,rfl⟩
 have P4:m<=4:=by
  have:l.length<=T:=by rw[<-YJ];unfold ec;rw[bJ];have:=List.length_filter_le (fun i=> !(W.XT i).ended) (List.range T);simpa using this
  omega
 have YI:=I h;have ZR:=I aeJ;have y1:=I fc;have YQ:=I aen;have U:=aah.a0 w0;have abL:=I (show∀w',Below w0.heap.size w0 w'->Calls prog 66 #[.pointer (some ⟨B.aeh,0,none⟩)] w' fun e du=> ∃v,e= .returned v/\cF du (fun b=>w'.heap.size<=b) v l/\Below w'.heap.size w' du from fun w' hb=>by
  rw[<-YJ,<-aen];exact tx w' B s.p F n W (h.below hb) aeJ fc)
 obtain⟨aec,adF,Xj,aeF,ZK,W6⟩:=acr.at_ Yg.cF;obtain⟨k,ae3⟩: ∃k,s.cp.length=k:=⟨_,rfl⟩
 obtain⟨A9,ab4,aef⟩:=xL Yg.pi;rw[ae3]at aef;rw[aen];show Calls _ _ #[_,.agg #[.int .i64 s.p.s,.int .i64 s.p.t,.int .i64 s.p.i,.int .i64 s.p.h,.slice (some ⟨v.aca,0,none⟩) 8 v.acR,.slice (some ⟨v.aff,0,none⟩) s.p.t.toNat v.VY,v.afa],_] _ _;rcases aQ m with YM|YM
 ·have He:=I (show iv W T s.cp i= -1 by unfold iv;rw[YJ,hm,Z YM]);rw[He.out,aef];subst YM;have aey:=I hm;clear h aeJ fc aen Yj YJ Yg ok aeF ZK W6 ae3 aef hm;go_enter func40,ntmps40;go_wp2_with(first|(go_at_call 66;refine Calls.mono (abL.out _ U.all) ?_;rintro e aaM ⟨abH,rfl,vd,N⟩;obtain⟨aaA,Zo,rfl,-,-,-⟩:=id vd;rw[aey.out];replace U:=U.below N;clear N vd)|(refine aq ?_)|(refine aT ?_;clear U;intro X8 w U aay));go_ret;exact⟨rfl,U.all⟩
 ·have p2: ¬(m:Int)=0:=by omega
  have UJ: ¬m=0:=J;by_cases JM:i<s.cp.length
  ·have aaX:(i:Int)<(k:Int):=by omega
   have afQ:(0:Int)<=(i:Int):=J;obtain⟨x,Wy⟩: ∃x,s.cp.getD i 0=x:=⟨_,rfl⟩
   have abV:=W6 i JM;have Xo:=aeF J;rw[Wy]at abV;rw[ae3]at Xo;rw[Xo]at aef⊢;have hj:0<=x/\x<=70000:=by have:=(ok.k.2 _ (pU JM));rw[<-Wy];omega
   obtain⟨q,VX⟩: ∃q:Nat,x %(m:Int)=(q:Int):=⟨(x %(m:Int)).toNat,by have:=b5 x (by omega:(m:Int)≠0);omega⟩
   have Nc:q<m:=by have:=cA x (by omega:(0:Int)<(m:Int));omega
   obtain⟨y,hy⟩: ∃y,l.getD q 0=y:=⟨_,rfl⟩
   have AC:y∈l:=by rw[<-hy];exact pU J
   obtain⟨Wg,aat,-⟩:=qU (YJ▸AC);have jP:y<s.p.t:=J;have He:=I (show iv W T s.cp i=y by
    unfold iv vg;rw[YJ,hm,aB,Z JM,Wy,VX,bL,hy])
   have afx:=I VX;have abr:=I hy;have q1:(q:Int)<(m:Int):=J;have Zh:(0:Int)<=(q:Int):=J;have S9:decide (y<0)=false:=by simpa using Wg
   have UK:=I Wy;rw[He.out];clear VX hy AC Wy;have abC:=I abV;have aav:=I (show aec<w0.heap.size from World.block_lt_of_cell? w0 _ abV);have aey:=I hm;clear h aeJ fc aen Yj YJ Yg ok aeF ZK W6 ae3 aef Xo abV hm;go_enter func40,ntmps40;go_wp2_with(first|(go_at_call 66;refine Calls.mono (abL.out _ U.all) ?_;rintro e aaM ⟨abH,rfl,vd,N⟩;obtain⟨afn,lo,ad5,aal,-,acL⟩:=acr.at_ vd;rw[aey.out]at aal acL;obtain rfl:=aal YM;have Zi:=acL q Nc;rw[abr.out]at Zi;clear aal acL vd;replace U:=U.below N;clear N;have Zo:=(U.all.cell (p:=⟨aec,adF+i,none⟩) aav.out).trans abC.out)|(go_at_call 99;refine Calls.mono (zJ _ _ _ hj J) ?_;rintro e aaM ⟨rfl,rfl⟩;rw[afx.out])|(refine aq ?_)|(refine aT ?_;clear U;intro X8 w U aay));go_ret;exact⟨rfl,U.all⟩
  ·have aaX: ¬(i:Int)<(k:Int):=by omega
   have hj:0<=(i:Int)/\(i:Int)<=70000:=J;obtain⟨q,VX⟩: ∃q:Nat,(i:Int)%(m:Int)=(q:Int):=⟨((i:Int)%(m:Int)).toNat,by have:=b5 (i:Int) (by omega:(m:Int)≠0);omega⟩
   have Nc:q<m:=by have:=cA (i:Int) (by omega:(0:Int)<(m:Int));omega
   obtain⟨y,hy⟩: ∃y,l.getD q 0=y:=⟨_,rfl⟩
   have AC:y∈l:=by rw[<-hy];exact pU J
   obtain⟨Wg,aat,-⟩:=qU (YJ▸AC);have jP:y<s.p.t:=J;have He:=I (show iv W T s.cp i=y by
    unfold iv vg;rw[YJ,hm,aB,Y JM,VX,bL,hy])
   have afx:=I VX;have abr:=I hy;have q1:(q:Int)<(m:Int):=J;have Zh:(0:Int)<=(q:Int):=J;have S9:decide (y<0)=false:=by simpa using Wg
   rw[He.out];rw[aef];clear VX hy AC;have aey:=I hm;clear h aeJ fc aen Yj YJ Yg ok aeF ZK W6 ae3 aef hm;go_enter func40,ntmps40;go_wp2_with(first|(go_at_call 66;refine Calls.mono (abL.out _ U.all) ?_;rintro e aaM ⟨abH,rfl,vd,N⟩;obtain⟨afn,lo,ad5,aal,-,acL⟩:=acr.at_ vd;rw[aey.out]at aal acL;obtain rfl:=aal YM;have Zi:=acL q Nc;rw[abr.out]at Zi;clear aal acL vd;replace U:=U.below N;clear N)|(go_at_call 99;refine Calls.mono (zJ _ _ _ hj J) ?_;rintro e aaM ⟨rfl,rfl⟩;rw[afx.out])|(refine aq ?_)|(refine aT ?_;clear U;intro X8 w U aay));go_ret;exact⟨rfl,U.all⟩
theorem adD{w:World}{P:Program}{o:Oper}{a a':Act}{Q:Exit->Act->World->Prop}{ops:Array Oper}{rest:List Oper}{Yn:TypeId}{x:Operand}{g off n:Nat}{ds:List Value}(XP: ∀j v,ds[j]? =some v->w.cell? ⟨g,off+j,none⟩=some v)(Z7:wpList P ops Q rest a' w)(abi:ds.length=n)
 (dj:o.guard=none:=by exact rfl)(ZQ:o.op= .load Yn x:=by exact rfl)(abk:ye P Yn n:=by exact Im)(Wy:a.eval x= .pointer (some ⟨g,off,none⟩):=by exact rfl)
 (Xg:a.put o.dst (.agg ds.toArray)=a':=by exact fa):wpList P ops Q (o::rest) a w:=by
 obtain⟨⟨d,hu,hd⟩,YF⟩:=abk;exact wpList_plain dj fun K k=>wp_load_mid Yn x ZQ g off Wy ds d XP hu hd (by rw[YF,abi]) (k _ _ (Xg▸Z7))
def xM(W:Wd)(T:Nat)(l:List Int)(i:Nat):Bool:=decide (240<=i)||decide (iv W T l i<0)
theorem B2(w0:World)(B:WB)(p:afy)(F:b1)(n:Nat)(W:Wd)(h:df w0 B p F n W)(fc: ∀i,i<p.t.toNat->(W.XT i).calls.length<=65536)(v:abM)(s:h9)(abJ:Nat)(Yg:a7 w0 abJ v s)(ok:hV s)(ae1:s.p=p)(i:Nat)(hi:i<=65536):
 Calls prog 14 #[.pointer (some ⟨B.aeh,0,none⟩),.agg (gy s.p v).toArray,.int .i64 i] w0 fun e w'=>e= .returned (.bool (xM W s.p.t.toNat s.cp i))/\Below w0.heap.size w0 w':=by
 have NX:=I (show∀w',Below w0.heap.size w0 w'->Calls prog 40 #[.pointer (some ⟨B.aeh,0,none⟩),.agg (gy s.p v).toArray,.int .i64 i] w' fun e du=>e= .returned (.int .i64 (iv W s.p.t.toNat s.cp i))/\Below w'.heap.size w' du from fun w' hb=>B1 w' B p F n W (h.below hb) fc v s abJ (Yg.below hb) ok ae1 i hi);unfold xM;obtain⟨y,hy⟩: ∃y,iv W s.p.t.toNat s.cp i=y:=⟨_,rfl⟩
 rw[hy]at NX⊢;obtain⟨afa,v3⟩: ∃u,v.afa=u:=⟨_,rfl⟩
 simp only[gy]at NX⊢;rw[v3]at NX⊢;have U:=aah.a0 w0;have Hf:=acr.one Yg.cF;rw[v3]at Hf;clear h fc Yg ok ae1 hi hy v3;by_cases YM:240<=i
 ·have VI:decide ((240:Int)<=(i:Int))=true:=by simp;omega
  rw[decide_eq_true YM,Bool.true_or];go_enter func14,ntmps14;go_wp2_with(first|(refine aq ?_)|(refine aT ?_;clear U;intro X8 w U aay));go_ret;exact⟨rfl,U.all⟩
 ·have VI:decide ((240:Int)<=(i:Int))=false:=by simp;omega
  rw[decide_eq_false YM,Bool.false_or];go_enter func14,ntmps14;go_wp2_with(first|(go_at_call 40;refine a6 U (NX.out _ U.all) ?_;clear U;intro aaM U)|(refine WG U ?_)|(refine aq ?_)|(refine aT ?_;clear U;intro X8 w U aay));go_ret;exact⟨rfl,U.all⟩
def vh(l:List db)(t:Int):Option db:=l.reverse.find? fun o=>o.XT==t
theorem wO{l:List db}{t:Int}{k:Nat}{o:db}(ae3:l[k]? =some o)(ZQ:o.XT=t)(h: ∀(j:Nat) (o':db),k<j->l[j]? =some o'->o'.XT≠t):vh l t=some o:=by
 unfold vh;induction l generalizing k with
 |nil=>cases ae3
 |cons x l aes=>
  rw[List.reverse_cons,List.find?_append];rcases k with _|k
  ·rw[List.getElem?_cons_zero]at ae3;injection ae3 with ae3
   subst ae3;have:List.find? (fun o=>o.XT==t) l.reverse=none:=by
    rw[List.find?_eq_none];intro y hy;obtain⟨j,aeD⟩:=bZ (List.mem_reverse.1 hy);have:=h (j+1) y J (by rw[cz];exact aeD);simpa using this
   rw[this];simp[ZQ]
  ·rw[cz]at ae3;rw[aes ae3 fun j o' aeD E7=>h (j+1) o' J (by rw[cz];exact E7)];rfl
theorem Bm{l:List db}{t:Int}{o:db}(h:vh l t=some o): ∃k:Nat,l[k]? =some o/\o.XT=t:=by
 unfold vh at h;have h1:=List.mem_of_find?_eq_some h;have aaV:=List.find?_some h;obtain⟨k,ae3⟩:=bZ (List.mem_reverse.1 h1);exact⟨k,ae3,by simpa using aaV⟩
theorem Hg{acB:List (db×Value)}{k:Nat}{o:db}{u:Value}(h:acB[k]? =some (o,u)):ll acB k=dN o u:=by unfold ll;rw[h];rfl
theorem D7(w0:World)(B:WB)(p:afy)(F:b1)(n:Nat)(W:Wd)(h:df w0 B p F n W)(YJ:W.ops.length<=65536)(dJ: ∀o,o∈W.ops->o.aC.said.length<=65536)(t:Int)(o:db)(ZQ:vh W.ops t=some o):
 Calls prog 43 #[.pointer (some ⟨B.aeh,0,none⟩),.int .i64 t] w0 fun e w'=> ∃u,e= .returned (.tuple #[.agg (dN o u).toArray,.bool true])/\cF w' (fun b=>w0.heap.size<=b) u o.aC.said/\Below w0.heap.size w0 w':=by
 have Ta:=I (show∀w',Below w0.heap.size w0 w'->_ from fun w' hb=>BT w' B p F n W (h.below hb) YJ dJ);have U:=aah.a0 w0;have WS:=I YJ;have acf:=I ZQ;clear h dJ YJ ZQ;go_enter func43,ntmps43;go_upto_region 1 with(first|(refine aq ?_)|(refine VP U BI ?_;clear U;intro Bn w U P5)|(refine ac2 U ?_;clear U;intro w U))
 go_wp2_with fail;refine Calls.mono (Ta.out _ U.all) ?_;rintro e aaM ⟨v,acB,rfl,n9,dJ,hv,N⟩;obtain⟨A,c,rfl,-,-,bT⟩:=id hv;have WH:=I (And.intro U.size (U.b (g:=Bn) cX).lt);replace U:=U.below N;have Bi:=I dJ;have B3:=I n9;have vi:=I bT;have Dh:acB.length<=65536:=by have:=WS.out;rw[<-B3.out,bJ]at this;exact this
 obtain⟨m,hm⟩: ∃m,acB.length=m:=⟨_,rfl⟩
 rw[hm]at Dh vi⊢;have aey:=I hm;clear n9 dJ bT hv N hm;obtain⟨acZ,iF,Ir⟩:=Bm acf.out;have p2:0<m:=by
  have h1:=(List.getElem?_eq_some_iff.1 iF).1;rw[<-B3.out,bJ,aey.out]at h1;omega
 obtain⟨b,off,rfl,P6,fC,c3⟩:=vi.out p2;have YT:=I c3;have UL:=I P6;have P7:=I (And.intro iF Ir);have aaH:=U;have U:=aaH.base;clear c3 vi iF Ir P6;go_upto_region 2 with(first|(refine aq ?_)|(refine VP U BI ?_;clear U;intro Bn w U P5)|(refine ac2 U ?_;clear U;intro w U))
 go_wp2;go_loop [7] (fun i=> ∃a:Int,-1<=a/\a<m/\i= .int .i64 a/\∀(j:Nat) (o':db),a<j->W.ops[j]? =some o'->o'.XT≠t) (fun i=>(intOf i+1).toNat)
 case atStart=>exact⟨(m:Int)-1,J,J,rfl,fun j o' aeD E7=>by
  have h1:=(List.getElem?_eq_some_iff.1 E7).1;rw[<-B3.out,bJ,aey.out]at h1;omega⟩
 case round=>
  obtain⟨a,aH,ru,rfl,Bo⟩:=hrel;by_cases YM:0<=a
  ·obtain⟨k,rfl⟩: ∃k:Nat,a=(k:Int):=⟨a.toNat,J⟩
   obtain⟨⟨o',u'⟩,VX⟩: ∃q,acB[k]? =some q:=⟨_,an (by rw[aey.out];omega)⟩
   have P8:W.ops[k]? =some o':=by rw[<-B3.out,a3,VX];rfl
   have XP: ∀j v,(dN o' u')[j]? =some v->aaM.cell? ⟨b,off+k*14+j,none⟩=some v:=fun j v hv=>by
    have:=YT.out k j v J (by rw[Hg VX];exact hv);rwa[show off+(k*14+j)=off+k*14+j by omega]at this
   have VI:aaM.cell? ⟨b,off+k*14,none⟩=some (.int .i64 o'.XT):=XP 0 _ rfl;have abY:=acr.one (Bi.out _ (bf VX));simp only at abY;have aby:=I Bo;have ab0:=I VX;have P9:=I P8;have Tb:=I XP;clear Bo VX P8 XP;by_cases V1:o'.XT=t
   ·have aal:(o'.XT==t)=true:=by simpa using V1
    have adt:o'=o:=by
     have h1:=wO P9.out V1 fun j Av aeD aaV=>aby.out j Av J aaV;rw[acf.out]at h1;exact(Option.some.inj h1).symm
    subst adt;have Yl:=I V1;clear V1;have Wv: ∀(k:IntKind) (n:Int),(Value.int k n).oneCell'=true:=fun _ _=>rfl;go_wp2_with(first|(refine adD Tb.out ?_ (by rfl);unfold dN)|(refine ac2 U ?_;clear U;intro w U));refine aZ results43 rfl rfl ⟨_,U.b ag,rfl⟩ underlying46 rfl aM ?_;refine⟨u',rfl,?_,(aaH.back U).all⟩;have h1:cF aaM (fun b=>bq none [⟨Bn,46,[.int .i64 0,.int .u8 0,.int .u8 0,.int .u8 0,.int .u8 0,.int .i64 0,.int .i64 0,.int .i64 0,.int .i64 0,.int .i64 0,.int .i64 0,.int .i64 0,.int .i64 0,.slice none 0 0]⟩] b/\w0.heap.size<=b) u' o'.aC.said:=(Bi.out _ (bf ab0.out)).mono fun b _ hb=>by
     have aaV:=WH.out;exact⟨⟨fun x Wy e=>by
      simp only[ad,E,av]at Wy;subst Wy;simp only at e;omega,fun a e=>by cases e⟩,J⟩
    exact(h1.Wu (U.Wu.mono fun b _ h=>h.1)).mono fun b _ h=>h.2
   ·have aal:(o'.XT==t)=false:=by simpa using V1
    go_wp2;go_round
    case rel=>exact⟨(k:Int)-1,J,J,by go_num,fun j Av aeD aaV=>by
     rcases Nat.eq_or_lt_of_le (show k<=j by omega)with rfl|ZV
     ·rw[P9.out]at aaV;cases aaV;exact V1
     ·exact aby.out j Av J aaV⟩
    case measure=>simp[intOf]
  ·exfalso;exact Bo acZ o J P7.out.1 P7.out.2
section
theorem pf{G:Prop}(h:G:=by
 refine WE Z7 ?_;clear Z7 K;intro X;refine Yt (fun K Z7=>?_);refine ta Yq U (aaQ.nil _ _ _ _ _ _) rfl _ _ 62 rfl (.agg #[.int .i64 0,.bool false]) 16 g4 nk rfl (by decide) rfl _ _ _ rfl hv.out (hJ (W.XT t).aD Yz) (by unfold maxLen;omega) (by omega) ?_;clear U;intro Y9 w Hh Hj;obtain⟨aeU,VU,rfl⟩:=Hj.Ai;have Nd:=K5 WH.out Hj (hJ (W.XT t).aD Yz);have Tc:de w _ (.slice aeU Yz VU) (W.XT t).aD:=(by show acr _ _ _ (W.XT t).aD.length 2 _;rw[vj.out];exact Nd);have Qa:=Qb.out.Wu Hh.Wu (fun b hb=>gA hb rfl);have Hk:=aaH.back Hh;have U:=Hk.base;refine WE Z7 ?_;clear Z7 K;intro X;refine az [[10]] ?_;refine Yt (fun K Z7=>?_);refine Nf U (Hl t4) ?_;clear U;intro w U;refine WE Z7 ?_;clear Z7 K;intro X;refine az [[]] ?_;go_wp2_with fail;go_roundw
 case rel=>exact⟨t+1,_,by omega,by go_num,Hk.back U,(Qa.snoc Tc).Wu U.Wu fun b hb=>gA hb rfl⟩
 case measure=>simp[intOf];omega):G:=h
theorem pg{G:Prop}(h:G:=by
 refine WE Z7 ?_;clear Z7 K;intro X;refine Yt (fun K Z7=>?_);refine ta Yq U (aaQ.nil _ _ _ _ _ _) rfl _ _ 58 rfl (.agg #[.int .i64 0,.int .i64 0]) 16 bw cj rfl (by decide) rfl _ _ _ rfl hv.out (kn W.fr m) (by unfold maxLen;omega) (by omega) ?_;clear U;intro Y9 w Hh Hj;obtain⟨aeU,VU,rfl⟩:=Hj.Ai;have Nd:=K5 WH.out Hj (kn W.fr m);have Qc:=Qd.out.Wu (Hh.Wu.mono fun b _ hb=>gA hb rfl);have Hk:=aaH.back Hh;have U:=Hk.base;refine WE Z7 ?_;clear Z7 K;intro X;refine az [[5]] ?_;refine Yt (fun K Z7=>?_);refine Nf U Hm ?_;clear U;intro w U;refine WE Z7 ?_;clear Z7 K;intro X;refine az [[]] ?_;go_wp2_with fail;go_meet;exact⟨_,Hk.back U,Nd.Wu (U.Wu.mono fun b _ hb=>gA hb rfl),Qc.Wu (U.Wu.mono fun b _ hb=>gA hb rfl)⟩):G:=h
def B4(c:g7):List Value:= [.int .i64 c.st,.int .i64 c.Xf,.int .i64 c.YX,.int .i64 c.afB]
def cR(aee:Value)(f:Nat->g7)(Y8:Value)(g:Nat->Int)(aaz:Nat->Value):List Value:=
 aee::((List.range 8).flatMap (fun s=>B4 (f s))++(Y8::((List.range 16).map (fun j=>Value.int .u64 (g j))++(List.range 4).map aaz)))
variable{aee Y8 u:Value}{f:Nat->g7}{g:Nat->Int}{aaz:Nat->Value}
theorem qV:(cR aee f Y8 g aaz).length=54:=rfl
theorem Hn:er (cR aee f Y8 g aaz) 0 [u]=cR u f Y8 g aaz:=rfl
theorem Ho{s:Nat}(YF:s<8)(c:g7):er (cR aee f Y8 g aaz) (1+s*4) (B4 c)=cR aee (put f s c) Y8 g aaz:=by
 rcases s with _|_|_|_|_|_|_|_|s<;>first|rfl|omega
theorem Hm:er (cR aee f Y8 g aaz) 33 [u]=cR aee f u g aaz:=rfl
theorem Hp{t k:Nat}(afq:t<4)(ae3:k<4)(x:Int):er (cR aee f Y8 g aaz) (34+t*4+k) [.int .u64 x]=cR aee f Y8 (put g (4*t+k) x) aaz:=by
 rcases t with _|_|_|_|t<;>first|omega|(rcases k with _|_|_|_|k<;>first|rfl|omega)
theorem Hl{t:Nat}(afq:t<4):er (cR aee f Y8 g aaz) (50+t) [u]=cR aee f Y8 g (put aaz t u):=by
 rcases t with _|_|_|_|t<;>first|rfl|omega
theorem D8{t:Nat}(afq:t<4):(cR aee f Y8 g aaz)[50+t]? =some (aaz t):=by
 rcases t with _|_|_|_|t<;>first|rfl|omega
def mZ:g7:=⟨0,0,0,0⟩
def afo(W:Wd)(k:Nat):Nat->g7:=fun s=>if s<k then Wi W.V s else mZ
def W5(W:Wd)(k:Nat):Nat->Int:=fun j=>if j<k then(W.XT (j/4)).regs (j %4)else 0
theorem JN(W:Wd)(k:Nat):put (afo W k) k (Wi W.V k)=afo W (k+1):=by
 funext s;unfold put afo;by_cases h:s=k
 ·rw[Z h,m3,h]
 ·rw[Y h];by_cases aaV:s<k
  ·rw[Z aaV,m3]
  ·rw[Y aaV,aB]
theorem JO(W:Wd)(t k:Nat)(ae3:k<4):put (W5 W (4*t+k)) (4*t+k) ((W.XT t).regs k)=W5 W (4*t+(k+1)):=by
 funext s;unfold put W5;by_cases h:s=4*t+k
 ·rw[Z h,m3,h,show(4*t+k)/4=t by omega,show(4*t+k)%4=k by omega]
 ·rw[Y h];by_cases aaV:s<4*t+k
  ·rw[Z aaV,m3]
  ·rw[Y aaV,aB]
variable{w0 w w':World}{S:Nat->Prop}{A:Option XS}{L L':List abN}
variable{P:Program}{o:Oper}{a a':Act}{Q:Exit->Act->World->Prop}{ops:Array Oper}{rest:List Oper}
theorem Ng(h:aah w0 S w A L){Yn:TypeId}{x y:Operand}{g off:Nat}{v:Value}{ds:List Value}{t:TypeId}{cs cs':List Value}(aeJ:er cs off ds=cs')(Z7: ∀w',aah w0 S w' A L'->wpList P ops Q rest a' w')
 (dj:o.guard=none:=by exact rfl)(ZQ:o.op= .store Yn x y:=by exact rfl)(Wy:a.eval x= .pointer (some ⟨g,off,none⟩):=by exact rfl)(hy:dt a y=some v:=by exact rfl)(hv:v.cells=ds.toArray:=by exact rfl)
 (XJ:aco L g t cs cs' L':=by exact cf)(ed:off+ds.length<=cs.length:=by first|exact bQ rfl|(simp only[aI,bR,qV,B4];omega))(hi:(P.info? Yn).map (·.size)=some ds.length:=by kernel_rfl)(h1:ds.all (·.oneCell')=true:=by first|rfl|(simp[*];done))
 (Xg:a.put o.dst undef=a':=by exact fa):wpList P ops Q (o::rest) a w:=
 hp h dj Yn x y ZQ g off v ds Wy hy hv (aeJ▸XJ) ed hi h1 fun w' s=>by rw[Xg];exact Z7 w' s
theorem Nf{K:Act->World->Prop}(h:aah w0 S w A L){Yn:TypeId}{x y:Operand}{g off:Nat}{v:Value}{ds:List Value}{t:TypeId}{cs cs':List Value}(aeJ:er cs off ds=cs')(Z7: ∀w',aah w0 S w' A L'->K (a.put o.dst undef) w')
 (ZQ:o.op= .store Yn x y:=by exact rfl)(Wy:a.eval x= .pointer (some ⟨g,off,none⟩):=by exact rfl)(hy:dt a y=some v:=by exact rfl)(hv:v.cells=ds.toArray:=by exact rfl)
 (XJ:aco L g t cs cs' L':=by exact cf)(ed:off+ds.length<=cs.length:=by first|exact bQ rfl|(simp only[aI,bR,qV,B4];omega))(hi:(P.info? Yn).map (·.size)=some ds.length:=by kernel_rfl)(h1:ds.all (·.oneCell')=true:=by first|rfl|(simp[*];done)):Oper.wp P o a w K Q:=
 ev h Yn x y ZQ g off v ds Wy hy hv (aeJ▸XJ) ed hi h1 Z7
theorem ta{aaM:World}{W9:Option XS}{L1:List abN}{e:TypeId}{sz n:Nat}{v:Value}{xs:List Value}{K:Act->World->Prop}(aaH:aah w0 S aaM W9 L1)(U:aah aaM (bq W9 L1) w A L)(adS:aaQ w0 aaM W9 L1 e sz v n xs)(adu:l1 A=l1 W9)(s x:Operand)(t:TypeId)(ZQ:o.op= .call {callee:=.builtin .append,args:= #[s,x],argTypes:= #[t,t]})
 (z:Value)(bytes:Nat)(afq:P.underlying t=some (.slice e))(cC:(P.info? e).map (fun i=>(i.zero,i.size,i.bytes))=some (some z,sz,bytes))(qG:z.cells.size=sz)(dI:0<sz)
 (YF:a.eval s=v)(B:Option Addr)(m c:Nat)(Wy:a.eval x= .slice B m c){S':Nat->Prop}{F:Nat->List Value}(gq:acr w S' (.slice B m c) m sz F)(hF:hl m sz F)(qH:n+m<=maxLen)(gR:(n+m)*bytes<=140737488355328)
 (Z7: ∀v' w',aah w0 S w' A L->aaQ w0 w' A L e sz v' (n+m) (xs++bx m sz F)->K (a.put o.dst v') w'):Oper.wp P o a w K Q:=by
 rcases aQ m with rfl|hm
 ·have te:=adS.on aaH U adu;have Yq:=aaH.back U;obtain⟨B',xe,rfl,abi⟩: ∃B' xe,v= .slice B' n xe/\n<=xe:=by
   exact nF
  have nC:=ju (P:=P) w t o.type e sz afq (by obtain⟨i,hi,VX⟩:=Option.map_eq_some_iff.1 cC;simp only[Prod.mk.injEq]at VX;rw[hi,bt,VX.2.1]) (fun k=>by rw[afq];simp) B' B n xe c abi;unfold Oper.wp execOp;simp only[ZQ,resolve,invoke,builtin,Sem.run_bind,Sem.run_pure,Result.andThen_ok,b8,aS,ck,YF,Wy,nC];refine Z7 _ _ Yq ?_;have:bx 0 sz F= []:=by unfold bx;simp
  rw[this,br];exact te
 ·obtain⟨b,off,rfl,_,_,XP⟩:=gq.cells hm dI fun i hi=>(hF i hi).1;exact gG aaH U adS adu s x t ZQ z bytes afq cC qG dI YF ⟨b,off,none⟩ m c (bx m sz F) Wy (cv _ _ _) XP (List.all_eq_true.2 fun u hu=>hF.flat dI u hu) qH gR Z7
theorem aaQ.less{w0 w:World}{x:abN}{L:List abN}{e:TypeId}{sz n:Nat}{v:Value}{xs:List Value}(h:aaQ w0 w A (x::L) e sz v n xs):aaQ w0 w A L e sz v n xs:=
 ⟨h.own,fun j aeD=>⟨⟨fun y hy=>(h.fresh j aeD).1.1 y (ao _ hy),(h.fresh j aeD).1.2⟩,(h.fresh j aeD).2⟩⟩
def vk(V:Nat->Int)(i:Nat):List Value:= [.int .u64 (V i)]
structure gl(w:World)(S:Nat->Prop)(aee Y8:Value)(aaz:Nat->Value)(n t:Nat)(W:Wd):Prop where
 ws:acr w S aee n 1 (vk W.V)
 e:acr w S Y8 W.fr.length 2 (eP W.fr)
 r: ∀j,j<t->de w S (aaz j) (W.XT j).aD
 z: ∀j,t<=j->aaz j= .slice none 0 0
theorem gl.Wu{w w':World}{S T:Nat->Prop}{aee Y8:Value}{aaz:Nat->Value}{n t:Nat}{W:Wd}(h:gl w S aee Y8 aaz n t W)(k:Z1 T w w')(aen: ∀b,S b->T b):gl w' S aee Y8 aaz n t W:=
 ⟨h.ws.Wu (k.mono fun b _ hb=>aen b hb),h.e.Wu (k.mono fun b _ hb=>aen b hb),fun j aeD=>(h.r j aeD).Wu (k.mono fun b _ hb=>aen b hb),h.z⟩
theorem gl.snoc{w:World}{S:Nat->Prop}{aee Y8 u:Value}{aaz:Nat->Value}{n t:Nat}{W:Wd}(h:gl w S aee Y8 aaz n t W)(hu:de w S u (W.XT t).aD):gl w S aee Y8 (put aaz t u) n (t+1) W:=
 ⟨h.ws,h.e,fun j aeD=>by
   by_cases c:j=t
   ·subst c;rw[aP];exact hu
   ·rw[aw _ _ c];exact h.r j J,fun j aeD=>by rw[aw _ _ J];exact h.z j J⟩
theorem Bp{WP Y3:Value}{f2:Nat->g7}{Y6:Nat->Int}{XY:Nat->Value}:er (cR WP f2 Y3 Y6 XY) 0 (cR aee f Y8 g aaz)=cR aee f Y8 g aaz:=rfl
theorem gl.one{w:World}{S:Nat->Prop}{n t:Nat}{W:Wd}(h:gl w S aee Y8 aaz n t W):(cR aee f Y8 g aaz).all (·.oneCell')=true:=by
 have h1:=acr.one h.ws;have aaV:=acr.one h.e;have ZV: ∀j,(aaz j).oneCell'=true:=fun j=>by
  by_cases c:j<t
  ·exact acr.one (h.r j c)
  ·rw[h.z j J];rfl
 unfold cR;simp only[List.all_cons,List.all_append,List.all_flatMap,List.all_map,Bool.and_eq_true,h1,aaV,true_and];refine⟨by rw[List.all_eq_true];intro x _;rfl,by rw[List.all_eq_true];intro x _;rfl,by rw[List.all_eq_true];intro x _;exact ZV x⟩
def m0(B a b c x:Nat):Prop:=B<=x/\x≠a/\x≠b/\x≠c
theorem gA{B a b c x:Nat}{L:List abN}(h:m0 B a b c x)(acY:L.map abN.g= [a,b,c]):bq none L x:=
 ⟨fun y hy e=>by
   have h1:y.g∈L.map abN.g:=List.mem_map.2 ⟨y,hy,rfl⟩
   rw[acY,e]at h1
   simp only[ad,E,av]at h1
   obtain⟨_,aaV,ZV,Ya⟩:=h
   rcases h1 with h1|h1|h1
   ·exact aaV h1
   ·exact ZV h1
   ·exact Ya h1,fun a e=>by cases e⟩
theorem wP{a b c x:Nat}{L:List abN}(h:bq none L x)(acY:L.map abN.g= [a,b,c]):x≠a/\x≠b/\x≠c:=by
 have h1: ∀z,z∈L.map abN.g->x≠z:=fun z aeN e=>by
  obtain⟨y,hy,rfl⟩:=List.mem_map.1 aeN;exact h.1 y hy e.symm
 rw[acY]at h1;exact⟨h1 a aN,h1 b aN,h1 c aN⟩
theorem K5{w0 aaM w:World}{a b c:Nat}{L:List abN}{e:TypeId}{sz m:Nat}{v:Value}{F:Nat->List Value}(aeN:w0.heap.size<=aaM.heap.size)(adS:aaQ aaM w none L e sz v (0+m) ([]++bx m sz F))(hF:hl m sz F)(acY:L.map abN.g= [a,b,c]:=by rfl):acr w (m0 w0.heap.size a b c) v m sz F:=by
 rw[ax,au]at adS;exact(adS.sl fun i hi=>(hF i hi).1).mono fun x _ Wy=>⟨D aeN Wy.1,wP Wy.2 acY⟩
theorem zK{p:afy}{n:Nat}(aeJ:a9 p)(abi:8*(n:Int)=64*p.s+p.i+p.h)(w:World):Calls prog 53 #[.agg #[.int .i64 p.s,.int .i64 p.t,.int .i64 p.i,.int .i64 p.h]] w fun x w'=>x= .returned (.int .i64 (8*(n:Int)))/\Below w.heap.size w w':=by
 have h:=Fl p.s p.t p.i p.h w aeJ.s ⟨aeJ.i.1,by have:=aeJ.i;omega⟩ ⟨aeJ.h.1,by have:=aeJ.h;omega⟩;rwa[show p.s*64+p.i+p.h=8*(n:Int) by omega]at h
theorem Hq(w0:World)(B:WB)(p:afy)(F:b1)(n:Nat)(W:Wd)(h:df w0 B p F n W)(aeJ:a9 p)(abi:8*(n:Int)=64*p.s+p.i+p.h)(lh: ∀s:Nat,(s:Int)<p.s->okW (W.V (8*s)))(m5:W.fr.length<=65536)(eO: ∀t,t<p.t.toNat->(W.XT t).aD.length<=65536):
 Calls prog 41 #[.pointer (some ⟨B.aeh,0,none⟩),ej p] w0 fun e w'=> ∃aee Y8 aaz,e= .returned (.agg (cR aee (afo W p.s.toNat) Y8 (W5 W (4*p.t.toNat)) aaz).toArray)/\gl w' (fun b=>w0.heap.size<=b) aee Y8 aaz n p.t.toNat W/\Below w0.heap.size w0 w':=by
 have YI:=I h;have p3:=I lh;have Gd:=I eO;have Nh:=I m5;have ZR:=I aeJ;have UM:n<=260:=by have:=aeJ.s;have:=aeJ.i;have:=aeJ.h;omega
 have ZG:=I abi;clear h lh eO m5 abi;have U:=aah.a0 w0;go_enter func41,ntmps41;go_upto_region 1 with(first|(refine Ws U 27 ?_;clear U;intro aff w U Hr)|(refine VP U nz ?_;clear U;intro gr w U Bq))
 go_upto_region 2 with(first|(refine aq ?_)|(refine VP U nz ?_;clear U;intro jh w U vl)|(refine aT ?_;clear U;intro X8 w U aay))
 go_wp2;have eB:=I (show aah w0 (fun _=>True) w none [⟨jh,65,cR (.slice none 0 0) (afo W 0) (.slice none 0 0) (W5 W 0) (fun _=>.slice none 0 0)⟩,⟨gr,65,cR (.slice none 0 0) (fun _=>mZ) (.slice none 0 0) (fun _=>0) (fun _=>.slice none 0 0)⟩,⟨aff,27,[.int .i64 p.s,.int .i64 p.t,.int .i64 p.i,.int .i64 p.h]⟩]from U);clear U;go_loopw [6] (fun i wr=> ∃(k:Nat) (aee:Value),k<=n/\i= .int .i64 (8*(k:Int))/\aah w0 (fun _=>True) wr none [⟨jh,65,cR aee (afo W 0) (.slice none 0 0) (W5 W 0) (fun _=>.slice none 0 0)⟩,⟨gr,65,cR (.slice none 0 0) (fun _=>mZ) (.slice none 0 0) (fun _=>0) (fun _=>.slice none 0 0)⟩,⟨aff,27,[.int .i64 p.s,.int .i64 p.t,.int .i64 p.i,.int .i64 p.h]⟩]/\aaQ w0 wr none [⟨jh,65,cR aee (afo W 0) (.slice none 0 0) (W5 W 0) (fun _=>.slice none 0 0)⟩,⟨gr,65,cR (.slice none 0 0) (fun _=>mZ) (.slice none 0 0) (fun _=>0) (fun _=>.slice none 0 0)⟩,⟨aff,27,[.int .i64 p.s,.int .i64 p.t,.int .i64 p.i,.int .i64 p.h]⟩] 59 1 aee k (bx k 1 (vk W.V))) (fun i _=>8*n-(intOf i).toNat)
 case atStart=>exact⟨0,.slice none 0 0,J,rfl,eB.out,aaQ.nil _ _ _ _ _ _⟩
 case round=>
  obtain⟨k,aee,ae3,rfl,aaH,adS⟩:=hrel;clear eB;have U:=aaH.base;obtain⟨aeQ,adr,rfl⟩:=adS.form;by_cases bV:k<n
  ·have VI:8*(k:Int)<8*(n:Int):=by omega
   obtain⟨x,Wy⟩: ∃x,W.V k=x:=⟨_,rfl⟩
   have VN:=I Wy;clear Wy;go_wp2_with(first|(go_at_call 53;refine a6 U (zK aeJ ZG.out _) ?_;clear U;intro aaM U)|(go_at_call 100;refine a6 U (FG _ _ _ _ _ _ (YI.out.below (aaH.back U).all) _ k rfl bV) ?_;clear U;intro aaM U;rw[VN.out])|(refine dE U rfl 54 59 _ rfl _ [.int .u64 x] rfl rfl (.int .u64 0) 1 8 cL fK rfl am am ?_;clear U;intro di w U dO;refine cN ?_)|(refine j4 aaH U adS rfl rfl _ _ 54 rfl (.int .u64 0) 8 cL fK rfl am rfl ⟨di,0,none⟩ 1 1 [.int .u64 x] rfl rfl (U.news ag) rfl (by unfold maxLen;omega) J ?_;clear U;intro v' w fu p0;obtain⟨acG,XO,rfl⟩:=p0.form;have U:=fu.base;refine cN ?_)|(refine Ng U Hn ?_;clear U;intro w U)|(refine aq ?_)|(refine VP U nz ?_;clear U;intro jh w U vl)|(refine aT ?_;clear U;intro X8 w U aay));go_roundw
   case rel=>exact⟨k+1,_,J,by go_num,(fu.back U).c6,by
    have h1:=(p0.on fu U rfl).less;rw[jM (n:=k) (sz:=1) (F:=vk W.V) am rfl,show vk W.V k= [.int .u64 x] by rw[<-VN.out];rfl];exact h1⟩
   case measure=>simp[intOf];omega
  ·obtain rfl:n=k:=by omega
   have VI: ¬8*(n:Int)<8*(n:Int):=J;have zL:acr wr (m0 w0.heap.size jh gr aff) (.slice aeQ n adr) n 1 (vk W.V):=(adS.sl fun i _=>rfl).mono fun b _ hb=>⟨hb.1,wP hb.2 rfl⟩
   have U:=aaH;have Hs:=I zL;obtain⟨sp,AU⟩: ∃sp:Nat,p.s=(sp:Int):=⟨p.s.toNat,by have:=aeJ.s;omega⟩
   have T9:sp<=8:=by have:=aeJ.s;omega
   have FY:=I AU;clear adS aaH zL AU;have aaH:=U;go_wp2_with(first|(go_at_call 53;refine Calls.mono (zK aeJ ZG.out _) ?_;rintro e aaM ⟨rfl,N⟩;replace U:=U.below N;have JP:=I N;clear N)|(refine aq ?_)|(refine VP U nz ?_;clear U;intro jh w U vl)|(refine aT ?_;clear U;intro X8 w U aay));have K6:=I (Hs.out.below JP.out);have eB:=I U;clear U;go_loopw [9] (fun i wr=> ∃k:Nat,k<=sp/\i= .int .i64 k/\aah w0 (fun _=>True) wr none [⟨jh,65,cR (.slice aeQ n adr) (afo W k) (.slice none 0 0) (W5 W 0) (fun _=>.slice none 0 0)⟩,⟨gr,65,cR (.slice none 0 0) (fun _=>mZ) (.slice none 0 0) (fun _=>0) (fun _=>.slice none 0 0)⟩,⟨aff,27,[.int .i64 p.s,.int .i64 p.t,.int .i64 p.i,.int .i64 p.h]⟩]/\acr wr (m0 w0.heap.size jh gr aff) (.slice aeQ n adr) n 1 (vk W.V)) (fun i _=>sp-(intOf i).toNat)
   case atStart=>exact⟨0,J,rfl,eB.out,K6.out⟩
   case round=>
    obtain⟨k,ae3,rfl,aaH,zL⟩:=hrel;clear eB Hs K6;have Hs:=I zL;clear zL;have U:=aaH.base;by_cases bV:k<sp
    ·have WJ:(k:Int)<p.s:=by rw[FY.out];omega
     have tr:(k:Int)<8:=J;have XO:(0:Int)<=(k:Int):=J;have Zo:k<8:=J;obtain⟨c,XP⟩: ∃c,Wi W.V k=c:=⟨_,rfl⟩
     have YT:=I XP;have XA:=I (show∀w',Below w0.heap.size w0 w'->Calls prog 80 #[.pointer (some ⟨B.aeh,0,none⟩),.int .i64 k] w' fun e du=>e= .returned (.tuple #[hf c,.int .i64 0])/\Below w'.heap.size w' du from fun w' hb=>by
      have h:=xq _ _ _ _ _ _ (YI.out.below hb) ZR.out (by have:=ZG.out;have:=ZR.out.i;have:=ZR.out.h;omega) k ⟨J,WJ⟩ (by rw[bL];exact p3.out k WJ);rwa[bL,XP]at h)
     clear XP;go_wp2_with(first|(go_at_call 80;refine a6 U (XA.out _ (aaH.back U).all) ?_;clear U;intro aaM U)|(refine Ng U (Ho Zo c) ?_;clear U;intro w U)|(refine aq ?_)|(refine VP U nz ?_;clear U;intro jh w U vl)|(refine aT ?_;clear U;intro X8 w U aay));go_roundw
     case rel=>exact⟨k+1,J,by go_num,by
      have h1:=aaH.back U;rw[<-YT.out,JN]at h1;exact h1,Hs.out.Wu (U.Wu.mono fun b _ hb=>gA hb rfl)⟩
     case measure=>simp[intOf];omega
    ·obtain rfl:sp=k:=by omega
     have WJ: ¬(sp:Int)<p.s:=by rw[FY.out];omega
     have acf:=I aaH;clear aaH;have U:=acf.out;obtain⟨m,hm⟩: ∃m,W.fr.length=m:=⟨_,rfl⟩
     have lH:m<=65536:=by rw[<-hm];exact Nh.out
     have aey:=I hm;clear hm;go_upto_region 11 with(first|(refine aq ?_)|(refine VP U nz ?_;clear U;intro jh w U vl)|(refine aT ?_;clear U;intro X8 w U aay))
     go_cut []from 47 to 52 (fun ZT=> ∃Y8,aah w0 (fun _=>True) ZT none [⟨jh,65,cR (.slice aeQ n adr) (afo W sp) Y8 (W5 W 0) (fun _=>.slice none 0 0)⟩,⟨gr,65,cR (.slice none 0 0) (fun _=>mZ) (.slice none 0 0) (fun _=>0) (fun _=>.slice none 0 0)⟩,⟨aff,27,[.int .i64 p.s,.int .i64 p.t,.int .i64 p.i,.int .i64 p.h]⟩]/\acr ZT (m0 w0.heap.size jh gr aff) Y8 m 2 (eP W.fr)/\acr ZT (m0 w0.heap.size jh gr aff) (.slice aeQ n adr) n 1 (vk W.V))
     case first=>
      have aaH:=U.drew;have Qd:=I (Hs.out.below (show Below wr.heap.size wr wr.drew from a2));have WH:=I aaH.size;have Yq:=aaH.base;replace U:=Yq;refine wp_region_held_drew (S:=fun _=>True) aM trivial (fun X=>?_);refine az [[0,2]] ?_;refine Zj [1,3] ?_;refine ea (fun K Z7=>?_) ?_
      ·refine YL U ?_;refine WE Z7 ?_;clear Z7 K;intro X;refine Yt (fun K Z7=>?_);go_simp
       (go_at_call 101;refine Calls.mono (y2 _ _ _ _ _ _ (YI.out.below (aaH.back U).all) Nh.out) ?_;rintro e aaM ⟨v,rfl,hv,N⟩;obtain⟨af3,afw,rfl,-,-,-⟩:=id hv;rw[aey.out]at hv⊢;replace U:=U.below N;clear N;replace hv:=I hv)
       go_wp2_with fail;exact pg
      refine ei (fun K Z7=>?_);go_simp
      (go_at_call 101;refine Calls.mono (y2 _ _ _ _ _ _ (YI.out.below (aaH.back U).all) Nh.out) ?_;rintro e aaM ⟨v,rfl,hv,N⟩;obtain⟨af3,afw,rfl,-,-,-⟩:=id hv;rw[aey.out]at hv⊢;replace U:=U.below N;clear N;replace hv:=I hv)
      go_wp2_with fail;refine WE Z7 ?_;clear Z7 K;intro X;refine aF 1 fun K Z7=>?_;refine YL U ?_;exact pg
     case rest=>
      obtain⟨Y8,aaH,JQ,zL⟩:=hcut;have ZQ:Y8.oneCell'=true:=acr.one JQ;rw[<-aey.out]at JQ;obtain⟨T,aen⟩: ∃T:Nat,p.t=(T:Int):=⟨p.t.toNat,by have:=aeJ.t;omega⟩
      have mH:T<=4:=by have:=aeJ.t;omega
      have Br:=I (show p.t.toNat=T by omega);have YQ:=I aen;clear aen;have ts:=I (show gl wc (m0 w0.heap.size jh gr aff) (.slice aeQ n adr) Y8 (fun _=>.slice none 0 0) n 0 W from⟨zL,JQ,fun j aeD=>J,fun _ _=>rfl⟩);have eB:=I (show aah w0 (fun _=>True) wc none [⟨jh,65,cR (.slice aeQ n adr) (afo W sp) Y8 (W5 W (4*0)) (fun _=>.slice none 0 0)⟩,⟨gr,65,cR (.slice none 0 0) (fun _=>mZ) (.slice none 0 0) (fun _=>0) (fun _=>.slice none 0 0)⟩,⟨aff,27,[.int .i64 p.s,.int .i64 p.t,.int .i64 p.i,.int .i64 p.h]⟩]from aaH);clear aaH JQ zL;go_wp2;go_loopw [10] (fun i wr=> ∃(t:Nat) (aaz:Nat->Value),t<=T/\i= .int .i64 t/\aah w0 (fun _=>True) wr none [⟨jh,65,cR (.slice aeQ n adr) (afo W sp) Y8 (W5 W (4*t)) aaz⟩,⟨gr,65,cR (.slice none 0 0) (fun _=>mZ) (.slice none 0 0) (fun _=>0) (fun _=>.slice none 0 0)⟩,⟨aff,27,[.int .i64 p.s,.int .i64 p.t,.int .i64 p.i,.int .i64 p.h]⟩]/\gl wr (m0 w0.heap.size jh gr aff) (.slice aeQ n adr) Y8 aaz n t W) (fun i _=>T-(intOf i).toNat)
      case atStart=>exact⟨0,_,J,rfl,eB.out,ts.out⟩
      case round=>
       obtain⟨t,aaz,afq,rfl,aaH,vm⟩:=hrel;clear eB ts;by_cases bV:t<T
       ·have WJ:(t:Int)<p.t:=by rw[YQ.out];omega
        have t4:t<4:=J;have t5:(t:Int)<4:=J;have t6:(0:Int)<=(t:Int):=J;have U:=aaH.base;have acf:=I aaH;have af2:=I (show∀w',Below w0.heap.size w0 w'->_ from fun w' hb=>FH w' B p F n W (YI.out.below hb) ZR.out t (by rw[Br.out];exact bV));have Ua:=vm;have ts:=I vm;clear vm aaH;go_upto_region 15 with(first|(refine aq ?_)|(refine VP U nz ?_;clear U;intro jh w U vl)|(refine aT ?_;clear U;intro X8 w U aay))
        go_wp2_with fail;refine Calls.mono (af2.out _ (acf.out.back U).all) ?_;rintro e aaM ⟨v,rfl,hv,N⟩;obtain⟨WY,aap,rfl,-,-,bT⟩:=id hv;obtain⟨YS,ro,rfl,Ni,ss,Qe⟩:=bT am;have JP:=I N;have UN:=I Ni;have sM: ∀j,j<4->aaM.cell? ⟨YS,ro+j,none⟩=some (.int .u64 ((W.XT t).regs j)):=fun j aeD=>by have:=Qe j 0 _ aeD rfl;rwa[show ro+(j*1+0)=ro+j by omega]at this
        have Qf:=I sM;have Qg:=I (show(m0 w0.heap.size jh gr aff) YS from⟨D acf.out.size Ni,fun e=>by have:=(acf.out.b (g:=jh) cX).lt;omega,fun e=>by have:=(acf.out.b (g:=gr) kw).lt;omega,fun e=>by have:=(acf.out.b (g:=aff) r3).lt;omega⟩);have K7:=I ss;have K8:=I (ts.out.Wu (Z1.cg N) (fun b _=>trivial));have eB:=I ((acf.out.back U).below N);clear hv bT Qe sM N U ts acf Ni ss;go_wp2;go_loopw [12] (fun i wr=> ∃k:Nat,k<=4/\i= .int .i64 k/\aah w0 (fun _=>True) wr none [⟨jh,65,cR (.slice aeQ n adr) (afo W sp) Y8 (W5 W (4*t+k)) aaz⟩,⟨gr,65,cR (.slice none 0 0) (fun _=>mZ) (.slice none 0 0) (fun _=>0) (fun _=>.slice none 0 0)⟩,⟨aff,27,[.int .i64 p.s,.int .i64 p.t,.int .i64 p.i,.int .i64 p.h]⟩]/\gl wr (m0 w0.heap.size jh gr aff) (.slice aeQ n adr) Y8 aaz n t W/\(∀j,j<4->wr.cell? ⟨YS,ro+j,none⟩=some (.int .u64 ((W.XT t).regs j)))/\YS<wr.heap.size) (fun i _=>4-(intOf i).toNat)
        case atStart=>exact⟨0,J,rfl,eB.out,K8.out,Qf.out,K7.out⟩
        case round=>
         obtain⟨k,ae3,rfl,aaH,vm,sM,ss⟩:=hrel;clear eB K8 Qf K7;by_cases iu:k<4
         ·have acZ:decide ((k:Int)<4)=true:=by simp;omega
          have adX:(k:Int)<4:=J;have acN:(0:Int)<=(k:Int):=J;obtain⟨x,Wy⟩: ∃x,(W.XT t).regs k=x:=⟨_,rfl⟩
          have VN:=I Wy;have Qh:=sM k iu;rw[Wy]at Qh;clear Wy;have Td:=I sM;have ts:=I vm;clear sM vm;have U:=aaH;go_upto_region 19 with(first|(refine aq ?_)|(refine VP U nz ?_;clear U;intro jh w U vl)|(refine aT ?_;clear U;intro X8 w U aay))
          replace U:=aaH.drew;have fu:=U;replace U:=fu.base;have XK:=I (show∀(w:World) (L:List abN),aah wr.drew (bq none [⟨jh,65,cR (.slice aeQ n adr) (afo W sp) Y8 (W5 W (4*t+k)) aaz⟩,⟨gr,65,cR (.slice none 0 0) (fun _=>mZ) (.slice none 0 0) (fun _=>0) (fun _=>.slice none 0 0)⟩,⟨aff,27,[.int .i64 p.s,.int .i64 p.t,.int .i64 p.i,.int .i64 p.h]⟩]) w none L->∀ {j} {u:Value},wr.cell? ⟨YS,j,none⟩=some u->w.cell? ⟨YS,j,none⟩=some u from fun w L h j u hu=>by
           have:=h.Wu.block YS ss (gA Qg.out rfl);rw[World.cell?_of_block (w:=wr.drew) this];exact hu)
          have Te:=I Qh;have EY:=I (show∀(w:World) (L:List abN),aah wr.drew (bq none [⟨jh,65,cR (.slice aeQ n adr) (afo W sp) Y8 (W5 W (4*t+k)) aaz⟩,⟨gr,65,cR (.slice none 0 0) (fun _=>mZ) (.slice none 0 0) (fun _=>0) (fun _=>.slice none 0 0)⟩,⟨aff,27,[.int .i64 p.s,.int .i64 p.t,.int .i64 p.i,.int .i64 p.h]⟩]) w none L->w.cell? ⟨YS,ro+k,none⟩=some (.int .u64 x)from fun w L h=>XK.out w L h Te.out);refine wp_region_held_drew (S:=fun w=>w.cell? ⟨YS,ro+k,none⟩=some (.int .u64 x)) aM (EY.out _ _ U) (fun X=>?_);refine RM [[0,1,2,3,4,5,6,7,8]] ?_;refine Yt (fun K Z7=>?_);refine Nf U (Hp t4 iu x) ?_;clear U;intro w U;refine WE Z7 ?_;clear Z7 K;intro X;refine az [[]] ?_;go_wp2_with fail;go_roundw
          case rel=>exact⟨k+1,J,by go_num,by
           have h1:=fu.back U;rw[<-VN.out,JO W t k iu]at h1;exact h1,ts.out.Wu (Z1.trans (Z1.cg (show Below wr.heap.size wr wr.drew from a2)) U.Wu) (fun b hb=>gA hb rfl),fun j aeD=>XK.out _ _ U (Td.out j aeD),by have:=U.size;exact aj ss this⟩
          case measure=>simp[intOf];omega
         ·obtain rfl:k=4:=by omega
          have acZ:decide (((4:Nat):Int)<4)=false:=am;have ts:=I vm;have U:aah w0 (fun _=>True) wr none [⟨jh,65,cR (.slice aeQ n adr) (afo W sp) Y8 (W5 W (4*(t+1))) aaz⟩,⟨gr,65,cR (.slice none 0 0) (fun _=>mZ) (.slice none 0 0) (fun _=>0) (fun _=>.slice none 0 0)⟩,⟨aff,27,[.int .i64 p.s,.int .i64 p.t,.int .i64 p.i,.int .i64 p.h]⟩]:=aaH;clear vm sM aaH;obtain⟨Yz,nc⟩: ∃Yz,(W.XT t).aD.length=Yz:=⟨_,rfl⟩
          have Tf:Yz<=65536:=by rw[<-nc];exact Gd.out t (by rw[Br.out];exact bV)
          have vj:=I nc;have Yw:=I (show∀w',Below w0.heap.size w0 w'->_ from fun w' hb=>sX w' B p F n W (YI.out.below hb) ZR.out t (by rw[Br.out];exact bV) (by rw[nc];exact Tf));have aeN:=ts.out.z t (ai _);have Qi:=I (show(cR (.slice aeQ n adr) (afo W sp) Y8 (W5 W (4*(t+1))) aaz)[50+t]? =some (.slice none 0 0)from by rw[D8 t4,aeN]);clear nc aeN;go_upto_region 20 with(first|(refine aq ?_)|(refine VP U nz ?_;clear U;intro jh w U vl)|(refine aT ?_;clear U;intro X8 w U aay))
          have aaH:=U.drew;have Qb:=I (ts.out.Wu (Z1.cg (show Below wr.heap.size wr wr.drew from a2)) (fun b _=>trivial));have WH:=I aaH.size;have Yq:=aaH.base;replace U:=Yq;refine wp_region_held_drew (S:=fun _=>True) aM trivial (fun X=>?_);refine az [[0,1,2,3,5,6,9]] ?_;refine Zj [4,7] ?_;refine ea (fun K Z7=>?_) ?_
          ·refine YL U (hv:=Qi.out) ?_;refine WE Z7 ?_;clear Z7 K;intro X;refine Yt (fun K Z7=>?_);go_simp
           (go_at_call 103;refine Calls.mono (Yw.out _ (aaH.back U).all) ?_;rintro e aaM ⟨v,rfl,hv,N⟩;obtain⟨af3,afw,rfl,-,-,-⟩:=id hv;rw[vj.out];replace hv:acr aaM _ (.slice af3 (W.XT t).aD.length afw) (W.XT t).aD.length 2 (iw (W.XT t).aD):=hv;rw[vj.out]at hv;replace U:=U.below N;clear N;replace hv:=I hv)
           go_wp2_with fail;exact pf
          refine ei (fun K Z7=>?_);go_simp
          (go_at_call 103;refine Calls.mono (Yw.out _ (aaH.back U).all) ?_;rintro e aaM ⟨v,rfl,hv,N⟩;obtain⟨af3,afw,rfl,-,-,-⟩:=id hv;rw[vj.out];replace hv:acr aaM _ (.slice af3 (W.XT t).aD.length afw) (W.XT t).aD.length 2 (iw (W.XT t).aD):=hv;rw[vj.out]at hv;replace U:=U.below N;clear N;replace hv:=I hv)
          go_wp2_with fail;refine WE Z7 ?_;clear Z7 K;intro X;refine aF 4 fun K Z7=>?_;refine YL U (hv:=Qi.out) ?_;exact pf
       ·obtain rfl:T=t:=by omega
        have WJ: ¬(T:Int)<p.t:=by rw[YQ.out];omega
        have ts:=I vm;have XP:=fun j v (hv:(cR (.slice aeQ n adr) (afo W sp) Y8 (W5 W (4*T)) aaz)[j]? =some v)=>aaH.cell (g:=jh) (i:=0+j) ag (by rw[ax];exact hv);have YT:=I XP;have Tg:=I (vm.one (f:=afo W sp) (g:=W5 W (4*T)));have acf:=I aaH;have U:=aaH.base;clear XP vm aaH;go_wp2_with(first|(refine adD YT.out ?_ (by rfl))|(refine aaO U ?_)|(refine Ng U Bp ?_ (h1:=Tg.out);clear U;intro w U));refine cw results41 rfl rfl ⟨_,U.b ag,rfl⟩ underlying65 rfl aM ?_;refine⟨.slice aeQ n adr,Y8,aaz,?_,?_,(acf.out.back U).all⟩
        ·rw[Br.out,show p.s.toNat=sp by have:=FY.out;omega]
        ·rw[Br.out];have h1:=ts.out.Wu U.Wu fun b hb=>gA hb rfl;exact⟨h1.ws.mono fun b _ hb=>hb.1,h1.e.mono fun b _ hb=>hb.1,fun j aeD=>(h1.r j aeD).mono fun b _ hb=>hb.1,h1.z⟩
end
end Go.Proofs.YtcimojgkeoecfaaGreat
