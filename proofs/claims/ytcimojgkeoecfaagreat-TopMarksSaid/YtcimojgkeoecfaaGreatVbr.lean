import Derived.Test.YtcimojgkeoecfaaGreatVbo
import Derived.Test.YtcimojgkeoecfaaGreatVbq
set_option linter.all false
set_option maxHeartbeats 16000000
set_option maxRecDepth 100000
namespace Go.Proofs.YtcimojgkeoecfaaGreat
open Go.RowKit Tryz
theorem df.below{w w':World}{B:WB}{p:PO}{F:b1}{n:Nat}{W:Wd}(h:df w B p F n W)(k:Below w.heap.size w w'):df w' B p F n W:=
 ⟨h.wd.below k h.wd.lt,h.VB.below k h.VB.c9.1 h.VB.c9.2.1,h.gr.Wu (k.block _ h.gr.lt.1) (k.block _ h.gr.lt.2),h.YV.below k,h.Wl.below k,fun i hi=>(h.XT i hi).below k,by
   obtain⟨b,h1,a,d⟩:=h.op.ex
   exact⟨b,h1,fun q c=>(a q c).below k,d.imp id fun⟨cap,rest,e,hb,r⟩=>⟨cap,rest,e,hb.below k hb.lt,r⟩⟩,h.CR,h.CS,h.AO,h.FB⟩
theorem zJ(a n:Int)(w:World)(c:0<=a/\a<=70000)(f:1<=n/\n<=8):
 Calls prog 99 #[.int .i64 a,.int .i64 n] w fun e w'=>e= .returned (.int .i64 (a %n))/\w=w':=by
 have t1:a.tmod n=a %n:=al c.1;have b:=b5 a (by omega:n≠0);have h: ¬a %n<0:=J;have g: ¬n=0:=J;have d:IntKind.i64.wrap (a %n)=a %n:=by
  have:=cA a (by omega:0<n);rw[IntKind.wrap_i64];omega
 clear b;go_enter func99,ntmps99;go_wp2;go_ret;exact⟨rfl,rfl⟩
theorem Nb(w:World)(S:Nat->Prop)(v:Value)(n:Nat)(F:Nat->List Value)(h:KC w S v n 1 F)(d:n<=maxLen):
 Calls prog 9 #[v] w fun e w'=> ∃v',e= .returned v'/\KC w S v' (min n 400) 1 F/\w=w':=by
 obtain⟨A,c,rfl,h1,a,f⟩:=h;by_cases o:n<=400
 ·have p:(n:Int)<=400:=by omega
  have g:KC w S (.slice A n c) (min n 400) 1 F:=by rw[Nat.min_eq_left o];exact⟨A,c,rfl,h1,a,f⟩
  have G:=I g;unfold maxLen at d a;have k:(n:Int)<=(c:Int):=J;clear f g;go_enter func9,ntmps9;go_wp2;go_ret;exact⟨_,rfl,G.out,rfl⟩
 ·have p: ¬(n:Int)<=400:=by omega
  have g:KC w S (.slice A 400 c) (min n 400) 1 F:=by
   rw[Nat.min_eq_right J];exact⟨A,c,rfl,J,a,fun _=>by
    obtain⟨b,off,e,m,hb,l⟩:=f J;exact⟨b,off,e,m,hb,fun i j u hi hu=>l i j u J hu⟩⟩
  have G:=I g;unfold maxLen at d a;have k:(400:Int)<=(c:Int):=J;clear f g;go_enter func9,ntmps9;go_wp2;go_ret;exact⟨_,rfl,G.out,rfl⟩
def vg(l:List Int)(i:Nat):Int:=if i<l.length then l.getD i 0 else i
def iv(W:Wd)(T:Nat)(l:List Int)(i:Nat):Int:=if(ec W T).length=0 then-1 else(ec W T).getD (vg l i %(ec W T).length).toNat 0
theorem qU{W:Wd}{T:Nat}{x:Int}(h:x∈ec W T):0<=x/\x<T/\(W.XT x.toNat).ended=false:=by
 unfold ec at h;obtain⟨i,hi,rfl⟩:=List.mem_map.1 h;obtain⟨h1,a⟩:=List.mem_filter.1 hi;have:=List.mem_range.1 h1;exact⟨J,J,by simpa using a⟩
theorem pU{l:List Int}{i:Nat}(h:i<l.length):l.getD i 0∈l:=by
 rw[ae,an h];exact bA h
theorem KC.at_{w:World}{S:Nat->Prop}{v:Value}{l:List Int}(h:cF w S v l): ∃b off c,(0<l.length->v= .slice (some ⟨b,off,none⟩) l.length c)/\(l.length=0->v= .slice none 0 c\/∃A,v= .slice A 0 c)/\∀i,i<l.length->w.cell? ⟨b,off+i,none⟩=some (.int .i64 (l.getD i 0)):=by
 obtain⟨A,c,rfl,h1,f,e⟩:=h;rcases aQ l.length with a|a
 ·exact⟨0,0,c,fun h=>J,fun _=>.inr ⟨A,by rw[a]⟩,fun i hi=>J⟩
 ·obtain⟨b,off,rfl,g,hb,d⟩:=e a;exact⟨b,off,c,fun _=>rfl,fun h=>J,fun i hi=>by have:=d i 0 _ hi rfl;rwa[show off+(i*1+0)=off+i by omega]at this⟩
theorem B1(w0:World)(B:WB)(p:PO)(F:b1)(n:Nat)(W:Wd)(h:df w0 B p F n W)(V: ∀i,i<p.t.toNat->(W.XT i).calls.length<=65536)(v:VV)(s:h9)(vy:Nat)(S:a7 w0 vy v s)(ok:hV s)(xn:s.p=p)(i:Nat)(hi:i<=65536):
 Calls prog 40 #[.pointer (some ⟨B.O3,0,none⟩),.agg (gy s.p v).toArray,.int .i64 i] w0 fun e w'=>e= .returned (.int .i64 (iv W s.p.t.toNat s.cp i))/\Below w0.heap.size w0 w':=by
 subst xn;have d:=ok.p;obtain⟨T,j⟩: ∃T,s.p.t.toNat=T:=⟨_,rfl⟩
 have mH:T<=4:=by have:=d.t;omega
 have Yj:s.p.t=(T:Int):=by have:=d.t;omega
 obtain⟨l,u⟩: ∃l,ec W T=l:=⟨_,rfl⟩
 obtain⟨m,hm⟩: ∃m,l.length=m:=⟨_,rfl⟩
 have P4:m<=4:=by
  have:l.length<=T:=by rw[<-u];unfold ec;rw[bJ];have:=List.length_filter_le (fun i=> !(W.XT i).ended) (List.range T);simpa using this
  omega
 have YI:=I h;have ZR:=I d;have y1:=I V;have YQ:=I j;have U:=Bx.a0 w0;have K:=I (show∀w',Below w0.heap.size w0 w'->Calls prog 66 #[.pointer (some ⟨B.O3,0,none⟩)] w' fun e du=> ∃v,e= .returned v/\cF du (fun b=>w'.heap.size<=b) v l/\Below w'.heap.size w' du from fun w' hb=>by
  rw[<-u,<-j];exact tx w' B s.p F n W (h.below hb) d V)
 obtain⟨zZ,adF,Xj,C,ZK,W6⟩:=KC.at_ S.cF;obtain⟨k,o⟩: ∃k,s.cp.length=k:=⟨_,rfl⟩
 obtain⟨A9,yQ,f⟩:=xL S.pi;rw[o]at f;rw[j];show Calls _ _ #[_,.agg #[.int .i64 s.p.s,.int .i64 s.p.t,.int .i64 s.p.i,.int .i64 s.p.h,.slice (some ⟨v.U1,0,none⟩) 8 v.U6,.slice (some ⟨v.L8,0,none⟩) s.p.t.toNat v.VY,v.TK],_] _ _;rcases aQ m with R|R
 ·have P:=I (show iv W T s.cp i= -1 by unfold iv;rw[u,hm,Z R]);rw[P.out,f];subst R;have r:=I hm;clear h d V j Yj u S ok C ZK W6 o f hm;go_enter func40,ntmps40;go_wp2_with(first|(go_at_call 66;refine Calls.mono (K.out _ U.all) ?_;rintro e z ⟨yV,rfl,G,N⟩;obtain⟨nL,Zo,rfl,-,-,-⟩:=id G;rw[r.out];replace U:=U.below N;clear N G)|(refine aq ?_)|(refine aT ?_;clear U;intro X8 w U X));go_ret;exact⟨rfl,U.all⟩
 ·have p2: ¬(m:Int)=0:=by omega
  have aeU: ¬m=0:=J;by_cases JM:i<s.cp.length
  ·have WU:(i:Int)<(k:Int):=by omega
   have tV:(0:Int)<=(i:Int):=J;obtain⟨x,Q⟩: ∃x,s.cp.getD i 0=x:=⟨_,rfl⟩
   have A:=W6 i JM;have Xo:=C J;rw[Q]at A;rw[o]at Xo;rw[Xo]at f⊢;have hj:0<=x/\x<=70000:=by have:=(ok.k.2 _ (pU JM));rw[<-Q];omega
   obtain⟨q,H⟩: ∃q:Nat,x %(m:Int)=(q:Int):=⟨(x %(m:Int)).toNat,by have:=b5 x (by omega:(m:Int)≠0);omega⟩
   have Nc:q<m:=by have:=cA x (by omega:(0:Int)<(m:Int));omega
   obtain⟨y,hy⟩: ∃y,l.getD q 0=y:=⟨_,rfl⟩
   have O:y∈l:=by rw[<-hy];exact pU J
   obtain⟨Wg,vu,-⟩:=qU (u▸O);have jP:y<s.p.t:=J;have P:=I (show iv W T s.cp i=y by
    unfold iv vg;rw[u,hm,aB,Z JM,Q,H,bL,hy])
   have M:=I H;have L:=I hy;have q1:(q:Int)<(m:Int):=J;have Zh:(0:Int)<=(q:Int):=J;have S9:decide (y<0)=false:=by simpa using Wg
   have aeV:=I Q;rw[P.out];clear H hy O Q;have abC:=I A;have UL:=I (show zZ<w0.heap.size from World.block_lt_of_cell? w0 _ A);have r:=I hm;clear h d V j Yj u S ok C ZK W6 o f Xo A hm;go_enter func40,ntmps40;go_wp2_with(first|(go_at_call 66;refine Calls.mono (K.out _ U.all) ?_;rintro e z ⟨yV,rfl,G,N⟩;obtain⟨afn,lo,ad5,a,-,c⟩:=KC.at_ G;rw[r.out]at a c;obtain rfl:=a R;have Zi:=c q Nc;rw[L.out]at Zi;clear a c G;replace U:=U.below N;clear N;have Zo:=(U.all.cell (p:=⟨zZ,adF+i,none⟩) UL.out).trans abC.out)|(go_at_call 99;refine Calls.mono (zJ _ _ _ hj J) ?_;rintro e z ⟨rfl,rfl⟩;rw[M.out])|(refine aq ?_)|(refine aT ?_;clear U;intro X8 w U X));go_ret;exact⟨rfl,U.all⟩
  ·have WU: ¬(i:Int)<(k:Int):=by omega
   have hj:0<=(i:Int)/\(i:Int)<=70000:=J;obtain⟨q,H⟩: ∃q:Nat,(i:Int)%(m:Int)=(q:Int):=⟨((i:Int)%(m:Int)).toNat,by have:=b5 (i:Int) (by omega:(m:Int)≠0);omega⟩
   have Nc:q<m:=by have:=cA (i:Int) (by omega:(0:Int)<(m:Int));omega
   obtain⟨y,hy⟩: ∃y,l.getD q 0=y:=⟨_,rfl⟩
   have O:y∈l:=by rw[<-hy];exact pU J
   obtain⟨Wg,vu,-⟩:=qU (u▸O);have jP:y<s.p.t:=J;have P:=I (show iv W T s.cp i=y by
    unfold iv vg;rw[u,hm,aB,Y JM,H,bL,hy])
   have M:=I H;have L:=I hy;have q1:(q:Int)<(m:Int):=J;have Zh:(0:Int)<=(q:Int):=J;have S9:decide (y<0)=false:=by simpa using Wg
   rw[P.out];rw[f];clear H hy O;have r:=I hm;clear h d V j Yj u S ok C ZK W6 o f hm;go_enter func40,ntmps40;go_wp2_with(first|(go_at_call 66;refine Calls.mono (K.out _ U.all) ?_;rintro e z ⟨yV,rfl,G,N⟩;obtain⟨afn,lo,ad5,a,-,c⟩:=KC.at_ G;rw[r.out]at a c;obtain rfl:=a R;have Zi:=c q Nc;rw[L.out]at Zi;clear a c G;replace U:=U.below N;clear N)|(go_at_call 99;refine Calls.mono (zJ _ _ _ hj J) ?_;rintro e z ⟨rfl,rfl⟩;rw[M.out])|(refine aq ?_)|(refine aT ?_;clear U;intro X8 w U X));go_ret;exact⟨rfl,U.all⟩
theorem tI{w:World}{P:Program}{o:Oper}{a a':Act}{Q:Exit->Act->World->Prop}{ops:Array Oper}{rest:List Oper}{b:TypeId}{x:Operand}{g off n:Nat}{ds:List Value}(h: ∀j v,ds[j]? =some v->w.cell? ⟨g,off+j,none⟩=some v)(m:wpList P ops Q rest a' w)(c:ds.length=n)
 (q:o.guard=none:=by exact rfl)(p:o.op= .load b x:=by exact rfl)(e:ye P b n:=by exact Im)(f:a.eval x= .pointer (some ⟨g,off,none⟩):=by exact rfl)
 (i:a.put o.dst (.agg ds.toArray)=a':=by exact fa):wpList P ops Q (o::rest) a w:=by
 obtain⟨⟨d,hu,hd⟩,l⟩:=e;exact wpList_plain q fun K k=>wp_load_mid b x p g off f ds d h hu hd (by rw[l,c]) (k _ _ (i▸m))
def xM(W:Wd)(T:Nat)(l:List Int)(i:Nat):Bool:=decide (240<=i)||decide (iv W T l i<0)
theorem B2(w0:World)(B:WB)(p:PO)(F:b1)(n:Nat)(W:Wd)(h:df w0 B p F n W)(l: ∀i,i<p.t.toNat->(W.XT i).calls.length<=65536)(v:VV)(s:h9)(a:Nat)(c:a7 w0 a v s)(ok:hV s)(b:s.p=p)(i:Nat)(hi:i<=65536):
 Calls prog 14 #[.pointer (some ⟨B.O3,0,none⟩),.agg (gy s.p v).toArray,.int .i64 i] w0 fun e w'=>e= .returned (.bool (xM W s.p.t.toNat s.cp i))/\Below w0.heap.size w0 w':=by
 have NX:=I (show∀w',Below w0.heap.size w0 w'->Calls prog 40 #[.pointer (some ⟨B.O3,0,none⟩),.agg (gy s.p v).toArray,.int .i64 i] w' fun e r=>e= .returned (.int .i64 (iv W s.p.t.toNat s.cp i))/\Below w'.heap.size w' r from fun w' hb=>B1 w' B p F n W (h.below hb) l v s a (c.below hb) ok b i hi);unfold xM;obtain⟨y,hy⟩: ∃y,iv W s.p.t.toNat s.cp i=y:=⟨_,rfl⟩
 rw[hy]at NX⊢;obtain⟨TK,d⟩: ∃u,v.TK=u:=⟨_,rfl⟩
 simp only[gy]at NX⊢;rw[d]at NX⊢;have U:=Bx.a0 w0;have m:=KC.one c.cF;rw[d]at m;clear h l c ok b hi hy d;by_cases j:240<=i
 ·have o:decide ((240:Int)<=(i:Int))=true:=by simp;omega
  rw[decide_eq_true j,Bool.true_or];go_enter func14,ntmps14;go_wp2_with(first|(refine aq ?_)|(refine aT ?_;clear U;intro q w U f));go_ret;exact⟨rfl,U.all⟩
 ·have o:decide ((240:Int)<=(i:Int))=false:=by simp;omega
  rw[decide_eq_false j,Bool.false_or];go_enter func14,ntmps14;go_wp2_with(first|(go_at_call 40;refine a6 U (NX.out _ U.all) ?_;clear U;intro x U)|(refine WG U ?_)|(refine aq ?_)|(refine aT ?_;clear U;intro q w U f));go_ret;exact⟨rfl,U.all⟩
def vh(l:List db)(t:Int):Option db:=l.reverse.find? fun o=>o.XT==t
theorem wO{l:List db}{t:Int}{k:Nat}{o:db}(a:l[k]? =some o)(e:o.XT=t)(h: ∀(j:Nat) (o':db),k<j->l[j]? =some o'->o'.XT≠t):vh l t=some o:=by
 unfold vh;induction l generalizing k with
 |nil=>cases a
 |cons x l c=>
  rw[List.reverse_cons,List.find?_append];rcases k with _|k
  ·rw[List.getElem?_cons_zero]at a;injection a with a
   subst a;have:List.find? (fun o=>o.XT==t) l.reverse=none:=by
    rw[List.find?_eq_none];intro y hy;obtain⟨j,b⟩:=bZ (List.mem_reverse.1 hy);have:=h (j+1) y J (by rw[cz];exact b);simpa using this
   rw[this];simp[e]
  ·rw[cz]at a;rw[c a fun j o' b d=>h (j+1) o' J (by rw[cz];exact d)];rfl
theorem Bm{l:List db}{t:Int}{o:db}(h:vh l t=some o): ∃k:Nat,l[k]? =some o/\o.XT=t:=by
 unfold vh at h;have h1:=List.mem_of_find?_eq_some h;have a:=List.find?_some h;obtain⟨k,b⟩:=bZ (List.mem_reverse.1 h1);exact⟨k,b,by simpa using a⟩
theorem Hg{a:List (db×Value)}{k:Nat}{o:db}{u:Value}(h:a[k]? =some (o,u)):ll a k=dN o u:=by unfold ll;rw[h];rfl
theorem D7(w0:World)(B:WB)(p:PO)(F:b1)(n:Nat)(W:Wd)(h:df w0 B p F n W)(R:W.ops.length<=65536)(z: ∀o,o∈W.ops->o.aC.said.length<=65536)(t:Int)(o:db)(ZQ:vh W.ops t=some o):
 Calls prog 43 #[.pointer (some ⟨B.O3,0,none⟩),.int .i64 t] w0 fun e w'=> ∃u,e= .returned (.tuple #[.agg (dN o u).toArray,.bool true])/\cF w' (fun b=>w0.heap.size<=b) u o.aC.said/\Below w0.heap.size w0 w':=by
 have Ta:=I (show∀w',Below w0.heap.size w0 w'->_ from fun w' hb=>BT w' B p F n W (h.below hb) R z);have U:=Bx.a0 w0;have WS:=I R;have H:=I ZQ;clear h z R ZQ;go_enter func43,ntmps43;go_upto_region 1 with(first|(refine aq ?_)|(refine VP U BI ?_;clear U;intro O w U P5)|(refine Po U ?_;clear U;intro w U))
 go_wp2_with fail;refine Calls.mono (Ta.out _ U.all) ?_;rintro e f ⟨v,l,rfl,n9,z,hv,N⟩;obtain⟨A,c,rfl,-,-,bT⟩:=id hv;have WH:=I (And.intro U.size (U.b (g:=O) cX).lt);replace U:=U.below N;have Bi:=I z;have L:=I n9;have T:=I bT;have Dh:l.length<=65536:=by have:=WS.out;rw[<-L.out,bJ]at this;exact this
 obtain⟨m,hm⟩: ∃m,l.length=m:=⟨_,rfl⟩
 rw[hm]at Dh T⊢;have r:=I hm;clear n9 z bT hv N hm;obtain⟨lF,S,Ir⟩:=Bm H.out;have p2:0<m:=by
  have h1:=(List.getElem?_eq_some_iff.1 S).1;rw[<-L.out,bJ,r.out]at h1;omega
 obtain⟨b,off,rfl,P6,fC,c3⟩:=T.out p2;have YT:=I c3;have aeW:=I P6;have P7:=I (And.intro S Ir);have C:=U;have U:=C.base;clear c3 T S Ir P6;go_upto_region 2 with(first|(refine aq ?_)|(refine VP U BI ?_;clear U;intro O w U P5)|(refine Po U ?_;clear U;intro w U))
 go_wp2;go_loop [7] (fun i=> ∃a:Int,-1<=a/\a<m/\i= .int .i64 a/\∀(j:Nat) (o':db),a<j->W.ops[j]? =some o'->o'.XT≠t) (fun i=>(intOf i+1).toNat)
 case atStart=>exact⟨(m:Int)-1,J,J,rfl,fun j o' K E7=>by
  have h1:=(List.getElem?_eq_some_iff.1 E7).1;rw[<-L.out,bJ,r.out]at h1;omega⟩
 case round=>
  obtain⟨a,aH,ru,rfl,P⟩:=hrel;by_cases YM:0<=a
  ·obtain⟨k,rfl⟩: ∃k:Nat,a=(k:Int):=⟨a.toNat,J⟩
   obtain⟨⟨o',u'⟩,y⟩: ∃q,l[k]? =some q:=⟨_,an (by rw[r.out];omega)⟩
   have P8:W.ops[k]? =some o':=by rw[<-L.out,a3,y];rfl
   have Q: ∀j v,(dN o' u')[j]? =some v->f.cell? ⟨b,off+k*14+j,none⟩=some v:=fun j v hv=>by
    have:=YT.out k j v J (by rw[Hg y];exact hv);rwa[show off+(k*14+j)=off+k*14+j by omega]at this
   have VI:f.cell? ⟨b,off+k*14,none⟩=some (.int .i64 o'.XT):=Q 0 _ rfl;have w1:=KC.one (Bi.out _ (bf y));simp only at w1;have G:=I P;have X:=I y;have P9:=I P8;have Tb:=I Q;clear P y P8 Q;by_cases s:o'.XT=t
   ·have V:(o'.XT==t)=true:=by simpa using s
    have v4:o'=o:=by
     have h1:=wO P9.out s fun j M K d=>G.out j M J d;rw[H.out]at h1;exact(Option.some.inj h1).symm
    subst v4;have Yl:=I s;clear s;have Wv: ∀(k:IntKind) (n:Int),(Value.int k n).oneCell'=true:=fun _ _=>rfl;go_wp2_with(first|(refine tI Tb.out ?_ (by rfl);unfold dN)|(refine Po U ?_;clear U;intro w U));refine aZ results43 rfl rfl ⟨_,U.b ag,rfl⟩ underlying46 rfl aM ?_;refine⟨u',rfl,?_,(C.back U).all⟩;have h1:cF f (fun b=>bq none [⟨O,46,[.int .i64 0,.int .u8 0,.int .u8 0,.int .u8 0,.int .u8 0,.int .i64 0,.int .i64 0,.int .i64 0,.int .i64 0,.int .i64 0,.int .i64 0,.int .i64 0,.int .i64 0,.slice none 0 0]⟩] b/\w0.heap.size<=b) u' o'.aC.said:=(Bi.out _ (bf X.out)).mono fun b _ hb=>by
     have d:=WH.out;exact⟨⟨fun x Wy e=>by
      simp only[ad,E,av]at Wy;subst Wy;simp only at e;omega,fun a e=>by cases e⟩,J⟩
    exact(h1.Wu (U.Wu.mono fun b _ h=>h.1)).mono fun b _ h=>h.2
   ·have V:(o'.XT==t)=false:=by simpa using s
    go_wp2;go_round
    case rel=>exact⟨(k:Int)-1,J,J,by go_num,fun j M K d=>by
     rcases Nat.eq_or_lt_of_le (show k<=j by omega)with rfl|ZV
     ·rw[P9.out]at d;cases d;exact s
     ·exact G.out j M J d⟩
    case measure=>simp[intOf]
  ·exfalso;exact P lF o J P7.out.1 P7.out.2
section
theorem pf{G:Prop}(h:G:=by
 refine WE Z7 ?_;clear Z7 K;intro X;refine Yt (fun K Z7=>?_);refine ta Yq U (UC.nil _ _ _ _ _ _) rfl _ _ 62 rfl (.agg #[.int .i64 0,.bool false]) 16 g4 nk rfl (by decide) rfl _ _ _ rfl hv.out (hJ (W.XT t).aD Yz) (by unfold maxLen;omega) (by omega) ?_;clear U;intro aaU w Hh Hj;obtain⟨Uu,VU,rfl⟩:=Hj.Ai;have Nd:=K5 WH.out Hj (hJ (W.XT t).aD Yz);have Tc:de w _ (.slice Uu Yz VU) (W.XT t).aD:=(by show KC _ _ _ (W.XT t).aD.length 2 _;rw[vj.out];exact Nd);have Qa:=Qb.out.Wu Hh.Wu (fun b hb=>gA hb rfl);have Hk:=DI.back Hh;have U:=Hk.base;refine WE Z7 ?_;clear Z7 K;intro X;refine az [[10]] ?_;refine Yt (fun K Z7=>?_);refine Nf U (Hl t4) ?_;clear U;intro w U;refine WE Z7 ?_;clear Z7 K;intro X;refine az [[]] ?_;go_wp2_with fail;go_roundw
 case rel=>exact⟨t+1,_,by omega,by go_num,Hk.back U,(Qa.snoc Tc).Wu U.Wu fun b hb=>gA hb rfl⟩
 case measure=>simp[intOf];omega):G:=h
theorem pg{G:Prop}(h:G:=by
 refine WE Z7 ?_;clear Z7 K;intro X;refine Yt (fun K Z7=>?_);refine ta Yq U (UC.nil _ _ _ _ _ _) rfl _ _ 58 rfl (.agg #[.int .i64 0,.int .i64 0]) 16 bw cj rfl (by decide) rfl _ _ _ rfl hv.out (kn W.fr m) (by unfold maxLen;omega) (by omega) ?_;clear U;intro aaU w Hh Hj;obtain⟨Uu,VU,rfl⟩:=Hj.Ai;have Nd:=K5 WH.out Hj (kn W.fr m);have Qc:=Qd.out.Wu (Hh.Wu.mono fun b _ hb=>gA hb rfl);have Hk:=DI.back Hh;have U:=Hk.base;refine WE Z7 ?_;clear Z7 K;intro X;refine az [[5]] ?_;refine Yt (fun K Z7=>?_);refine Nf U Hm ?_;clear U;intro w U;refine WE Z7 ?_;clear Z7 K;intro X;refine az [[]] ?_;go_wp2_with fail;go_meet;exact⟨_,Hk.back U,Nd.Wu (U.Wu.mono fun b _ hb=>gA hb rfl),Qc.Wu (U.Wu.mono fun b _ hb=>gA hb rfl)⟩):G:=h
def B4(c:g7):List Value:= [.int .i64 c.st,.int .i64 c.Xf,.int .i64 c.YX,.int .i64 c.T5]
def cR(l:Value)(f:Nat->g7)(q:Value)(g:Nat->Int)(d:Nat->Value):List Value:=
 l::((List.range 8).flatMap (fun s=>B4 (f s))++(q::((List.range 16).map (fun j=>Value.int .u64 (g j))++(List.range 4).map d)))
variable{l q u:Value}{f:Nat->g7}{g:Nat->Int}{d:Nat->Value}
theorem qV:(cR l f q g d).length=54:=rfl
theorem Hn:er (cR l f q g d) 0 [u]=cR u f q g d:=rfl
theorem Ho{s:Nat}(a:s<8)(c:g7):er (cR l f q g d) (1+s*4) (B4 c)=cR l (put f s c) q g d:=by
 rcases s with _|_|_|_|_|_|_|_|s<;>first|rfl|omega
theorem Hm:er (cR l f q g d) 33 [u]=cR l f u g d:=rfl
theorem Hp{t k:Nat}(b:t<4)(a:k<4)(x:Int):er (cR l f q g d) (34+t*4+k) [.int .u64 x]=cR l f q (put g (4*t+k) x) d:=by
 rcases t with _|_|_|_|t<;>first|omega|(rcases k with _|_|_|_|k<;>first|rfl|omega)
theorem Hl{t:Nat}(a:t<4):er (cR l f q g d) (50+t) [u]=cR l f q g (put d t u):=by
 rcases t with _|_|_|_|t<;>first|rfl|omega
theorem D8{t:Nat}(a:t<4):(cR l f q g d)[50+t]? =some (d t):=by
 rcases t with _|_|_|_|t<;>first|rfl|omega
def mZ:g7:=⟨0,0,0,0⟩
def WO(W:Wd)(k:Nat):Nat->g7:=fun s=>if s<k then Wi W.V s else mZ
def W5(W:Wd)(k:Nat):Nat->Int:=fun j=>if j<k then(W.XT (j/4)).regs (j %4)else 0
theorem JN(W:Wd)(k:Nat):put (WO W k) k (Wi W.V k)=WO W (k+1):=by
 funext s;unfold put WO;by_cases h:s=k
 ·rw[Z h,m3,h]
 ·rw[Y h];by_cases a:s<k
  ·rw[Z a,m3]
  ·rw[Y a,aB]
theorem JO(W:Wd)(t k:Nat)(b:k<4):put (W5 W (4*t+k)) (4*t+k) ((W.XT t).regs k)=W5 W (4*t+(k+1)):=by
 funext s;unfold put W5;by_cases h:s=4*t+k
 ·rw[Z h,m3,h,show(4*t+k)/4=t by omega,show(4*t+k)%4=k by omega]
 ·rw[Y h];by_cases a:s<4*t+k
  ·rw[Z a,m3]
  ·rw[Y a,aB]
variable{w0 w w':World}{S:Nat->Prop}{A:Option XS}{L L':List PL}
variable{P:Program}{o:Oper}{a a':Act}{Q:Exit->Act->World->Prop}{ops:Array Oper}{rest:List Oper}
theorem Ng(h:Bx w0 S w A L){b:TypeId}{x y:Operand}{g off:Nat}{v:Value}{ds:List Value}{t:TypeId}{cs cs':List Value}(c:er cs off ds=cs')(k: ∀w',Bx w0 S w' A L'->wpList P ops Q rest a' w')
 (n:o.guard=none:=by exact rfl)(m:o.op= .store b x y:=by exact rfl)(e:a.eval x= .pointer (some ⟨g,off,none⟩):=by exact rfl)(hy:dt a y=some v:=by exact rfl)(hv:v.cells=ds.toArray:=by exact rfl)
 (i:Tr L g t cs cs' L':=by exact cf)(p:off+ds.length<=cs.length:=by first|exact bQ rfl|(simp only[aI,bR,qV,B4];omega))(hi:(P.info? b).map (·.size)=some ds.length:=by kernel_rfl)(h1:ds.all (·.oneCell')=true:=by first|rfl|(simp[*];done))
 (j:a.put o.dst undef=a':=by exact fa):wpList P ops Q (o::rest) a w:=
 hp h n b x y m g off v ds e hy hv (c▸i) p hi h1 fun w' s=>by rw[j];exact k w' s
theorem Nf{K:Act->World->Prop}(h:Bx w0 S w A L){b:TypeId}{x y:Operand}{g off:Nat}{v:Value}{ds:List Value}{t:TypeId}{cs cs':List Value}(c:er cs off ds=cs')(j: ∀w',Bx w0 S w' A L'->K (a.put o.dst undef) w')
 (k:o.op= .store b x y:=by exact rfl)(e:a.eval x= .pointer (some ⟨g,off,none⟩):=by exact rfl)(hy:dt a y=some v:=by exact rfl)(hv:v.cells=ds.toArray:=by exact rfl)
 (i:Tr L g t cs cs' L':=by exact cf)(m:off+ds.length<=cs.length:=by first|exact bQ rfl|(simp only[aI,bR,qV,B4];omega))(hi:(P.info? b).map (·.size)=some ds.length:=by kernel_rfl)(h1:ds.all (·.oneCell')=true:=by first|rfl|(simp[*];done)):Oper.wp P o a w K Q:=
 ev h b x y k g off v ds e hy hv (c▸i) m hi h1 j
theorem ta{j:World}{y:Option XS}{L1:List PL}{e:TypeId}{sz n:Nat}{v:Value}{xs:List Value}{K:Act->World->Prop}(h:Bx w0 S j y L1)(U:Bx j (bq y L1) w A L)(T9:UC w0 j y L1 e sz v n xs)(r:l1 A=l1 y)(s x:Operand)(t:TypeId)(T:o.op= .call {callee:=.builtin .append,args:= #[s,x],argTypes:= #[t,t]})
 (z:Value)(bytes:Nat)(p:P.underlying t=some (.slice e))(V:(P.info? e).map (fun i=>(i.zero,i.size,i.bytes))=some (some z,sz,bytes))(qG:z.cells.size=sz)(G:0<sz)
 (O:a.eval s=v)(B:Option Addr)(m c:Nat)(N:a.eval x= .slice B m c){S':Nat->Prop}{F:Nat->List Value}(gq:KC w S' (.slice B m c) m sz F)(hF:hl m sz F)(qH:n+m<=maxLen)(gR:(n+m)*bytes<=140737488355328)
 (R: ∀v' w',Bx w0 S w' A L->UC w0 w' A L e sz v' (n+m) (xs++bx m sz F)->K (a.put o.dst v') w'):Oper.wp P o a w K Q:=by
 rcases aQ m with rfl|hm
 ·have te:=T9.on h U r;have X:=h.back U;obtain⟨B',C,rfl,H⟩: ∃B' C,v= .slice B' n C/\n<=C:=by
   exact nF
  have nC:=ju (P:=P) w t o.type e sz p (by obtain⟨i,hi,M⟩:=Option.map_eq_some_iff.1 V;simp only[Prod.mk.injEq]at M;rw[hi,bt,M.2.1]) (fun k=>by rw[p];simp) B' B n C c H;unfold Oper.wp execOp;simp only[T,resolve,invoke,builtin,Sem.run_bind,Sem.run_pure,Result.andThen_ok,b8,aS,ck,O,N,nC];refine R _ _ X ?_;have:bx 0 sz F= []:=by unfold bx;simp
  rw[this,br];exact te
 ·obtain⟨b,off,rfl,_,_,W⟩:=gq.cells hm G fun i hi=>(hF i hi).1;exact gG h U T9 r s x t T z bytes p V qG G O ⟨b,off,none⟩ m c (bx m sz F) N (cv _ _ _) W (List.all_eq_true.2 fun u hu=>hF.flat G u hu) qH gR R
theorem UC.less{w0 w:World}{x:PL}{L:List PL}{e:TypeId}{sz n:Nat}{v:Value}{xs:List Value}(h:UC w0 w A (x::L) e sz v n xs):UC w0 w A L e sz v n xs:=
 ⟨h.own,fun j b=>⟨⟨fun y hy=>(h.fresh j b).1.1 y (ao _ hy),(h.fresh j b).1.2⟩,(h.fresh j b).2⟩⟩
def vk(V:Nat->Int)(i:Nat):List Value:= [.int .u64 (V i)]
structure gl(w:World)(S:Nat->Prop)(l q:Value)(d:Nat->Value)(n t:Nat)(W:Wd):Prop where
 ws:KC w S l n 1 (vk W.V)
 e:KC w S q W.fr.length 2 (eP W.fr)
 r: ∀j,j<t->de w S (d j) (W.XT j).aD
 z: ∀j,t<=j->d j= .slice none 0 0
theorem gl.Wu{w w':World}{S T:Nat->Prop}{l q:Value}{d:Nat->Value}{n t:Nat}{W:Wd}(h:gl w S l q d n t W)(k:Z1 T w w')(c: ∀b,S b->T b):gl w' S l q d n t W:=
 ⟨h.ws.Wu (k.mono fun b _ hb=>c b hb),h.e.Wu (k.mono fun b _ hb=>c b hb),fun j i=>(h.r j i).Wu (k.mono fun b _ hb=>c b hb),h.z⟩
theorem gl.snoc{w:World}{S:Nat->Prop}{l q u:Value}{d:Nat->Value}{n t:Nat}{W:Wd}(h:gl w S l q d n t W)(hu:de w S u (W.XT t).aD):gl w S l q (put d t u) n (t+1) W:=
 ⟨h.ws,h.e,fun j b=>by
   by_cases c:j=t
   ·subst c;rw[aP];exact hu
   ·rw[aw _ _ c];exact h.r j J,fun j b=>by rw[aw _ _ J];exact h.z j J⟩
theorem Bp{b e:Value}{f2:Nat->g7}{h:Nat->Int}{c:Nat->Value}:er (cR b f2 e h c) 0 (cR l f q g d)=cR l f q g d:=rfl
theorem gl.one{w:World}{S:Nat->Prop}{n t:Nat}{W:Wd}(h:gl w S l q d n t W):(cR l f q g d).all (·.oneCell')=true:=by
 have h1:=KC.one h.ws;have b:=KC.one h.e;have i: ∀j,(d j).oneCell'=true:=fun j=>by
  by_cases c:j<t
  ·exact KC.one (h.r j c)
  ·rw[h.z j J];rfl
 unfold cR;simp only[List.all_cons,List.all_append,List.all_flatMap,List.all_map,Bool.and_eq_true,h1,b,true_and];refine⟨by rw[List.all_eq_true];intro x _;rfl,by rw[List.all_eq_true];intro x _;rfl,by rw[List.all_eq_true];intro x _;exact i x⟩
def m0(B a b c x:Nat):Prop:=B<=x/\x≠a/\x≠b/\x≠c
theorem gA{B a b c x:Nat}{L:List PL}(h:m0 B a b c x)(j:L.map PL.g= [a,b,c]):bq none L x:=
 ⟨fun y hy e=>by
   have h1:y.g∈L.map PL.g:=List.mem_map.2 ⟨y,hy,rfl⟩
   rw[j,e]at h1
   simp only[ad,E,av]at h1
   obtain⟨_,i,m,k⟩:=h
   rcases h1 with h1|h1|h1
   ·exact i h1
   ·exact m h1
   ·exact k h1,fun a e=>by cases e⟩
theorem wP{a b c x:Nat}{L:List PL}(h:bq none L x)(i:L.map PL.g= [a,b,c]):x≠a/\x≠b/\x≠c:=by
 have h1: ∀z,z∈L.map PL.g->x≠z:=fun z j e=>by
  obtain⟨y,hy,rfl⟩:=List.mem_map.1 j;exact h.1 y hy e.symm
 rw[i]at h1;exact⟨h1 a aN,h1 b aN,h1 c aN⟩
theorem K5{w0 h w:World}{a b c:Nat}{L:List PL}{e:TypeId}{sz m:Nat}{v:Value}{F:Nat->List Value}(n:w0.heap.size<=h.heap.size)(j:UC h w none L e sz v (0+m) ([]++bx m sz F))(hF:hl m sz F)(k:L.map PL.g= [a,b,c]:=by rfl):KC w (m0 w0.heap.size a b c) v m sz F:=by
 rw[ax,au]at j;exact(j.sl fun i hi=>(hF i hi).1).mono fun x _ p=>⟨D n p.1,wP p.2 k⟩
theorem zK{p:PO}{n:Nat}(b:a9 p)(c:8*(n:Int)=64*p.s+p.i+p.h)(w:World):Calls prog 53 #[.agg #[.int .i64 p.s,.int .i64 p.t,.int .i64 p.i,.int .i64 p.h]] w fun x w'=>x= .returned (.int .i64 (8*(n:Int)))/\Below w.heap.size w w':=by
 have h:=Fl p.s p.t p.i p.h w b.s ⟨b.i.1,by have:=b.i;omega⟩ ⟨b.h.1,by have:=b.h;omega⟩;rwa[show p.s*64+p.i+p.h=8*(n:Int) by omega]at h
theorem Hq(w0:World)(B:WB)(p:PO)(F:b1)(n:Nat)(W:Wd)(h:df w0 B p F n W)(R:a9 p)(U4:8*(n:Int)=64*p.s+p.i+p.h)(lh: ∀s:Nat,(s:Int)<p.s->okW (W.V (8*s)))(m5:W.fr.length<=65536)(eO: ∀t,t<p.t.toNat->(W.XT t).aD.length<=65536):
 Calls prog 41 #[.pointer (some ⟨B.O3,0,none⟩),ej p] w0 fun e w'=> ∃l q d,e= .returned (.agg (cR l (WO W p.s.toNat) q (W5 W (4*p.t.toNat)) d).toArray)/\gl w' (fun b=>w0.heap.size<=b) l q d n p.t.toNat W/\Below w0.heap.size w0 w':=by
 have YI:=I h;have p3:=I lh;have Gd:=I eO;have Nh:=I m5;have ZR:=I R;have aeX:n<=260:=by have:=R.s;have:=R.i;have:=R.h;omega
 have ZG:=I U4;clear h lh eO m5 U4;have U:=Bx.a0 w0;go_enter func41,ntmps41;go_upto_region 1 with(first|(refine Ws U 27 ?_;clear U;intro y w U Hr)|(refine VP U nz ?_;clear U;intro gr w U Bq))
 go_upto_region 2 with(first|(refine aq ?_)|(refine VP U nz ?_;clear U;intro H w U vl)|(refine aT ?_;clear U;intro X8 w U T7))
 go_wp2;have eB:=I (show Bx w0 (fun _=>True) w none [⟨H,65,cR (.slice none 0 0) (WO W 0) (.slice none 0 0) (W5 W 0) (fun _=>.slice none 0 0)⟩,⟨gr,65,cR (.slice none 0 0) (fun _=>mZ) (.slice none 0 0) (fun _=>0) (fun _=>.slice none 0 0)⟩,⟨y,27,[.int .i64 p.s,.int .i64 p.t,.int .i64 p.i,.int .i64 p.h]⟩]from U);clear U;go_loopw [6] (fun i wr=> ∃(k:Nat) (l:Value),k<=n/\i= .int .i64 (8*(k:Int))/\Bx w0 (fun _=>True) wr none [⟨H,65,cR l (WO W 0) (.slice none 0 0) (W5 W 0) (fun _=>.slice none 0 0)⟩,⟨gr,65,cR (.slice none 0 0) (fun _=>mZ) (.slice none 0 0) (fun _=>0) (fun _=>.slice none 0 0)⟩,⟨y,27,[.int .i64 p.s,.int .i64 p.t,.int .i64 p.i,.int .i64 p.h]⟩]/\UC w0 wr none [⟨H,65,cR l (WO W 0) (.slice none 0 0) (W5 W 0) (fun _=>.slice none 0 0)⟩,⟨gr,65,cR (.slice none 0 0) (fun _=>mZ) (.slice none 0 0) (fun _=>0) (fun _=>.slice none 0 0)⟩,⟨y,27,[.int .i64 p.s,.int .i64 p.t,.int .i64 p.i,.int .i64 p.h]⟩] 59 1 l k (bx k 1 (vk W.V))) (fun i _=>8*n-(intOf i).toNat)
 case atStart=>exact⟨0,.slice none 0 0,J,rfl,eB.out,UC.nil _ _ _ _ _ _⟩
 case round=>
  obtain⟨k,l,TS,rfl,DI,T9⟩:=hrel;clear eB;have U:=DI.base;obtain⟨G,C,rfl⟩:=T9.form;by_cases bV:k<n
  ·have VI:8*(k:Int)<8*(n:Int):=by omega
   obtain⟨x,Wy⟩: ∃x,W.V k=x:=⟨_,rfl⟩
   have VN:=I Wy;clear Wy;go_wp2_with(first|(go_at_call 53;refine a6 U (zK R ZG.out _) ?_;clear U;intro M U)|(go_at_call 100;refine a6 U (FG _ _ _ _ _ _ (YI.out.below (DI.back U).all) _ k rfl bV) ?_;clear U;intro M U;rw[VN.out])|(refine dE U rfl 54 59 _ rfl _ [.int .u64 x] rfl rfl (.int .u64 0) 1 8 cL fK rfl am am ?_;clear U;intro di w U dO;refine cN ?_)|(refine j4 DI U T9 rfl rfl _ _ 54 rfl (.int .u64 0) 8 cL fK rfl am rfl ⟨di,0,none⟩ 1 1 [.int .u64 x] rfl rfl (U.news ag) rfl (by unfold maxLen;omega) J ?_;clear U;intro v' w fu p0;obtain⟨Tu,XO,rfl⟩:=p0.form;have U:=fu.base;refine cN ?_)|(refine Ng U Hn ?_;clear U;intro w U)|(refine aq ?_)|(refine VP U nz ?_;clear U;intro H w U vl)|(refine aT ?_;clear U;intro X8 w U T7));go_roundw
   case rel=>exact⟨k+1,_,J,by go_num,(fu.back U).c6,by
    have h1:=(p0.on fu U rfl).less;rw[jM (n:=k) (sz:=1) (F:=vk W.V) am rfl,show vk W.V k= [.int .u64 x] by rw[<-VN.out];rfl];exact h1⟩
   case measure=>simp[intOf];omega
  ·obtain rfl:n=k:=by omega
   have VI: ¬8*(n:Int)<8*(n:Int):=J;have zL:KC wr (m0 w0.heap.size H gr y) (.slice G n C) n 1 (vk W.V):=(T9.sl fun i _=>rfl).mono fun b _ hb=>⟨hb.1,wP hb.2 rfl⟩
   have U:=DI;have Hs:=I zL;obtain⟨sp,AU⟩: ∃sp:Nat,p.s=(sp:Int):=⟨p.s.toNat,by have:=R.s;omega⟩
   have adx:sp<=8:=by have:=R.s;omega
   have FY:=I AU;clear T9 DI zL AU;have DI:=U;go_wp2_with(first|(go_at_call 53;refine Calls.mono (zK R ZG.out _) ?_;rintro e M ⟨rfl,N⟩;replace U:=U.below N;have JP:=I N;clear N)|(refine aq ?_)|(refine VP U nz ?_;clear U;intro H w U vl)|(refine aT ?_;clear U;intro X8 w U T7));have K6:=I (Hs.out.below JP.out);have eB:=I U;clear U;go_loopw [9] (fun i wr=> ∃k:Nat,k<=sp/\i= .int .i64 k/\Bx w0 (fun _=>True) wr none [⟨H,65,cR (.slice G n C) (WO W k) (.slice none 0 0) (W5 W 0) (fun _=>.slice none 0 0)⟩,⟨gr,65,cR (.slice none 0 0) (fun _=>mZ) (.slice none 0 0) (fun _=>0) (fun _=>.slice none 0 0)⟩,⟨y,27,[.int .i64 p.s,.int .i64 p.t,.int .i64 p.i,.int .i64 p.h]⟩]/\KC wr (m0 w0.heap.size H gr y) (.slice G n C) n 1 (vk W.V)) (fun i _=>sp-(intOf i).toNat)
   case atStart=>exact⟨0,J,rfl,eB.out,K6.out⟩
   case round=>
    obtain⟨k,TS,rfl,DI,zL⟩:=hrel;clear eB Hs K6;have Hs:=I zL;clear zL;have U:=DI.base;by_cases bV:k<sp
    ·have WJ:(k:Int)<p.s:=by rw[FY.out];omega
     have tr:(k:Int)<8:=J;have XO:(0:Int)<=(k:Int):=J;have Zo:k<8:=J;obtain⟨c,XP⟩: ∃c,Wi W.V k=c:=⟨_,rfl⟩
     have YT:=I XP;have aaO:=I (show∀w',Below w0.heap.size w0 w'->Calls prog 80 #[.pointer (some ⟨B.O3,0,none⟩),.int .i64 k] w' fun e du=>e= .returned (.tuple #[hf c,.int .i64 0])/\Below w'.heap.size w' du from fun w' hb=>by
      have h:=xq _ _ _ _ _ _ (YI.out.below hb) ZR.out (by have:=ZG.out;have:=ZR.out.i;have:=ZR.out.h;omega) k ⟨J,WJ⟩ (by rw[bL];exact p3.out k WJ);rwa[bL,XP]at h)
     clear XP;go_wp2_with(first|(go_at_call 80;refine a6 U (aaO.out _ (DI.back U).all) ?_;clear U;intro M U)|(refine Ng U (Ho Zo c) ?_;clear U;intro w U)|(refine aq ?_)|(refine VP U nz ?_;clear U;intro H w U vl)|(refine aT ?_;clear U;intro X8 w U T7));go_roundw
     case rel=>exact⟨k+1,J,by go_num,by
      have h1:=DI.back U;rw[<-YT.out,JN]at h1;exact h1,Hs.out.Wu (U.Wu.mono fun b _ hb=>gA hb rfl)⟩
     case measure=>simp[intOf];omega
    ·obtain rfl:sp=k:=by omega
     have WJ: ¬(sp:Int)<p.s:=by rw[FY.out];omega
     have O:=I DI;clear DI;have U:=O.out;obtain⟨m,hm⟩: ∃m,W.fr.length=m:=⟨_,rfl⟩
     have lH:m<=65536:=by rw[<-hm];exact Nh.out
     have Wm:=I hm;clear hm;go_upto_region 11 with(first|(refine aq ?_)|(refine VP U nz ?_;clear U;intro H w U vl)|(refine aT ?_;clear U;intro X8 w U T7))
     go_cut []from 47 to 52 (fun ZT=> ∃q,Bx w0 (fun _=>True) ZT none [⟨H,65,cR (.slice G n C) (WO W sp) q (W5 W 0) (fun _=>.slice none 0 0)⟩,⟨gr,65,cR (.slice none 0 0) (fun _=>mZ) (.slice none 0 0) (fun _=>0) (fun _=>.slice none 0 0)⟩,⟨y,27,[.int .i64 p.s,.int .i64 p.t,.int .i64 p.i,.int .i64 p.h]⟩]/\KC ZT (m0 w0.heap.size H gr y) q m 2 (eP W.fr)/\KC ZT (m0 w0.heap.size H gr y) (.slice G n C) n 1 (vk W.V))
     case first=>
      have DI:=U.drew;have Qd:=I (Hs.out.below (show Below wr.heap.size wr wr.drew from a2));have WH:=I DI.size;have Yq:=DI.base;replace U:=Yq;refine wp_region_held_drew (S:=fun _=>True) aM trivial (fun X=>?_);refine az [[0,2]] ?_;refine Zj [1,3] ?_;refine ea (fun K Z7=>?_) ?_
      ·refine YL U ?_;refine WE Z7 ?_;clear Z7 K;intro X;refine Yt (fun K Z7=>?_);go_simp
       (go_at_call 101;refine Calls.mono (y2 _ _ _ _ _ _ (YI.out.below (DI.back U).all) Nh.out) ?_;rintro e M ⟨v,rfl,hv,N⟩;obtain⟨Tx,tf,rfl,-,-,-⟩:=id hv;rw[Wm.out]at hv⊢;replace U:=U.below N;clear N;replace hv:=I hv)
       go_wp2_with fail;exact pg
      refine ei (fun K Z7=>?_);go_simp
      (go_at_call 101;refine Calls.mono (y2 _ _ _ _ _ _ (YI.out.below (DI.back U).all) Nh.out) ?_;rintro e M ⟨v,rfl,hv,N⟩;obtain⟨Tx,tf,rfl,-,-,-⟩:=id hv;rw[Wm.out]at hv⊢;replace U:=U.below N;clear N;replace hv:=I hv)
      go_wp2_with fail;refine WE Z7 ?_;clear Z7 K;intro X;refine aF 1 fun K Z7=>?_;refine YL U ?_;exact pg
     case rest=>
      obtain⟨q,DI,JQ,zL⟩:=hcut;have ZQ:q.oneCell'=true:=KC.one JQ;rw[<-Wm.out]at JQ;obtain⟨T,Uo⟩: ∃T:Nat,p.t=(T:Int):=⟨p.t.toNat,by have:=R.t;omega⟩
      have mH:T<=4:=by have:=R.t;omega
      have Br:=I (show p.t.toNat=T by omega);have YQ:=I Uo;clear Uo;have ts:=I (show gl wc (m0 w0.heap.size H gr y) (.slice G n C) q (fun _=>.slice none 0 0) n 0 W from⟨zL,JQ,fun j OV=>J,fun _ _=>rfl⟩);have eB:=I (show Bx w0 (fun _=>True) wc none [⟨H,65,cR (.slice G n C) (WO W sp) q (W5 W (4*0)) (fun _=>.slice none 0 0)⟩,⟨gr,65,cR (.slice none 0 0) (fun _=>mZ) (.slice none 0 0) (fun _=>0) (fun _=>.slice none 0 0)⟩,⟨y,27,[.int .i64 p.s,.int .i64 p.t,.int .i64 p.i,.int .i64 p.h]⟩]from DI);clear DI JQ zL;go_wp2;go_loopw [10] (fun i wr=> ∃(t:Nat) (d:Nat->Value),t<=T/\i= .int .i64 t/\Bx w0 (fun _=>True) wr none [⟨H,65,cR (.slice G n C) (WO W sp) q (W5 W (4*t)) d⟩,⟨gr,65,cR (.slice none 0 0) (fun _=>mZ) (.slice none 0 0) (fun _=>0) (fun _=>.slice none 0 0)⟩,⟨y,27,[.int .i64 p.s,.int .i64 p.t,.int .i64 p.i,.int .i64 p.h]⟩]/\gl wr (m0 w0.heap.size H gr y) (.slice G n C) q d n t W) (fun i _=>T-(intOf i).toNat)
      case atStart=>exact⟨0,_,J,rfl,eB.out,ts.out⟩
      case round=>
       obtain⟨t,d,Vg,rfl,DI,vm⟩:=hrel;clear eB ts;by_cases bV:t<T
       ·have WJ:(t:Int)<p.t:=by rw[YQ.out];omega
        have t4:t<4:=J;have t5:(t:Int)<4:=J;have t6:(0:Int)<=(t:Int):=J;have U:=DI.base;have O:=I DI;have af2:=I (show∀w',Below w0.heap.size w0 w'->_ from fun w' hb=>FH w' B p F n W (YI.out.below hb) ZR.out t (by rw[Br.out];exact bV));have aex:=vm;have ts:=I vm;clear vm DI;go_upto_region 15 with(first|(refine aq ?_)|(refine VP U nz ?_;clear U;intro H w U vl)|(refine aT ?_;clear U;intro X8 w U T7))
        go_wp2_with fail;refine Calls.mono (af2.out _ (O.out.back U).all) ?_;rintro e M ⟨v,rfl,hv,N⟩;obtain⟨WY,aap,rfl,-,-,bT⟩:=id hv;obtain⟨YS,ro,rfl,Ni,ss,Qe⟩:=bT am;have JP:=I N;have aea:=I Ni;have sM: ∀j,j<4->M.cell? ⟨YS,ro+j,none⟩=some (.int .u64 ((W.XT t).regs j)):=fun j OV=>by have:=Qe j 0 _ OV rfl;rwa[show ro+(j*1+0)=ro+j by omega]at this
        have Qf:=I sM;have Qg:=I (show(m0 w0.heap.size H gr y) YS from⟨D O.out.size Ni,fun e=>by have:=(O.out.b (g:=H) cX).lt;omega,fun e=>by have:=(O.out.b (g:=gr) kw).lt;omega,fun e=>by have:=(O.out.b (g:=y) r3).lt;omega⟩);have K7:=I ss;have K8:=I (ts.out.Wu (Z1.cg N) (fun b _=>trivial));have eB:=I ((O.out.back U).below N);clear hv bT Qe sM N U ts O Ni ss;go_wp2;go_loopw [12] (fun i wr=> ∃k:Nat,k<=4/\i= .int .i64 k/\Bx w0 (fun _=>True) wr none [⟨H,65,cR (.slice G n C) (WO W sp) q (W5 W (4*t+k)) d⟩,⟨gr,65,cR (.slice none 0 0) (fun _=>mZ) (.slice none 0 0) (fun _=>0) (fun _=>.slice none 0 0)⟩,⟨y,27,[.int .i64 p.s,.int .i64 p.t,.int .i64 p.i,.int .i64 p.h]⟩]/\gl wr (m0 w0.heap.size H gr y) (.slice G n C) q d n t W/\(∀j,j<4->wr.cell? ⟨YS,ro+j,none⟩=some (.int .u64 ((W.XT t).regs j)))/\YS<wr.heap.size) (fun i _=>4-(intOf i).toNat)
        case atStart=>exact⟨0,J,rfl,eB.out,K8.out,Qf.out,K7.out⟩
        case round=>
         obtain⟨k,TS,rfl,DI,vm,sM,ss⟩:=hrel;clear eB K8 Qf K7;by_cases iu:k<4
         ·have lF:decide ((k:Int)<4)=true:=by simp;omega
          have Tv:(k:Int)<4:=J;have Tt:(0:Int)<=(k:Int):=J;obtain⟨x,Wy⟩: ∃x,(W.XT t).regs k=x:=⟨_,rfl⟩
          have VN:=I Wy;have Qh:=sM k iu;rw[Wy]at Qh;clear Wy;have Td:=I sM;have ts:=I vm;clear sM vm;have U:=DI;go_upto_region 19 with(first|(refine aq ?_)|(refine VP U nz ?_;clear U;intro H w U vl)|(refine aT ?_;clear U;intro X8 w U T7))
          replace U:=DI.drew;have fu:=U;replace U:=fu.base;have XK:=I (show∀(w:World) (L:List PL),Bx wr.drew (bq none [⟨H,65,cR (.slice G n C) (WO W sp) q (W5 W (4*t+k)) d⟩,⟨gr,65,cR (.slice none 0 0) (fun _=>mZ) (.slice none 0 0) (fun _=>0) (fun _=>.slice none 0 0)⟩,⟨y,27,[.int .i64 p.s,.int .i64 p.t,.int .i64 p.i,.int .i64 p.h]⟩]) w none L->∀ {j} {u:Value},wr.cell? ⟨YS,j,none⟩=some u->w.cell? ⟨YS,j,none⟩=some u from fun w L h j u hu=>by
           have:=h.Wu.block YS ss (gA Qg.out rfl);rw[World.cell?_of_block (w:=wr.drew) this];exact hu)
          have Te:=I Qh;have EY:=I (show∀(w:World) (L:List PL),Bx wr.drew (bq none [⟨H,65,cR (.slice G n C) (WO W sp) q (W5 W (4*t+k)) d⟩,⟨gr,65,cR (.slice none 0 0) (fun _=>mZ) (.slice none 0 0) (fun _=>0) (fun _=>.slice none 0 0)⟩,⟨y,27,[.int .i64 p.s,.int .i64 p.t,.int .i64 p.i,.int .i64 p.h]⟩]) w none L->w.cell? ⟨YS,ro+k,none⟩=some (.int .u64 x)from fun w L h=>XK.out w L h Te.out);refine wp_region_held_drew (S:=fun w=>w.cell? ⟨YS,ro+k,none⟩=some (.int .u64 x)) aM (EY.out _ _ U) (fun X=>?_);refine RM [[0,1,2,3,4,5,6,7,8]] ?_;refine Yt (fun K Z7=>?_);refine Nf U (Hp t4 iu x) ?_;clear U;intro w U;refine WE Z7 ?_;clear Z7 K;intro X;refine az [[]] ?_;go_wp2_with fail;go_roundw
          case rel=>exact⟨k+1,J,by go_num,by
           have h1:=fu.back U;rw[<-VN.out,JO W t k iu]at h1;exact h1,ts.out.Wu (Z1.trans (Z1.cg (show Below wr.heap.size wr wr.drew from a2)) U.Wu) (fun b hb=>gA hb rfl),fun j OV=>XK.out _ _ U (Td.out j OV),by have:=U.size;exact aj ss this⟩
          case measure=>simp[intOf];omega
         ·obtain rfl:k=4:=by omega
          have lF:decide (((4:Nat):Int)<4)=false:=am;have ts:=I vm;have U:Bx w0 (fun _=>True) wr none [⟨H,65,cR (.slice G n C) (WO W sp) q (W5 W (4*(t+1))) d⟩,⟨gr,65,cR (.slice none 0 0) (fun _=>mZ) (.slice none 0 0) (fun _=>0) (fun _=>.slice none 0 0)⟩,⟨y,27,[.int .i64 p.s,.int .i64 p.t,.int .i64 p.i,.int .i64 p.h]⟩]:=DI;clear vm sM DI;obtain⟨Yz,nc⟩: ∃Yz,(W.XT t).aD.length=Yz:=⟨_,rfl⟩
          have Tf:Yz<=65536:=by rw[<-nc];exact Gd.out t (by rw[Br.out];exact bV)
          have vj:=I nc;have Yw:=I (show∀w',Below w0.heap.size w0 w'->_ from fun w' hb=>sX w' B p F n W (YI.out.below hb) ZR.out t (by rw[Br.out];exact bV) (by rw[nc];exact Tf));have Ub:=ts.out.z t (ai _);have Qi:=I (show(cR (.slice G n C) (WO W sp) q (W5 W (4*(t+1))) d)[50+t]? =some (.slice none 0 0)from by rw[D8 t4,Ub]);clear nc Ub;go_upto_region 20 with(first|(refine aq ?_)|(refine VP U nz ?_;clear U;intro H w U vl)|(refine aT ?_;clear U;intro X8 w U T7))
          have DI:=U.drew;have Qb:=I (ts.out.Wu (Z1.cg (show Below wr.heap.size wr wr.drew from a2)) (fun b _=>trivial));have WH:=I DI.size;have Yq:=DI.base;replace U:=Yq;refine wp_region_held_drew (S:=fun _=>True) aM trivial (fun X=>?_);refine az [[0,1,2,3,5,6,9]] ?_;refine Zj [4,7] ?_;refine ea (fun K Z7=>?_) ?_
          ·refine YL U (hv:=Qi.out) ?_;refine WE Z7 ?_;clear Z7 K;intro X;refine Yt (fun K Z7=>?_);go_simp
           (go_at_call 103;refine Calls.mono (Yw.out _ (DI.back U).all) ?_;rintro e M ⟨v,rfl,hv,N⟩;obtain⟨Tx,tf,rfl,-,-,-⟩:=id hv;rw[vj.out];replace hv:KC M _ (.slice Tx (W.XT t).aD.length tf) (W.XT t).aD.length 2 (iw (W.XT t).aD):=hv;rw[vj.out]at hv;replace U:=U.below N;clear N;replace hv:=I hv)
           go_wp2_with fail;exact pf
          refine ei (fun K Z7=>?_);go_simp
          (go_at_call 103;refine Calls.mono (Yw.out _ (DI.back U).all) ?_;rintro e M ⟨v,rfl,hv,N⟩;obtain⟨Tx,tf,rfl,-,-,-⟩:=id hv;rw[vj.out];replace hv:KC M _ (.slice Tx (W.XT t).aD.length tf) (W.XT t).aD.length 2 (iw (W.XT t).aD):=hv;rw[vj.out]at hv;replace U:=U.below N;clear N;replace hv:=I hv)
          go_wp2_with fail;refine WE Z7 ?_;clear Z7 K;intro X;refine aF 4 fun K Z7=>?_;refine YL U (hv:=Qi.out) ?_;exact pf
       ·obtain rfl:T=t:=by omega
        have WJ: ¬(T:Int)<p.t:=by rw[YQ.out];omega
        have ts:=I vm;have XP:=fun j v (hv:(cR (.slice G n C) (WO W sp) q (W5 W (4*T)) d)[j]? =some v)=>DI.cell (g:=H) (i:=0+j) ag (by rw[ax];exact hv);have YT:=I XP;have Tg:=I (vm.one (f:=WO W sp) (g:=W5 W (4*T)));have O:=I DI;have U:=DI.base;clear XP vm DI;go_wp2_with(first|(refine tI YT.out ?_ (by rfl))|(refine UQ U ?_)|(refine Ng U Bp ?_ (h1:=Tg.out);clear U;intro w U));refine cw results41 rfl rfl ⟨_,U.b ag,rfl⟩ underlying65 rfl aM ?_;refine⟨.slice G n C,q,d,?_,?_,(O.out.back U).all⟩
        ·rw[Br.out,show p.s.toNat=sp by have:=FY.out;omega]
        ·rw[Br.out];have h1:=ts.out.Wu U.Wu fun b hb=>gA hb rfl;exact⟨h1.ws.mono fun b _ hb=>hb.1,h1.e.mono fun b _ hb=>hb.1,fun j OV=>(h1.r j OV).mono fun b _ hb=>hb.1,h1.z⟩
end
end Go.Proofs.YtcimojgkeoecfaaGreat
