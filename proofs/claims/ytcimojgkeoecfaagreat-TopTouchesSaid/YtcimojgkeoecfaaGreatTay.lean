import Derived.Test.YtcimojgkeoecfaaGreatXay
set_option linter.all false
set_option maxHeartbeats 16000000
set_option maxRecDepth 100000
namespace Go.Proofs.YtcimojgkeoecfaaGreat
section
open Go.RowKit Tryz
theorem agM(p k:Int)(w:World)(aeJ:0<=p/\p<=4)(ae3:0<=k/\k<8):
 Calls prog 50 #[.int .i64 p,.int .i64 k] w λx w'=>x= .returned (.int .i64 (k*64+p*8))/\Below w.heap.size w w':=by
 go_enter func50,ntmps50;go_wp2_with fail;go_ret;refine⟨lC J,?_⟩;exact a2
end
section
open Go.RowKit Tryz
theorem agE{G:Prop}(h:G:=by
 go_enter func49,ntmps49;go_wp2;go_ret2;exact⟨rfl,(Below.refl _ _).alloc (ai _) _⟩):G:=h
theorem agl(s e a:Int)(w:World)(YF:jI s)(V1:jI e)(Xg:jI a):
 Calls prog 49 #[.agg #[.int .i64 s,.int .i64 e,.int .i64 a]] w λx w'=>x= .returned (.tuple #[.int .u64 (uH s e a).1,.int .i64 (uH s e a).2])/\Below w.heap.size w w':=by
 unfold uH;by_cases VI:s<0
 ·have d0:decide (s<0)=true:=by simpa using VI
  rw[aB];exact agE
 have d0:decide (s<0)=false:=by simpa using VI
 by_cases WJ:8<=s
 ·have d1:decide (8<=s)=true:=by simpa using WJ
  rw[aB];exact agE
 have d1:decide (8<=s)=false:=by simpa using WJ
 by_cases adr:e<0
 ·have d2:decide (e<0)=true:=by simpa using adr
  rw[aB];exact agE
 have d2:decide (e<0)=false:=by simpa using adr
 by_cases XO:16777215<e
 ·have d3:decide (16777215<e)=true:=by simpa using XO
  rw[aB];exact agE
 have d3:decide (16777215<e)=false:=by simpa using XO
 by_cases afw:a<8
 ·have d4:decide (a<8)=true:=by simpa using afw
  rw[aB];exact agE
 have d4:decide (a<8)=false:=by simpa using afw
 by_cases VU:65528<a
 ·have d5:decide (65528<a)=true:=by simpa using VU
  rw[aB];exact agE
 have d5:decide (65528<a)=false:=by simpa using VU
 by_cases Ya:a %8=0
 ·have hm:(a %8 !=0)=false:=by simpa using Ya
  rw[m3];clear Ya;go_enter func49,ntmps49;go_wp2;go_ret2;exact⟨wX J rfl,(Below.refl _ _).alloc (ai _) _⟩
 ·have hm:(a %8 !=0)=true:=by simpa using Ya
  rw[aB];clear Ya;exact agE
end
section
open Go.RowKit Tryz
theorem agr(h:Int)(w:World)(acu:aR h)(ok:jB (Y5 h) (adx h) (VH h)):
 Calls prog 18 #[.int .u64 h] w λx w'=>x= .returned (.tuple #[.agg #[.int .i64 (Y5 h),.int .i64 (adx h),.int .i64 (VH h)],.int .i64 0])/\Below w.heap.size w w':=by
 have aeJ:=xw h acu ok;unfold Y5 adx VH jB at*;rw[Int.mul_comm (h %16777216) 8]at*;obtain⟨AH,acl,VC,AI,YZ,Zg,AA⟩:=ok;have AD:=I (dz Prod.fst aeJ);have AE:=I (dz Prod.snd aeJ);clear aeJ AA;go_enter func18,ntmps18;go_wp2_with fail;refine(agl _ _ _ _ J J J).mono ?_;rw[AD.out,AE.out];rintro e aaM ⟨rfl,hb⟩;obtain⟨XP,acA⟩:=Ey hb;have aeN:=hb.size;(try simp at aeN);go_wp2_with fail;have Zh:aaM.cell? ⟨w.heap.size,0,none⟩=some (.int .i64 0):=(by rw[XP _ _ ch];simp[go_sem]);have q1:aaM.cell? ⟨w.heap.size,1,none⟩=some (.int .i64 0):=(by rw[XP _ _ ch];simp[go_sem]);have Xt:aaM.cell? ⟨w.heap.size,2,none⟩=some (.int .i64 0):=(by rw[XP _ _ ch];simp[go_sem])
 refine bodyPost_ret (v:=.tuple #[.agg #[.int .i64 (h/16777216 %256),.int .i64 (h/4294967296),.int .i64 (8*(h %16777216))],.int .i64 0]) (by simp[results,results18,go_sem,Zh,q1,Xt]) rfl ⟨rfl,?_⟩;exact a2
theorem agx(s e a:Int)(w:World)(YF:jI s)(V1:jI e)(Xg:jI a)(h: ¬jB s e a):
 Calls prog 49 #[.agg #[.int .i64 s,.int .i64 e,.int .i64 a]] w λx w'=>x= .returned (.tuple #[.int .u64 0,.int .i64 1])/\Below w.heap.size w w':=by
 have:=agl s e a w YF V1 Xg;unfold uH at this;rwa[Y h]at this
theorem ags(h:Int)(w:World)(acu:aR h)(no: ¬jB (Y5 h) (adx h) (VH h)):
 Calls prog 18 #[.int .u64 h] w λx w'=>x= .returned (.tuple #[.agg #[.int .i64 0,.int .i64 0,.int .i64 0],.int .i64 18])/\Below w.heap.size w w':=by
 unfold Y5 adx VH at*;rw[Int.mul_comm (h %16777216) 8]at*;have H:=I no;clear no;by_cases bV:1152921504606846976<=h
 ·go_enter func18,ntmps18;go_wp2_with fail;refine bodyPost_ret (v:=.tuple #[.agg #[.int .i64 0,.int .i64 0,.int .i64 0],.int .i64 18]) (by simp[results,results18,go_sem]) rfl ⟨rfl,?_⟩;exact a2
 ·go_enter func18,ntmps18;go_wp2_with fail;refine(agx _ _ _ _ J J J H.out).mono ?_;rintro e aaM ⟨rfl,hb⟩;obtain⟨XP,acA⟩:=Ey hb;have aeN:=hb.size;(try simp at aeN);go_wp2_with fail;have Zh:aaM.cell? ⟨w.heap.size,0,none⟩=some (.int .i64 0):=(by rw[XP _ _ ch];simp[go_sem]);have q1:aaM.cell? ⟨w.heap.size,1,none⟩=some (.int .i64 0):=(by rw[XP _ _ ch];simp[go_sem]);have Xt:aaM.cell? ⟨w.heap.size,2,none⟩=some (.int .i64 0):=(by rw[XP _ _ ch];simp[go_sem])
  refine bodyPost_ret (v:=.tuple #[.agg #[.int .i64 0,.int .i64 0,.int .i64 0],.int .i64 18]) (by simp[results,results18,go_sem,Zh,q1,Xt]) rfl ⟨rfl,?_⟩;exact a2
end
section
open Go.RowKit Tryz
def agF(V V':Nat->Int)(k:Nat):List Int:=((List.range k).filter λi=>V i !=V' i).map fun(i:Nat)=>(i:Int)
theorem agO{V V':Nat->Int}{k:Nat}(h:V k=V' k):agF V V' (k+1)=agF V V' k:=by
 unfold agF;rw[List.range_succ,List.filter_append,cP];simp[h]
theorem agP{V V':Nat->Int}{k:Nat}(h:V k≠V' k):agF V V' (k+1)=agF V V' k++ [(k:Int)]:=by
 unfold agF;rw[List.range_succ,List.filter_append,cP];simp[h]
theorem ago(V V':Nat->Int)(k:Nat):(agF V V' k).length<=k:=by
 unfold agF;rw[bJ];have:=List.length_filter_le (λi=>V i !=V' i) (List.range k);simpa using this
theorem agp{V V':Nat->Int}{k:Nat}{x:Int}(h:x∈agF V V' k): ∃j:Nat,j<k/\x=j/\V j≠V' j:=by
 unfold agF at h;obtain⟨j,aeD,rfl⟩:=List.mem_map.1 h;obtain⟨h1,aaV⟩:=List.mem_filter.1 aeD;exact⟨j,List.mem_range.1 h1,rfl,by simpa using aaV⟩
theorem agu(w0:World)(S:Nat->Prop)(n:Nat)(V V':Nat->Int)(Zv WP:Value)(t1 t2:List Value)(h1:acr w0 S Zv n 1 (λi=> [.int .u64 (V i)]))(aaV:acr w0 S WP n 1 (λi=> [.int .u64 (V' i)]))(abi:n<=65536):
 Calls prog 19 #[.agg (Zv::t1).toArray,.agg (WP::t2).toArray] w0 λe w'=> ∃v,e= .returned v/\cF w' (λb=>w0.heap.size<=b) v (agF V V' n)/\Below w0.heap.size w0 w':=by
 obtain⟨W9,WJ,rfl,eR,lH,Yd⟩:=h1;obtain⟨aeQ,adr,rfl,c7,nc,XY⟩:=aaV;have AH:=I Yd;have AI:=I XY;have U:=aah.a0 w0;have AU:(0:Int)<=(n:Int):=J;clear Yd XY eR c7 lH nc;have mark:=True.intro;go_enter func19,ntmps19;go_wp2_with(first|(refine hr U rfl 30 3 rfl 1 bg aM ?_;clear U;intro di w U adS;refine cN ?_)|(refine Ws U 65 ?_;clear U;first|(clear mark;intro aa2 w U NP)|(intro WC w U Vk)));have eB:=I U;have aby:=I adS;clear U adS;go_loopw [5,6] (λv i wr=> ∃k:Nat,k<=n/\i= .int .i64 k/\aah w0 (λ_=>True) wr none [⟨WC,65,.slice aeQ n adr::t2⟩,⟨aa2,65,.slice W9 n WJ::t1⟩]/\aaQ w0 wr none [⟨WC,65,.slice aeQ n adr::t2⟩,⟨aa2,65,.slice W9 n WJ::t1⟩] 3 1 v (agF V V' k).length (h8 (agF V V' k))) (λv i _=>n-(intOf i).toNat)
 case atStart=>exact⟨0,J,rfl,eB.out,aby.out⟩
 case round=>
  obtain⟨k,ae3,rfl,aaH,adS⟩:=hrel;clear eB aby;have U:=aaH.base;obtain⟨acG,XO,rfl⟩:=adS.form;have cV:=ago V V' k;by_cases bV:k<n
  ·have aaX:(k:Int)<(n:Int):=by omega
   have afQ:(0:Int)<=(k:Int):=J;obtain⟨AK,AL,rfl,-,N,AE⟩:=AH.out J;obtain⟨AQ,acl,rfl,-,be,abq⟩:=AI.out J;have jb:=(aaH.all.cell (p:=⟨AK,AL+k,none⟩) N).trans (by simpa using AE k 0 _ bV rfl);have lV:=(aaH.all.cell (p:=⟨AQ,acl+k,none⟩) be).trans (by simpa using abq k 0 _ bV rfl);have adX:=U.cell (i:=0) kw rfl;have acN:=U.cell (i:=0) cX rfl;obtain⟨AA,sg⟩: ∃y,V k=y:=⟨_,rfl⟩
   obtain⟨YY,jP⟩: ∃y,V' k=y:=⟨_,rfl⟩
   rw[sg]at jb;rw[jP]at lV;clear AE abq N be;go_upto_region 5 with(first|(refine aq ?_)|(refine aT ?_;clear U;intro X8 w U aay))
   go_quiet (fail);replace U:=U.below (vv (Below.refl _ _) nq);by_cases V1:AA=YY
   ·have AD:=I (agO (V:=V) (V':=V') (k:=k) (by rw[sg,jP];exact V1));have d0:(AA !=YY)=false:=by simpa using V1
    clear sg jP V1;go_wp2_with(first|(refine aq ?_)|(refine aT ?_;clear U;intro X8 w U aay));go_roundw
    case rel=>
     refine⟨k+1,J,by go_num,aaH.back U,?_⟩;rw[AD.out];exact adS.on aaH U rfl
    case measure=>simp[intOf];omega
   ·have AD:=I (agP (V:=V) (V':=V') (k:=k) (by rw[sg,jP];exact V1));have d0:(AA !=YY)=true:=by simpa using V1
    clear sg jP V1;go_wp2_with(first|(refine dE U rfl 30 3 _ rfl _ [.int .i64 k] rfl rfl (.int .i64 0) 1 8 bg b6 rfl am am ?_;clear U;intro di w U dO;refine cN ?_)|(refine j4 aaH U adS rfl rfl _ _ 30 rfl (.int .i64 0) 8 bg b6 rfl am rfl ⟨di,0,none⟩ 1 1 [.int .i64 k] rfl rfl (U.news ag) rfl (by unfold maxLen;omega) J ?_;clear U aaH adS;intro WP w U adS;refine cN ?_)|(first|(refine aq ?_)|(refine aT ?_;clear U;intro X8 w U aay)));go_roundw
    case rel=>
     refine⟨k+1,J,by go_num,U.c6,?_⟩;rw[AD.out,ak];rw[show h8 (agF V V' k++ [(k:Int)])=h8 (agF V V' k)++ [.int .i64 k]from by simp[h8]];exact adS.c6
    case measure=>simp[intOf];omega
  ·obtain rfl:n=k:=by omega
   have aaX: ¬(n:Int)<(n:Int):=J;go_wp2_with(first|(refine aq ?_)|(refine aT ?_;clear U;intro X8 w U aay));go_ret;exact⟨_,rfl,adS.ints.mono λb _ h=>h.1,aaH.all⟩
def agj(x:Int):Int:=if x<=65536 then x else 0
theorem agy{x:Int}(h:0<=x):0<=agj x/\agj x<=65536:=by unfold agj;split<;>omega
theorem agz(w0:World)(S:Nat->Prop)(n:Nat)(V:Nat->Int)(Zv:Value)(t1:List Value)(h1:acr w0 S Zv n 1 (λi=> [.int .u64 (V i)]))(abi:n<=65536)(q k:Nat)(VX:q<4)(ae3:k<8)(aeD:8*k+q<n)(hv:0<=V (8*k+q)):
 Calls prog 20 #[.agg (Zv::t1).toArray,.int .i64 q,.int .i64 k] w0 λe w'=>e= .returned (.int .i64 (agj (V (8*k+q))))/\Below w0.heap.size w0 w':=by
 obtain⟨W9,WJ,rfl,eR,lH,Yd⟩:=h1;obtain⟨AA,AD,rfl,-,N,AH⟩:=Yd J;have U:=aah.a0 w0;obtain⟨j,AI⟩: ∃j,8*k+q=j:=⟨_,rfl⟩
 rw[AI]at aeD hv⊢;obtain⟨y,hy⟩: ∃y,V j=y:=⟨_,rfl⟩
 have Wy:=I ((show w0.cell? ⟨AA,AD+j,none⟩=some (.int .u64 (V j)) by simpa using AH j 0 _ aeD rfl));rw[hy]at Wy hv⊢;have aav:=I N;have AK:(((k:Int)*64+(q:Int)*8).tdiv 8)=(j:Int):=by rw[Int.tdiv_eq_ediv_of_nonneg J];omega
 have AL:(0:Int)<=(j:Int):=J;have X3:(j:Int)<(n:Int):=J;have aaZ:decide ((j:Int)≥(n:Int))=false:=by simp;omega
 have AQ:decide ((q:Int)<4)=true:=by simp;omega
 clear Yd AH eR lH N hy;by_cases h0:y<=65536
 ·have AE:=I (show agj y=y by unfold agj;rw[Z h0]);rw[AE.out];have Wg:decide (y>65536)=false:=by simp;omega
  have AU:IntKind.i64.wrap y=y:=by rw[IntKind.wrap_i64];omega
  go_enter func20,ntmps20;go_wp2_with(first|(go_at_call 50;refine a6 U (agM _ _ _ J J) ?_;clear U;intro aaM U;have UK:=(U.all.cell (p:=⟨AA,AD+j,none⟩) aav.out).trans Wy.out)|(first|(refine aq ?_)|(refine aT ?_;clear U;intro X8 w U aay)));go_ret;exact⟨rfl,U.all⟩
 ·have AE:=I (show agj y=0 by unfold agj;rw[Y h0]);rw[AE.out];have Wg:decide (y>65536)=true:=by simp;omega
  go_enter func20,ntmps20;go_wp2_with(first|(go_at_call 50;refine a6 U (agM _ _ _ J J) ?_;clear U;intro aaM U;have UK:=(U.all.cell (p:=⟨AA,AD+j,none⟩) aav.out).trans Wy.out)|(first|(refine aq ?_)|(refine aT ?_;clear U;intro X8 w U aay)))
  (try rw[Exit.noGoto_ret])
  go_ret;exact⟨rfl,U.all⟩
theorem agH(w:World)(S:Nat->Prop)(v:Value)(l:List bO)(h:de w S v l)(YJ:l.length<=65536):
 Calls prog 17 #[v] w λe w'=>e= .returned (.int .i64 (da l))/\w=w':=by
 obtain⟨A,c,rfl,h1,aaV,ZV⟩:=id h;rcases ct l with rfl|⟨pre,e,rfl⟩
 ·clear h h1 aaV ZV YJ;go_enter func17,ntmps17;go_wp2_with fail;go_ret;exact⟨rfl,rfl⟩
 ·rw[cu]at*;rw[hn];obtain⟨_,b,off,rfl,YF,hb,XP,_⟩:=h.at_ (i:=pre.length) (e:=e) aN;clear h h1 aaV ZV;rw[ak,dh]at*;generalize pre.length=m at*;go_enter func17,ntmps17;go_wp2_with fail;go_ret;exact⟨rfl,rfl⟩
end
section
variable{p:afy}{F:b1}{n:Nat}{W:Wd}{O:Nat->List Zr}{VM:Nat->Option Nat}{t:Nat}
def kOf(c:dM)(Y1:Int)(l:List bO)(h:Int):Int:=
 if c.op=2 then Y1 else if c.op=3\/c.op=4\/c.op=11 then c.a
 else if c.op=5\/c.op=7 then da l else if c.op=9 then(if dr h then VA h else 0)else-1
theorem agq(p:afy)(n:Nat)(V:Nat->Int)(r:aax):(cK p n V r).2.hand=r.hand:=by
 unfold cK ie qz lr tell
 (repeat' split)<;>rfl
theorem agv(p:afy)(V:Nat->Int)(fr:List Ext)(r:aax):(gO p V fr r).2.2.fin=true:=by
 unfold gO;dsimp only
 (repeat' split)<;>rfl
theorem ad8.agG{V:Nat->Int}{l:List bO}{r:aax}(AA:ad8 p F V O VM l r)(adp:r.call.op=9)(YM:r.Xj≠0):dr r.hand/\r.Xj≠1/\reach l (VA r.hand):=by
 cases AA with
 |tell h1 _=>exact absurd h1 YM
 |make h1 aaV=>omega
 |take h1 _ _ _ _=>omega
 |enter h1 _ _ _=>omega
 |nn h1 _ _ _=>omega
 |drain h1 _ _ _ _ _=>omega
 |slot h1 aaV _ Ya afY=>exact⟨aaV,by rcases afY with h|⟨_,h|⟨_,_,_,_,_,_,h⟩⟩<;>omega,Ya⟩
 |hI h1 _ _ _=>omega
 |gate h1 _ _ _=>omega
section
variable(h:Inv p F n W O VM)
include h
theorem agI(afq:(t:Int)<p.t)(YJ:(W.XT t).ended=false)(aen:Touch p W.V (bI p F n W t).V (bh p F n W t) (W.XT t).aD)(o:db)
 (XP:o.call=(bh p F n W t).call)(Xg:(bh p F n W t).fin=true->o.aC=(bh p F n W t).aC):
 ∀j:Nat,(bI p F n W t).V j≠W.V j->∃k:Nat,kOf o.call o.aC.n (W.XT t).aD ((W.XT t).regs o.call.h.toNat)=k/\k<p.s/\
  ((8*k<=j/\j<8*k+5)/\o.call.op≠9\/¬(8*k<=j/\j<8*k+5)/\(o.call.op=5\/o.call.op=7\/o.call.op=9)/\bs W.V k<=8*j/\8*(j:Int)<bs W.V k+agh W.V k):=by
 intro j aeD;obtain⟨k,ae3,TH,aeN⟩:=aen j aeD;have S:=h.h4 afq YJ;have AD:=S.inv.acg t afq S.busy;rw[em]at AD;have en:(bh p F n W t).call=(bd p (W.XT t) W.ops.length).run.call:=(h.p9 afq YJ).call;have Yg:(bI p F n W t).V=(one p F n W.V W.fr (bd p (W.XT t) W.ops.length).run).1:=rfl;have Bh:bh p F n W t=(one p F n W.V W.fr (bd p (W.XT t) W.ops.length).run).2.2:=rfl;have AH:(bd p (W.XT t) W.ops.length).regs=(W.XT t).regs:=by unfold bd;(repeat' split)<;>rfl
 have hand:=AD.hand;rw[AH]at hand;rw[Yg]at aeD;rw[XP];have AA:=AD.kind;clear AD S aen XP;generalize(bd p (W.XT t) W.ops.length).run=r at*;refine⟨k,?_,TH,aeN⟩;rw[<-ae3];unfold kOf about;have AE:r.Xj≠0:=λe=>aeD (by unfold one;rw[Z e])
 by_cases adr:(bh p F n W t).call.op=2
 ·rw[Z adr,Z adr];rw[en]at adr;have acA:(bh p F n W t).fin=true:=by
   have h1:r.Xj=1:=by
    cases AA with
    |tell h1 _=>exact absurd h1 AE
    |make h1 _=>exact h1
    |take h1 _ _ _ _=>omega
    |enter h1 _ _ _=>omega
    |nn h1 _ _ _=>omega
    |drain h1 _ _ _ _ _=>omega
    |slot h1 _ _ _ afY=>clear afY;omega
    |hI h1 _ _ _=>omega
    |gate h1 _ _ _=>omega
   rw[Bh];unfold one;rw[Y AE,Z h1];exact agv _ _ _ _
  rw[Xg acA]
 ·rw[Y adr,Y adr];split
  ·rfl
  ·split
   ·rfl
   ·by_cases ab4:(bh p F n W t).call.op=9
    ·rw[Z ab4,Z ab4];rw[en]at ab4 adr;have lh:=AA.agG ab4 AE;have acu:(bh p F n W t).hand=r.hand:=by
      rw[Bh];unfold one;rw[Y AE,Y lh.2.1,aB,aB,aB];exact agq _ _ _ _
     rw[acu,en,<-hand,Z lh.1]
    ·rw[Y ab4,Y ab4]
theorem Inv.agA{s:Nat}(afq:(t:Int)<p.t)(YF:(s:Int)<p.s)(abk:reach (W.XT t).aD s):(Wi W.V s).st≠0:=by
 rcases aQ s with rfl|h1
 ·rw[((h.Zt 0 YF).zero rfl).1];decide
 ·have hm:(⟨s,true⟩:bO)∈(W.XT t).aD:=by
   rcases abk with e|e
   ·omega
   ·exact e
  have XP:=jq hm;have vF:fF s (W.XT t).aD<=within W p.t.toNat s:=nm (f:=λi=>fF s (W.XT i).aD) J;have pV:=h.Xf s h1 YF;have:=pV.2.2;intro e;rw[e]at this;omega
theorem agJ(afq:(t:Int)<p.t)(YJ:(W.XT t).ended=false){c:dM}(XP:c=(bh p F n W t).call){Y1:Int}{k:Nat}(hop:c.op=5\/c.op=7\/c.op=9)
 (ae3:kOf c Y1 (W.XT t).aD ((W.XT t).regs c.h.toNat)=k)(TH:(k:Int)<p.s)(hN:(bI p F n W t).V≠W.V):0<=bs W.V k/\bs W.V k<=65536/\0<=agh W.V k/\agh W.V k<=65536:=by
 have abk:reach (W.XT t).aD k:=by
  have eV:=h.aaY t afq;unfold kOf at ae3;rw[aB,aB]at ae3;by_cases c57:c.op=5\/c.op=7
  ·rw[Z c57]at ae3;rw[<-ae3];exact(eV.af h.pl).2.2
  ·rw[Y c57,m3]at ae3;have S:=h.h4 afq YJ;have AD:=S.inv.acg t afq S.busy;rw[em]at AD;have en:(bh p F n W t).call=(bd p (W.XT t) W.ops.length).run.call:=(h.p9 afq YJ).call;have AE:(bd p (W.XT t) W.ops.length).regs=(W.XT t).regs:=by unfold bd;(repeat' split)<;>rfl
   have rj:(bd p (W.XT t) W.ops.length).aD=(W.XT t).aD:=by unfold bd;(repeat' split)<;>rfl
   have hand:=AD.hand;have AA:=AD.kind;have Yg:(bI p F n W t).V=(one p F n W.V W.fr (bd p (W.XT t) W.ops.length).run).1:=rfl;rw[AE,<-en,<-XP]at hand;rw[rj]at AA;rw[Yg]at hN;rw[XP,en]at c57 hop;clear AD S;generalize(bd p (W.XT t) W.ops.length).run=r at*;have AH:r.Xj≠0:=λe=>hN (by unfold one;rw[Z e])
   have lh:=AA.agG J AH;rw[<-hand,Z lh.1]at ae3;rw[<-ae3];exact lh.2.2
 have cx:=h.agA afq TH abk;obtain⟨aal,abF,acL,AI,VF,AK,AL,ZF,Zy⟩:=h.eb TH cx;have aeJ:=h.pl.s;have hi:=h.pl.i;have acu:=h.pl.h;have abi:=h.abf;refine⟨J,J,acL,J⟩
end
end
end Go.Proofs.YtcimojgkeoecfaaGreat
