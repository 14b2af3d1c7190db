import Derived.Test.YtcimojgkeoecfaaGreatXax
set_option linter.all false
set_option maxHeartbeats 16000000
set_option maxRecDepth 100000
namespace Go.Proofs.YtcimojgkeoecfaaGreat
open Go.RowKit Tryz
theorem fp.Wu{w w':World}{S T:Nat->Prop}{aaF YS:Nat}{aa3 VZ:Value}{x:Yr}{t:eD}(h:fp w S aaF YS aa3 VZ x t)(k:Z1 T w w')(hS: ∀b,S b->T b)(h1:T aaF)(aaV:T YS):fp w' S aaF YS aa3 VZ x t:=
 ⟨(k.block _ h.bC.lt h1).trans h.bC,(k.block _ h.reg.lt aaV).trans h.reg,h.sq.Wu (k.mono fun b _=>hS b),h.m6.Wu (k.mono fun b _=>hS b),h.run.Wu (k.mono fun b _=>hS b)⟩
theorem fp.below{w w':World}{S:Nat->Prop}{aaF YS:Nat}{aa3 VZ:Value}{x:Yr}{t:eD}(h:fp w S aaF YS aa3 VZ x t)(k:Below w.heap.size w w'):fp w' S aaF YS aa3 VZ x t:=
 h.Wu (Z1.cg (S:=fun _=>True) k) (fun _ _=>trivial) trivial trivial
def ec(W:Wd)(k:Nat):List Int:=((List.range k).filter fun i=> !(W.XT i).ended).map fun i:Nat=>(i:Int)
theorem CT{W:Wd}{k:Nat}(h:(W.XT k).ended=true):ec W (k+1)=ec W k:=by
 unfold ec;rw[List.range_succ,List.filter_append,cP];simp[h]
theorem CU{W:Wd}{k:Nat}(h:(W.XT k).ended=false):ec W (k+1)=ec W k++ [(k:Int)]:=by
 unfold ec;rw[List.range_succ,List.filter_append,cP];simp[h]
theorem y0(W:Wd)(k:Nat):(ec W k).length<=k:=by
 unfold ec;rw[bJ];exact D (List.length_filter_le _ _) aN
def h8(l:List Int):List Value:=l.map fun z=>.int .i64 z
theorem uB(l:List Int):bx l.length 1 (hq l)=h8 l:=by
 apply List.ext_getElem?;intro j;unfold bx h8 hq;rw[a3,a3];by_cases c:j<l.length
 ·rw[a1 J,an c,bt,bt,Nat.div_one,Nat.mod_one,ae,ae,an c];rfl
 ·rw[aV (by simp;omega),aV J];rfl
theorem aaQ.ints{w0 w:World}{A:Option XS}{L:List abN}{e:TypeId}{v:Value}{l:List Int}(h:aaQ w0 w A L e 1 v l.length (h8 l)):cF w (fun b=>w0.heap.size<=b/\bq A L b) v l:=by
 rw[<-uB]at h;exact h.sl fun i _=>(gp l l.length i ‹ _ ›).1
theorem aaQ.c6{w0 w:World}{A:Option XS}{x:abN}{L:List abN}{e:TypeId}{sz m:Nat}{v:Value}{xs:List Value}(h:aaQ w0 w A (x::L) e sz v m xs):aaQ w0 w A L e sz v m xs:=
 ⟨h.own,fun j aeD=>⟨⟨fun y hy=>(h.fresh j aeD).1.1 y (ao _ hy),(h.fresh j aeD).1.2⟩,(h.fresh j aeD).2⟩⟩
theorem tx(w0:World)(B:WB)(p:afy)(F:b1)(n:Nat)(W:Wd)(h:df w0 B p F n W)(aeJ:a9 p)(fc: ∀i,i<p.t.toNat->(W.XT i).calls.length<=65536):
 Calls prog 66 #[.pointer (some ⟨B.aeh,0,none⟩)] w0 fun e w'=> ∃v,e= .returned v/\cF w' (fun b=>w0.heap.size<=b) v (ec W p.t.toNat)/\Below w0.heap.size w0 w':=by
 obtain⟨T,aen⟩: ∃T,p.t.toNat=T:=⟨_,rfl⟩
 have mH:T<=4:=by have:=aeJ.t;omega
 have hb:=h.wd;obtain⟨A,c,e,eR,c7,bT⟩:=id h.Wl;rw[e,aen]at hb;have aav:=I hb;have aby:=I bT;have jU:=I h.XT;have y1:=I fc;have Sn:=aah.g8 hb;have U:=aah.g8 hb;rw[aen];rw[aen]at aby jU y1;have Xb:(0:Int)<=(T:Int):=J;clear h hb e bT fc aen eR;go_enter func66,ntmps66;go_wp2_with(first|(refine aaO U ?_));go_step3;go_wp2_with(first|(refine aaO U ?_));go_step3;go_wp2_with(first|(refine aaO U ?_));have eB:=I U;clear U Sn;go_loopw [3,11] (fun v i wr=> ∃k:Nat,k<=T/\i= .int .i64 k/\aah w0 (fun b=>b≠B.aeh) wr none [⟨B.aeh,142,gh p B.Y8 B.ap B.aff (.slice A T c) B.Z2 W.n⟩]/\aaQ w0 wr none [⟨B.aeh,142,gh p B.Y8 B.ap B.aff (.slice A T c) B.Z2 W.n⟩] 3 1 v (ec W k).length (h8 (ec W k))) (fun v i _=>T-(intOf i).toNat)
 case atStart=>exact⟨0,J,rfl,eB.out,eB.out.KK _ _⟩
 case round=>
  obtain⟨k,ae3,rfl,aaH,adS⟩:=hrel;clear eB;by_cases bV:k<T
  ·obtain⟨b,off,rfl,YF,fC,XP⟩:=aby.out J;have dq:=aaH.ro aav.out ag;have Wy:=(dq.cell (p:=⟨b,off+k,none⟩) fC).trans (by simpa using XP k 0 _ bV rfl);have cq:=(jU.out k bV).below dq;have fc:=y1.out k bV;have aaX:(k:Int)<(T:Int):=J;have afQ:(0:Int)<=(k:Int):=J;have cV:=y0 W k;have U:=aaH.base;obtain⟨aaY,eO⟩: ∃aaY,(W.XT k).ended=aaY:=⟨_,rfl⟩
   have en:=l7 _ _ _ _ _ _ _ _ cq fc;rw[eO]at en;clear XP dq cq fc;cases aaY with
   |true=>
    have Mf:=I (CT eO);clear eO;go_wp2_with(first|(refine en.mono ?_;rintro e aaM ⟨rfl,N⟩;replace U:=U.below N;clear N)|(first|(refine aaO U ?_)));go_roundw
    case rel=>
     refine⟨k+1,J,by go_num,aaH.back U,?_⟩;rw[Mf.out];exact adS.on aaH U rfl
    case measure=>simp[intOf];omega
   |false=>
    have Mf:=I (CU eO);clear eO;go_wp2_with(first|(refine en.mono ?_;rintro e aaM ⟨rfl,N⟩;replace U:=U.below N;clear N)|(refine dE U rfl 30 3 _ rfl _ [.int .i64 k] rfl rfl (.int .i64 0) 1 8 bg b6 rfl am am ?_;clear U;intro di w U dO;refine cN ?_)|(refine j4 aaH U adS rfl rfl _ _ 30 rfl (.int .i64 0) 8 bg b6 rfl am rfl ⟨di,0,none⟩ 1 1 [.int .i64 k] rfl rfl (U.news ag) rfl (by unfold maxLen;omega) J ?_;clear U aaH adS;intro WP w U adS;refine cN ?_)|(first|(refine aaO U ?_)));go_roundw
    case rel=>
     refine⟨k+1,J,by go_num,U.c6,?_⟩;rw[Mf.out,ak];rw[show h8 (ec W k++ [(k:Int)])=h8 (ec W k)++ [.int .i64 k]from by simp[h8]];exact adS.c6
    case measure=>simp[intOf];omega
  ·obtain rfl:k=T:=by omega
   go_wp2_with fail;rw[Exit.noGoto_ret];go_ret;exact⟨_,rfl,adS.ints.mono fun b _ h=>h.1,aaH.ro aav.out ag⟩
section
theorem n8{G:Prop}(h:G:=by
 go_wp2_with fail;refine abR Z7 fun X=>?_;refine az [[10,11],[12],[13]] ?_;clear U;intro w U;go_wp2_with(first|(refine aq ?_)|(refine aT ?_;clear U;intro X8 w U aay));refine aZ results80 rfl rfl ⟨_,U.b ag,rfl⟩ underlying56 rfl (by kernel_rfl) ?_;exact⟨rfl,U.ro aav.out ag⟩):G:=h
theorem FE{w:World}{YS:Nat}{f:Nat->Int}(h:ah w YS 59 (bN .u64 4 f).toArray):acr w (fun b=>b=YS) (.slice (some ⟨YS,0,none⟩) 4 4) 4 1 fun j=> [.int .u64 (f j)]:=
 (aah.g8 h).Aj cX 4 f (fun i hi=>gX hi) am
section
variable(w0:World)(B:WB)(p:afy)(F:b1)(n:Nat)(W:Wd)
section
variable(h:df w0 B p F n W)
include h
theorem FF:
 Calls prog 23 #[.pointer (some ⟨B.aeh,0,none⟩)] w0 fun e w'=>e= .returned (.int .i64 W.n)/\Below w0.heap.size w0 w':=by
 have hb:=h.wd;have aav:=I hb;have U:=aah.g8 hb;clear h hb;go_enter func23,ntmps23;go_wp2_with(first|(refine aaO U ?_));go_ret;exact⟨rfl,U.ro aav.out ag⟩
theorem FG(aK:Int)(k:Nat)(e:aK=8*k)(ae3:k<n):
 Calls prog 100 #[.pointer (some ⟨B.aeh,0,none⟩),.int .i64 aK] w0 fun e w'=>e= .returned (.tuple #[.int .u64 (W.V k),.int .i64 0])/\Below w0.heap.size w0 w':=by
 have hb:=h.wd;have aav:=I hb;have Zn:=I h.VB;have Yl:=I e;have U:=aah.g8 hb;clear h hb e;go_enter func100,ntmps100;go_wp2_with(first|(go_at_call 176;refine Calls.mono (eL _ _ _ n W.V _ k (U.EP aav.out ag Zn.out) Yl.out ae3) ?_;rintro e aaM ⟨rfl,rfl⟩)|(refine aaO U ?_));go_ret2;exact⟨rfl,U.ro aav.out ag⟩
theorem y2(YJ:W.fr.length<=65536):
 Calls prog 101 #[.pointer (some ⟨B.aeh,0,none⟩)] w0 fun e w'=> ∃v,e= .returned v/\acr w' (fun b=>w0.heap.size<=b) v W.fr.length 2 (eP W.fr)/\Below w0.heap.size w0 w':=by
 have hb:=h.wd;have aav:=I hb;have aaq:=I h.gr;have U:=aah.g8 hb;clear h hb;go_enter func101,ntmps101;go_wp2_with(first|(go_at_call 177;have dq:=U.ro aav.out ag;refine Calls.mono (IM _ _ _ _ _ W.fr YJ (aaq.out.Wu (dq.block _ aaq.out.lt.1) (dq.block _ aaq.out.lt.2))) ?_;rintro e aaM ⟨v',rfl,hv,N⟩;replace U:=U.below N)|(refine aaO U ?_));go_ret;exact⟨_,rfl,hv.mono fun b _ h=>D dq.size h,U.ro aav.out ag⟩
theorem xq(aeJ:a9 p)(abi:8*p.s<=n)(k:Int)(ae3:0<=k/\k<p.s)(ok:okW (W.V (8*k.toNat))):
 Calls prog 80 #[.pointer (some ⟨B.aeh,0,none⟩),.int .i64 k] w0 fun e w'=>e= .returned (.tuple #[hf (Wi W.V k.toNat),.int .i64 0])/\Below w0.heap.size w0 w':=by
 have hb:=h.wd;have aav:=I hb;have Zn:=I h.VB;have acq:=I ok;have U:=aah.g8 hb;obtain⟨c,Wj⟩: ∃c,Hid (Wi W.V k.toNat=c):=⟨_,I rfl⟩
 rw[Wj.out];clear h hb ok;go_enter func80,ntmps80;go_wp2_with(first|(refine aq ?_)|(refine aT ?_;clear U;intro X8 w U aay));replace U:=U.drew;refine wp_region_held_drew aM U.l0 (fun X=>?_);refine az [[0,1,2,3,4,5,6,7,8]] ?_;refine aF 9 fun K Z7=>?_;go_simp;go_at_call 154;refine Calls.mono (jF _ p _ _ n W.V k (U.EP aav.out ag Zn.out) aeJ ae3 abi acq.out) ?_;rintro e aaM ⟨rfl,N⟩;rw[Wj.out];replace U:=U.below N;clear N;exact n8
end
end
end
section
section
variable(w0:World)(B:WB)(p:afy)(F:b1)(n:Nat)(W:Wd)(h:df w0 B p F n W)(aeJ:a9 p)(i:Nat)(hi:i<p.t.toNat)
include w0 B p F n W h aeJ i hi
theorem FH:
 Calls prog 102 #[.pointer (some ⟨B.aeh,0,none⟩),.int .i64 i] w0 fun e w'=> ∃v,e= .returned v/\acr w' (fun b=>w0.heap.size<=b) v 4 1 (fun j=> [.int .u64 ((W.XT i).regs j)])/\Below w0.heap.size w0 w':=by
 obtain⟨T,aen⟩: ∃T,p.t.toNat=T:=⟨_,rfl⟩
 have mH:T<=4:=by have:=aeJ.t;omega
 have hb:=h.wd;obtain⟨A,c,e,eR,c7,bT⟩:=id h.Wl;obtain⟨b,off,rfl,YF,fC,XP⟩:=bT J;rw[e,aen]at hb;have aav:=I hb;have cq:=h.XT i hi;have Wy:w0.cell? ⟨b,off+i,none⟩=some (.pointer (some ⟨B.aaF i,0,none⟩)):=by simpa using XP i 0 _ hi rfl
 have hy:=cq.bC.cell 1;simp only[aE,fI]at hy;replace hy:w0.cell? ⟨B.aaF i,1,none⟩=some (.slice (some ⟨B.YS i,0,none⟩) 4 4):=hy;have IV:=I (FE cq.reg);rw[aen]at hi;have jU:=I cq;have U:=aah.g8 hb;have aaX:(i:Int)<(T:Int):=J;have afQ:(0:Int)<=(i:Int):=J;have adP:decide ((0:Int)<=(i:Int))=true:=aN;have Xi:IntKind.i64.wrap ((T:Int)-1)=(T:Int)-1:=by rw[IntKind.wrap_i64];omega
 have aa7:decide ((i:Int)<=(T:Int)-1)=true:=by simp;omega
 clear h hb e bT eR XP aen cq;go_enter func102,ntmps102;go_wp2_with(first|(go_at_call 104;refine(bm _ _ _ _ J J).mono ?_;rintro e w' ⟨rfl,rfl⟩)|(go_at_call 178;refine Calls.mono (x4 _ (fun b=>b=B.YS i) _ 4 _ IV.out am (fun j _=>⟨rfl,fun u hu=>by simp at hu;subst hu;rfl⟩)) ?_;rintro e aaM ⟨v',rfl,hv,N⟩)|(refine aaO U ?_));go_ret;exact⟨_,rfl,hv,N⟩
theorem sX(xr:(W.XT i).aD.length<=65536):
 Calls prog 103 #[.pointer (some ⟨B.aeh,0,none⟩),.int .i64 i] w0 fun e w'=> ∃v,e= .returned v/\de w' (fun b=>w0.heap.size<=b) v (W.XT i).aD/\Below w0.heap.size w0 w':=by
 obtain⟨T,aen⟩: ∃T,p.t.toNat=T:=⟨_,rfl⟩
 have mH:T<=4:=by have:=aeJ.t;omega
 have hb:=h.wd;obtain⟨A,c,e,eR,c7,bT⟩:=id h.Wl;obtain⟨b,off,rfl,YF,fC,XP⟩:=bT J;rw[e,aen]at hb;have aav:=I hb;have cq:=h.XT i hi;have Wy:w0.cell? ⟨b,off+i,none⟩=some (.pointer (some ⟨B.aaF i,0,none⟩)):=by simpa using XP i 0 _ hi rfl
 obtain⟨aeQ,adr,abF,-,-,-⟩:=id cq.m6;have hy:=cq.bC.cell 2;simp only[aE,fI]at hy;replace hy:w0.cell? ⟨B.aaF i,2,none⟩=some (B.VZ i):=hy;have IV:=I cq.m6;rw[abF]at hy IV;clear abF;rw[aen]at hi;have jU:=I cq;have U:=aah.g8 hb;have aaX:(i:Int)<(T:Int):=J;have afQ:(0:Int)<=(i:Int):=J;have adP:decide ((0:Int)<=(i:Int))=true:=aN;have Xi:IntKind.i64.wrap ((T:Int)-1)=(T:Int)-1:=by rw[IntKind.wrap_i64];omega
 have aa7:decide ((i:Int)<=(T:Int)-1)=true:=by simp;omega
 clear h hb e bT eR XP aen cq;go_enter func103,ntmps103;go_wp2_with(first|(go_at_call 104;refine(bm _ _ _ _ J J).mono ?_;rintro e w' ⟨rfl,rfl⟩)|(go_at_call 179;refine Calls.mono (jD _ _ _ _ _ IV.out xr (hJ _ _)) ?_;rintro e aaM ⟨v',rfl,hv,N⟩)|(refine aaO U ?_));go_ret;exact⟨_,rfl,hv,N⟩
end
end
theorem l8(l:List (db×Value)):(opsV l).length=l.length*14:=by
 unfold opsV;induction l with
 |nil=>rfl
 |cons q l aes=>rw[List.flatMap_cons,ak,aes,aI,kK];omega
theorem l9(l k:List (db×Value)):opsV (l++k)=opsV l++opsV k:=by unfold opsV;rw[List.flatMap_append]
theorem kM(q:db×Value)(l:List (db×Value)):opsV (q::l)=dN q.1 q.2++opsV l:=by unfold opsV;rw[List.flatMap_cons]
theorem uC{l:List (db×Value)}{i:Nat}(h:i<l.length):(ll l i).length=14:=by
 unfold ll;rw[an h];rfl
theorem wx: ∀(l:List (db×Value)) (i j:Nat) (u:Value),i<l.length->(ll l i)[j]? =some u->(opsV l)[i*14+j]? =some u:=by
 intro l;induction l with
 |nil=>intro i j u hi;exact absurd hi aN
 |cons q l aes=>
  intro i j u hi h;rw[kM];cases i with
  |zero=>
   have aeD:j<14:=by
    have:=(List.getElem?_eq_some_iff.1 h).1;simpa [ll,kK]using this
   rw[aA (by rw[kK];omega),Nat.zero_mul,ax];exact h
  |succ i=>
   rw[ay (by rw[kK];omega)];have:=aes i j u (by simpa using hi) (by simpa [ll]using h);rw[show(i+1)*14+j-(dN q.1 q.2).length=i*14+j from by rw[kK];omega];exact this
theorem y3(l:List (db×Value)):bx l.length 14 (ll l)=opsV l:=by
 apply List.ext_getElem?;intro j;by_cases c:j<l.length*14
 ·have hi:j/14<l.length:=by omega
  have YJ:=uC hi;have hu: ∃u,(ll l (j/14))[j %14]? =some u:=⟨_,an J⟩
  obtain⟨u,hu⟩:=hu;have h1:=pO (F:=ll l) (n:=l.length) (sz:=14) (fun i hi=>uC hi) hi hu;have aaV:=wx l (j/14) (j %14) u hi hu;rw[show j/14*14+j %14=j from J]at h1 aaV;rw[h1,aaV]
 ·rw[aV (by rw[cv];omega),aV (by rw[l8];omega)]
theorem FI(l:List (db×Value))(h: ∀q,q∈l->q.2.oneCell'=true):hl l.length 14 (ll l):=by
 intro i hi;refine⟨uC hi,fun u hu=>?_⟩;unfold ll at hu;rw[an hi]at hu;simp only[bt,Option.getD_some,dN,ad,E,av]at hu;have VX:=h _ (bA hi)
 (repeat' rcases hu with rfl|hu)<;>first|rfl|exact VX|(subst hu;exact VX)
theorem FJ{w:World}{VS cap:Nat}{l:List (db×Value)}{rest:List Value}(h:ah w VS 46 (opsV l++rest).toArray)(h1:l.length<=cap)(aaV:cap<=maxLen):acr w (fun b=>b=VS) (.slice (some ⟨VS,0,none⟩) l.length cap) l.length 14 (ll l):=
 ⟨_,_,rfl,h1,aaV,fun _=>⟨VS,0,rfl,rfl,h.lt,fun i j u hi hu=>by
   have ZV:=wx l i j u hi hu
   rw[ax,h.cell,aE,aA (List.getElem?_eq_some_iff.1 ZV).1]
   exact ZV⟩⟩
theorem AP(w:World)(S:Nat->Prop)(v:Value)(n:Nat)(F:Nat->List Value)(h:acr w S v n 14 F)(abi:n<=65536)(hF:hl n 14 F):
 Calls prog 58 #[v] w fun e w'=> ∃v',e= .returned v'/\w'.ownsRow w.heap.size 46 14 v' n (bx n 14 F)/\Below w.heap.size w w':=by
 obtain⟨aaX,iM,iN,iO,iP⟩:=info_parts jK;have gP:=fun i hi=>(hF i hi).1;have fh:=hF.flat (by decide:0<14);obtain⟨A,c,rfl,h1,aaV,ZV⟩:=id h;have gC:n<=maxLen:=by unfold maxLen;omega
 cases A with
 |none=>
  have eN:n=0:=by
   rcases aQ n with h|h
   ·exact h
   ·obtain⟨b,off,e,_⟩:=ZV h;cases e
  subst eN;clear h ZV hF gP fh abi h1 aaV gC iM iN iO iP;have mq:=fun w=>Lib.run_eql_slice_nil (P:=prog) w _ _ none 0 c 0 0 e7;go_enter func58,ntmps58;go_wp2_with fail;go_ret;exact⟨_,rfl,World.ownsRow_nil _ _ _ _,by
   exact a2⟩
 |some afF=>
  have H:=I h;have lZ:=I gP;have mr:=I fh;have ZG:=I abi;have ms:=I gC;clear h ZV hF gP fh abi h1 aaV gC;have mq:=fun w=>Lib.run_eql_slice_nil (P:=prog) w _ _ (some afF) n c 0 0 e7;have mv:=I (H.out.news lZ.out am);go_enter func58,ntmps58;go_wp2_with(at_builtin;refine wpList_append_own _ rfl _ _ 34 rfl w.heap.size 46 aaX (.agg #[.int .i64 0,.int .u8 0,.int .u8 0,.int .u8 0,.int .u8 0,.int .i64 0,.int .i64 0,.int .i64 0,.int .i64 0,.int .i64 0,.int .i64 0,.int .i64 0,.int .i64 0,.slice none 0 0]) 14 104 e7 iM iN iO iP rfl am _ _ _ rfl (World.ownsRow_made w #[] 0 (ai _) (aL _) rfl) afF n c (bx n 14 F) rfl (cv _ _ _) (mv.out _ (World.dY _ _)) mr.out (by rw[ax];exact ms.out) (by have:=ZG.out;omega) aN ?_;intro v' w' ZQ afj _;rw[au,ax]at ZQ);exact kL
theorem Pg{P T:List Value}{o:db}{v:Value}{k:Nat}(h:P.length=k*14):(P++(dN o v++T))[k*14+13]? =some v:=by
 rw[ay J,h,show k*14+13-k*14=13 from J];rfl
theorem Mg{P T:List Value}{o:db}{v u:Value}{k:Nat}(h:P.length=k*14):er (P++(dN o v++T)) (k*14+13) [u]=P++(dN o u++T):=by
 unfold er;rw[List.take_append,cm J,h,show k*14+13-k*14=13 from J,List.drop_append,cl (by simp;omega),show k*14+13+ [u].length-P.length=14 from by simp;omega];simp[dN]
theorem IW(w0:World)(aeh:Nat)(p:afy)(Y8 acc Z2:Value)(ap aff:Nat)(st:Int)(acB:List (db×Value))(m:Nat)(hm:acB.length=m)(p2:0<m)(lH:m<=65536)(S:Nat->Prop)(hb:ah w0 aeh 142 (gh p Y8 ap aff acc Z2 st).toArray)
 (hv:acr w0 S Z2 m 14 (ll acB))(VX: ∀q,q∈acB->cF w0 S q.2 q.1.aC.said/\q.1.aC.said.length<=65536)(hS: ∀b,S b->b≠aeh):
 Calls prog 22 #[.pointer (some ⟨aeh,0,none⟩)] w0 fun e w'=> ∃v Xv,e= .returned v/\Xv.map Prod.fst=acB.map Prod.fst/\(∀q,q∈Xv->cF w' (fun b=>w0.heap.size<=b) q.2 q.1.aC.said)/\acr w' (fun b=>w0.heap.size<=b) v Xv.length 14 (ll Xv)/\Below w0.heap.size w0 w':=by
 obtain⟨A,c,e,-,-,-⟩:=id hv;subst e;have aav:=I hb;have abx:=I hv;have ab0:=I VX;have aey:=I hm;have uD:hl m 14 (ll acB):=hm▸FI acB fun q h=>(VX q h).1.one;have lw:=I uD;have WX:=I (show bx m 14 (ll acB)=opsV acB by rw[<-hm,y3]);have U:=aah.g8 hb;clear hb hv VX uD hm;go_enter func22,ntmps22;go_wp2_with(first|(go_at_call 58;refine Calls.mono (AP _ S _ m (ll acB) (abx.out.Wu (U.Wu.mono fun b _ h=>hS b h)) lH lw.out) ?_;rintro e aaM ⟨v',rfl,h2,N⟩;have aaH:=U.below N;have adS:=aaQ.made U N h2;obtain⟨g,cap,rest,rfl,adu,afj,eR,c7,uz⟩:=aaH.open_ adS p2;rw[WX.out]at adu uz;clear aaH adS h2 N U;have U:=adu;clear adu)|(refine aq ?_)|(refine ac2 U ?_;clear U;intro w U));have eB:=I U;have So:=I eR;clear U eR;go_loopw [12] (fun i wr=> ∃(k:Nat) (Xv:List (db×Value)),k<=m/\i= .int .i64 k/\Xv.map Prod.fst=acB.map Prod.fst/\(∀j q,Xv[j]? =some q->q.1.aC.said.length<=65536/\(j<k->cF wr (fun b=>w0.heap.size<=b/\b≠g) q.2 q.1.aC.said)/\(k<=j->cF w0 S q.2 q.1.aC.said))/\aah w0 (fun b=>b≠aeh) wr none [⟨g,46,opsV Xv++rest⟩,⟨aeh,142,gh p Y8 ap aff acc (.slice A m c) st⟩]) (fun i _=>m-(intOf i).toNat)
 case atStart=>exact⟨0,acB,J,rfl,rfl,fun j q aeD=>⟨(ab0.out q (bf aeD)).2,fun h=>J,fun _=>(ab0.out q (bf aeD)).1⟩,eB.out⟩
 case round=>
  obtain⟨k,Xv,ae3,rfl,n9,BR,U⟩:=hrel;clear eB;have IX:=I n9;have FK:=I BR;clear n9 BR;by_cases bV:k<m
  ·have cV:Xv.length=m:=by have:=dz List.length IX.out;rw[bJ,bJ,aey.out]at this;exact this
   obtain⟨pre,⟨o,s⟩,post,YF,ih,-,-⟩:=so Xv k J;obtain⟨lW,-,tj⟩:=FK.out k (o,s) (by rw[YF,ay J,ih,Nat.sub_self];rfl);have Mh:=I (tj (ai _));have gv:=I (show(opsV pre).length=k*14 by rw[l8,ih]);have Ph:=I YF;have FL:=I ih;rw[YF,l9,kM,aJ,aJ]at U;have aaX:(k:Int)<(m:Int):=J;have afQ:(0:Int)<=(k:Int):=J;clear YF ih tj cV;go_wp2_with(first|(refine fm U rfl 30 _ rfl g (k*14+13) rfl ag _ (Pg gv.out) underlying30 rfl ?_;refine cN ?_)|(refine hp U rfl 30 _ _ rfl g (k*14+13) _ _ rfl rfl rfl cf (by have:=gv.out;simp[kK];omega) aM rfl ?_;clear U;intro w U;rw[Mg gv.out]at U;refine cN ?_)|(go_at_call 59;refine Calls.mono (lu _ S _ _ (hq o.aC.said) (Mh.out.Wu (U.Wu.mono fun b _ h=>hS b h)) lW (gp _ _)) ?_;rintro e aaM ⟨v',rfl,qO,N⟩;obtain⟨afC,ace,rfl,-,-,-⟩:=id qO;have hv:=U.eh qO;have jT:=I N;have aaH:=U.below N;clear U N;have U:=aaH.base)|(first|(refine aq ?_)|(refine ac2 U ?_;clear U;intro w U)));go_roundw
   case rel=>
    have Yq:=aaH.back U;refine⟨k+1,pre++(o,.slice afC o.aC.said.length ace)::post,J,by go_num,?_,?_,?_⟩
    ·rw[<-IX.out,Ph.out];simp
    ·intro j q aeD;have hold:=FK.out j;rw[Ph.out]at hold;have Mi: ∀b,w0.heap.size<=b/\b≠g->bq none [⟨g,46,opsV pre++(dN o s++(opsV post++rest))⟩,⟨aeh,142,gh p Y8 ap aff acc (.slice A m c) st⟩] b:=fun b hb=>⟨fun x Wy e=>by
      have:=aav.out.lt;simp only[ad,E,av]at Wy;rcases Wy with rfl|rfl
      ·exact hb.2 e.symm
      ·simp only at e;omega,fun a e=>by cases e⟩
     rcases Nat.lt_trichotomy j k with c|c|c
     ·rw[aA (by rw[FL.out];exact c)]at aeD hold;obtain⟨h1,aaV,-⟩:=hold q aeD;exact⟨h1,fun _=>((aaV c).Wu (Z1.cg jT.out)).Wu (U.Wu.mono fun b _ h=>Mi b h),fun h=>J⟩
     ·subst c;rw[ay (by rw[FL.out];exact ai _),FL.out,Nat.sub_self]at aeD;injection aeD with aeD
      subst aeD;exact⟨lW,fun _=>(U.carry hv fun b _ h=>h.2).mono fun b _ h=>⟨h.1,fun e=>h.2.1 _ a8 e.symm⟩,fun h=>J⟩
     ·rw[ay (by rw[FL.out];omega)]at aeD hold;obtain⟨i,hi⟩: ∃i,j-pre.length=i+1:=⟨j-pre.length-1,by have:=FL.out;omega⟩
      rw[hi,cz]at aeD hold;obtain⟨h1,-,ZV⟩:=hold q aeD;exact⟨h1,fun h=>J,fun _=>ZV J⟩
    ·rw[l9,kM,aJ,aJ];exact Yq
   case measure=>simp[intOf];omega
  ·obtain rfl:k=m:=by omega
   go_wp2_with fail;go_ret;have cV:Xv.length=k:=by have:=dz List.length IX.out;rw[bJ,bJ,aey.out]at this;exact this
   refine⟨_,Xv,rfl,IX.out,fun q VX=>?_,?_,U.ro aav.out ag⟩
   ·obtain⟨j,aeD⟩:=bZ VX;exact((FK.out j q aeD).2.1 (by have:=(List.getElem?_eq_some_iff.1 aeD).1;omega)).mono fun b _ h=>h.1
   ·have:=FJ (U.b (g:=g) ag) (by rw[cV];exact So.out) c7;rw[cV]at this⊢;exact this.mono fun b _ h=>by rw[h];exact afj
theorem Sp{w:World}{S S':Nat->Prop}{v:Value}{sz:Nat}{F:Nat->List Value}(h:acr w S v 0 sz F):acr w S' v 0 sz F:=by
 obtain⟨A,c,e,h1,aaV,ZV⟩:=h;exact⟨A,c,e,h1,aaV,fun h=>J⟩
theorem BS(w0:World)(aeh:Nat)(p:afy)(Y8 acc:Value)(ap aff:Nat)(st:Int)(Zk:Option Addr)(VI:Nat)(Pj:acr w0 (fun _=>True) (.slice Zk 0 VI) 0 14 (ll []))(hb:ah w0 aeh 142 (gh p Y8 ap aff acc (.slice Zk 0 VI) st).toArray):
 Calls prog 22 #[.pointer (some ⟨aeh,0,none⟩)] w0 fun e w'=> ∃v,e= .returned v/\acr w' (fun b=>w0.heap.size<=b) v 0 14 (ll [])/\Below w0.heap.size w0 w':=by
 have aav:=I hb;have Sq:=I (Sp (S':=fun b=>b≠aeh) Pj);have U:=aah.g8 hb;clear hb Pj;go_enter func22,ntmps22;go_wp2_with(first|(go_at_call 58;refine Calls.mono (Ad _ (fun b=>b≠aeh) _ 0 (ll []) (Sq.out.Wu U.Wu) am (fun i hi=>absurd hi J)) ?_;rintro e aaM ⟨v',rfl,hv,N⟩;obtain⟨A,c,rfl,-,-,-⟩:=id hv;replace hv:=U.eh hv;have aaH:=U.below N;clear U N;have U:=aaH.base)|(refine aq ?_)|(refine ac2 U ?_;clear U;intro w U));have eB:=I U;have abx:=I hv;have acf:=I aaH;clear U hv aaH;go_loopw [12] (fun i wr=>i= .int .i64 0/\wr=aaM) (fun i _=>0)
 case atStart=>exact⟨rfl,rfl⟩
 case round=>
  obtain⟨rfl,rfl⟩:=hrel;go_wp2_with fail;go_ret;exact⟨_,rfl,abx.out.mono fun b _ h=>h.1,acf.out.ro aav.out ag⟩
theorem BT(w0:World)(B:WB)(p:afy)(F:b1)(n:Nat)(W:Wd)(h:df w0 B p F n W)(YJ:W.ops.length<=65536)(dJ: ∀o,o∈W.ops->o.aC.said.length<=65536):
 Calls prog 22 #[.pointer (some ⟨B.aeh,0,none⟩)] w0 fun e w'=> ∃v acB,e= .returned v/\acB.map Prod.fst=W.ops/\(∀q,q∈acB->cF w' (fun b=>w0.heap.size<=b) q.2 q.1.aC.said)/\acr w' (fun b=>w0.heap.size<=b) v acB.length 14 (ll acB)/\Below w0.heap.size w0 w':=by
 obtain⟨acB,n9,lK,hv⟩:=h.op.ex;rcases hv with⟨IY,rfl⟩|⟨cap,rest,IY,Pk,h1,aaV,ZV⟩
 ·have hb:=h.wd;rw[IY]at hb;refine(BS w0 B.aeh p B.Y8 B.acc B.ap B.aff W.n none 0 (acr.nil _ _ _ _) hb).mono fun e w' ⟨v,V1,YF,Yq⟩=>⟨v,[],V1,n9,fun q VX=>(by cases VX),YF,Yq⟩
 ·rcases aQ acB.length with YM|YM
  ·obtain rfl:acB= []:=dn YM;have hb:=h.wd;rw[IY]at hb;have YF:=FJ Pk h1 aaV;exact(BS w0 B.aeh p B.Y8 B.acc B.ap B.aff W.n _ cap (YF.mono fun _ _ _=>trivial) hb).mono fun e w' ⟨v,V1,YF,Yq⟩=>⟨v,[],V1,n9,fun q VX=>(by cases VX),YF,Yq⟩
  ·have hb:=h.wd;have cV:acB.length=W.ops.length:=by rw[<-n9,bJ]
   have YF:=FJ Pk h1 aaV;rw[<-IY]at YF;have mb:B.VS≠B.aeh:=h.FB.1;refine(IW w0 B.aeh p B.Y8 B.acc B.Z2 B.ap B.aff W.n acB acB.length rfl YM J (fun b=>b≠B.aeh) hb (YF.mono fun b _ e=>by rw[e];exact mb) (fun q VX=>⟨(lK q VX).mono fun b _ hF e=>hF.1 (.inl e),dJ _ (by rw[<-n9];exact List.mem_map_of_mem VX)⟩) (fun b h=>h)).mono fun e w' ⟨v,Xv,V1,hm,VX,gq,Yq⟩=>⟨v,Xv,V1,hm.trans n9,VX,gq,Yq⟩
section
theorem qd{G:Prop}(h:G:=by
 go_wp2_with(first|(refine aq ?_)|(refine Ws U 196 ?_;clear U;intro gI w U jy)|(refine VP U gg ?_;clear U;intro gb w U ef)|(refine aT ?_;clear U;intro X8 w U aay));refine fY ?_;exact⟨rfl,U.b (g:=aaF) ag,U.b (g:=YS) ag,U.Wu⟩):G:=h
theorem kN{G:Prop}(h:G:=by
 have rs: ∀(fn:Fn) (first cap:Array Value) (w:World),(Instr.makeFunc fn first cap).run prog w= .ok (.func fn first cap) w:=fun _ _ _ _=>rfl;have AQ:=aen.lt;have ss:=adS.lt;clear aen adS XP ZQ;go_enter func108,ntmps108;go_upto_region 2 with(first|(refine aq ?_)|(refine Ws U 196 ?_;clear U;intro gI w U jy)|(refine VP U gg ?_;clear U;intro gb w U ef)|(refine aT ?_;clear U;intro X8 w U aay))
 replace U:=U.drew;go_cut [2,3]from 8 to 18 (fun abq abb ZT=> ∃Vt Y6,abq= .pointer (some ⟨Vt,0,none⟩)/\abb= .pointer (some ⟨Y6,0,none⟩)/\aah w0 (fun b=>b≠aaF/\b≠YS) ZT none [⟨Vt,42,[.int .u8 r.call.op,.int .u8 r.call.r,.int .u8 r.call.h,.int .u8 r.call.v,.int .i64 r.call.a,.int .i64 r.call.b,.int .i64 r.call.c]⟩,⟨Y6,44,[.int .i64 r.aC.code,.int .i64 r.aC.n,.slice af3 Ym ZM]⟩,⟨gI,196,[.pointer (some ⟨aaF,0,none⟩)]⟩,⟨aaF,200,fI aa3 (.slice (some ⟨YS,0,none⟩) 4 4) VZ r ⟨ads,ls,Wh,.slice af3 Ym ZM⟩ false aK⟩,⟨YS,59,bN .u64 4 regs⟩]/\w0.heap.size<=Vt)
 case first=>
  refine b0 ?_;intro X;refine az [[0,1,2,3,4,5,6,7,8,9]] ?_;refine Zj [10,11] ?_;refine ea (fun K Z7=>?_) ?_
  ·refine ZZ U gg ?_;clear U;intro gb w U ef;refine abR Z7 fun X=>?_;refine az [[],[11,12,13]] ?_;clear U;intro Mj FM w U;go_wp2_with fail;go_meet;first|exact⟨_,_,rfl,rfl,U,ef⟩|exact⟨_,_,rfl,rfl,U.swap,ef⟩
  refine ei (fun K Z7=>?_);refine ZZ U tW ?_;clear U;intro Mj w U FM;refine abR Z7 fun X=>?_;refine az [[],[10,12,13]] ?_;clear U;intro gb ef w U;go_wp2_with fail;go_meet;first|exact⟨_,_,rfl,rfl,U,ef⟩|exact⟨_,_,rfl,rfl,U.swap,ef⟩
 case rest=>
 obtain⟨Vt,Y6,rfl,rfl,U,dP⟩:=hcut;go_wp2_with(first|(refine aq ?_)|(refine Ws U 196 ?_;clear U;intro gI w U jy)|(refine VP U gg ?_;clear U;intro gb w U ef)|(refine aT ?_;clear U;intro X8 w U aay));replace U:=U.drew;refine wp_region_held_drew (S:=(c0 [⟨Vt,42,[.int .u8 r.call.op,.int .u8 r.call.r,.int .u8 r.call.h,.int .u8 r.call.v,.int .i64 r.call.a,.int .i64 r.call.b,.int .i64 r.call.c]⟩,⟨Y6,44,[.int .i64 r.aC.code,.int .i64 r.aC.n,.slice af3 Ym ZM]⟩,⟨gI,196,[.pointer (some ⟨aaF,0,none⟩)]⟩,⟨aaF,200,fI aa3 (.slice (some ⟨YS,0,none⟩) 4 4) VZ r ⟨ads,ls,Wh,.slice af3 Ym ZM⟩ false aK⟩])) (by kernel_rfl) ?_ (fun X=>?_)
 ·exact U.bG (by simp)
 refine az [[0,1,2,3,4,5,6,7,8,9]] ?_;refine aF 10 fun K Z7=>?_;rw[Z (by rfl)];refine mA U 59 _ _ rfl YS (r.call.r.toNat) .u64 (af8 r.aC.n) rfl rfl cf (by omega) (by kernel_rfl) ?_;clear U;intro w U;refine WE Z7 fun X=>?_;refine adB ?_;go_wp2_with(first|(refine aq ?_)|(refine Ws U 196 ?_;clear U;intro gI w U jy)|(refine VP U gg ?_;clear U;intro gb w U ef)|(refine aT ?_;clear U;intro X8 w U aay));refine fY ?_;exact⟨rfl,U.b (g:=aaF) ag,U.b (g:=YS) ag,U.Wu⟩):G:=h
theorem oa{G:Prop}(h:G:=by
 go_enter func108,ntmps108;go_upto_region 2 with(first|(refine aq ?_)|(refine Ws U 196 ?_;clear U;intro gI w U jy)|(refine VP U gg ?_;clear U;intro gb w U ef)|(refine aT ?_;clear U;intro X8 w U aay))
 replace U:=U.drew;go_cut [2,3]from 8 to 18 (fun abq abb ZT=> ∃Vt Y6,abq= .pointer (some ⟨Vt,0,none⟩)/\abb= .pointer (some ⟨Y6,0,none⟩)/\aah w0 (fun b=>b≠aaF/\b≠YS) ZT none [⟨Vt,42,[.int .u8 r.call.op,.int .u8 r.call.r,.int .u8 r.call.h,.int .u8 r.call.v,.int .i64 r.call.a,.int .i64 r.call.b,.int .i64 r.call.c]⟩,⟨Y6,44,[.int .i64 r.aC.code,.int .i64 r.aC.n,.slice af3 Ym ZM]⟩,⟨gI,196,[.pointer (some ⟨aaF,0,none⟩)]⟩,⟨aaF,200,fI aa3 (.slice (some ⟨YS,0,none⟩) 4 4) VZ r ⟨ads,ls,Wh,.slice af3 Ym ZM⟩ false aK⟩,⟨YS,59,bN .u64 4 regs⟩]/\w0.heap.size<=Vt)
 case first=>
  exact hD
 case rest=>
 obtain⟨Vt,Y6,rfl,rfl,U,dP⟩:=hcut;exact qd):G:=h
section
variable(w0:World)(aaF YS:Nat)(aa3 VZ:Value)(r:aax)(ads ls Wh:Value)(af3:Option Addr)(Ym ZM:Nat)(busy:Bool)(aK:Nat)(regs:Nat->Int)(aen:ah w0 aaF 200 (fI aa3 (.slice (some ⟨YS,0,none⟩) 4 4) VZ r ⟨ads,ls,Wh,.slice af3 Ym ZM⟩ busy aK).toArray)(adS:ah w0 YS 59 (bN .u64 4 regs).toArray)
include w0 aaF YS aa3 VZ r ads ls Wh af3 Ym ZM busy aK regs aen adS
theorem IZ(XP:r.aC.code≠0):
 Calls prog 108 #[.pointer (some ⟨aaF,0,none⟩)] w0 fun e w'=>e= .returned (.tuple #[])/\ah w' aaF 200 (fI aa3 (.slice (some ⟨YS,0,none⟩) 4 4) VZ r ⟨ads,ls,Wh,.slice af3 Ym ZM⟩ false aK).toArray/\ah w' YS 59 (bN .u64 4 regs).toArray/\Z1 (fun b=>b≠aaF/\b≠YS) w0 w':=by
 have U:=aah.two aen adS (aen.ne adS am);have VI:(r.aC.code !=0)=true:=by simp[XP]
 have rs: ∀(fn:Fn) (first cap:Array Value) (w:World),(Instr.makeFunc fn first cap).run prog w= .ok (.func fn first cap) w:=fun _ _ _ _=>rfl;have AQ:=aen.lt;have ss:=adS.lt;clear aen adS XP;exact oa
theorem I0(XP:r.aC.code=0)(ZQ:r.call.op≠1/\r.call.op≠7/\r.call.op≠8/\r.call.op≠10/\r.call.op≠4/\r.call.op≠6/\r.call.op≠5):
 Calls prog 108 #[.pointer (some ⟨aaF,0,none⟩)] w0 fun e w'=>e= .returned (.tuple #[])/\ah w' aaF 200 (fI aa3 (.slice (some ⟨YS,0,none⟩) 4 4) VZ r ⟨ads,ls,Wh,.slice af3 Ym ZM⟩ false aK).toArray/\ah w' YS 59 (bN .u64 4 regs).toArray/\Z1 (fun b=>b≠aaF/\b≠YS) w0 w':=by
 have U:=aah.two aen adS (aen.ne adS am);have VI:(r.aC.code !=0)=false:=by simp[XP]
 have adO:(r.call.op==1)=false:=by simp[ZQ]
 have ae8:(r.call.op==7)=false:=by simp[ZQ]
 have aa5:(r.call.op==8)=false:=by simp[ZQ]
 have I1:(r.call.op==10)=false:=by simp[ZQ]
 have adl:(r.call.op==4)=false:=by simp[ZQ]
 have Zg:(r.call.op==6)=false:=by simp[ZQ]
 have YZ:(r.call.op==5)=false:=by simp[ZQ]
 have rs: ∀(fn:Fn) (first cap:Array Value) (w:World),(Instr.makeFunc fn first cap).run prog w= .ok (.func fn first cap) w:=fun _ _ _ _=>rfl;have AQ:=aen.lt;have ss:=adS.lt;clear aen adS XP ZQ;exact oa
theorem I2(hv:IntKind.u64.wrap r.call.a=af8 r.call.a)(Mk:0<=r.call.r)(bv:r.call.r<4)(XP:r.aC.code=0)(ZQ:r.call.op=1):
 Calls prog 108 #[.pointer (some ⟨aaF,0,none⟩)] w0 fun e w'=>e= .returned (.tuple #[])/\ah w' aaF 200 (fI aa3 (.slice (some ⟨YS,0,none⟩) 4 4) VZ r ⟨ads,ls,Wh,.slice af3 Ym ZM⟩ false aK).toArray/\ah w' YS 59 (bN .u64 4 (upd regs r.call.r.toNat (af8 r.call.a))).toArray/\Z1 (fun b=>b≠aaF/\b≠YS) w0 w':=by
 have U:=aah.two aen adS (aen.ne adS am);have VI:(r.aC.code !=0)=false:=by simp[XP]
 have adO:(r.call.op==1)=true:=by simp[ZQ]
 have rs: ∀(fn:Fn) (first cap:Array Value) (w:World),(Instr.makeFunc fn first cap).run prog w= .ok (.func fn first cap) w:=fun _ _ _ _=>rfl;have AQ:=aen.lt;have ss:=adS.lt;clear aen adS XP ZQ;go_enter func108,ntmps108;go_upto_region 2 with(first|(refine aq ?_)|(refine Ws U 196 ?_;clear U;intro gI w U jy)|(refine VP U gg ?_;clear U;intro gb w U ef)|(refine aT ?_;clear U;intro X8 w U aay))
 replace U:=U.drew;go_cut [2,3]from 8 to 18 (fun abq abb ZT=> ∃Vt Y6,abq= .pointer (some ⟨Vt,0,none⟩)/\abb= .pointer (some ⟨Y6,0,none⟩)/\aah w0 (fun b=>b≠aaF/\b≠YS) ZT none [⟨Vt,42,[.int .u8 r.call.op,.int .u8 r.call.r,.int .u8 r.call.h,.int .u8 r.call.v,.int .i64 r.call.a,.int .i64 r.call.b,.int .i64 r.call.c]⟩,⟨Y6,44,[.int .i64 r.aC.code,.int .i64 r.aC.n,.slice af3 Ym ZM]⟩,⟨gI,196,[.pointer (some ⟨aaF,0,none⟩)]⟩,⟨aaF,200,fI aa3 (.slice (some ⟨YS,0,none⟩) 4 4) VZ r ⟨ads,ls,Wh,.slice af3 Ym ZM⟩ false aK⟩,⟨YS,59,bN .u64 4 regs⟩]/\w0.heap.size<=Vt)
 case first=>
  exact hD
 case rest=>
 obtain⟨Vt,Y6,rfl,rfl,U,dP⟩:=hcut;go_wp2_with(first|(refine aq ?_)|(refine Ws U 196 ?_;clear U;intro gI w U jy)|(refine VP U gg ?_;clear U;intro gb w U ef)|(refine aT ?_;clear U;intro X8 w U aay));replace U:=U.drew;refine wp_region_held_drew (S:=(c0 [⟨Vt,42,[.int .u8 r.call.op,.int .u8 r.call.r,.int .u8 r.call.h,.int .u8 r.call.v,.int .i64 r.call.a,.int .i64 r.call.b,.int .i64 r.call.c]⟩,⟨Y6,44,[.int .i64 r.aC.code,.int .i64 r.aC.n,.slice af3 Ym ZM]⟩,⟨gI,196,[.pointer (some ⟨aaF,0,none⟩)]⟩,⟨aaF,200,fI aa3 (.slice (some ⟨YS,0,none⟩) 4 4) VZ r ⟨ads,ls,Wh,.slice af3 Ym ZM⟩ false aK⟩])) aM ?_ (fun X=>?_)
 ·exact U.bG aN
 refine az [[0,1,2,3,4,5,6,7,8,9]] ?_;refine aF 10 fun K Z7=>?_;rw[Z (by rfl)];refine mA U 59 _ _ rfl YS (r.call.r.toNat) .u64 (af8 r.call.a) rfl rfl cf J aM ?_;clear U;intro w U;refine WE Z7 fun X=>?_;refine adB ?_;exact qd
section
variable(hv:IntKind.u64.wrap r.aC.n=af8 r.aC.n)(Mk:0<=r.call.r)(bv:r.call.r<4)(XP:r.aC.code=0)
include hv Mk bv XP
theorem I3(ZQ:r.call.op=7):
 Calls prog 108 #[.pointer (some ⟨aaF,0,none⟩)] w0 fun e w'=>e= .returned (.tuple #[])/\ah w' aaF 200 (fI aa3 (.slice (some ⟨YS,0,none⟩) 4 4) VZ r ⟨ads,ls,Wh,.slice af3 Ym ZM⟩ false aK).toArray/\ah w' YS 59 (bN .u64 4 (upd regs r.call.r.toNat (af8 r.aC.n))).toArray/\Z1 (fun b=>b≠aaF/\b≠YS) w0 w':=by
 have U:=aah.two aen adS (aen.ne adS am);have VI:(r.aC.code !=0)=false:=by simp[XP]
 have adO:(r.call.op==1)=false:=by simp[ZQ]
 have ae8:(r.call.op==7)=true:=by simp[ZQ]
 exact kN
theorem I4(ZQ:r.call.op=8):
 Calls prog 108 #[.pointer (some ⟨aaF,0,none⟩)] w0 fun e w'=>e= .returned (.tuple #[])/\ah w' aaF 200 (fI aa3 (.slice (some ⟨YS,0,none⟩) 4 4) VZ r ⟨ads,ls,Wh,.slice af3 Ym ZM⟩ false aK).toArray/\ah w' YS 59 (bN .u64 4 (upd regs r.call.r.toNat (af8 r.aC.n))).toArray/\Z1 (fun b=>b≠aaF/\b≠YS) w0 w':=by
 have U:=aah.two aen adS (aen.ne adS am);have VI:(r.aC.code !=0)=false:=by simp[XP]
 have adO:(r.call.op==1)=false:=by simp[ZQ]
 have ae8:(r.call.op==7)=false:=by simp[ZQ]
 have aa5:(r.call.op==8)=true:=by simp[ZQ]
 exact kN
theorem FN(ZQ:r.call.op=10):
 Calls prog 108 #[.pointer (some ⟨aaF,0,none⟩)] w0 fun e w'=>e= .returned (.tuple #[])/\ah w' aaF 200 (fI aa3 (.slice (some ⟨YS,0,none⟩) 4 4) VZ r ⟨ads,ls,Wh,.slice af3 Ym ZM⟩ false aK).toArray/\ah w' YS 59 (bN .u64 4 (upd regs r.call.r.toNat (af8 r.aC.n))).toArray/\Z1 (fun b=>b≠aaF/\b≠YS) w0 w':=by
 have U:=aah.two aen adS (aen.ne adS am);have VI:(r.aC.code !=0)=false:=by simp[XP]
 have adO:(r.call.op==1)=false:=by simp[ZQ]
 have ae8:(r.call.op==7)=false:=by simp[ZQ]
 have aa5:(r.call.op==8)=false:=by simp[ZQ]
 have I1:(r.call.op==10)=true:=by simp[ZQ]
 exact kN
end
end
end
theorem Mq(w0:World)(S:Nat->Prop)(p:afy)(aeh:Nat)(Y8 acc Z2:Value)(h4:Int)(ap WC n:Nat)(V:Nat->Int)(aff rg:Nat)(a4 aaY:Int)(fr:List Ext)(r:aax)(x:Yr)(hb:ah w0 aeh 142 (gh p Y8 ap aff acc Z2 h4).toArray)(Xg:ar w0 ap WC n V)(afj:cY w0 aff rg a4 aaY fr)(abk:aW w0 S r x)(hS: ∀b,S b->b≠WC/\b≠aff/\b≠rg)(bE:dx r)(afl:aeh≠ap/\aeh≠WC/\aeh≠aff/\aeh≠rg)(dK:ap≠aff/\ap≠rg/\WC≠aff/\WC≠rg)(a5:r.Xj=0):
 Calls prog 107 #[.pointer (some ⟨aeh,0,none⟩),.agg (aY r x)] w0 fun e w'=> ∃x' aO,e= .returned (.agg (aY (tell r r.aC.code 0) x'))/\ar w' ap WC n V/\cY w' aff aO a4 aaY fr/\(aO=rg\/w0.heap.size<=aO)/\aW w' (fun b=>(S b\/w0.heap.size<=b)/\b≠WC/\b≠aff/\b≠aO) (tell r r.aC.code 0) x'/\Z1 (fun b=>b≠WC/\b≠aff/\b≠rg) w0 w':=by
 obtain⟨W9,adX,aeQ,acN,acG,aeb,af3,ZM,rfl⟩:=eW abk;have Zn:=I Xg;have aaq:=I afj;have cH:=I afj.lt;have aby:=I abk;have aav:=I hb;have U:=aah.g8 hb;have Zh:(r.Xj==0)=true:=by simp[a5]
 clear Xg afj abk hb a5;go_enter func107,ntmps107;go_wp2_with(first|(go_at_call 184;have dq:=U.ro aav.out ag;refine Calls.mono (hg _ S r ⟨.slice W9 r.chain.length adX,.slice aeQ r.list.length acN,.slice acG r.said.length aeb,.slice af3 r.aC.said.length ZM⟩ _ _ (aby.out.Wu (Z1.cg dq)) bE) ?_;rintro e aaM ⟨v',rfl,bD,N⟩;obtain⟨aeU,aaP,rfl,-,-,-⟩:=id bD;have hv:=U.eh bD;clear bD dq;have aaH:=U.below N;clear U N;have U:=aaH.base)|(refine aq ?_)|(refine aT ?_;clear U;intro X8 w U aay));refine cw results107 rfl rfl ⟨_,U.b ag,rfl⟩ underlying198 rfl aM ?_;have Yq:=aaH.back U;have dq:=Yq.ro aav.out ag;have adS:=(aby.out.mono (S':=fun b=>(S b\/w0.heap.size<=b)/\b≠WC/\b≠aff/\b≠rg) (fun b hb h=>⟨.inl h,hS b h⟩)).Wu (Z1.cg dq);have qO:=(U.carry hv fun b _ h=>h.2).mono (S':=fun b=>(S b\/w0.heap.size<=b)/\b≠WC/\b≠aff/\b≠rg) fun b _ h=>⟨.inr h.1,by have:=ar.c9 Zn.out;have:=h.1;omega,by have:=cH.out;have:=h.1;omega,by have:=cH.out;have:=h.1;omega⟩
 exact⟨⟨.slice W9 r.chain.length adX,.slice aeQ r.list.length acN,.slice acG r.said.length aeb,.slice aeU r.said.length aaP⟩,rg,rfl,ar.below Zn.out dq Zn.out.c9.1 Zn.out.c9.2.1,aaq.out.Wu (dq.block _ cH.out.1) (dq.block _ cH.out.2),.inl rfl,⟨adS.ads,adS.ls,adS.Wh,qO⟩,Z1.cg dq⟩
theorem wK(sl:List Int)(x:Nat)(v:Int)(Wy:x<sl.length): ∀i,i<sl.length->upd (fun i=>sl.getD i 0) x v i=(sl.set x v).getD i 0:=by
 intro i hi;unfold upd;by_cases c:i=x
 ·subst c;rw[Z rfl,ae,List.getElem?_set_self Wy];rfl
 ·rw[Y c];show sl.getD i 0=_;rw[ae,ae,List.getElem?_set_ne (Ne.symm c)]
theorem acr.ext1{w:World}{S:Nat->Prop}{v:Value}{n:Nat}{f g:Nat->Int}(h:acr w S v n 1 (fun i=> [.int .u64 (f i)]))(e: ∀i,i<n->f i=g i):acr w S v n 1 (fun i=> [.int .u64 (g i)]):=
 h.ext fun i hi=>by rw[e i hi]
def DQ(w0 w':World)(l k:Nat)(q:Int×List Int×List Int×Bool)(e:Ending):Prop:=
 ∃W9 adX aeQ acN,e= .returned (.tuple #[.int .i64 (k+1+q.1),.slice W9 l adX,.slice aeQ q.2.2.1.length acN,.bool q.2.2.2])/\acr w' (fun b=>w0.heap.size<=b) (.slice W9 l adX) l 1 (fun i=> [.int .u64 (q.2.1.getD i 0)])/\cF w' (fun b=>w0.heap.size<=b) (.slice aeQ q.2.2.1.length acN) q.2.2.1/\Below w0.heap.size w0 w'
theorem zD(w0:World)(S:Nat->Prop)(Xm:Option Addr)(adZ fy acC sc k:Nat)(ops:List jc)(sl:List Int)(ZQ:LQ w0 S (.slice Xm ops.length adZ) ops)(ae3:k<ops.length)(Vy:ops.length<=8)(ok: ∀o,o∈ops->okF o)
 (lj:fy<w0.heap.size)(gq: ∀j,j<sl.length->w0.cell? ⟨fy,acC+j,none⟩=some (.int .u64 (sl.getD j 0)))(YJ:sl.length<=6):
 Calls prog 339 #[.slice Xm ops.length adZ,.int .i64 k,.slice (some ⟨fy,acC,none⟩) sl.length sc] w0 fun e w'=>DQ w0 w' sl.length k (dd (ops.getD k ⟨0,0,0⟩) sl) e:=by
 obtain⟨A',c',aal,h1,aaV,ZV⟩:=ZQ;injection aal with aal abF acL
 subst aal acL;obtain⟨acP,VJ,rfl,_,ek,XP⟩:=ZV J;obtain⟨o,VX⟩: ∃o,ops[k]? =some o:=⟨_,an ae3⟩
 have SK:=ok o (bf VX);have c3: ∀(j:Nat) (v:Value),([.int .u8 o.op,.int .i64 o.a,.int .i64 o.b]:List Value)[j]? =some v->w0.cell? ⟨acP,VJ+k*3+j,none⟩=some v:=fun j v aeD=>by
  have:=XP k j v ae3 (by unfold jQ;rw[VX];exact aeD);rwa[<-Nat.add_assoc]at this
 rw[ae,VX,Option.getD_some];clear XP VX ok ZV;obtain⟨op,a,b⟩:=o;obtain⟨hop,Xg,hb⟩:=SK;simp only at hop Xg hb c3;have nil: ∀(w:World) (S:Nat->Prop),cF w S (.slice none ([]:List Int).length 0) []:=fun w S=>cF.nil w S;rcases(by omega:op=0\/op=1\/op=2\/op=3\/op=4)with rfl|rfl|rfl|rfl|rfl
 ·have e:dd ⟨0,a,b⟩ sl=(0,sl,[a],false):=by unfold dd;simp
  rw[e];refine(Fj w0 acP VJ ops.length adZ fy acC sl.length sc k (fun i=>sl.getD i 0) (fun i=>sl.getD i 0) a b 0 [a] false ek c3 ae3 Vy lj gq YJ J fun aaM aa9 rg c rest aaK abq abb X6=>?_).mono fun e w' h=>h;exact(LR aaM aa9 rg sl.length c _ rest 0 a b aaK abq abb YJ X6).mono fun e w' h=>h
 ·by_cases c:a<sl.length
  ·obtain⟨x,rfl⟩: ∃x:Nat,a=x:=⟨a.toNat,J⟩
   have e:dd ⟨1,x,b⟩ sl=(0,sl.set x 0,[],false):=by unfold dd;simp[c]
   rw[e];refine(zB w0 acP VJ ops.length adZ fy acC sl.length sc k (fun i=>sl.getD i 0) (upd (fun i=>sl.getD i 0) x 0) x b 0 [] false ek c3 ae3 Vy lj gq YJ J fun aaM aa9 rg c' rest aaK abq abb X6=>?_).mono fun e w' h=>?_
   ·exact(LU aaM aa9 rg sl.length c' _ rest 1 x b aaK abq abb YJ X6 x J (fun i _=>J)).mono fun e w' h=>⟨none,0,h.1,nil _ _,h.2⟩
   ·obtain⟨W9,adX,aeQ,acN,h1,aaV,ZV⟩:=h;exact⟨W9,adX,aeQ,acN,h1,aaV.ext1 (wK sl x 0 J),ZV⟩
  ·have e:dd ⟨1,a,b⟩ sl=(0,sl,[],false):=by unfold dd;simp[c]
   rw[e];refine(zB w0 acP VJ ops.length adZ fy acC sl.length sc k (fun i=>sl.getD i 0) (fun i=>sl.getD i 0) a b 0 [] false ek c3 ae3 Vy lj gq YJ J fun aaM aa9 rg c' rest aaK abq abb X6=>?_).mono fun e w' h=>h;exact(LS aaM aa9 rg sl.length c' _ rest 1 a b aaK abq abb YJ X6 ⟨0,J,J⟩).mono fun e w' h=>⟨none,0,h.1,nil _ _,h.2⟩
 ·by_cases c:a<sl.length/\b<sl.length
  ·obtain⟨x,rfl⟩: ∃x:Nat,a=x:=⟨a.toNat,J⟩
   obtain⟨y,rfl⟩: ∃y:Nat,b=y:=⟨b.toNat,J⟩
   have e:dd ⟨2,x,y⟩ sl=(0,sl.set x (sl.getD y 0),[],false):=by
    unfold dd;rw[Y (show¬_ from aN),Y (show¬_ from aN),Z rfl,Z c];rfl
   rw[e];refine(zC w0 acP VJ ops.length adZ fy acC sl.length sc k (fun i=>sl.getD i 0) (upd (fun i=>sl.getD i 0) x (sl.getD y 0)) x y 0 [] false ek c3 ae3 Vy lj gq YJ J fun aaM aa9 rg c' rest aaK abq abb X6=>?_).mono fun e w' h=>?_
   ·exact(LW aaM aa9 rg sl.length c' _ rest 2 x y aaK abq abb YJ X6 x J y J (fun i _=>by split<;>omega)).mono fun e w' h=>⟨none,0,h.1,nil _ _,h.2⟩
   ·obtain⟨W9,adX,aeQ,acN,h1,aaV,ZV⟩:=h;exact⟨W9,adX,aeQ,acN,h1,aaV.ext1 (wK sl x _ J),ZV⟩
  ·have e:dd ⟨2,a,b⟩ sl=(0,sl,[],false):=by
    unfold dd;rw[Y (show¬_ from aN),Y (show¬_ from aN),Z rfl,Y c]
   rw[e];refine(zC w0 acP VJ ops.length adZ fy acC sl.length sc k (fun i=>sl.getD i 0) (fun i=>sl.getD i 0) a b 0 [] false ek c3 ae3 Vy lj gq YJ J fun aaM aa9 rg c' rest aaK abq abb X6=>?_).mono fun e w' h=>h;refine(LV aaM aa9 rg sl.length c' _ rest 2 a b aaK abq abb YJ X6 ?_).mono fun e w' h=>⟨none,0,h.1,nil _ _,h.2⟩
   by_cases YG:a<sl.length
   ·exact⟨1,J,by rw[Y (show¬_ from aN)];omega⟩
   ·exact⟨0,J,by rw[Z rfl];omega⟩
 ·by_cases c:a<sl.length
  ·obtain⟨x,rfl⟩: ∃x:Nat,a=x:=⟨a.toNat,J⟩
   by_cases z:sl.getD x 0=0
   ·have e:dd ⟨3,x,b⟩ sl=(b,sl,[],false):=by
     unfold dd;rw[Y (show¬_ from aN),Y (show¬_ from aN),Y (show¬_ from aN),Z rfl,Z ⟨c,z⟩]
    rw[e];refine(u3 w0 acP VJ ops.length adZ fy acC sl.length sc k (fun i=>sl.getD i 0) (fun i=>sl.getD i 0) x b b [] false ek c3 ae3 Vy lj gq YJ J fun aaM aa9 rg c' rest aaK abq abb X6=>?_).mono fun e w' h=>h;exact(LY aaM aa9 rg sl.length c' _ rest 3 x b aaK abq abb YJ X6 x J (fun i _=>J) z).mono fun e w' h=>⟨none,0,h.1,nil _ _,h.2⟩
   ·have e:dd ⟨3,x,b⟩ sl=(0,sl,[],false):=by
     unfold dd;rw[Y (show¬_ from aN),Y (show¬_ from aN),Y (show¬_ from aN),Z rfl,Y (fun h=>z h.2)]
    rw[e];refine(u3 w0 acP VJ ops.length adZ fy acC sl.length sc k (fun i=>sl.getD i 0) (fun i=>sl.getD i 0) x b 0 [] false ek c3 ae3 Vy lj gq YJ J fun aaM aa9 rg c' rest aaK abq abb X6=>?_).mono fun e w' h=>h;exact(LZ aaM aa9 rg sl.length c' _ rest 3 x b aaK abq abb YJ X6 x J (fun i _=>J) z).mono fun e w' h=>⟨none,0,h.1,nil _ _,h.2⟩
  ·have e:dd ⟨3,a,b⟩ sl=(0,sl,[],false):=by
    unfold dd;rw[Y (show¬_ from aN),Y (show¬_ from aN),Y (show¬_ from aN),Z rfl,Y (fun h=>c h.1)]
   rw[e];refine(u3 w0 acP VJ ops.length adZ fy acC sl.length sc k (fun i=>sl.getD i 0) (fun i=>sl.getD i 0) a b 0 [] false ek c3 ae3 Vy lj gq YJ J fun aaM aa9 rg c' rest aaK abq abb X6=>?_).mono fun e w' h=>h;exact(LX aaM aa9 rg sl.length c' _ rest 3 a b aaK abq abb YJ X6 ⟨0,J,J⟩).mono fun e w' h=>⟨none,0,h.1,nil _ _,h.2⟩
 ·have e:dd ⟨4,a,b⟩ sl=(0,sl,[],true):=by
   unfold dd;rw[Y (show¬_ from aN),Y (show¬_ from aN),Y (show¬_ from aN),Y (show¬_ from aN)]
  rw[e];refine(GY w0 acP VJ ops.length adZ fy acC sl.length sc k (fun i=>sl.getD i 0) (fun i=>sl.getD i 0) a b 0 [] true ek c3 ae3 Vy lj gq YJ J fun aaM aa9 rg c rest aaK abq abb X6=>?_).mono fun e w' h=>h;exact(L3 aaM aa9 rg sl.length c _ rest 4 a b aaK abq abb YJ X6).mono fun e w' h=>⟨none,0,h.1,nil _ _,h.2⟩
end Go.Proofs.YtcimojgkeoecfaaGreat
