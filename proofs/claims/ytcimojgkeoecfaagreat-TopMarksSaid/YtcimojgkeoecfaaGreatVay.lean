import Derived.Test.YtcimojgkeoecfaaGreatVax
set_option linter.all false
set_option maxHeartbeats 16000000
set_option maxRecDepth 100000
namespace Go.Proofs.YtcimojgkeoecfaaGreat
open Go.RowKit Tryz
theorem fp.Wu{w w':World}{S T:Nat->Prop}{a c:Nat}{T6 VZ:Value}{x:Yr}{t:eD}(h:fp w S a c T6 VZ x t)(k:Z1 T w w')(hS: ∀b,S b->T b)(h1:T a)(d:T c):fp w' S a c T6 VZ x t:=
 ⟨(k.block _ h.bC.lt h1).trans h.bC,(k.block _ h.reg.lt d).trans h.reg,h.sq.Wu (k.mono fun b _=>hS b),h.m6.Wu (k.mono fun b _=>hS b),h.run.Wu (k.mono fun b _=>hS b)⟩
theorem fp.below{w w':World}{S:Nat->Prop}{a b:Nat}{T6 VZ:Value}{x:Yr}{t:eD}(h:fp w S a b T6 VZ x t)(k:Below w.heap.size w w'):fp w' S a b T6 VZ x t:=
 h.Wu (Z1.cg (S:=fun _=>True) k) (fun _ _=>trivial) trivial trivial
def ec(W:Wd)(k:Nat):List Int:=((List.range k).filter fun i=> !(W.XT i).ended).map fun i:Nat=>(i:Int)
theorem CT{W:Wd}{k:Nat}(h:(W.XT k).ended=true):ec W (k+1)=ec W k:=by
 unfold ec;rw[List.range_succ,List.filter_append,cP];simp[h]
theorem CU{W:Wd}{k:Nat}(h:(W.XT k).ended=false):ec W (k+1)=ec W k++ [(k:Int)]:=by
 unfold ec;rw[List.range_succ,List.filter_append,cP];simp[h]
theorem aci(W:Wd)(k:Nat):(ec W k).length<=k:=by
 unfold ec;rw[bJ];exact D (List.length_filter_le _ _) aN
def h8(l:List Int):List Value:=l.map fun z=>.int .i64 z
theorem uB(l:List Int):bx l.length 1 (hq l)=h8 l:=by
 apply List.ext_getElem?;intro j;unfold bx h8 hq;rw[a3,a3];by_cases c:j<l.length
 ·rw[a1 J,an c,bt,bt,Nat.div_one,Nat.mod_one,ae,ae,an c];rfl
 ·rw[aV (by simp;omega),aV J];rfl
theorem UC.ints{w0 w:World}{A:Option XS}{L:List PL}{e:TypeId}{v:Value}{l:List Int}(h:UC w0 w A L e 1 v l.length (h8 l)):cF w (fun b=>w0.heap.size<=b/\bq A L b) v l:=by
 rw[<-uB]at h;exact h.sl fun i _=>(gp l l.length i ‹ _ ›).1
theorem UC.c6{w0 w:World}{A:Option XS}{x:PL}{L:List PL}{e:TypeId}{sz m:Nat}{v:Value}{xs:List Value}(h:UC w0 w A (x::L) e sz v m xs):UC w0 w A L e sz v m xs:=
 ⟨h.own,fun j a=>⟨⟨fun y hy=>(h.fresh j a).1.1 y (ao _ hy),(h.fresh j a).1.2⟩,(h.fresh j a).2⟩⟩
theorem tx(w0:World)(B:WB)(p:PO)(F:b1)(n:Nat)(W:Wd)(h:df w0 B p F n W)(z:a9 p)(l: ∀i,i<p.t.toNat->(W.XT i).calls.length<=65536):
 Calls prog 66 #[.pointer (some ⟨B.O3,0,none⟩)] w0 fun e w'=> ∃v,e= .returned v/\cF w' (fun b=>w0.heap.size<=b) v (ec W p.t.toNat)/\Below w0.heap.size w0 w':=by
 obtain⟨T,f⟩: ∃T,p.t.toNat=T:=⟨_,rfl⟩
 have mH:T<=4:=by have:=z.t;omega
 have hb:=h.wd;obtain⟨A,c,e,P,c7,G⟩:=id h.Wl;rw[e,f]at hb;have m:=I hb;have o:=I G;have K:=I h.XT;have L:=I l;have M:=Bx.g8 hb;have U:=Bx.g8 hb;rw[f];rw[f]at o K L;have afl:(0:Int)<=(T:Int):=J;clear h hb e G l f P;go_enter func66,ntmps66;go_wp2_with(first|(refine UQ U ?_));go_step3;go_wp2_with(first|(refine UQ U ?_));go_step3;go_wp2_with(first|(refine UQ U ?_));have u:=I U;clear U M;go_loopw [3,11] (fun v i wr=> ∃k:Nat,k<=T/\i= .int .i64 k/\Bx w0 (fun b=>b≠B.O3) wr none [⟨B.O3,142,gh p B.Y8 B.ap B.L8 (.slice A T c) B.Z2 W.n⟩]/\UC w0 wr none [⟨B.O3,142,gh p B.Y8 B.ap B.L8 (.slice A T c) B.Z2 W.n⟩] 3 1 v (ec W k).length (h8 (ec W k))) (fun v i _=>T-(intOf i).toNat)
 case atStart=>exact⟨0,J,rfl,u.out,u.out.KK _ _⟩
 case round=>
  obtain⟨k,S,rfl,a,d⟩:=hrel;clear u;by_cases r:k<T
  ·obtain⟨b,off,rfl,YF,Q,C⟩:=o.out J;have s:=a.ro m.out ag;have Wy:=(s.cell (p:=⟨b,off+k,none⟩) Q).trans (by simpa using C k 0 _ r rfl);have H:=(K.out k r).below s;have l:=L.out k r;have R:(k:Int)<(T:Int):=J;have V:(0:Int)<=(k:Int):=J;have cV:=aci W k;have U:=a.base;obtain⟨g,j⟩: ∃g,(W.XT k).ended=g:=⟨_,rfl⟩
   have x:=l7 _ _ _ _ _ _ _ _ H l;rw[j]at x;clear C s H l;cases g with
   |true=>
    have q:=I (CT j);clear j;go_wp2_with(first|(refine x.mono ?_;rintro e y ⟨rfl,N⟩;replace U:=U.below N;clear N)|(first|(refine UQ U ?_)));go_roundw
    case rel=>
     refine⟨k+1,J,by go_num,a.back U,?_⟩;rw[q.out];exact d.on a U rfl
    case measure=>simp[intOf];omega
   |false=>
    have q:=I (CU j);clear j;go_wp2_with(first|(refine x.mono ?_;rintro e y ⟨rfl,N⟩;replace U:=U.below N;clear N)|(refine dE U rfl 30 3 _ rfl _ [.int .i64 k] rfl rfl (.int .i64 0) 1 8 bg b6 rfl am am ?_;clear U;intro O w U dO;refine cN ?_)|(refine j4 a U d rfl rfl _ _ 30 rfl (.int .i64 0) 8 bg b6 rfl am rfl ⟨O,0,none⟩ 1 1 [.int .i64 k] rfl rfl (U.news ag) rfl (by unfold maxLen;omega) J ?_;clear U a d;intro X w U d;refine cN ?_)|(first|(refine UQ U ?_)));go_roundw
    case rel=>
     refine⟨k+1,J,by go_num,U.c6,?_⟩;rw[q.out,ak];rw[show h8 (ec W k++ [(k:Int)])=h8 (ec W k)++ [.int .i64 k]from by simp[h8]];exact d.c6
    case measure=>simp[intOf];omega
  ·obtain rfl:k=T:=by omega
   go_wp2_with fail;rw[Exit.noGoto_ret];go_ret;exact⟨_,rfl,d.ints.mono fun b _ h=>h.1,a.ro m.out ag⟩
section
theorem n8{G:Prop}(h:G:=by
 go_wp2_with fail;refine PK Z7 fun X=>?_;refine az [[10,11],[12],[13]] ?_;clear U;intro w U;go_wp2_with(first|(refine aq ?_)|(refine aT ?_;clear U;intro X8 w U T7));refine aZ results80 rfl rfl ⟨_,U.b ag,rfl⟩ underlying56 rfl (by kernel_rfl) ?_;exact⟨rfl,U.ro UL.out ag⟩):G:=h
theorem FE{w:World}{a:Nat}{f:Nat->Int}(h:ah w a 59 (bN .u64 4 f).toArray):KC w (fun b=>b=a) (.slice (some ⟨a,0,none⟩) 4 4) 4 1 fun j=> [.int .u64 (f j)]:=
 (Bx.g8 h).Aj cX 4 f (fun i hi=>gX hi) am
section
variable(w0:World)(B:WB)(p:PO)(F:b1)(n:Nat)(W:Wd)
section
variable(h:df w0 B p F n W)
include h
theorem FF:
 Calls prog 23 #[.pointer (some ⟨B.O3,0,none⟩)] w0 fun e w'=>e= .returned (.int .i64 W.n)/\Below w0.heap.size w0 w':=by
 have hb:=h.wd;have a:=I hb;have U:=Bx.g8 hb;clear h hb;go_enter func23,ntmps23;go_wp2_with(first|(refine UQ U ?_));go_ret;exact⟨rfl,U.ro a.out ag⟩
theorem FG(c:Int)(k:Nat)(e:c=8*k)(b:k<n):
 Calls prog 100 #[.pointer (some ⟨B.O3,0,none⟩),.int .i64 c] w0 fun e w'=>e= .returned (.tuple #[.int .u64 (W.V k),.int .i64 0])/\Below w0.heap.size w0 w':=by
 have hb:=h.wd;have a:=I hb;have f:=I h.VB;have d:=I e;have U:=Bx.g8 hb;clear h hb e;go_enter func100,ntmps100;go_wp2_with(first|(go_at_call 176;refine Calls.mono (eL _ _ _ n W.V _ k (U.EP a.out ag f.out) d.out b) ?_;rintro e g ⟨rfl,rfl⟩)|(refine UQ U ?_));go_ret2;exact⟨rfl,U.ro a.out ag⟩
theorem y2(f:W.fr.length<=65536):
 Calls prog 101 #[.pointer (some ⟨B.O3,0,none⟩)] w0 fun e w'=> ∃v,e= .returned v/\KC w' (fun b=>w0.heap.size<=b) v W.fr.length 2 (eP W.fr)/\Below w0.heap.size w0 w':=by
 have hb:=h.wd;have c:=I hb;have a:=I h.gr;have U:=Bx.g8 hb;clear h hb;go_enter func101,ntmps101;go_wp2_with(first|(go_at_call 177;have d:=U.ro c.out ag;refine Calls.mono (IM _ _ _ _ _ W.fr f (a.out.Wu (d.block _ a.out.lt.1) (d.block _ a.out.lt.2))) ?_;rintro e g ⟨v',rfl,hv,N⟩;replace U:=U.below N)|(refine UQ U ?_));go_ret;exact⟨_,rfl,hv.mono fun b _ h=>D d.size h,U.ro c.out ag⟩
theorem xq(i:a9 p)(a:8*p.s<=n)(k:Int)(f:0<=k/\k<p.s)(ok:okW (W.V (8*k.toNat))):
 Calls prog 80 #[.pointer (some ⟨B.O3,0,none⟩),.int .i64 k] w0 fun e w'=>e= .returned (.tuple #[hf (Wi W.V k.toNat),.int .i64 0])/\Below w0.heap.size w0 w':=by
 have hb:=h.wd;have UL:=I hb;have l:=I h.VB;have d:=I ok;have U:=Bx.g8 hb;obtain⟨c,j⟩: ∃c,Hid (Wi W.V k.toNat=c):=⟨_,I rfl⟩
 rw[j.out];clear h hb ok;go_enter func80,ntmps80;go_wp2_with(first|(refine aq ?_)|(refine aT ?_;clear U;intro X8 w U T7));replace U:=U.drew;refine wp_region_held_drew aM U.l0 (fun X=>?_);refine az [[0,1,2,3,4,5,6,7,8]] ?_;refine aF 9 fun K Z7=>?_;go_simp;go_at_call 154;refine Calls.mono (jF _ p _ _ n W.V k (U.EP UL.out ag l.out) i f a d.out) ?_;rintro e m ⟨rfl,N⟩;rw[j.out];replace U:=U.below N;clear N;exact n8
end
end
end
section
section
variable(w0:World)(B:WB)(p:PO)(F:b1)(n:Nat)(W:Wd)(h:df w0 B p F n W)(a:a9 p)(i:Nat)(hi:i<p.t.toNat)
include w0 B p F n W h a i hi
theorem FH:
 Calls prog 102 #[.pointer (some ⟨B.O3,0,none⟩),.int .i64 i] w0 fun e w'=> ∃v,e= .returned v/\KC w' (fun b=>w0.heap.size<=b) v 4 1 (fun j=> [.int .u64 ((W.XT i).regs j)])/\Below w0.heap.size w0 w':=by
 obtain⟨T,d⟩: ∃T,p.t.toNat=T:=⟨_,rfl⟩
 have L:T<=4:=by have:=a.t;omega
 have hb:=h.wd;obtain⟨A,c,e,m,G,k⟩:=id h.Wl;obtain⟨b,off,rfl,C,H,g⟩:=k J;rw[e,d]at hb;have s:=I hb;have f:=h.XT i hi;have y:w0.cell? ⟨b,off+i,none⟩=some (.pointer (some ⟨B.O4 i,0,none⟩)):=by simpa using g i 0 _ hi rfl
 have hy:=f.bC.cell 1;simp only[aE,fI]at hy;replace hy:w0.cell? ⟨B.O4 i,1,none⟩=some (.slice (some ⟨B.YS i,0,none⟩) 4 4):=hy;have l:=I (FE f.reg);rw[d]at hi;have K:=I f;have U:=Bx.g8 hb;have r:(i:Int)<(T:Int):=J;have x:(0:Int)<=(i:Int):=J;have w:decide ((0:Int)<=(i:Int))=true:=aN;have z:IntKind.i64.wrap ((T:Int)-1)=(T:Int)-1:=by rw[IntKind.wrap_i64];omega
 have o:decide ((i:Int)<=(T:Int)-1)=true:=by simp;omega
 clear h hb e k m g d f;go_enter func102,ntmps102;go_wp2_with(first|(go_at_call 104;refine(bm _ _ _ _ J J).mono ?_;rintro e w' ⟨rfl,rfl⟩)|(go_at_call 178;refine Calls.mono (acB _ (fun b=>b=B.YS i) _ 4 _ l.out am (fun j _=>⟨rfl,fun u hu=>by simp at hu;subst hu;rfl⟩)) ?_;rintro e q ⟨v',rfl,hv,N⟩)|(refine UQ U ?_));go_ret;exact⟨_,rfl,hv,N⟩
theorem sX(o:(W.XT i).aD.length<=65536):
 Calls prog 103 #[.pointer (some ⟨B.O3,0,none⟩),.int .i64 i] w0 fun e w'=> ∃v,e= .returned v/\de w' (fun b=>w0.heap.size<=b) v (W.XT i).aD/\Below w0.heap.size w0 w':=by
 obtain⟨T,d⟩: ∃T,p.t.toNat=T:=⟨_,rfl⟩
 have O:T<=4:=by have:=a.t;omega
 have hb:=h.wd;obtain⟨A,c,e,m,K,l⟩:=id h.Wl;obtain⟨b,off,rfl,H,L,k⟩:=l J;rw[e,d]at hb;have u:=I hb;have f:=h.XT i hi;have C:w0.cell? ⟨b,off+i,none⟩=some (.pointer (some ⟨B.O4 i,0,none⟩)):=by simpa using k i 0 _ hi rfl
 obtain⟨y,x,g,-,-,-⟩:=id f.m6;have hy:=f.bC.cell 2;simp only[aE,fI]at hy;replace hy:w0.cell? ⟨B.O4 i,2,none⟩=some (B.VZ i):=hy;have j:=I f.m6;rw[g]at hy j;clear g;rw[d]at hi;have M:=I f;have U:=Bx.g8 hb;have s:(i:Int)<(T:Int):=J;have z:(0:Int)<=(i:Int):=J;have w:decide ((0:Int)<=(i:Int))=true:=aN;have G:IntKind.i64.wrap ((T:Int)-1)=(T:Int)-1:=by rw[IntKind.wrap_i64];omega
 have q:decide ((i:Int)<=(T:Int)-1)=true:=by simp;omega
 clear h hb e l m k d f;go_enter func103,ntmps103;go_wp2_with(first|(go_at_call 104;refine(bm _ _ _ _ J J).mono ?_;rintro e w' ⟨rfl,rfl⟩)|(go_at_call 179;refine Calls.mono (jD _ _ _ _ _ j.out o (hJ _ _)) ?_;rintro e r ⟨v',rfl,hv,N⟩)|(refine UQ U ?_));go_ret;exact⟨_,rfl,hv,N⟩
end
end
theorem l8(l:List (db×Value)):(opsV l).length=l.length*14:=by
 unfold opsV;induction l with
 |nil=>rfl
 |cons q l a=>rw[List.flatMap_cons,ak,a,aI,kK];omega
theorem l9(l k:List (db×Value)):opsV (l++k)=opsV l++opsV k:=by unfold opsV;rw[List.flatMap_append]
theorem kM(q:db×Value)(l:List (db×Value)):opsV (q::l)=dN q.1 q.2++opsV l:=by unfold opsV;rw[List.flatMap_cons]
theorem uC{l:List (db×Value)}{i:Nat}(h:i<l.length):(ll l i).length=14:=by
 unfold ll;rw[an h];rfl
theorem wx: ∀(l:List (db×Value)) (i j:Nat) (u:Value),i<l.length->(ll l i)[j]? =some u->(opsV l)[i*14+j]? =some u:=by
 intro l;induction l with
 |nil=>intro i j u hi;exact absurd hi aN
 |cons q l a=>
  intro i j u hi h;rw[kM];cases i with
  |zero=>
   have b:j<14:=by
    have:=(List.getElem?_eq_some_iff.1 h).1;simpa [ll,kK]using this
   rw[aA (by rw[kK];omega),Nat.zero_mul,ax];exact h
  |succ i=>
   rw[ay (by rw[kK];omega)];have:=a i j u (by simpa using hi) (by simpa [ll]using h);rw[show(i+1)*14+j-(dN q.1 q.2).length=i*14+j from by rw[kK];omega];exact this
theorem acl(l:List (db×Value)):bx l.length 14 (ll l)=opsV l:=by
 apply List.ext_getElem?;intro j;by_cases c:j<l.length*14
 ·have hi:j/14<l.length:=by omega
  have b:=uC hi;have hu: ∃u,(ll l (j/14))[j %14]? =some u:=⟨_,an J⟩
  obtain⟨u,hu⟩:=hu;have h1:=pO (F:=ll l) (n:=l.length) (sz:=14) (fun i hi=>uC hi) hi hu;have a:=wx l (j/14) (j %14) u hi hu;rw[show j/14*14+j %14=j from J]at h1 a;rw[h1,a]
 ·rw[aV (by rw[cv];omega),aV (by rw[l8];omega)]
theorem FI(l:List (db×Value))(h: ∀q,q∈l->q.2.oneCell'=true):hl l.length 14 (ll l):=by
 intro i hi;refine⟨uC hi,fun u hu=>?_⟩;unfold ll at hu;rw[an hi]at hu;simp only[bt,Option.getD_some,dN,ad,E,av]at hu;have a:=h _ (bA hi)
 (repeat' rcases hu with rfl|hu)<;>first|rfl|exact a|(subst hu;exact a)
theorem FJ{w:World}{VS cap:Nat}{l:List (db×Value)}{rest:List Value}(h:ah w VS 46 (opsV l++rest).toArray)(h1:l.length<=cap)(a:cap<=maxLen):KC w (fun b=>b=VS) (.slice (some ⟨VS,0,none⟩) l.length cap) l.length 14 (ll l):=
 ⟨_,_,rfl,h1,a,fun _=>⟨VS,0,rfl,rfl,h.lt,fun i j u hi hu=>by
   have c:=wx l i j u hi hu
   rw[ax,h.cell,aE,aA (List.getElem?_eq_some_iff.1 c).1]
   exact c⟩⟩
theorem AP(w:World)(S:Nat->Prop)(v:Value)(n:Nat)(F:Nat->List Value)(h:KC w S v n 14 F)(a:n<=65536)(hF:hl n 14 F):
 Calls prog 58 #[v] w fun e w'=> ∃v',e= .returned v'/\w'.ownsRow w.heap.size 46 14 v' n (bx n 14 F)/\Below w.heap.size w w':=by
 obtain⟨o,p,q,r,s⟩:=info_parts jK;have m:=fun i hi=>(hF i hi).1;have k:=hF.flat (by decide:0<14);obtain⟨A,c,rfl,h1,d,g⟩:=id h;have l:n<=maxLen:=by unfold maxLen;omega
 cases A with
 |none=>
  have u:n=0:=by
   rcases aQ n with h|h
   ·exact h
   ·obtain⟨b,off,e,_⟩:=g h;cases e
  subst u;clear h g hF m k a h1 d l p q r s;have y:=fun w=>Lib.run_eql_slice_nil (P:=prog) w _ _ none 0 c 0 0 e7;go_enter func58,ntmps58;go_wp2_with fail;go_ret;exact⟨_,rfl,World.ownsRow_nil _ _ _ _,by
   exact a2⟩
 |some f=>
  have H:=I h;have x:=I m;have z:=I k;have t:=I a;have B:=I l;clear h g hF m k a h1 d l;have y:=fun w=>Lib.run_eql_slice_nil (P:=prog) w _ _ (some f) n c 0 0 e7;have C:=I (H.out.news x.out am);go_enter func58,ntmps58;go_wp2_with(at_builtin;refine wpList_append_own _ rfl _ _ 34 rfl w.heap.size 46 o (.agg #[.int .i64 0,.int .u8 0,.int .u8 0,.int .u8 0,.int .u8 0,.int .i64 0,.int .i64 0,.int .i64 0,.int .i64 0,.int .i64 0,.int .i64 0,.int .i64 0,.int .i64 0,.slice none 0 0]) 14 104 e7 p q r s rfl am _ _ _ rfl (World.ownsRow_made w #[] 0 (ai _) (aL _) rfl) f n c (bx n 14 F) rfl (cv _ _ _) (C.out _ (World.dY _ _)) z.out (by rw[ax];exact B.out) (by have:=t.out;omega) aN ?_;intro v' w' ZQ UW _;rw[au,ax]at ZQ);exact kL
theorem Pg{P T:List Value}{o:db}{v:Value}{k:Nat}(h:P.length=k*14):(P++(dN o v++T))[k*14+13]? =some v:=by
 rw[ay J,h,show k*14+13-k*14=13 from J];rfl
theorem Mg{P T:List Value}{o:db}{v u:Value}{k:Nat}(h:P.length=k*14):er (P++(dN o v++T)) (k*14+13) [u]=P++(dN o u++T):=by
 unfold er;rw[List.take_append,cm J,h,show k*14+13-k*14=13 from J,List.drop_append,cl (by simp;omega),show k*14+13+ [u].length-P.length=14 from by simp;omega];simp[dN]
theorem IW(w0:World)(n:Nat)(p:PO)(Q t Z2:Value)(ap y:Nat)(st:Int)(f:List (db×Value))(m:Nat)(hm:f.length=m)(p2:0<m)(lH:m<=65536)(S:Nat->Prop)(hb:ah w0 n 142 (gh p Q ap y t Z2 st).toArray)
 (hv:KC w0 S Z2 m 14 (ll f))(B: ∀q,q∈f->cF w0 S q.2 q.1.aC.said/\q.1.aC.said.length<=65536)(hS: ∀b,S b->b≠n):
 Calls prog 22 #[.pointer (some ⟨n,0,none⟩)] w0 fun e w'=> ∃v l,e= .returned v/\l.map Prod.fst=f.map Prod.fst/\(∀q,q∈l->cF w' (fun b=>w0.heap.size<=b) q.2 q.1.aC.said)/\KC w' (fun b=>w0.heap.size<=b) v l.length 14 (ll l)/\Below w0.heap.size w0 w':=by
 obtain⟨A,c,e,-,-,-⟩:=id hv;subst e;have C:=I hb;have W:=I hv;have F:=I B;have H:=I hm;have uD:hl m 14 (ll f):=hm▸FI f fun q h=>(B q h).1.one;have lw:=I uD;have WX:=I (show bx m 14 (ll f)=opsV f by rw[<-hm,acl]);have U:=Bx.g8 hb;clear hb hv B uD hm;go_enter func22,ntmps22;go_wp2_with(first|(go_at_call 58;refine Calls.mono (AP _ S _ m (ll f) (W.out.Wu (U.Wu.mono fun b _ h=>hS b h)) lH lw.out) ?_;rintro e T ⟨v',rfl,h2,N⟩;have r:=U.below N;have G:=UC.made U N h2;obtain⟨g,cap,rest,rfl,u,UW,eR,c7,uz⟩:=r.open_ G p2;rw[WX.out]at u uz;clear r G h2 N U;have U:=u;clear u)|(refine aq ?_)|(refine Po U ?_;clear U;intro w U));have eB:=I U;have So:=I eR;clear U eR;go_loopw [12] (fun i wr=> ∃(k:Nat) (l:List (db×Value)),k<=m/\i= .int .i64 k/\l.map Prod.fst=f.map Prod.fst/\(∀j q,l[j]? =some q->q.1.aC.said.length<=65536/\(j<k->cF wr (fun b=>w0.heap.size<=b/\b≠g) q.2 q.1.aC.said)/\(k<=j->cF w0 S q.2 q.1.aC.said))/\Bx w0 (fun b=>b≠n) wr none [⟨g,46,opsV l++rest⟩,⟨n,142,gh p Q ap y t (.slice A m c) st⟩]) (fun i _=>m-(intOf i).toNat)
 case atStart=>exact⟨0,f,J,rfl,rfl,fun j q d=>⟨(F.out q (bf d)).2,fun h=>J,fun _=>(F.out q (bf d)).1⟩,eB.out⟩
 case round=>
  obtain⟨k,l,TS,rfl,n9,BR,U⟩:=hrel;clear eB;have K:=I n9;have P:=I BR;clear n9 BR;by_cases bV:k<m
  ·have M:l.length=m:=by have:=dz List.length K.out;rw[bJ,bJ,H.out]at this;exact this
   obtain⟨pre,⟨o,s⟩,post,L,O,-,-⟩:=so l k J;obtain⟨lW,-,tj⟩:=P.out k (o,s) (by rw[L,ay J,O,Nat.sub_self];rfl);have Mh:=I (tj (ai _));have R:=I (show(opsV pre).length=k*14 by rw[l8,O]);have Ph:=I L;have z:=I O;rw[L,l9,kM,aJ,aJ]at U;have WU:(k:Int)<(m:Int):=J;have tV:(0:Int)<=(k:Int):=J;clear L O tj M;go_wp2_with(first|(refine fm U rfl 30 _ rfl g (k*14+13) rfl ag _ (Pg R.out) underlying30 rfl ?_;refine cN ?_)|(refine hp U rfl 30 _ _ rfl g (k*14+13) _ _ rfl rfl rfl cf (by have:=R.out;simp[kK];omega) aM rfl ?_;clear U;intro w U;rw[Mg R.out]at U;refine cN ?_)|(go_at_call 59;refine Calls.mono (lu _ S _ _ (hq o.aC.said) (Mh.out.Wu (U.Wu.mono fun b _ h=>hS b h)) lW (gp _ _)) ?_;rintro e T ⟨v',rfl,qO,N⟩;obtain⟨Wq,X,rfl,-,-,-⟩:=id qO;have hv:=U.eh qO;have jT:=I N;have r:=U.below N;clear U N;have U:=r.base)|(first|(refine aq ?_)|(refine Po U ?_;clear U;intro w U)));go_roundw
   case rel=>
    have Yq:=r.back U;refine⟨k+1,pre++(o,.slice Wq o.aC.said.length X)::post,J,by go_num,?_,?_,?_⟩
    ·rw[<-K.out,Ph.out];simp
    ·intro j q d;have hold:=P.out j;rw[Ph.out]at hold;have Mi: ∀b,w0.heap.size<=b/\b≠g->bq none [⟨g,46,opsV pre++(dN o s++(opsV post++rest))⟩,⟨n,142,gh p Q ap y t (.slice A m c) st⟩] b:=fun b hb=>⟨fun x Wy e=>by
      have:=C.out.lt;simp only[ad,E,av]at Wy;rcases Wy with rfl|rfl
      ·exact hb.2 e.symm
      ·simp only at e;omega,fun a e=>by cases e⟩
     rcases Nat.lt_trichotomy j k with c|c|c
     ·rw[aA (by rw[z.out];exact c)]at d hold;obtain⟨h1,V,-⟩:=hold q d;exact⟨h1,fun _=>((V c).Wu (Z1.cg jT.out)).Wu (U.Wu.mono fun b _ h=>Mi b h),fun h=>J⟩
     ·subst c;rw[ay (by rw[z.out];exact ai _),z.out,Nat.sub_self]at d;injection d with d
      subst d;exact⟨lW,fun _=>(U.carry hv fun b _ h=>h.2).mono fun b _ h=>⟨h.1,fun e=>h.2.1 _ a8 e.symm⟩,fun h=>J⟩
     ·rw[ay (by rw[z.out];omega)]at d hold;obtain⟨i,hi⟩: ∃i,j-pre.length=i+1:=⟨j-pre.length-1,by have:=z.out;omega⟩
      rw[hi,cz]at d hold;obtain⟨h1,-,ZV⟩:=hold q d;exact⟨h1,fun h=>J,fun _=>ZV J⟩
    ·rw[l9,kM,aJ,aJ];exact Yq
   case measure=>simp[intOf];omega
  ·obtain rfl:k=m:=by omega
   go_wp2_with fail;go_ret;have M:l.length=k:=by have:=dz List.length K.out;rw[bJ,bJ,H.out]at this;exact this
   refine⟨_,l,rfl,K.out,fun q B=>?_,?_,U.ro C.out ag⟩
   ·obtain⟨j,d⟩:=bZ B;exact((P.out j q d).2.1 (by have:=(List.getElem?_eq_some_iff.1 d).1;omega)).mono fun b _ h=>h.1
   ·have:=FJ (U.b (g:=g) ag) (by rw[M];exact So.out) c7;rw[M]at this⊢;exact this.mono fun b _ h=>by rw[h];exact UW
theorem Sp{w:World}{S S':Nat->Prop}{v:Value}{sz:Nat}{F:Nat->List Value}(h:KC w S v 0 sz F):KC w S' v 0 sz F:=by
 obtain⟨A,c,e,h1,a,b⟩:=h;exact⟨A,c,e,h1,a,fun h=>J⟩
theorem BS(w0:World)(a:Nat)(p:PO)(t l:Value)(ap n:Nat)(st:Int)(r:Option Addr)(q:Nat)(o:KC w0 (fun _=>True) (.slice r 0 q) 0 14 (ll []))(hb:ah w0 a 142 (gh p t ap n l (.slice r 0 q) st).toArray):
 Calls prog 22 #[.pointer (some ⟨a,0,none⟩)] w0 fun e w'=> ∃v,e= .returned v/\KC w' (fun b=>w0.heap.size<=b) v 0 14 (ll [])/\Below w0.heap.size w0 w':=by
 have g:=I hb;have s:=I (Sp (S':=fun b=>b≠a) o);have U:=Bx.g8 hb;clear hb o;go_enter func22,ntmps22;go_wp2_with(first|(go_at_call 58;refine Calls.mono (Ad _ (fun b=>b≠a) _ 0 (ll []) (s.out.Wu U.Wu) am (fun i hi=>absurd hi J)) ?_;rintro e f ⟨v',rfl,hv,N⟩;obtain⟨A,c,rfl,-,-,-⟩:=id hv;replace hv:=U.eh hv;have d:=U.below N;clear U N;have U:=d.base)|(refine aq ?_)|(refine Po U ?_;clear U;intro w U));have u:=I U;have j:=I hv;have m:=I d;clear U hv d;go_loopw [12] (fun i wr=>i= .int .i64 0/\wr=f) (fun i _=>0)
 case atStart=>exact⟨rfl,rfl⟩
 case round=>
  obtain⟨rfl,rfl⟩:=hrel;go_wp2_with fail;go_ret;exact⟨_,rfl,j.out.mono fun b _ h=>h.1,m.out.ro g.out ag⟩
theorem BT(w0:World)(B:WB)(p:PO)(F:b1)(n:Nat)(W:Wd)(h:df w0 B p F n W)(x:W.ops.length<=65536)(s: ∀o,o∈W.ops->o.aC.said.length<=65536):
 Calls prog 22 #[.pointer (some ⟨B.O3,0,none⟩)] w0 fun e w'=> ∃v a,e= .returned v/\a.map Prod.fst=W.ops/\(∀q,q∈a->cF w' (fun b=>w0.heap.size<=b) q.2 q.1.aC.said)/\KC w' (fun b=>w0.heap.size<=b) v a.length 14 (ll a)/\Below w0.heap.size w0 w':=by
 obtain⟨a,i,u,hv⟩:=h.op.ex;rcases hv with⟨k,rfl⟩|⟨cap,rest,k,m,h1,j,y⟩
 ·have hb:=h.wd;rw[k]at hb;refine(BS w0 B.O3 p B.Y8 B.uf B.ap B.L8 W.n none 0 (KC.nil _ _ _ _) hb).mono fun e w' ⟨v,f,d,g⟩=>⟨v,[],f,i,fun q c=>(by cases c),d,g⟩
 ·rcases aQ a.length with l|l
  ·obtain rfl:a= []:=dn l;have hb:=h.wd;rw[k]at hb;have d:=FJ m h1 j;exact(BS w0 B.O3 p B.Y8 B.uf B.ap B.L8 W.n _ cap (d.mono fun _ _ _=>trivial) hb).mono fun e w' ⟨v,f,d,g⟩=>⟨v,[],f,i,fun q c=>(by cases c),d,g⟩
  ·have hb:=h.wd;have z:a.length=W.ops.length:=by rw[<-i,bJ]
   have d:=FJ m h1 j;rw[<-k]at d;have w:B.VS≠B.O3:=h.FB.1;refine(IW w0 B.O3 p B.Y8 B.uf B.Z2 B.ap B.L8 W.n a a.length rfl l J (fun b=>b≠B.O3) hb (d.mono fun b _ e=>by rw[e];exact w) (fun q c=>⟨(u q c).mono fun b _ hF e=>hF.1 (.inl e),s _ (by rw[<-i];exact List.mem_map_of_mem c)⟩) (fun b h=>h)).mono fun e w' ⟨v,r,f,hm,c,t,g⟩=>⟨v,r,f,hm.trans i,c,t,g⟩
section
theorem qd{G:Prop}(h:G:=by
 go_wp2_with(first|(refine aq ?_)|(refine Ws U 196 ?_;clear U;intro gI w U jy)|(refine VP U gg ?_;clear U;intro gb w U ef)|(refine aT ?_;clear U;intro X8 w U T7));refine fY ?_;exact⟨rfl,U.b (g:=O4) ag,U.b (g:=YS) ag,U.Wu⟩):G:=h
theorem kN{G:Prop}(h:G:=by
 have rs: ∀(fn:Fn) (first cap:Array Value) (w:World),(Instr.makeFunc fn first cap).run prog w= .ok (.func fn first cap) w:=fun _ _ _ _=>rfl;have AQ:=Uo.lt;have ss:=T9.lt;clear Uo T9 XP ZQ;go_enter func108,ntmps108;go_upto_region 2 with(first|(refine aq ?_)|(refine Ws U 196 ?_;clear U;intro gI w U jy)|(refine VP U gg ?_;clear U;intro gb w U ef)|(refine aT ?_;clear U;intro X8 w U T7))
 replace U:=U.drew;go_cut [2,3]from 8 to 18 (fun xX w7 ZT=> ∃Vt Y6,xX= .pointer (some ⟨Vt,0,none⟩)/\w7= .pointer (some ⟨Y6,0,none⟩)/\Bx w0 (fun b=>b≠O4/\b≠YS) ZT none [⟨Vt,42,[.int .u8 r.call.op,.int .u8 r.call.r,.int .u8 r.call.h,.int .u8 r.call.v,.int .i64 r.call.a,.int .i64 r.call.b,.int .i64 r.call.c]⟩,⟨Y6,44,[.int .i64 r.aC.code,.int .i64 r.aC.n,.slice Tx Ym ZM]⟩,⟨gI,196,[.pointer (some ⟨O4,0,none⟩)]⟩,⟨O4,200,fI T6 (.slice (some ⟨YS,0,none⟩) 4 4) VZ r ⟨TQ,ls,Wh,.slice Tx Ym ZM⟩ false aK⟩,⟨YS,59,bN .u64 4 regs⟩]/\w0.heap.size<=Vt)
 case first=>
  refine b0 ?_;intro X;refine az [[0,1,2,3,4,5,6,7,8,9]] ?_;refine Zj [10,11] ?_;refine ea (fun K Z7=>?_) ?_
  ·refine ZZ U gg ?_;clear U;intro gb w U ef;refine PK Z7 fun X=>?_;refine az [[],[11,12,13]] ?_;clear U;intro Mj FM w U;go_wp2_with fail;go_meet;first|exact⟨_,_,rfl,rfl,U,ef⟩|exact⟨_,_,rfl,rfl,U.swap,ef⟩
  refine ei (fun K Z7=>?_);refine ZZ U tW ?_;clear U;intro Mj w U FM;refine PK Z7 fun X=>?_;refine az [[],[10,12,13]] ?_;clear U;intro gb ef w U;go_wp2_with fail;go_meet;first|exact⟨_,_,rfl,rfl,U,ef⟩|exact⟨_,_,rfl,rfl,U.swap,ef⟩
 case rest=>
 obtain⟨Vt,Y6,rfl,rfl,U,dP⟩:=hcut;go_wp2_with(first|(refine aq ?_)|(refine Ws U 196 ?_;clear U;intro gI w U jy)|(refine VP U gg ?_;clear U;intro gb w U ef)|(refine aT ?_;clear U;intro X8 w U T7));replace U:=U.drew;refine wp_region_held_drew (S:=(c0 [⟨Vt,42,[.int .u8 r.call.op,.int .u8 r.call.r,.int .u8 r.call.h,.int .u8 r.call.v,.int .i64 r.call.a,.int .i64 r.call.b,.int .i64 r.call.c]⟩,⟨Y6,44,[.int .i64 r.aC.code,.int .i64 r.aC.n,.slice Tx Ym ZM]⟩,⟨gI,196,[.pointer (some ⟨O4,0,none⟩)]⟩,⟨O4,200,fI T6 (.slice (some ⟨YS,0,none⟩) 4 4) VZ r ⟨TQ,ls,Wh,.slice Tx Ym ZM⟩ false aK⟩])) (by kernel_rfl) ?_ (fun X=>?_)
 ·exact U.bG (by simp)
 refine az [[0,1,2,3,4,5,6,7,8,9]] ?_;refine aF 10 fun K Z7=>?_;rw[Z (by rfl)];refine mA U 59 _ _ rfl YS (r.call.r.toNat) .u64 (Xy r.aC.n) rfl rfl cf (by omega) (by kernel_rfl) ?_;clear U;intro w U;refine WE Z7 fun X=>?_;refine UF ?_;go_wp2_with(first|(refine aq ?_)|(refine Ws U 196 ?_;clear U;intro gI w U jy)|(refine VP U gg ?_;clear U;intro gb w U ef)|(refine aT ?_;clear U;intro X8 w U T7));refine fY ?_;exact⟨rfl,U.b (g:=O4) ag,U.b (g:=YS) ag,U.Wu⟩):G:=h
theorem oa{G:Prop}(h:G:=by
 go_enter func108,ntmps108;go_upto_region 2 with(first|(refine aq ?_)|(refine Ws U 196 ?_;clear U;intro gI w U jy)|(refine VP U gg ?_;clear U;intro gb w U ef)|(refine aT ?_;clear U;intro X8 w U T7))
 replace U:=U.drew;go_cut [2,3]from 8 to 18 (fun xX w7 ZT=> ∃Vt Y6,xX= .pointer (some ⟨Vt,0,none⟩)/\w7= .pointer (some ⟨Y6,0,none⟩)/\Bx w0 (fun b=>b≠O4/\b≠YS) ZT none [⟨Vt,42,[.int .u8 r.call.op,.int .u8 r.call.r,.int .u8 r.call.h,.int .u8 r.call.v,.int .i64 r.call.a,.int .i64 r.call.b,.int .i64 r.call.c]⟩,⟨Y6,44,[.int .i64 r.aC.code,.int .i64 r.aC.n,.slice Tx Ym ZM]⟩,⟨gI,196,[.pointer (some ⟨O4,0,none⟩)]⟩,⟨O4,200,fI T6 (.slice (some ⟨YS,0,none⟩) 4 4) VZ r ⟨TQ,ls,Wh,.slice Tx Ym ZM⟩ false aK⟩,⟨YS,59,bN .u64 4 regs⟩]/\w0.heap.size<=Vt)
 case first=>
  exact hD
 case rest=>
 obtain⟨Vt,Y6,rfl,rfl,U,dP⟩:=hcut;exact qd):G:=h
section
variable(w0:World)(O4 YS:Nat)(T6 VZ:Value)(r:RJ)(TQ ls Wh:Value)(Tx:Option Addr)(Ym ZM:Nat)(busy:Bool)(aK:Nat)(regs:Nat->Int)(Uo:ah w0 O4 200 (fI T6 (.slice (some ⟨YS,0,none⟩) 4 4) VZ r ⟨TQ,ls,Wh,.slice Tx Ym ZM⟩ busy aK).toArray)(T9:ah w0 YS 59 (bN .u64 4 regs).toArray)
include w0 O4 YS T6 VZ r TQ ls Wh Tx Ym ZM busy aK regs Uo T9
theorem IZ(d:r.aC.code≠0):
 Calls prog 108 #[.pointer (some ⟨O4,0,none⟩)] w0 fun e w'=>e= .returned (.tuple #[])/\ah w' O4 200 (fI T6 (.slice (some ⟨YS,0,none⟩) 4 4) VZ r ⟨TQ,ls,Wh,.slice Tx Ym ZM⟩ false aK).toArray/\ah w' YS 59 (bN .u64 4 regs).toArray/\Z1 (fun b=>b≠O4/\b≠YS) w0 w':=by
 have U:=Bx.two Uo T9 (Uo.ne T9 am);have i:(r.aC.code !=0)=true:=by simp[d]
 have j: ∀(fn:Fn) (first cap:Array Value) (w:World),(Instr.makeFunc fn first cap).run prog w= .ok (.func fn first cap) w:=fun _ _ _ _=>rfl;have f:=Uo.lt;have l:=T9.lt;clear Uo T9 d;exact oa
theorem I0(f:r.aC.code=0)(d:r.call.op≠1/\r.call.op≠7/\r.call.op≠8/\r.call.op≠10/\r.call.op≠4/\r.call.op≠6/\r.call.op≠5):
 Calls prog 108 #[.pointer (some ⟨O4,0,none⟩)] w0 fun e w'=>e= .returned (.tuple #[])/\ah w' O4 200 (fI T6 (.slice (some ⟨YS,0,none⟩) 4 4) VZ r ⟨TQ,ls,Wh,.slice Tx Ym ZM⟩ false aK).toArray/\ah w' YS 59 (bN .u64 4 regs).toArray/\Z1 (fun b=>b≠O4/\b≠YS) w0 w':=by
 have U:=Bx.two Uo T9 (Uo.ne T9 am);have q:(r.aC.code !=0)=false:=by simp[f]
 have j:(r.call.op==1)=false:=by simp[d]
 have m:(r.call.op==7)=false:=by simp[d]
 have i:(r.call.op==8)=false:=by simp[d]
 have p:(r.call.op==10)=false:=by simp[d]
 have l:(r.call.op==4)=false:=by simp[d]
 have u:(r.call.op==6)=false:=by simp[d]
 have s:(r.call.op==5)=false:=by simp[d]
 have x: ∀(fn:Fn) (first cap:Array Value) (w:World),(Instr.makeFunc fn first cap).run prog w= .ok (.func fn first cap) w:=fun _ _ _ _=>rfl;have o:=Uo.lt;have y:=T9.lt;clear Uo T9 f d;exact oa
theorem I2(hv:IntKind.u64.wrap r.call.a=Xy r.call.a)(s:0<=r.call.r)(x:r.call.r<4)(l:r.aC.code=0)(m:r.call.op=1):
 Calls prog 108 #[.pointer (some ⟨O4,0,none⟩)] w0 fun e w'=>e= .returned (.tuple #[])/\ah w' O4 200 (fI T6 (.slice (some ⟨YS,0,none⟩) 4 4) VZ r ⟨TQ,ls,Wh,.slice Tx Ym ZM⟩ false aK).toArray/\ah w' YS 59 (bN .u64 4 (upd regs r.call.r.toNat (Xy r.call.a))).toArray/\Z1 (fun b=>b≠O4/\b≠YS) w0 w':=by
 have U:=Bx.two Uo T9 (Uo.ne T9 am);have u:(r.aC.code !=0)=false:=by simp[l]
 have p:(r.call.op==1)=true:=by simp[m]
 have z: ∀(fn:Fn) (first cap:Array Value) (w:World),(Instr.makeFunc fn first cap).run prog w= .ok (.func fn first cap) w:=fun _ _ _ _=>rfl;have q:=Uo.lt;have A:=T9.lt;clear Uo T9 l m;go_enter func108,ntmps108;go_upto_region 2 with(first|(refine aq ?_)|(refine Ws U 196 ?_;clear U;intro gI w U jy)|(refine VP U gg ?_;clear U;intro gb w U ef)|(refine aT ?_;clear U;intro X8 w U T7))
 replace U:=U.drew;go_cut [2,3]from 8 to 18 (fun j i o=> ∃d f,j= .pointer (some ⟨d,0,none⟩)/\i= .pointer (some ⟨f,0,none⟩)/\Bx w0 (fun b=>b≠O4/\b≠YS) o none [⟨d,42,[.int .u8 r.call.op,.int .u8 r.call.r,.int .u8 r.call.h,.int .u8 r.call.v,.int .i64 r.call.a,.int .i64 r.call.b,.int .i64 r.call.c]⟩,⟨f,44,[.int .i64 r.aC.code,.int .i64 r.aC.n,.slice Tx Ym ZM]⟩,⟨gI,196,[.pointer (some ⟨O4,0,none⟩)]⟩,⟨O4,200,fI T6 (.slice (some ⟨YS,0,none⟩) 4 4) VZ r ⟨TQ,ls,Wh,.slice Tx Ym ZM⟩ false aK⟩,⟨YS,59,bN .u64 4 regs⟩]/\w0.heap.size<=d)
 case first=>
  exact hD
 case rest=>
 obtain⟨d,f,rfl,rfl,U,y⟩:=hcut;go_wp2_with(first|(refine aq ?_)|(refine Ws U 196 ?_;clear U;intro gI w U jy)|(refine VP U gg ?_;clear U;intro gb w U ef)|(refine aT ?_;clear U;intro X8 w U T7));replace U:=U.drew;refine wp_region_held_drew (S:=(c0 [⟨d,42,[.int .u8 r.call.op,.int .u8 r.call.r,.int .u8 r.call.h,.int .u8 r.call.v,.int .i64 r.call.a,.int .i64 r.call.b,.int .i64 r.call.c]⟩,⟨f,44,[.int .i64 r.aC.code,.int .i64 r.aC.n,.slice Tx Ym ZM]⟩,⟨gI,196,[.pointer (some ⟨O4,0,none⟩)]⟩,⟨O4,200,fI T6 (.slice (some ⟨YS,0,none⟩) 4 4) VZ r ⟨TQ,ls,Wh,.slice Tx Ym ZM⟩ false aK⟩])) aM ?_ (fun X=>?_)
 ·exact U.bG aN
 refine az [[0,1,2,3,4,5,6,7,8,9]] ?_;refine aF 10 fun K Z7=>?_;rw[Z (by rfl)];refine mA U 59 _ _ rfl YS (r.call.r.toNat) .u64 (Xy r.call.a) rfl rfl cf J aM ?_;clear U;intro w U;refine WE Z7 fun X=>?_;refine UF ?_;exact qd
section
variable(hv:IntKind.u64.wrap r.aC.n=Xy r.aC.n)(d:0<=r.call.r)(f:r.call.r<4)(XP:r.aC.code=0)
include hv d f XP
theorem I3(ZQ:r.call.op=7):
 Calls prog 108 #[.pointer (some ⟨O4,0,none⟩)] w0 fun e w'=>e= .returned (.tuple #[])/\ah w' O4 200 (fI T6 (.slice (some ⟨YS,0,none⟩) 4 4) VZ r ⟨TQ,ls,Wh,.slice Tx Ym ZM⟩ false aK).toArray/\ah w' YS 59 (bN .u64 4 (upd regs r.call.r.toNat (Xy r.aC.n))).toArray/\Z1 (fun b=>b≠O4/\b≠YS) w0 w':=by
 have U:=Bx.two Uo T9 (Uo.ne T9 am);have l:(r.aC.code !=0)=false:=by simp[XP]
 have i:(r.call.op==1)=false:=by simp[ZQ]
 have j:(r.call.op==7)=true:=by simp[ZQ]
 exact kN
theorem I4(ZQ:r.call.op=8):
 Calls prog 108 #[.pointer (some ⟨O4,0,none⟩)] w0 fun e w'=>e= .returned (.tuple #[])/\ah w' O4 200 (fI T6 (.slice (some ⟨YS,0,none⟩) 4 4) VZ r ⟨TQ,ls,Wh,.slice Tx Ym ZM⟩ false aK).toArray/\ah w' YS 59 (bN .u64 4 (upd regs r.call.r.toNat (Xy r.aC.n))).toArray/\Z1 (fun b=>b≠O4/\b≠YS) w0 w':=by
 have U:=Bx.two Uo T9 (Uo.ne T9 am);have m:(r.aC.code !=0)=false:=by simp[XP]
 have j:(r.call.op==1)=false:=by simp[ZQ]
 have l:(r.call.op==7)=false:=by simp[ZQ]
 have i:(r.call.op==8)=true:=by simp[ZQ]
 exact kN
theorem FN(ZQ:r.call.op=10):
 Calls prog 108 #[.pointer (some ⟨O4,0,none⟩)] w0 fun e w'=>e= .returned (.tuple #[])/\ah w' O4 200 (fI T6 (.slice (some ⟨YS,0,none⟩) 4 4) VZ r ⟨TQ,ls,Wh,.slice Tx Ym ZM⟩ false aK).toArray/\ah w' YS 59 (bN .u64 4 (upd regs r.call.r.toNat (Xy r.aC.n))).toArray/\Z1 (fun b=>b≠O4/\b≠YS) w0 w':=by
 have U:=Bx.two Uo T9 (Uo.ne T9 am);have o:(r.aC.code !=0)=false:=by simp[XP]
 have j:(r.call.op==1)=false:=by simp[ZQ]
 have l:(r.call.op==7)=false:=by simp[ZQ]
 have i:(r.call.op==8)=false:=by simp[ZQ]
 have m:(r.call.op==10)=true:=by simp[ZQ]
 exact kN
end
end
end
theorem Mq(w0:World)(S:Nat->Prop)(p:PO)(c:Nat)(T K Z2:Value)(h4:Int)(ap d n:Nat)(V:Nat->Int)(a rg:Nat)(Q o:Int)(fr:List Ext)(r:RJ)(x:Yr)(hb:ah w0 c 142 (gh p T ap a K Z2 h4).toArray)(P:ar w0 ap d n V)(l:cY w0 a rg Q o fr)(i:aW w0 S r x)(hS: ∀b,S b->b≠d/\b≠a/\b≠rg)(bE:dx r)(Vu:c≠ap/\c≠d/\c≠a/\c≠rg)(dK:ap≠a/\ap≠rg/\d≠a/\d≠rg)(R:r.Xj=0):
 Calls prog 107 #[.pointer (some ⟨c,0,none⟩),.agg (aY r x)] w0 fun e w'=> ∃x' B,e= .returned (.agg (aY (tell r r.aC.code 0) x'))/\ar w' ap d n V/\cY w' a B Q o fr/\(B=rg\/w0.heap.size<=B)/\aW w' (fun b=>(S b\/w0.heap.size<=b)/\b≠d/\b≠a/\b≠B) (tell r r.aC.code 0) x'/\Z1 (fun b=>b≠d/\b≠a/\b≠rg) w0 w':=by
 obtain⟨O,v,y,u,t,z,M,X,rfl⟩:=eW i;have A:=I P;have H:=I l;have C:=I l.lt;have s:=I i;have q:=I hb;have U:=Bx.g8 hb;have Zh:(r.Xj==0)=true:=by simp[R]
 clear P l i hb R;go_enter func107,ntmps107;go_wp2_with(first|(go_at_call 184;have f:=U.ro q.out ag;refine Calls.mono (hg _ S r ⟨.slice O r.chain.length v,.slice y r.list.length u,.slice t r.said.length z,.slice M r.aC.said.length X⟩ _ _ (s.out.Wu (Z1.cg f)) bE) ?_;rintro e EH ⟨v',rfl,F,N⟩;obtain⟨L,G,rfl,-,-,-⟩:=id F;have hv:=U.eh F;clear F f;have m:=U.below N;clear U N;have U:=m.base)|(refine aq ?_)|(refine aT ?_;clear U;intro X8 w U T7));refine cw results107 rfl rfl ⟨_,U.b ag,rfl⟩ underlying198 rfl aM ?_;have W:=m.back U;have f:=W.ro q.out ag;have j:=(s.out.mono (S':=fun b=>(S b\/w0.heap.size<=b)/\b≠d/\b≠a/\b≠rg) (fun b hb h=>⟨.inl h,hS b h⟩)).Wu (Z1.cg f);have qO:=(U.carry hv fun b _ h=>h.2).mono (S':=fun b=>(S b\/w0.heap.size<=b)/\b≠d/\b≠a/\b≠rg) fun b _ h=>⟨.inr h.1,by have:=ar.c9 A.out;have:=h.1;omega,by have:=C.out;have:=h.1;omega,by have:=C.out;have:=h.1;omega⟩
 exact⟨⟨.slice O r.chain.length v,.slice y r.list.length u,.slice t r.said.length z,.slice L r.said.length G⟩,rg,rfl,ar.below A.out f A.out.c9.1 A.out.c9.2.1,H.out.Wu (f.block _ C.out.1) (f.block _ C.out.2),.inl rfl,⟨j.TQ,j.ls,j.Wh,qO⟩,Z1.cg f⟩
theorem wK(sl:List Int)(x:Nat)(v:Int)(a:x<sl.length): ∀i,i<sl.length->upd (fun i=>sl.getD i 0) x v i=(sl.set x v).getD i 0:=by
 intro i hi;unfold upd;by_cases c:i=x
 ·subst c;rw[Z rfl,ae,List.getElem?_set_self a];rfl
 ·rw[Y c];show sl.getD i 0=_;rw[ae,ae,List.getElem?_set_ne (Ne.symm c)]
theorem KC.ext1{w:World}{S:Nat->Prop}{v:Value}{n:Nat}{f g:Nat->Int}(h:KC w S v n 1 (fun i=> [.int .u64 (f i)]))(e: ∀i,i<n->f i=g i):KC w S v n 1 (fun i=> [.int .u64 (g i)]):=
 h.ext fun i hi=>by rw[e i hi]
def DQ(w0 w':World)(l k:Nat)(q:Int×List Int×List Int×Bool)(e:Ending):Prop:=
 ∃f c d a,e= .returned (.tuple #[.int .i64 (k+1+q.1),.slice f l c,.slice d q.2.2.1.length a,.bool q.2.2.2])/\KC w' (fun b=>w0.heap.size<=b) (.slice f l c) l 1 (fun i=> [.int .u64 (q.2.1.getD i 0)])/\cF w' (fun b=>w0.heap.size<=b) (.slice d q.2.2.1.length a) q.2.2.1/\Below w0.heap.size w0 w'
theorem adG(w0:World)(S:Nat->Prop)(W:Option Addr)(p u n sc k:Nat)(ops:List jc)(sl:List Int)(ZQ:LQ w0 S (.slice W ops.length p) ops)(q:k<ops.length)(C:ops.length<=8)(ok: ∀o,o∈ops->okF o)
 (H:u<w0.heap.size)(G: ∀j,j<sl.length->w0.cell? ⟨u,n+j,none⟩=some (.int .u64 (sl.getD j 0)))(s:sl.length<=6):
 Calls prog 339 #[.slice W ops.length p,.int .i64 k,.slice (some ⟨u,n,none⟩) sl.length sc] w0 fun e w'=>DQ w0 w' sl.length k (dd (ops.getD k ⟨0,0,0⟩) sl) e:=by
 obtain⟨A',c',L,h1,K,P⟩:=ZQ;injection L with L UN T
 subst L T;obtain⟨r,A,rfl,_,F,V⟩:=P J;obtain⟨o,Q⟩: ∃o,ops[k]? =some o:=⟨_,an q⟩
 have X:=ok o (bf Q);have B: ∀(j:Nat) (v:Value),([.int .u8 o.op,.int .i64 o.a,.int .i64 o.b]:List Value)[j]? =some v->w0.cell? ⟨r,A+k*3+j,none⟩=some v:=fun j v U=>by
  have:=V k j v q (by unfold jQ;rw[Q];exact U);rwa[<-Nat.add_assoc]at this
 rw[ae,Q,Option.getD_some];clear V Q ok P;obtain⟨op,a,b⟩:=o;obtain⟨hop,Xg,hb⟩:=X;simp only at hop Xg hb B;have nil: ∀(w:World) (S:Nat->Prop),cF w S (.slice none ([]:List Int).length 0) []:=fun w S=>cF.nil w S;rcases(by omega:op=0\/op=1\/op=2\/op=3\/op=4)with rfl|rfl|rfl|rfl|rfl
 ·have e:dd ⟨0,a,b⟩ sl=(0,sl,[a],false):=by unfold dd;simp
  rw[e];refine(Fj w0 r A ops.length p u n sl.length sc k (fun i=>sl.getD i 0) (fun i=>sl.getD i 0) a b 0 [a] false F B q C H G s J fun g d rg c rest f m l t=>?_).mono fun e w' h=>h;exact(LR g d rg sl.length c _ rest 0 a b f m l s t).mono fun e w' h=>h
 ·by_cases c:a<sl.length
  ·obtain⟨x,rfl⟩: ∃x:Nat,a=x:=⟨a.toNat,J⟩
   have e:dd ⟨1,x,b⟩ sl=(0,sl.set x 0,[],false):=by unfold dd;simp[c]
   rw[e];refine(zB w0 r A ops.length p u n sl.length sc k (fun i=>sl.getD i 0) (upd (fun i=>sl.getD i 0) x 0) x b 0 [] false F B q C H G s J fun g d rg c' rest f m l t=>?_).mono fun e w' h=>?_
   ·exact(LU g d rg sl.length c' _ rest 1 x b f m l s t x J (fun i _=>J)).mono fun e w' h=>⟨none,0,h.1,nil _ _,h.2⟩
   ·obtain⟨R,N,O,M,h1,K,P⟩:=h;exact⟨R,N,O,M,h1,K.ext1 (wK sl x 0 J),P⟩
  ·have e:dd ⟨1,a,b⟩ sl=(0,sl,[],false):=by unfold dd;simp[c]
   rw[e];refine(zB w0 r A ops.length p u n sl.length sc k (fun i=>sl.getD i 0) (fun i=>sl.getD i 0) a b 0 [] false F B q C H G s J fun g d rg c' rest f m l t=>?_).mono fun e w' h=>h;exact(LS g d rg sl.length c' _ rest 1 a b f m l s t ⟨0,J,J⟩).mono fun e w' h=>⟨none,0,h.1,nil _ _,h.2⟩
 ·by_cases c:a<sl.length/\b<sl.length
  ·obtain⟨x,rfl⟩: ∃x:Nat,a=x:=⟨a.toNat,J⟩
   obtain⟨y,rfl⟩: ∃y:Nat,b=y:=⟨b.toNat,J⟩
   have e:dd ⟨2,x,y⟩ sl=(0,sl.set x (sl.getD y 0),[],false):=by
    unfold dd;rw[Y (show¬_ from aN),Y (show¬_ from aN),Z rfl,Z c];rfl
   rw[e];refine(zC w0 r A ops.length p u n sl.length sc k (fun i=>sl.getD i 0) (upd (fun i=>sl.getD i 0) x (sl.getD y 0)) x y 0 [] false F B q C H G s J fun g d rg c' rest f m l t=>?_).mono fun e w' h=>?_
   ·exact(LW g d rg sl.length c' _ rest 2 x y f m l s t x J y J (fun i _=>by split<;>omega)).mono fun e w' h=>⟨none,0,h.1,nil _ _,h.2⟩
   ·obtain⟨R,N,O,M,h1,K,P⟩:=h;exact⟨R,N,O,M,h1,K.ext1 (wK sl x _ J),P⟩
  ·have e:dd ⟨2,a,b⟩ sl=(0,sl,[],false):=by
    unfold dd;rw[Y (show¬_ from aN),Y (show¬_ from aN),Z rfl,Y c]
   rw[e];refine(zC w0 r A ops.length p u n sl.length sc k (fun i=>sl.getD i 0) (fun i=>sl.getD i 0) a b 0 [] false F B q C H G s J fun g d rg c' rest f m l t=>?_).mono fun e w' h=>h;refine(LV g d rg sl.length c' _ rest 2 a b f m l s t ?_).mono fun e w' h=>⟨none,0,h.1,nil _ _,h.2⟩
   by_cases afp:a<sl.length
   ·exact⟨1,J,by rw[Y (show¬_ from aN)];omega⟩
   ·exact⟨0,J,by rw[Z rfl];omega⟩
 ·by_cases c:a<sl.length
  ·obtain⟨x,rfl⟩: ∃x:Nat,a=x:=⟨a.toNat,J⟩
   by_cases z:sl.getD x 0=0
   ·have e:dd ⟨3,x,b⟩ sl=(b,sl,[],false):=by
     unfold dd;rw[Y (show¬_ from aN),Y (show¬_ from aN),Y (show¬_ from aN),Z rfl,Z ⟨c,z⟩]
    rw[e];refine(u3 w0 r A ops.length p u n sl.length sc k (fun i=>sl.getD i 0) (fun i=>sl.getD i 0) x b b [] false F B q C H G s J fun g d rg c' rest f m l t=>?_).mono fun e w' h=>h;exact(LY g d rg sl.length c' _ rest 3 x b f m l s t x J (fun i _=>J) z).mono fun e w' h=>⟨none,0,h.1,nil _ _,h.2⟩
   ·have e:dd ⟨3,x,b⟩ sl=(0,sl,[],false):=by
     unfold dd;rw[Y (show¬_ from aN),Y (show¬_ from aN),Y (show¬_ from aN),Z rfl,Y (fun h=>z h.2)]
    rw[e];refine(u3 w0 r A ops.length p u n sl.length sc k (fun i=>sl.getD i 0) (fun i=>sl.getD i 0) x b 0 [] false F B q C H G s J fun g d rg c' rest f m l t=>?_).mono fun e w' h=>h;exact(LZ g d rg sl.length c' _ rest 3 x b f m l s t x J (fun i _=>J) z).mono fun e w' h=>⟨none,0,h.1,nil _ _,h.2⟩
  ·have e:dd ⟨3,a,b⟩ sl=(0,sl,[],false):=by
    unfold dd;rw[Y (show¬_ from aN),Y (show¬_ from aN),Y (show¬_ from aN),Z rfl,Y (fun h=>c h.1)]
   rw[e];refine(u3 w0 r A ops.length p u n sl.length sc k (fun i=>sl.getD i 0) (fun i=>sl.getD i 0) a b 0 [] false F B q C H G s J fun g d rg c' rest f m l t=>?_).mono fun e w' h=>h;exact(LX g d rg sl.length c' _ rest 3 a b f m l s t ⟨0,J,J⟩).mono fun e w' h=>⟨none,0,h.1,nil _ _,h.2⟩
 ·have e:dd ⟨4,a,b⟩ sl=(0,sl,[],true):=by
   unfold dd;rw[Y (show¬_ from aN),Y (show¬_ from aN),Y (show¬_ from aN),Y (show¬_ from aN)]
  rw[e];refine(GY w0 r A ops.length p u n sl.length sc k (fun i=>sl.getD i 0) (fun i=>sl.getD i 0) a b 0 [] true F B q C H G s J fun g d rg c rest f m l t=>?_).mono fun e w' h=>h;exact(L3 g d rg sl.length c _ rest 4 a b f m l s t).mono fun e w' h=>⟨none,0,h.1,nil _ _,h.2⟩
end Go.Proofs.YtcimojgkeoecfaaGreat
