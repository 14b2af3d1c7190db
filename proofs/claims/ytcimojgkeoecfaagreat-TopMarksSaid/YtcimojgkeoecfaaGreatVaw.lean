import Derived.Test.YtcimojgkeoecfaaGreatVav
import Derived.Test.YtcimojgkeoecfaaGreatVas
set_option linter.all false
set_option maxHeartbeats 16000000
set_option maxRecDepth 100000
namespace Go.Proofs.YtcimojgkeoecfaaGreat
section
open Go.RowKit Tryz
theorem nZ{G:Prop}(h:G:=by
 obtain⟨v,hb,hv⟩:=UW.ex;rcases hv with⟨rfl,U4,_⟩|⟨cap,rest,rfl,UD,h1,Tw,_⟩
 ·exact⟨fun _=>True,_,hb,by rw[U4];exact KC.nil _ _ _ _⟩
 ·exact⟨_,_,hb,mF UD h1 Tw⟩):G:=h
theorem n0{G:Prop}(h:G:=by
 rintro e w' ⟨rfl,TS⟩;exact⟨rfl,UW.Wu (TS.block _ UW.lt.1) (TS.block _ UW.lt.2),Z1.cg TS⟩):G:=h
theorem acu(l:List Ext)(m:Int)(h:hU l m=none): ∀y,y∈l->y.z<m:=by
 induction l with
 |nil=>intro y hy;simp at hy
 |cons x l a=>
  intro y hy;rw[hU]at h;split at h
  ·simp at h
  ·rename_i b;rcases List.mem_cons.1 hy with rfl|hy
   ·omega
   ·exact a (by simpa using h) y hy
theorem ace(l l':List Ext)(m a:Int)(h:hU l m=some (a,l')): ∃pre x post,l=pre++x::post/\(∀y,y∈pre->y.z<m)/\a=x.a/\(x.z=m/\l'=pre++post\/m<x.z/\l'=pre++⟨x.a+m,x.z-m⟩::post):=by
 induction l generalizing l' with
 |nil=>simp[hU]at h
 |cons x l i=>
  rw[hU]at h;split at h
  ·rename_i j;simp only[Option.some.injEq,Prod.mk.injEq]at h;refine⟨[],x,l,rfl,aN,h.1.symm,?_⟩;by_cases b:x.z=m
   ·rw[Z b]at h;exact .inl ⟨b,h.2.symm⟩
   ·rw[Y b]at h;exact .inr ⟨J,h.2.symm⟩
  ·rename_i j;obtain⟨⟨k,f⟩,h1,d⟩:=Option.map_eq_some_iff.1 h;simp only[Prod.mk.injEq]at d;obtain⟨rfl,rfl⟩:=d;obtain⟨pre,y,post,rfl,g,e,c⟩:=i f h1;refine⟨x::pre,y,post,rfl,fun z b=>?_,e,?_⟩
   ·rcases List.mem_cons.1 b with rfl|b
    ·omega
    ·exact g z b
   ·rcases c with⟨c,rfl⟩|⟨c,rfl⟩
    ·exact .inl ⟨c,rfl⟩
    ·exact .inr ⟨c,rfl⟩
def e4(l:List Ext)(m:Int):Int×Bool×List Ext:=match hU l m with
 |none=>(0,false,l)
 |some (a,l')=>(a,true,l')
theorem uw(w0:World)(c rg:Nat)(g d m:Int)(l:List Ext)(hm:8<=m/\m<=65536/\m %8=0)(q: ∀x,x∈l->0<=x.a/\x.a<=65536/\x.z<=65536)(j:l.length<=65536)(UW:cY w0 c rg g d l):
 Calls prog 265 #[.pointer (some ⟨c,0,none⟩),.int .i64 m] w0 fun e w'=>e= .returned (.tuple #[.int .i64 (e4 l m).1,.bool (e4 l m).2.1])/\cY w' c rg g d (e4 l m).2.2/\Z1 (fun b=>b≠c/\b≠rg) w0 w':=by
 cases i:hU l m with
 |none=>
  have h:=acu l m i;have e:e4 l m=(0,false,l):=by unfold e4;rw[i]
  rw[e];obtain⟨v,hb,hv⟩:=id UW.ex;rcases hv with⟨rfl,n,_⟩|⟨cap,rest,rfl,o,h1,k,_⟩
  ·refine Calls.mono (Fr w0 c rg g d m l hm j h n hb) ?_;exact n0
  ·refine Calls.mono (Fq w0 c rg g d m l hm j h cap rest o h1 k hb) ?_;exact n0
 |some r=>
  obtain⟨a,l'⟩:=r;obtain⟨pre,x,post,rfl,h,rfl,f⟩:=ace l l' m a i;have e:e4 (pre++x::post) m=(x.a,true,l'):=by unfold e4;rw[i]
  rw[e];have p:=q x aN;rcases f with⟨f,rfl⟩|⟨f,rfl⟩
  ·exact Fv w0 c rg g d m pre post x hm p j h f UW
  ·exact Ft w0 c rg g d m pre post x hm p j h f UW
theorem IM(w0:World)(c rg:Nat)(i d:Int)(l:List Ext)(j:l.length<=65536)(UW:cY w0 c rg i d l):
 Calls prog 177 #[.pointer (some ⟨c,0,none⟩)] w0 fun e w'=> ∃v',e= .returned v'/\KC w' (fun b=>w0.heap.size<=b) v' l.length 2 (eP l)/\Below w0.heap.size w0 w':=by
 have key: ∃S v,ah w0 c 363 ([.int .i64 i,.int .i64 d,v]:List Value).toArray/\KC w0 S v l.length 2 (eP l):=by
  exact nZ
 obtain⟨S,v,hb,g⟩:=key;have f:=I g;have k:=I j;have a:=I hb;have U:=Bx.g8 hb;clear g j UW hb;go_enter func177,ntmps177;go_wp2_with(first|(go_at_call 254;have m:=U.ro a.out (by with_reducible first|exact cX|exact kw|exact r3);refine Calls.mono (ab4 _ S _ _ _ (f.out.below (U.ro a.out (by with_reducible first|exact cX|exact kw|exact r3))) k.out (kn _ _)) ?_;rintro e o ⟨p,rfl,n,N⟩;replace U:=U.below N)|(refine UQ U ?_));go_ret;exact⟨_,rfl,n.mono (fun b _ h=>D m.size h),U.ro a.out (by exact cX)⟩
end
section
open Go.RowKit Tryz
theorem KJ(i h:Int)(hi:0<=i/\i<=65536)(c:0<=h/\h<=65536)(h1:i %8=0)(d:h %8=0):((bits .or .i64 i h).tmod 8 !=0)=false:=by
 obtain⟨a,rfl⟩:=bn hi.1;obtain⟨K,rfl⟩:=bn c.1;rw[(bits_nat .i64 63 am gM a K J J).2];have e:(a ||| K)%8=(a %8)|||(K %8):=Nat.or_mod_two_pow (n:=3);have f:(a ||| K)%8=0:=by
  rw[e,Nat.or_eq_zero_iff];omega
 have b:((a ||| K:Nat):Int).tmod 8=0:=by
  rw[al J];omega
 rw[b];rfl
theorem IN(w0:World)(a z:Int)(n:0<=a/\a<=65536/\0<z/\z<=65536)(d:a %8=0/\z %8=0):
 Calls prog 198 #[.int .i64 a,.int .i64 z] w0 fun e w'=> ∃c rg,e= .returned (.tuple #[.pointer (some ⟨c,0,none⟩),.int .i64 0])/\cY w' c rg a (a+z) [⟨a,z⟩]/\w0.heap.size<=c/\w0.heap.size<=rg/\Z1 (fun _=>True) w0 w':=by
 have m:=KJ a z J J d.1 d.2;have U:=Bx.a0 w0;have l:decide (z>0)=true:=by simp;omega
 go_enter func198,ntmps198;go_wp2_with(first|(refine dE U rfl 58 130 _ rfl _ [.int .i64 a,.int .i64 z] rfl rfl (.agg #[.int .i64 0,.int .i64 0]) 2 16 bw cj rfl am am ?_;clear U;intro f w U j;refine cN ?_)|(go_at_call 104;refine(fM _ _ _ _).mono ?_;rintro e w' ⟨rfl,rfl⟩)|(refine Ws U 363 ?_;clear U;intro i w U h)|(refine Po U ?_;clear U;intro w U));go_ret2;exact⟨_,f,rfl,⟨_,U.b (g:=i) (by exact kw),.inr ⟨1,[],rfl,U.b (g:=f) (by exact cX),ai _,am,rfl,fun e=>U.wa e.symm⟩⟩,h,j,U.Wu⟩
theorem IP(w0:World)(c:Int)(j:0<=c/\c<=65536)(h:c %8=0):
 Calls prog 198 #[.int .i64 c,.int .i64 0] w0 fun e w'=> ∃a,e= .returned (.tuple #[.pointer (some ⟨a,0,none⟩),.int .i64 0])/\cY w' a a c c []/\w0.heap.size<=a/\Z1 (fun _=>True) w0 w':=by
 have i:=KJ c 0 J J h rfl;have U:=Bx.a0 w0;go_enter func198,ntmps198;go_wp2_with(first|(go_at_call 104;refine(fM _ _ _ _).mono ?_;rintro e w' ⟨rfl,rfl⟩)|(refine Ws U 363 ?_;clear U;intro f w U d)|(refine Po U ?_;clear U;intro w U));go_ret2;exact⟨_,rfl,⟨_,U.b (g:=f) (by exact cX),.inl ⟨rfl,rfl,rfl,Int.le_refl _⟩⟩,d,U.Wu⟩
end
section
open Go.RowKit Tryz
abbrev ux(p:PO)(ap:Nat)(k:Int):Value:=.agg #[.pointer (some ⟨ap,0,none⟩),.int .i64 p.s,.int .i64 p.t,.int .i64 p.i,.int .i64 p.h,.int .i64 k]
section
variable(w0:World)(p:PO)(ap d n:Nat)(V:Nat->Int)
include w0 p ap d n V
theorem BN(k q:Int)(f:ar w0 ap d n V)(c:a9 p)(b:0<=k/\k<p.s)(h:0<=q/\q<=4)(l:8*p.s<=n):
 Calls prog 316 #[ux p ap k,.int .i64 q] w0 fun e w'=>e= .returned (.int .u64 (V (8*k.toNat+q.toNat)))/\Below w0.heap.size w0 w':=by
 have U:=Bx.a0 w0;have i:=I f;clear f;go_enter func316,ntmps316;go_wp2_with(first|(go_at_call 155;refine a6 U (iX p _ _ _ c h b) ?_;clear U;intro a U)|(go_at_call 176;refine Calls.mono (eL _ _ _ n V _ (8*k.toNat+q.toNat) (U.jZ i.out) J J) ?_;rintro e a ⟨rfl,rfl⟩)|(refine aq ?_)|(refine aT ?_;clear U;intro m w U j));go_ret;exact⟨rfl,U.all⟩
theorem tw(k q x:Int)(i:ar w0 ap d n V)(h:a9 p)(f:0<=k/\k<p.s)(l:0<=q/\q<=4)(r:8*p.s<=n)(m:aR x):
 Calls prog 201 #[ux p ap k,.int .i64 q,.int .u64 x] w0 fun e w'=>e= .returned (.tuple #[])/\ar w' ap d n (upd V (8*k.toNat+q.toNat) x)/\ce w0.heap.size d w0 w':=by
 have U:=Bx.start (A:=some ⟨ap,d,n,V⟩) (fun b=>b≠d) w0 i fun a e k=>(by cases e;exact k rfl)
 clear i;go_enter func201,ntmps201;go_wp2_with(first|(go_at_call 155;refine a6 U (iX p _ _ _ h l f) ?_;clear U;intro c U)|(go_at_call 279;refine Calls.mono (iJ _ _ _ n V _ _ (8*k.toNat+q.toNat) U.bB J J m) ?_;rintro e c ⟨rfl,j,N⟩;replace U:=U.arena j N;clear j N)|(refine aq ?_)|(refine aT ?_;clear U;intro t w U o));refine fY ?_;exact⟨rfl,U.bB,U.mW⟩
theorem AJ(k:Int)(c:g7)(m:ar w0 ap d n V)(l:a9 p)(j:0<=k/\k<p.s)(i:8*p.s<=n)(f:hZ c):
 Calls prog 200 #[ux p ap k,hf c] w0 fun e w'=>e= .returned (.tuple #[])/\ar w' ap d n (upd V (8*k.toNat) (TK c))/\ce w0.heap.size d w0 w':=by
 have U:=Bx.start (A:=some ⟨ap,d,n,V⟩) (fun b=>b≠d) w0 m fun a e k=>(by cases e;exact k rfl)
 have t:=f.UK;have r:=I f;have q:aR (TK c):=by unfold aR;omega
 clear m f t;go_enter func200,ntmps200;go_wp2_with(first|(go_at_call 278;refine a6 U (nD c _ r.out) ?_;clear U;intro h U)|(go_at_call 201;refine Calls.mono (tw _ p ap d n V k 0 _ U.bB l j J i q) ?_;rintro e h ⟨rfl,o,N⟩;replace U:=U.arena o N;clear o N)|(refine aq ?_)|(refine aT ?_;clear U;intro v w U u));refine fY ?_;exact⟨rfl,U.bB,U.mW⟩
end
end
section
theorem abi{V:Nat->Int}{n k:Nat}(b:k<n)(h:(Wi V k).st=0)(a: ∀j,j<k->(Wi V j).st≠0):fv V n=some k:=by
 unfold fv;rw[List.find?_range_eq_some];exact⟨by simpa using h,List.mem_range.2 b,fun j c=>by simpa using a j c⟩
theorem aay{V:Nat->Int}{n:Nat}(a: ∀j,j<n->(Wi V j).st≠0):fv V n=none:=by
 unfold fv;rw[List.find?_range_eq_none];exact fun j b=>by simpa using a j b
end
section
open Go.RowKit
variable{w0 d w w':World}{S:Nat->Prop}{A f:Option XS}{L L' L1:List PL}{e:TypeId}{sz n:Nat}{v:Value}{xs:List Value}
variable{P:Program}{o:Oper}{a:Act}{K:Act->World->Prop}{Q:Exit->Act->World->Prop}{ops:Array Oper}{rest:List Oper}
theorem Bx.c6{x:PL}(h:Bx w0 S w A (x::L)):Bx w0 S w A L:=
 ⟨fun y hy=>h.bC y (ao _ hy),by have:=h.UH;rw[aS,bS]at this;exact this.2,fun y hy=>h.fr y (ao _ hy),h.Wu,h.VB,
   fun a e=>⟨fun y hy=>(h.WN a e).1 y (ao _ hy),fun y hy=>(h.WN a e).2.1 y (ao _ hy),(h.WN a e).2.2⟩⟩
theorem Bx.open_(h:Bx w0 S w A L)(c:UC w0 w A L e sz v n xs)(t:0<n): ∃g cap rest,v= .slice (some ⟨g,0,none⟩) n cap/\Bx w0 S w A (⟨g,e,xs++rest⟩::L)/\w0.heap.size<=g/\n<=cap/\cap<=maxLen/\(xs++rest).length=cap*sz:=by
 rcases c.own.2 with⟨_,u⟩|⟨g,cap,i,rfl,h1,j,s,r,l,m⟩
 ·omega
 ·have b:=c.fresh g rfl;have k:i=(xs++i.toList.drop (n*sz)).toArray:=by rw[<-m,b9]
  refine⟨g,cap,i.toList.drop (n*sz),rfl,h.jY (by rw[<-k];exact j) (fun x q=>b.1.1 x q) (.inl h1) (fun a p=>⟨b.2 a p,fun e=>b.1.2 a p e⟩),h1,s,r,by rw[<-m,b9,Array.length_toList];exact l⟩
theorem Bx.close_{g cap:Nat}{cs:List Value}(h:Bx w0 S w A (⟨g,e,cs⟩::L))(p:w0.heap.size<=g)(b:n<=cap)(s:cap<=maxLen)(q:cs.length=cap*sz)(k:cs.take (n*sz)=xs):Bx w0 S w A L/\UC w0 w A L e sz (.slice (some ⟨g,0,none⟩) n cap) n xs:=by
 refine⟨h.c6,⟨⟨?_,.inr ⟨g,cap,cs.toArray,rfl,p,h.bC _ a8,b,s,by simpa using q,by simpa using k⟩⟩,fun j c=>?_⟩⟩
 ·rw[<-k,List.length_take,q];exact Nat.min_eq_left (Nat.mul_le_mul_right _ b)
 ·simp only[Value.ownBlock,Option.some.injEq]at c;subst c;have i:=h.UH;rw[aS,bS]at i;exact⟨⟨fun x k r=>i.1 (List.mem_map.2 ⟨x,k,r⟩),fun a l m=>(h.WN a l).2.1 _ a8 m⟩,fun a l m=>(h.WN a l).1 _ a8 m⟩
theorem sV(h:Bx w0 S w A L)(s x:Operand)(t:TypeId)(U:o.op= .call {callee:=.builtin .append,args:= #[s,x],argTypes:= #[t,t]})
 (z:Value)(bytes:Nat)(C:P.underlying t=some (.slice e))(W:(P.info? e).map (fun i=>(i.zero,i.size,i.bytes))=some (some z,sz,bytes))(qG:z.cells.size=sz)(dI:0<sz)
 (g:Nat)(O:a.eval s= .slice (some ⟨g,0,none⟩) n n){t':TypeId}{l6 cs:List Value}(hi:In L g t' (l6++cs))(F:l6.length=n*sz)
 (p:Addr)(m c:Nat)(news:List Value)(H:a.eval x= .slice (some p) m c)(R:news.length=m*sz)(hm:0<m)(kz: ∀j u,news[j]? =some u->w.cell? (p.add j)=some u)(qH:n+m<=maxLen)(gR:(n+m)*bytes<=140737488355328)
 (T: ∀v' w',Bx w0 S w' A L->UC w0 w' A L e sz v' (n+m) (l6++news)->K (a.put o.dst v') w'):Oper.wp P o a w K Q:=by
 obtain⟨i,aav,y,lG,jt⟩:=info_parts W;have hb:=h.b hi;obtain⟨v',w',r,k,V⟩:=run_append_arg_grows (P:=P) w t o.type e i z sz bytes C aav y lG jt qG dI ⟨g,0,none⟩ n n l6 F (fun j u hu=>by
  rw[iL,ax,hb.cell,aE,aA (List.getElem?_eq_some_iff.1 hu).1];exact hu) p m c news R kz J qH gR
 unfold Oper.wp execOp;simp only[U,resolve,invoke,builtin,Sem.run_bind,Sem.run_pure,Result.andThen_ok,b8,aS,ck,O,H,r];have G:=h.grown V (fun j l=>by cases l);refine T v' w' G ⟨?_,fun j l=>?_⟩
 ·refine⟨k.1,?_⟩;rcases k.2 with q|⟨N,cap,X,rfl,q,B⟩
  ·exact .inl q
  ·exact .inr ⟨N,cap,X,rfl,D h.size q,B⟩
 ·have:=(k.lt j l).1;refine⟨(h.hO this).2,fun a M abe=>?_⟩;subst M;have:=ar.c9 (w:=w) h.VB;omega
end
section
open Tryz
theorem abk{G:Prop}(h:G:=by
 rw[cm (by rw[iY.out];exact ai _)]at VW;have r2:=I VW;clear VW;go_wp2_with fail;go_ret;rcases r2.out with⟨ZQ,-⟩|⟨ZQ,VS,wo,n1,U,h1,Tw,ZV,Ya⟩
 ·exact absurd ZQ (yW Zm (fun e=>by have:=iY.out;rw[e]at this;cases this))
 ·have Mc:give l m z=Zm.foldl fz []:=by rw[<-uy,<-pY.out,<-BO l [] ⟨m,z⟩ mx.out (fun x h=>by cases h),br]
  rw[Mc];exact⟨VS,rfl,⟨_,U.b (g:=L8) (by exact r3),.inr ⟨wo,n1,rfl,U.b (g:=VS) (by exact cX),Tw,ZV,Ya,fun e=>by have:=U.UH;simp[e]at this⟩⟩,.inr h1,U.Wu⟩):G:=h
theorem n2{G:Prop}(h:G:=by
 have tV:(0:Int)<=(k:Int):=by omega
 unfold pZ at LM;rw[Md]at VW;clear YF Md IQ;rcases VW with⟨ZQ,U⟩|⟨ZQ,VS,wo,n1,U,h1,Tw,ZV,Ya⟩
 ·have ry:=I ZQ;clear ZQ n3;go_wp2_with(first|(refine jE U rfl 130 _ rfl sn (k*2) 2 rfl ag _ IR.out underlying130 rfl (by kernel_rfl) ?_;refine cN ?_)|(first|(refine aq ?_)|(refine Ws U 3 ?_;clear U;intro UI w U j7)|(refine VP U eK ?_;clear U;intro hQ w U gU)|(refine Po U ?_;clear U;intro w U)));replace U:=U.drew;refine b0 ?_;intro X;refine az [[0,1,2,3,4,5,6,7,8,9,10,11,12,13,14,15,16,17,18,19,20,21,22,23]] ?_;have DI:=U;have T9:=DI.KK 130 2;clear U;have U:=DI.base;go_wp2_with(first|(refine aq ?_)|(refine Ws U 3 ?_;clear U;intro UI w U j7)|(refine VP U eK ?_;clear U;intro hQ w U gU)|(refine Po U ?_;clear U;intro w U));replace U:=U.drew;refine wp_region_held_drew (S:=(c0 [⟨hQ,130,[.int .i64 x.a,.int .i64 x.z]⟩])) (by kernel_rfl) ?_ (fun X=>?_)
  ·exact U.bG (by simp)
  refine az [[0,1,2,3,5]] ?_;refine Zj [4,6] ?_;refine ea (fun K Z7=>?_) ?_
  ·refine YL U ?_;refine WE Z7 fun X=>?_;refine aF 6 fun K Z7=>?_;rw[Z (by rfl)];refine bK U 58 130 _ rfl _ [.int .i64 x.a,.int .i64 x.z] rfl rfl (.agg #[.int .i64 0,.int .i64 0]) 2 16 bw cj rfl (by decide) (by decide) ?_;clear U;intro di w U dO;refine WE Z7 fun X=>?_;refine aF 7 fun K Z7=>?_;rw[Z (by rfl)];refine gG DI U T9 rfl _ _ 58 rfl (.agg #[.int .i64 0,.int .i64 0]) 16 bw cj rfl (by decide) rfl ⟨di,0,none⟩ 1 1 [.int .i64 x.a,.int .i64 x.z] rfl rfl (U.news ag) rfl (by unfold maxLen;omega) (by omega) ?_;clear U DI T9;intro WP w U T9;obtain⟨Wq,Wz,rfl⟩:=T9.form;have DI:=U;clear U;have U:=DI.base;refine WE Z7 fun X=>?_;refine az [[8,9],[10]] ?_;clear U;intro w U;go_wp2_with(first|(refine aq ?_)|(refine Ws U 3 ?_;clear U;intro UI w U j7)|(refine VP U eK ?_;clear U;intro hQ w U gU)|(refine Po U ?_;clear U;intro w U));go_roundw
   case rel=>
    refine⟨k+1,by omega,by go_num,?_⟩;rw[xo.out,List.foldl_append,ry.out];rw[show List.foldl fz [] [x]= [x]from rfl];have Yq:=DI.back U;have p0:=T9.on DI U rfl;obtain⟨p1,n4,mG,UN,Ut,hR,kd,lk,fx⟩:=Yq.open_ p0 (by omega);simp only[Value.slice.injEq]at UN;obtain⟨rfl,-,rfl⟩:=UN;have qM:=Ut.rz;exact .inr ⟨by simp,p1,_,mG,by simpa [bu]using qM,hR,by simpa using kd,lk,by simpa [bu]using fx⟩
   case measure=>simp[intOf];omega
  refine ei (fun K Z7=>?_);rw[Z (by rfl)];refine bK U 58 130 _ rfl _ [.int .i64 x.a,.int .i64 x.z] rfl rfl (.agg #[.int .i64 0,.int .i64 0]) 2 16 bw cj rfl (by decide) (by decide) ?_;clear U;intro di w U dO;refine WE Z7 fun X=>?_;refine aF 4 fun K Z7=>?_;refine YL U ?_;refine WE Z7 fun X=>?_;refine aF 7 fun K Z7=>?_;rw[Z (by rfl)];refine gG DI U T9 rfl _ _ 58 rfl (.agg #[.int .i64 0,.int .i64 0]) 16 bw cj rfl (by decide) rfl ⟨di,0,none⟩ 1 1 [.int .i64 x.a,.int .i64 x.z] rfl rfl (U.news ag) rfl (by unfold maxLen;omega) (by omega) ?_;clear U DI T9;intro WP w U T9;obtain⟨Wq,Wz,rfl⟩:=T9.form;have DI:=U;clear U;have U:=DI.base;refine WE Z7 fun X=>?_;refine az [[8,9],[10]] ?_;clear U;intro w U;go_wp2_with(first|(refine aq ?_)|(refine Ws U 3 ?_;clear U;intro UI w U j7)|(refine VP U eK ?_;clear U;intro hQ w U gU)|(refine Po U ?_;clear U;intro w U));go_roundw
  case rel=>
   refine⟨k+1,by omega,by go_num,?_⟩;rw[xo.out,List.foldl_append,ry.out];rw[show List.foldl fz [] [x]= [x]from rfl];have Yq:=DI.back U;have p0:=T9.on DI U rfl;obtain⟨p1,n4,mG,UN,Ut,hR,kd,lk,fx⟩:=Yq.open_ p0 (by omega);simp only[Value.slice.injEq]at UN;obtain⟨rfl,-,rfl⟩:=UN;have qM:=Ut.rz;exact .inr ⟨by simp,p1,_,mG,by simpa [bu]using qM,hR,by simpa using kd,lk,by simpa [bu]using fx⟩
  case measure=>simp[intOf];omega
 ·obtain⟨out,wq⟩: ∃out,pre.foldl fz []=out:=⟨_,rfl⟩
  rw[wq]at ZQ U Tw Ya n3;rcases kh out with rfl|⟨o',y,rfl⟩
  ·exact absurd rfl ZQ
  obtain⟨VQ,lH⟩: ∃VQ,o'.length=VQ:=⟨_,rfl⟩
  have O6:(o'++ [y]).length=VQ+1:=by rw[ak,lH];rfl
  have O7:=n3.1 y (by simp);have uz:=n3.2;rw[O6]at U Tw uz;rw[dS,aJ]at U Ya;unfold pZ at O7;have ry:=I wq;have AK:=I lH;have fV:=I (show(bu o').length=VQ*2 by rw[e3,lH]);have O8:=I h1;have O9:=I Tw;have Pa:=I ZV;have Pb:=I Ya;have adu:VQ+1<=k:=by simpa [ih]using uz
  have RV:IntKind.i64.wrap ((VQ:Int)+1-1)=(VQ:Int):=by rw[IntKind.wrap_i64];omega
  have afg:decide ((VQ:Int)≥0)=true:=by simp
  have abh:(VQ:Int)<(VQ:Int)+1:=by omega
  have agc:(0:Int)<=(VQ:Int):=by omega
  have ab5:IntKind.i64.wrap (y.a+y.z)=y.a+y.z:=by rw[IntKind.wrap_i64];omega
  clear ZQ n3 wq lH O6 uz h1 Tw ZV Ya;change Bx w0 _ _ none [⟨VS,130,bu o'++(.int .i64 y.a:: .int .i64 y.z::n1)⟩,_,_]at U;by_cases OV:y.a+y.z=x.a
  ·have xp:=I OV;have aaZ:(y.a+y.z==x.a)=true:=by simpa using OV
   have ad9:IntKind.i64.wrap (y.z+x.z)=y.z+x.z:=by rw[IntKind.wrap_i64];omega
   clear OV;go_wp2_with(first|(refine jE U rfl 130 _ rfl sn (k*2) 2 rfl ag _ IR.out underlying130 rfl (by kernel_rfl) ?_;refine cN ?_)|(first|(refine aq ?_)|(refine Ws U 3 ?_;clear U;intro UI w U j7)|(refine VP U eK ?_;clear U;intro hQ w U gU)|(refine Po U ?_;clear U;intro w U)));replace U:=U.drew;refine b0 ?_;intro X;refine az [[0,1,2,3,4,5,6,7,8,9]] ?_;first|(refine ub 10 ?_)|(refine eE 10 rfl (cb (by rfl) 3 _ rfl VS (VQ*2) rfl (c0.at_ ag) _ (rv fV.out) underlying3 rfl) ?_)
   refine az [[11,12,13,14,15,16,17]] ?_;first|(refine ub 18 ?_)|(refine eE 18 rfl (cb (by rfl) 3 _ rfl VS (VQ*2+1) rfl (c0.at_ ag) _ (rx fV.out) underlying3 rfl) ?_)
   refine az [[19,20,21,22,23]] ?_;go_wp2_with(first|(refine aq ?_)|(refine Ws U 3 ?_;clear U;intro UI w U j7)|(refine VP U eK ?_;clear U;intro hQ w U gU)|(refine Po U ?_;clear U;intro w U));replace U:=U.drew;refine wp_region_held_drew (S:=(c0 [⟨hQ,130,[.int .i64 x.a,.int .i64 x.z]⟩,⟨L8,363,[.int .i64 a4,.int .i64 U2,.slice (some ⟨VS,0,none⟩) (VQ+1) wo]⟩])) (by kernel_rfl) ?_ (fun X=>?_)
   ·exact U.bG (by simp)
   refine az [[0,1,2,3,4,5,6,8,9]] ?_;refine aF 7 fun K Z7=>?_;rw[Z (by rfl)];refine bU U 3 _ rfl VS (VQ*2+1) rfl ag _ (rx fV.out) underlying3 rfl ?_;refine WE Z7 fun X=>?_;refine az [[10,11,12]] ?_;refine aF 13 fun K Z7=>?_;rw[Z (by rfl)];refine ev U 3 _ _ rfl VS (VQ*2+1) _ _ rfl rfl rfl cf (by have:=fV.out;simp;omega) (by kernel_rfl) (by first|rfl|(simp[*];done)) ?_;clear U;intro w U;rw[AG fV.out]at U;refine WE Z7 fun X=>?_;refine UF ?_;dsimp only[Exit.then]
   apply_assumption
   go_wp2_with fail;go_roundw
   case rel=>
    refine⟨k+1,by omega,by go_num,?_⟩;rw[xo.out,List.foldl_append,ry.out];rw[show List.foldl fz (o'++ [y]) [x]=o'++ [⟨y.a,y.z+x.z⟩]from by rw[dy,iB,Z xp.out];rfl];have Ut:=U.c6;exact .inr ⟨by simp,VS,wo,n1,by rw[dS,aJ,ak,AK.out];exact Ut,O8.out,by rw[ak,AK.out];exact O9.out,Pa.out,by have:=Pb.out;simp[dS,e3,eS]at this⊢;omega⟩
   case measure=>simp[intOf];omega
  ·have xp:=I OV;have aaZ:(y.a+y.z==x.a)=false:=by simpa using OV
   clear OV;go_wp2_with(first|(refine jE U rfl 130 _ rfl sn (k*2) 2 rfl ag _ IR.out underlying130 rfl (by kernel_rfl) ?_;refine cN ?_)|(first|(refine aq ?_)|(refine Ws U 3 ?_;clear U;intro UI w U j7)|(refine VP U eK ?_;clear U;intro hQ w U gU)|(refine Po U ?_;clear U;intro w U)));replace U:=U.drew;refine b0 ?_;intro X;refine az [[0,1,2,3,4,5,6,7,8,9]] ?_;first|(refine ub 10 ?_)|(refine eE 10 rfl (cb (by rfl) 3 _ rfl VS (VQ*2) rfl (c0.at_ ag) _ (rv fV.out) underlying3 rfl) ?_)
   refine az [[11,12,13,14,15,16,17]] ?_;first|(refine ub 18 ?_)|(refine eE 18 rfl (cb (by rfl) 3 _ rfl VS (VQ*2+1) rfl (c0.at_ ag) _ (rx fV.out) underlying3 rfl) ?_)
   refine az [[19,20,21,22,23]] ?_;have Cp:=U.swap;obtain⟨DI,T9⟩:=Cp.close_ O8.out O9.out Pa.out Pb.out (n:=VQ+1) (xs:=bu (o'++ [y])) (by rw[show bu o'++(.int .i64 y.a:: .int .i64 y.z::n1)=bu (o'++ [y])++n1 from by rw[dS,aJ];rfl];exact List.take_left' (by rw[e3,ak,AK.out];rfl));clear U Cp;have U:=DI.base;go_wp2_with(first|(refine aq ?_)|(refine Ws U 3 ?_;clear U;intro UI w U j7)|(refine VP U eK ?_;clear U;intro hQ w U gU)|(refine Po U ?_;clear U;intro w U));replace U:=U.drew;refine wp_region_held_drew (S:=(c0 [⟨hQ,130,[.int .i64 x.a,.int .i64 x.z]⟩])) (by kernel_rfl) ?_ (fun X=>?_)
   ·exact U.bG (by simp)
   refine az [[0,1,2,3,5]] ?_;refine Zj [4,6] ?_;refine ea (fun K Z7=>?_) ?_
   ·refine YL U ?_;refine WE Z7 fun X=>?_;refine aF 6 fun K Z7=>?_;rw[Z (by rfl)];refine bK U 58 130 _ rfl _ [.int .i64 x.a,.int .i64 x.z] rfl rfl (.agg #[.int .i64 0,.int .i64 0]) 2 16 bw cj rfl (by decide) (by decide) ?_;clear U;intro di w U dO;refine WE Z7 fun X=>?_;refine aF 7 fun K Z7=>?_;rw[Z (by rfl)];refine gG DI U T9 rfl _ _ 58 rfl (.agg #[.int .i64 0,.int .i64 0]) 16 bw cj rfl (by decide) rfl ⟨di,0,none⟩ 1 1 [.int .i64 x.a,.int .i64 x.z] rfl rfl (U.news ag) rfl (by unfold maxLen;omega) (by omega) ?_;clear U DI T9;intro WP w U T9;obtain⟨Wq,Wz,rfl⟩:=T9.form;have DI:=U;clear U;have U:=DI.base;refine WE Z7 fun X=>?_;refine az [[8,9],[10]] ?_;clear U;intro w U;go_wp2_with(first|(refine aq ?_)|(refine Ws U 3 ?_;clear U;intro UI w U j7)|(refine VP U eK ?_;clear U;intro hQ w U gU)|(refine Po U ?_;clear U;intro w U));go_roundw
    case rel=>
     refine⟨k+1,by omega,by go_num,?_⟩;rw[xo.out,List.foldl_append,ry.out];rw[show List.foldl fz (o'++ [y]) [x]=(o'++ [y])++ [x]from by rw[dy,iB,Y xp.out];rfl];have Yq:=DI.back U;have p0:=T9.on DI U rfl;obtain⟨p1,n4,mG,UN,Ut,hR,kd,lk,fx⟩:=Yq.open_ p0 (by omega);simp only[Value.slice.injEq]at UN;obtain⟨rfl,-,rfl⟩:=UN;have qM:=Ut.rz;exact .inr ⟨by simp,p1,_,mG,by rw[dS,ak,ak,AK.out];exact qM,hR,by rw[ak,ak,AK.out];exact kd,lk,by rw[dS];exact fx⟩
    case measure=>simp[intOf];omega
   refine ei (fun K Z7=>?_);rw[Z (by rfl)];refine bK U 58 130 _ rfl _ [.int .i64 x.a,.int .i64 x.z] rfl rfl (.agg #[.int .i64 0,.int .i64 0]) 2 16 bw cj rfl (by decide) (by decide) ?_;clear U;intro di w U dO;refine WE Z7 fun X=>?_;refine aF 4 fun K Z7=>?_;refine YL U ?_;refine WE Z7 fun X=>?_;refine aF 7 fun K Z7=>?_;rw[Z (by rfl)];refine gG DI U T9 rfl _ _ 58 rfl (.agg #[.int .i64 0,.int .i64 0]) 16 bw cj rfl (by decide) rfl ⟨di,0,none⟩ 1 1 [.int .i64 x.a,.int .i64 x.z] rfl rfl (U.news ag) rfl (by unfold maxLen;omega) (by omega) ?_;clear U DI T9;intro WP w U T9;obtain⟨Wq,Wz,rfl⟩:=T9.form;have DI:=U;clear U;have U:=DI.base;refine WE Z7 fun X=>?_;refine az [[8,9],[10]] ?_;clear U;intro w U;go_wp2_with(first|(refine aq ?_)|(refine Ws U 3 ?_;clear U;intro UI w U j7)|(refine VP U eK ?_;clear U;intro hQ w U gU)|(refine Po U ?_;clear U;intro w U));go_roundw
   case rel=>
    refine⟨k+1,by omega,by go_num,?_⟩;rw[xo.out,List.foldl_append,ry.out];rw[show List.foldl fz (o'++ [y]) [x]=(o'++ [y])++ [x]from by rw[dy,iB,Y xp.out];rfl];have Yq:=DI.back U;have p0:=T9.on DI U rfl;obtain⟨p1,n4,mG,UN,Ut,hR,kd,lk,fx⟩:=Yq.open_ p0 (by omega);simp only[Value.slice.injEq]at UN;obtain⟨rfl,-,rfl⟩:=UN;have qM:=Ut.rz;exact .inr ⟨by simp,p1,_,mG,by rw[dS,ak,ak,AK.out];exact qM,hR,by rw[ak,ak,AK.out];exact kd,lk,by rw[dS];exact fx⟩
   case measure=>simp[intOf];omega):G:=h
theorem n5{G:Prop}(h:G:=by
 replace U:=U.drew;refine b0 ?_;intro X;refine az [[0,1,2,3,4,5,6,7,8,9,10,11,12,13,14,15,16,17,18,19,20]] ?_;go_wp2_with(first|(refine aq ?_)|(refine Ws U 3 ?_;clear U;intro UI w U j7)|(refine VP U eK ?_;clear U;intro hQ w U gU)|(refine Po U ?_;clear U;intro w U));replace U:=U.drew;refine b0 ?_;intro X;refine az [[0,1,2,3,4,5,6,7,8,9]] ?_;refine aF 10 fun K Z7=>?_;rw[Z (by rfl)];refine bK U 58 130 _ rfl _ [.int .i64 m,.int .i64 z] rfl rfl (.agg #[.int .i64 0,.int .i64 0]) 2 16 bw cj rfl (by decide) (by decide) ?_;clear U;intro di w U dO;refine PK Z7 fun X=>?_;refine aF 11 fun K Z7=>?_;rw[Z (by rfl)];refine sV U _ _ 58 rfl (.agg #[.int .i64 0,.int .i64 0]) 16 bw cj rfl (by decide) rg rfl ag Pc.out ⟨di,0,none⟩ 1 1 [.int .i64 m,.int .i64 z] rfl rfl (by decide) (U.news ag) (by unfold maxLen;omega) (by omega) ?_;clear U;intro WP w U T9;obtain⟨Wq,Wz,rfl⟩:=T9.form;refine PK Z7 fun X=>?_;refine Xh 12 ?_;refine UF ?_;dsimp only[Exit.then]
 apply_assumption
 have DI:=U;clear U;have U:=DI.base;go_wp2_with(first|(refine gZ DI U T9 rfl rfl _ _ 58 rfl (.agg #[.int .i64 0,.int .i64 0]) 16 bw cj rfl (by decide) rfl _ _ _ rfl (show KC _ (fun _=>True) _ 0 2 (fun _=> [.int .i64 0,.int .i64 0])from⟨_,_,rfl,aL _,by unfold maxLen;omega,fun h=>absurd h (by decide)⟩) (fun i h=>absurd h (by omega)) (by unfold maxLen;omega) (by omega) ?_;clear U DI T9;intro WP w U T9;obtain⟨nL,Zo,rfl⟩:=T9.form;have DI:=U;clear U;have U:=DI.base)|(refine aq ?_)|(refine Ws U 3 ?_;clear U;intro UI w U j7)|(refine VP U eK ?_;clear U;intro hQ w U gU)|(refine Po U ?_;clear U;intro w U));have Yq:=DI.back U;have p0:=T9.on DI U rfl;clear DI U T9;obtain⟨sn,n4,iq,UN,Ut,Sl,kd,lk,fx⟩:=Yq.open_ p0 (by omega);simp only[Value.slice.injEq]at UN;obtain⟨rfl,-,rfl⟩:=UN;clear Yq p0;have bo:sn≠L8:=by have:=Ut.UH;simp only[aS,ck,bS,ad,not_or]at this;exact this.1.2.2.1
 have VW:=Ut.b (g:=L8) (by exact N6);have qM:=Ut.drop (L':= [⟨sn,_,_⟩,⟨L8,_,_⟩]) (fun x Wy=>by rcases List.mem_cons.1 Wy with rfl|Wy;exact a8;rcases List.mem_cons.1 Wy with rfl|Wy;exact ao _ (ao _ (ao _ a8));cases Wy) (by simpa using bo);clear Ut VW;rw[show(bu l++ [.int .i64 m,.int .i64 z]++bx 0 2 fun _=> [.int .i64 0,.int .i64 0])++iq=bu (l++ [Ext.mk m z])++iq from by rw[dS];simp[bx,bu]]at qM;have AL:=I qM;clear qM;obtain⟨Zm,pY⟩: ∃Zm,Hid (l++ [Ext.mk m z]=Zm):=⟨_,I rfl⟩
 rw[pY.out]at AL;have iY:=I (show Zm.length=n+1 by rw[<-pY.out,ak,fH.out];rfl);have Fx:=I (show∀y,y∈Zm->pZ y by intro y hy;rw[<-pY.out]at hy;rcases List.mem_append.1 hy with hy|hy;have:=VN.out y hy;unfold pZ;omega;rw[List.mem_singleton.1 hy];unfold pZ;dsimp only;omega);go_loopw [107] (fun i wr=> ∃k:Nat,k<=n+1/\i= .int .i64 k/\BP w0 L8 rg sn a4 U2 (bu Zm++iq) ((Zm.take k).foldl fz []) wr) (fun i _=>n+1-(intOf i).toNat)
 case atStart=>exact⟨0,by omega,rfl,.inl ⟨rfl,AL.out⟩⟩
 case round=>
  obtain⟨k,TS,rfl,VW⟩:=hrel;by_cases ip:k<n+1
  ·obtain⟨pre,x,post,YF,ih,Md,IQ⟩:=so Zm k (by rw[iY.out];exact ip);have IR:=I (show((bu Zm++iq).drop (k*2)).take 2= [.int .i64 x.a,.int .i64 x.z]from by rw[YF];exact wu ih);have LM:=Fx.out x (by rw[YF];simp);have n3:=yX pre [] (fun y hy=>(by cases hy)) (fun y hy=>Fx.out y (by rw[YF];simp[hy]));have xo:=I IQ;have WU:(k:Int)<((n+1:Nat):Int):=by omega
   have Sm:(k:Int)<(n:Int)+1:=by omega
   exact n2
  ·obtain rfl:k=n+1:=by omega
   exact abk):G:=h
def BP(w0:World)(a rg d:Nat)(f c:Int)(e:List Value)(out:List Ext)(w:World):Prop:=
 out= []/\Bx w0 (fun b=>b≠a/\b≠rg) w none [⟨d,130,e⟩,⟨a,363,[.int .i64 f,.int .i64 c,.slice none 0 0]⟩]\/
 out≠ []/\∃VS cap rest,Bx w0 (fun b=>b≠a/\b≠rg) w none [⟨VS,130,bu out++rest⟩,⟨d,130,e⟩,⟨a,363,[.int .i64 f,.int .i64 c,.slice (some ⟨VS,0,none⟩) out.length cap]⟩]/\
  w0.heap.size<=VS/\out.length<=cap/\cap<=maxLen/\(bu out++rest).length=cap*2
def fz(out:List Ext)(x:Ext):List Ext:=match out.getLast? with
 |none=>out++ [x]
 |some y=>if y.a+y.z=x.a then out.dropLast++ [⟨y.a,y.z+x.z⟩]else out++ [x]
theorem qN(x:Ext):fz [] x= [x]:=rfl
theorem iB(o:List Ext)(y x:Ext):fz (o++ [y]) x=if y.a+y.z=x.a then o++ [⟨y.a,y.z+x.z⟩]else(o++ [y])++ [x]:=by
 unfold fz;rw[List.getLast?_concat,List.dropLast_concat]
theorem AM(l:List Ext): ∀(o:List Ext) (x:Ext),l.foldl fz (o++ [x])=o++lY x l:=by
 induction l with
 |nil=>intro o x;rfl
 |cons y l a=>
  intro o x;rw[dy,iB,lY];split
  ·exact a o _
  ·rw[a (o++ [x]) y,aJ];rfl
theorem uy(l:List Ext)(a z:Int):(q6 l ⟨a,z⟩).foldl fz []=give l a z:=by
 unfold give;cases h:q6 l ⟨a,z⟩with
 |nil=>rfl
 |cons x l'=>rw[dy,qN];exact AM l' [] x
theorem BO(pre post:List Ext)(y:Ext)(h1: ∀x,x∈pre->x.a+x.z<=y.a)(b: ∀x,post.head?=some x->y.a<x.a+x.z):q6 (pre++post) y=pre++y::post:=by
 induction pre with
 |nil=>
  cases post with
  |nil=>rfl
  |cons x post=>rw[au,q6,Z (b x rfl)];rfl
 |cons x pre d=>
  rw[aU,q6,Y (by have:=h1 x a8;omega),d fun z c=>h1 z (ao _ c)];rfl
theorem Fy(l:List Ext)(a:Int): ∃pre post,l=pre++post/\(∀x,x∈pre->x.a+x.z<=a)/\∀x,post.head?=some x->a<x.a+x.z:=by
 induction l with
 |nil=>exact⟨[],[],rfl,fun x h=>(by cases h),fun x h=>by simp at h⟩
 |cons y l e=>
  by_cases c:a<y.a+y.z
  ·exact⟨[],y::l,rfl,fun x h=>(by cases h),fun x h=>by simp at h;rw[<-h];exact c⟩
  ·obtain⟨pre,post,rfl,h1,d⟩:=e;refine⟨y::pre,post,rfl,fun x b=>?_,d⟩;rcases List.mem_cons.1 b with rfl|b
   ·omega
   ·exact h1 x b
theorem wv{l:List Ext}{n:Nat}{m r:Int}(b:l.length=n)(dU: ∀y,y∈l->y.a+y.z<=m)(h:r= -1/\(∀i,i<n->(decide (m<(l.getD i ⟨0,0⟩).a+(l.getD i ⟨0,0⟩).z))=false)\/∃i:Nat,r=i/\i<n/\decide (m<(l.getD i ⟨0,0⟩).a+(l.getD i ⟨0,0⟩).z)=true/\∀j,j<i->decide (m<(l.getD j ⟨0,0⟩).a+(l.getD j ⟨0,0⟩).z)=false):r= -1:=by
 exact nT
section
variable{w0 w:World}{S:Nat->Prop}{A:Option XS}
include w0 w S A
theorem Bx.KK{L:List PL}(h:Bx w0 S w A L)(e:TypeId)(sz:Nat):UC w0 w A L e sz (.slice none 0 0) 0 []:=UC.nil _ _ _ _ _ _
theorem Bx.rz{a b c d e:PL}(h:Bx w0 S w A [a,b,c,d,e]):Bx w0 S w A [a,d,e]:=h.swap.c6.swap.c6
theorem Bx.Me{a b c d e:PL}(h:Bx w0 S w A [a,b,c,d,e]):Bx w0 S w A [a,d]:=by
 have f:=h.rz;refine f.drop (fun x g=>?_) ?_
 ·simp only[ad,E,av]at g⊢;rcases g with rfl|rfl<;>simp
 ·have:=f.UH;simp only[aS,ck,bS,ad,E,av,not_or,not_false_eq_true,List.nodup_nil,and_true]at this⊢;exact this.1.1
end
theorem yW(l:List Ext)(h:l≠ []):l.foldl fz []≠ []:=by
 rcases ct l with rfl|⟨o',y,rfl⟩
 ·exact absurd rfl h
 ·rw[cu,List.foldl_append];show fz _ y≠ [];unfold fz;split
  ·simp
  ·split<;>simp
theorem Fz{w:World}{rg p c:Nat}{pre l:List Ext}{rest:List Value}(h:ah w rg 130 (bu pre++(bu l++rest)).toArray)(a:pre.length=p)(h1:l.length<=c)(d:c<=maxLen):KC w (fun b=>b=rg) (.slice (some ⟨rg,p*2,none⟩) l.length c) l.length 2 (eP l):=
 ⟨_,_,rfl,h1,d,fun _=>⟨rg,p*2,rfl,rfl,h.lt,fun i j u hi hu=>by
   have e:=sk l i j u hi hu
   rw[h.cell,aE,ay (by rw[e3,a];omega),e3,a,show p*2+(i*2+j)-p*2=i*2+j from J,aA (List.getElem?_eq_some_iff.1 e).1]
   exact e⟩⟩
theorem acv(l:List Ext):bx l.length 2 (eP l)=bu l:=by
 apply List.ext_getElem?;intro j;by_cases c:j<l.length*2
 ·have hi:j/2<l.length:=by omega
  obtain⟨a,b,e,_⟩:=iA l (j/2) hi;have hu: ∃u,(eP l (j/2))[j %2]? =some u:=by
   rw[e];rcases(by omega:j %2=0\/j %2=1)with h|h<;>rw[h]<;>exact⟨_,rfl⟩
  obtain⟨u,hu⟩:=hu;have h1:=pO (F:=eP l) (n:=l.length) (sz:=2) (fun i hi=>(kn l l.length i hi).1) hi hu;have d:=sk l (j/2) (j %2) u hi hu;rw[show j/2*2+j %2=j from J]at h1 d;rw[h1,d]
 ·rw[aV (by rw[cv];omega),aV (by rw[e3];omega)]
theorem kh{α:Type}(o:List α):o= []\/∃o' y,o=o'++ [y]:=by
 rcases ct o with h|⟨o',y,h⟩
 ·exact .inl h
 ·exact .inr ⟨o',y,by rw[h,cu]⟩
theorem so{α:Type}(l:List α)(k:Nat)(h:k<l.length): ∃pre x post,l=pre++x::post/\pre.length=k/\l.take k=pre/\l.take (k+1)=pre++ [x]:=by
 refine⟨l.take k,l[k],l.drop (k+1),?_,by simp;omega,rfl,?_⟩
 ·rw[List.getElem_cons_drop,b9]
 ·rw[List.take_add_one,an h];rfl
theorem wu{pre post:List Ext}{x:Ext}{rest:List Value}{k:Nat}(h:pre.length=k):((bu (pre++x::post)++rest).drop (k*2)).take 2= [.int .i64 x.a,.int .i64 x.z]:=by
 rw[dS,aJ,List.drop_left' (by rw[e3,h]),eS];rfl
def pZ(y:Ext):Prop:=0<=y.a/\y.a<=65536/\0<=y.z/\y.a+y.z<=131072
theorem CP{o:List Ext}{x:Ext}(d: ∀y,y∈o->pZ y)(e:pZ x): ∀y,y∈fz o x->pZ y:=by
 rcases kh o with rfl|⟨o',y,rfl⟩
 ·intro z b;rw[qN]at b;rw[List.mem_singleton.1 b];exact e
 ·rw[iB];have hy:=d y aN;split
  ·rename_i c;intro z b;rcases List.mem_append.1 b with b|b
   ·exact d z (by simp[b])
   ·rw[List.mem_singleton.1 b];unfold pZ at*;exact⟨hy.1,hy.2.1,by show 0<=y.z+x.z;omega,by show y.a+(y.z+x.z)<=_;omega⟩
  ·intro z b;rcases List.mem_append.1 b with b|b
   ·exact d z b
   ·rw[List.mem_singleton.1 b];exact e
theorem AN(o:List Ext)(x:Ext):(fz o x).length<=o.length+1:=by
 rcases kh o with rfl|⟨o',y,rfl⟩
 ·simp[qN]
 ·rw[iB];split<;>simp
theorem yX(l:List Ext): ∀o,(∀y,y∈o->pZ y)->(∀y,y∈l->pZ y)->(∀y,y∈l.foldl fz o->pZ y)/\(l.foldl fz o).length<=o.length+l.length:=by
 induction l with
 |nil=>intro o h _;exact⟨h,aN⟩
 |cons x l b=>
  intro o h a;have c:=b (fz o x) (CP h (a x aN)) (fun y hy=>a y (by simp[hy]));have:=AN o x;refine⟨c.1,?_⟩;rw[dy,aI];omega
theorem CQ{pre post:List Ext}{x:Ext}{p n:Nat}{m r:Int}(b:pre.length=p)(U4:p<n)(d:m<x.a+x.z)(dU: ∀y,y∈pre->y.a+y.z<=m)(h:r= -1/\(∀i,i<n->(decide (m<((pre++x::post).getD i ⟨0,0⟩).a+((pre++x::post).getD i ⟨0,0⟩).z))=false)\/∃i:Nat,r=i/\i<n/\decide (m<((pre++x::post).getD i ⟨0,0⟩).a+((pre++x::post).getD i ⟨0,0⟩).z)=true/\∀j,j<i->decide (m<((pre++x::post).getD j ⟨0,0⟩).a+((pre++x::post).getD j ⟨0,0⟩).z)=false):r=p:=by
 have Wy:(pre++x::post).getD p ⟨0,0⟩=x:=by
  rw[ae,ay J,b,Nat.sub_self];rfl
 have bV: ∀i,i<p->((pre++x::post).getD i ⟨0,0⟩).a+((pre++x::post).getD i ⟨0,0⟩).z<=m:=fun i hi=>by
  exact nU
 exact nV
end
section
open Go.RowKit
abbrev gh(p:PO)(c:Value)(ap b:Nat)(a Z2:Value)(st:Int):List Value:= [.int .i64 p.s,.int .i64 p.t,.int .i64 p.i,.int .i64 p.h,c,.pointer (some ⟨ap,0,none⟩),.pointer (some ⟨b,0,none⟩),a,Z2,.int .i64 st]
abbrev fI(T6 d VZ:Value)(r:RJ)(x:Yr)(busy:Bool)(e:Nat):List Value:= [T6,d,VZ,
 .int .u8 r.call.op,.int .u8 r.call.r,.int .u8 r.call.h,.int .u8 r.call.v,.int .i64 r.call.a,.int .i64 r.call.b,.int .i64 r.call.c,
 .int .i64 r.Xj,.int .i64 r.af,.int .u64 r.hand,.int .u64 r.val,x.TQ,.int .u64 r.word,.int .u64 r.next,.int .i64 r.at_,.int .i64 r.top,x.ls,.int .i64 r.op,x.Wh,.int .i64 r.n,.bool r.held,.bool r.fin,.bool r.bF,
 .int .i64 r.aC.code,.int .i64 r.aC.n,x.Y1,.bool busy,.int .i64 e]
theorem ah.ne{w:World}{a b:Nat}{s t:TypeId}{cs ds:Array Value}(h:ah w a s cs)(k:ah w b t ds)(d:s≠t):a≠b:=fun e=>by
 subst e;have:=Option.some.inj (h.symm.trans k);injection this with _ c
 exact d c
section
variable{w0 w j w':World}{S:Nat->Prop}{L:List PL}{d ap i n f rg l:Nat}{V V2:Nat->Int}{t:TypeId}{cs:List Value}
theorem Bx.found(h:Bx w0 (fun b=>b≠d) w none L)(z:ar j ap i n V2)(y:ar w0 ap i n V)(G:f<w0.heap.size/\rg<w0.heap.size)(A:ap≠f/\ap≠rg/\i≠f/\i≠rg)(u:d≠ap/\d≠i/\d≠f/\d≠rg)
 (k:Z1 (fun b=>b≠i/\b≠f/\b≠rg) w j)(r:l=rg\/w.heap.size<=l):
 Bx w0 (fun b=>b≠d/\b≠i/\b≠f/\b≠rg) j (some ⟨ap,i,n,V2⟩) L/\bq (some ⟨ap,i,n,V2⟩) L f/\bq (some ⟨ap,i,n,V2⟩) L l:=by
 have F:=ar.c9 y;obtain⟨RV,C,s,v⟩:=A;have B:l≠i:=by
  rcases r with c|c
  ·rw[c];exact fun e=>v e.symm
  ·have:=h.size;omega
 have q: ∀x,x∈L->x.g≠ap/\x.g≠i/\x.g≠f/\x.g≠rg:=fun x m=>by
  rcases h.fr x m with c|c
  ·exact⟨J,J,J,J⟩
  ·have:x.g=d:=Classical.byContradiction c;rw[this];exact u
 refine⟨⟨fun x m=>?_,h.UH,fun x m=>?_,⟨k.os.trans h.Wu.os,k.tape.trans h.Wu.tape,k.output.trans h.Wu.output,D h.Wu.size k.size,fun b hb p=>?_⟩,z,fun a e=>?_⟩,⟨fun x m e=>(q x m).2.2.1 e,fun a e o=>?_⟩,⟨fun x m e=>?_,fun a e o=>?_⟩⟩
 ·have:=q x m;exact(k.block x.g (h.bC x m).lt ⟨this.2.1,this.2.2.1,this.2.2.2⟩).trans (h.bC x m)
 ·rcases h.fr x m with c|c
  ·exact .inl c
  ·exact .inr fun p=>c p.1
 ·exact(k.block b (aj hb h.Wu.size) p.2).trans (h.Wu.block b hb p.1)
 ·cases e;exact⟨fun x m=>(q x m).1,fun x m=>(q x m).2.1,.inr fun p=>p.2.1 rfl⟩
 ·cases e;exact s o.symm
 ·rcases r with rfl|r
  ·exact(q x m).2.2.2 e
  ·have:=(h.bC x m).lt;omega
 ·cases e;exact B o
theorem Bx.rA{m:RJ}{x:Yr}(h:Bx w0 (fun b=>b≠d) w none L)(p:aW j (fun b=>(S b\/w.heap.size<=b)/\b≠i/\b≠f/\b≠l) m x)(hS: ∀b,S b->b<w0.heap.size/\b≠d):
 aW j (fun b=>((S b\/w0.heap.size<=b)/\b≠i/\b≠f/\b≠l)/\bq (some ⟨ap,i,n,V2⟩) L b) m x:=
 p.mono fun b _ hb=>by
  refine⟨⟨hb.1.imp id fun g=>D h.size g,hb.2⟩,fun y hy e=>?_,fun a e k=>?_⟩
  ·rcases hb.1 with o|o
   ·have:=hS b o
    rcases h.fr y hy with c|c
    ·omega
    ·exact c (by rw[e];exact this.2)
   ·have:=(h.bC y hy).lt;omega
  ·cases e;exact hb.2.1 k
theorem Bx.Pe(h:Bx w0 (fun b=>b≠d/\b≠i/\b≠f/\b≠rg) w (some ⟨ap,i,n,V2⟩) L)(hb:ah w0 d t cs.toArray)(hi:In L d t cs):Z1 (fun b=>b≠i/\b≠f/\b≠rg) w0 w:=
 ⟨h.Wu.os,h.Wu.tape,h.Wu.output,h.Wu.size,fun b e a=>by
   by_cases c:b=d
   ·subst c
    exact(show w.heap[b]? =_ from h.bC _ hi.mem).trans (show w0.heap[b]? =_ from hb).symm
   ·exact h.Wu.block b e ⟨c,a⟩⟩
end
end
section
open Go.RowKit Tryz
theorem n6{G:Prop}(h:G:=by
 rw[Pf]at U UL;clear Pf ga;go_enter func105,ntmps105;go_wp2_with(first|(refine aq ?_));go_ret;exact⟨rfl,U.ro UL.out ag⟩):G:=h
structure WB where
 O3:Nat
 ap:Nat
 WC:Nat
 L8:Nat
 rg:Nat
 VS:Nat
 Y8:Value
 uf:Value
 Z2:Value
 Vs:Nat->Value
 O4:Nat->Nat
 YS:Nat->Nat
 T6:Nat->Value
 VZ:Nat->Value
 x:Nat->Yr
 Yi:Nat->Prop
def Ur(B:WB)(T b:Nat):Prop:=b=B.O3\/b=B.ap\/b=B.WC\/b=B.L8\/b=B.rg\/b=B.VS\/∃i,i<T/\(b=B.O4 i\/b=B.YS i)
abbrev ZB(B:WB)(T:Nat):Nat->Prop:=fun b=> ¬Ur B T b
abbrev Ve(B:WB)(T:Nat):Nat->Prop:=fun b=> ¬Ur B T b/\B.Yi b
def yZ(l:List dM)(i:Nat):List Value:=(l[i]?.map fun c=>(hP c).toList).getD []
abbrev vO(w:World)(S:Nat->Prop)(v:Value)(l:List dM):Prop:=KC w S v l.length 7 (yZ l)
def dN(o:db)(v:Value):List Value:= [.int .i64 o.XT,.int .u8 o.call.op,.int .u8 o.call.r,.int .u8 o.call.h,.int .u8 o.call.v,.int .i64 o.call.a,.int .i64 o.call.b,.int .i64 o.call.c,.int .i64 o.fr,.int .i64 o.pt,.int .i64 o.e2,.int .i64 o.aC.code,.int .i64 o.aC.n,v]
theorem kK(o:db)(v:Value):(dN o v).length=14:=rfl
def opsV(l:List (db×Value)):List Value:=l.flatMap fun q=>dN q.1 q.2
def ll(l:List (db×Value))(i:Nat):List Value:=(l[i]?.map fun q=>dN q.1 q.2).getD []
structure fp(w:World)(S:Nat->Prop)(O4 YS:Nat)(T6 VZ:Value)(x:Yr)(t:eD):Prop where
 bC:ah w O4 200 (fI T6 (.slice (some ⟨YS,0,none⟩) 4 4) VZ t.run x t.busy t.at_).toArray
 reg:ah w YS 59 (bN .u64 4 t.regs).toArray
 sq:vO w S T6 t.calls
 m6:de w S VZ t.aD
 run:aW w S t.run x
structure FA(w:World)(S:Nat->Prop)(VS:Nat)(Z2:Value)(l:List db):Prop where
 ex: ∃US:List (db×Value),US.map Prod.fst=l/\(∀q,q∈US->cF w S q.2 q.1.aC.said)/\
  (Z2= .slice none 0 0/\US= []\/∃cap rest,Z2= .slice (some ⟨VS,0,none⟩) US.length cap/\ah w VS 46 (opsV US++rest).toArray/\US.length<=cap/\cap<=maxLen/\(opsV US++rest).length=cap*14)
structure df(w:World)(B:WB)(p:PO)(F:b1)(n:Nat)(W:Wd):Prop where
 wd:ah w B.O3 142 (gh p B.Y8 B.ap B.L8 B.uf B.Z2 W.n).toArray
 VB:ar w B.ap B.WC n W.V
 gr:cY w B.L8 B.rg (64*p.s+p.i) (64*p.s+p.i+p.h) W.fr
 YV:eF w (Ve B p.t.toNat) B.Y8 F B.Vs
 Wl:KC w (Ve B p.t.toNat) B.uf p.t.toNat 1 fun i=> [.pointer (some ⟨B.O4 i,0,none⟩)]
 XT: ∀i,i<p.t.toNat->fp w (Ve B p.t.toNat) (B.O4 i) (B.YS i) (B.T6 i) (B.VZ i) (B.x i) (W.XT i)
 op:FA w (Ve B p.t.toNat) B.VS B.Z2 W.ops
 CR: ∀i j,i<p.t.toNat->j<p.t.toNat->i≠j->B.O4 i≠B.O4 j/\B.YS i≠B.YS j
 CS: ∀i,i<p.t.toNat->B.YS i≠B.WC
 AO:B.ap≠B.L8/\B.ap≠B.rg/\B.ap≠B.VS/\B.ap≠B.O3/\∀i,i<p.t.toNat->B.ap≠B.O4 i/\B.ap≠B.YS i
 FB:B.VS≠B.O3/\B.VS≠B.WC/\B.VS≠B.L8/\B.VS≠B.rg/\∀i,i<p.t.toNat->B.VS≠B.O4 i/\B.VS≠B.YS i
theorem l7(w0:World)(S:Nat->Prop)(a i:Nat)(T6 VZ:Value)(x:Yr)(t:eD)(h:fp w0 S a i T6 VZ x t)(g:t.calls.length<=65536):
 Calls prog 105 #[.pointer (some ⟨a,0,none⟩)] w0 fun e w'=>e= .returned (.bool t.ended)/\Below w0.heap.size w0 w':=by
 obtain⟨A,c,e,-,-,-⟩:=id h.sq;subst e;have hb:=h.bC;have UL:=I hb;have U:=Bx.g8 hb;unfold eD.ended;obtain⟨l,d⟩: ∃l,t.calls.length=l:=⟨_,rfl⟩
 have f:t.calls.isEmpty=((l:Int)==0):=by
  rw[<-d];cases t.calls with
  |nil=>rfl
  |cons c l=>simp;omega
 rw[f];rw[d]at U UL;have ga: ∀b,t.busy=b->Hid (t.busy=b):=fun b h=>I h;clear h f d hb g;cases Pf:t.busy with
 |true=>
  exact n6
 |false=>
  exact n6
end
section
open Go.RowKit Tryz
theorem n7{G:Prop}(h:G:=by
 refine aF 5 fun K Z7=>?_;refine Uy U (ds:= [.int .u8 A',.int .u8 B']) (hv:=by rw[Zn.out,UL.out];rfl) ?_;clear U;intro w U;rw[Zn.out,UL.out]at U;refine PK Z7 fun X=>?_;refine UF ?_;dsimp only[Exit.then]
 apply_assumption
 go_upto_region 2 with fail
 replace U:=U.swap;replace U:=U.drew;refine wp_region_held_drew (by kernel_rfl) U.l0 (fun X=>?_);refine az [[0,1,2,3,4,5,6,7,8,9,10,11,12,13,14],[15]] ?_;clear U;intro w U;dsimp only[Exit.then]
 apply_assumption
 go_wp2_with fail;refine cw results115 rfl rfl ⟨_,U.b ag,rfl⟩ underlying100 rfl (by kernel_rfl) ?_;exact⟨FC (by first|(rw[al Ya.1,IntKind.wrap_i64];omega)|(rw[IntKind.wrap_i64];omega)) (by first|(rw[al UJ.1,IntKind.wrap_i64];omega)|(rw[IntKind.wrap_i64];omega)),U.all⟩):G:=h
abbrev sW(e:Nat->Int):Value:=.agg #[.int .u8 (e 0),.int .u8 (e 1),.int .u8 (e 2),.int .u8 (e 3),.int .u8 (e 4),.int .u8 (e 5),.int .u8 (e 6),.int .u8 (e 7)]
def e0(e:Nat->Int):Prop:= ∀i,0<=e i/\e i<=255
def numOf(e:Nat->Int):Int:=e 4+256*e 5
def fJ(e:Nat->Int):dM:=⟨e 2,e 3 %4,e 3/4 %4,e 3/16 %4,if 32768<=numOf e then numOf e-65536 else numOf e,e 6,e 7 %8⟩
def dV(e:Nat->Int):jc:=⟨e 2,e 4 %(if e 2=0 then 64 else if e 2=4 then 1 else 6),e 5 %(if e 2=2 then 6 else if e 2=3 then 9 else 1)⟩
theorem IT(a b:Int)(d:0<=a/\a<=255)(hb:0<=b/\b<=255):bits .or .i64 a (b*256)=a+256*b:=by
 obtain⟨c,rfl⟩:=bn d.1;obtain⟨K,rfl⟩:=bn hb.1;have e:((K:Int)*256)=((2^8*K:Nat):Int):=J;rw[e,(bits_nat .i64 63 am gM c (2^8*K) J J).2,Nat.or_comm,<-Nat.two_pow_add_eq_or_of_lt (by omega:c<2^8)];omega
theorem wraps_u8(n:Int)(a:0<=n)(b:n<2^8):IntKind.u8.wrap n=n:=by rw[IntKind.wrap_u8];omega
theorem uA(x:Int)(h:0<=x/\x<=255):bits .and .u8 x 3=x %4:=by
 obtain⟨n,rfl⟩:=bn h.1;rw[show(3:Int)=((3:Nat):Int)from rfl,(bits_nat .u8 8 am wraps_u8 n 3 J J).1,show(3:Nat)=2^2-1 from rfl,cD];rfl
theorem sr(w0:World)(e:Nat->Int)(b:e0 e):
 Calls prog 116 #[sW e] w0 fun x w'=>x= .returned (.int .i64 (numOf e))/\Below w0.heap.size w0 w':=by
 have c:=b 4;have a:=b 5;have U:=Bx.a0 w0;go_enter func116,ntmps116;go_wp2_with(first|(refine aq ?_)|(refine aT ?_;clear U;intro f w U d));go_ret;exact⟨lC (IT _ _ c a),U.all⟩
theorem BQ(w0:World)(e:Nat->Int)(a:e0 e):
 Calls prog 114 #[sW e] w0 fun x w'=>x= .returned (.agg (hP (fJ e)))/\Below w0.heap.size w0 w':=by
 have c:=I a;have d:=a 3;have l:=a 7;have p:=a 6;have r:=a 4;have n:=a 5;have j:=uA (e 3) d;have i:=uA (e 3/4) J;have q:=uA (e 3/16) J;have m:IntKind.i64.wrap (numOf e-65536)=numOf e-65536:=by rw[IntKind.wrap_i64];unfold numOf;omega
 clear a;have U:=Bx.a0 w0;go_enter func114,ntmps114;go_wp2_with(first|(go_at_call 116;refine a6 U (sr _ e c.out) ?_;clear U;intro f U)|(refine aq ?_)|(refine aT ?_;clear U;intro o w U h))
 ·refine cw results114 rfl rfl ⟨_,U.b ag,rfl⟩ underlying42 rfl aM ?_;refine⟨?_,U.all⟩;unfold fJ;rw[Z ‹ _ ›]
 ·refine cw results114 rfl rfl ⟨_,U.b ag,rfl⟩ underlying42 rfl aM ?_;refine⟨?_,U.all⟩;unfold fJ;rw[aB]
theorem ww(w0:World):Calls prog 194 #[] w0 fun x w'=>x= .returned (.agg #[.int .u8 64,.int .u8 1,.int .u8 6,.int .u8 1,.int .u8 6,.int .u8 6,.int .u8 6,.int .u8 9,.int .u8 1,.int .u8 1])/\Below w0.heap.size w0 w':=by
 have U:=Bx.a0 w0;go_enter func194,ntmps194;go_wp2_with(first|(refine aT ?_;clear U;intro c w U a));refine cw results194 rfl rfl ⟨_,U.b ag,rfl⟩ underlying299 rfl aM ?_;exact⟨rfl,U.all⟩
theorem FC{b f e d a:Int}(h1:f=e)(c:d=a):Ending.returned (.agg #[.int .u8 b,.int .i64 f,.int .i64 d])= .returned (.agg #[.int .u8 b,.int .i64 e,.int .i64 a]):=by rw[h1,c]
theorem IU(w0:World)(j i a o c d f n A B:Int)(Ya:0<=c/\c<=255)(UJ:0<=d/\d<=255)(h:a=0/\A=64/\B=1\/a=1/\A=6/\B=1\/a=2/\A=6/\B=6\/a=3/\A=6/\B=9\/a=4/\A=1/\B=1):
 Calls prog 115 #[.agg #[.int .u8 j,.int .u8 i,.int .u8 a,.int .u8 o,.int .u8 c,.int .u8 d,.int .u8 f,.int .u8 n]] w0 fun x w'=>x= .returned (.agg #[.int .u8 a,.int .i64 (c %A),.int .i64 (d %B)])/\Below w0.heap.size w0 w':=by
 have U:=Bx.a0 w0;obtain⟨A',Zn⟩: ∃x,Hid (x=A):=⟨A,I rfl⟩
 obtain⟨B',UL⟩: ∃x,Hid (x=B):=⟨B,I rfl⟩
 rcases h with⟨rfl,rfl,rfl⟩|⟨rfl,rfl,rfl⟩|⟨rfl,rfl,rfl⟩|⟨rfl,rfl,rfl⟩|⟨rfl,rfl,rfl⟩<;>(
  go_enter func115,ntmps115;go_upto_region 1 with(first|(refine aq ?_)|(refine aT ?_;clear U;intro q w U p))
  replace U:=U.drew;refine b0 ?_;intro X;refine az [[1,2]] ?_;refine Zj [0,4] ?_;refine ea (fun K Z7=>?_) ?_
  ·go_simp;go_at_call 194;refine a6 U (ww _) ?_;clear U;intro e U;go_wp2_with fail;refine PK Z7 fun X=>?_;refine Zj [3,4] ?_;refine ea (fun K Z7=>?_) ?_
   ·go_simp;refine PK Z7 fun X=>?_;refine az [[],[4]] ?_;clear U;intro m l w U;exact n7
   refine ei (fun K Z7=>?_);refine ZZ U Ag ?_;clear U;intro m w U l;refine PK Z7 fun X=>?_;refine aF 3 fun K Z7=>?_;go_simp;refine PK Z7 fun X=>?_;exact n7
  refine ei (fun K Z7=>?_);refine ZZ U Ag ?_;clear U;intro m w U l;refine PK Z7 fun X=>?_;refine aF 0 fun K Z7=>?_;go_simp;go_at_call 194;refine a6 U (ww _) ?_;clear U;intro e U;go_wp2_with fail;refine PK Z7 fun X=>?_;refine aF 3 fun K Z7=>?_;go_simp;refine PK Z7 fun X=>?_;refine aF 5 fun K Z7=>?_;refine Uy U (ds:= [.int .u8 A',.int .u8 B']) (hv:=by rw[Zn.out,UL.out];rfl) ?_;clear U;intro w U;rw[Zn.out,UL.out]at U;refine PK Z7 fun X=>?_;refine UF ?_;dsimp only[Exit.then]
  apply_assumption
  go_upto_region 2 with fail
  replace U:=U.swap;replace U:=U.drew;refine wp_region_held_drew aM U.l0 (fun X=>?_);refine az [[0,1,2,3,4,5,6,7,8,9,10,11,12,13,14],[15]] ?_;clear U;intro w U;dsimp only[Exit.then]
  apply_assumption
  go_wp2_with fail;refine cw results115 rfl rfl ⟨_,U.b ag,rfl⟩ underlying100 rfl aM ?_;exact⟨FC (by first|(rw[al Ya.1,IntKind.wrap_i64];omega)|(rw[IntKind.wrap_i64];omega)) (by first|(rw[al UJ.1,IntKind.wrap_i64];omega)|(rw[IntKind.wrap_i64];omega)),U.all⟩)
theorem KM(w0:World)(e:Nat->Int)(c:e0 e)(d:e 2<=4):
 Calls prog 115 #[sW e] w0 fun x w'=>x= .returned (.agg #[.int .u8 (dV e).op,.int .i64 (dV e).a,.int .i64 (dV e).b])/\Below w0.heap.size w0 w':=by
 have f:=c 2;exact IU w0 (e 0) (e 1) (e 2) (e 3) (e 4) (e 5) (e 6) (e 7) _ _ (c 4) (c 5) (by
  rcases(by omega:e 2=0\/e 2=1\/e 2=2\/e 2=3\/e 2=4)with h|h|h|h|h<;>simp[h])
end
section
open Go.RowKit Tryz
theorem Jm(w0:World)(L8 rg:Nat)(a4 U2 m z:Int)(pre post:List Ext)(y:Ext)(hm:a4<=m/\0<=a4/\m %8=0)(Ub:1<=z/\z %8=0/\m+z<=U2/\U2<=65536)(cV:(pre++y::post).length<=65536)(dU: ∀x,x∈pre->x.a+x.z<=m)(zv:m<y.a+y.z)(adw:m+z<=y.a)(l: ∀x,x∈pre++y::post->0<=x.a/\x.a<=65536/\0<=x.z/\x.z<=65536)(cap:Nat)(rest:List Value)(j:ah w0 rg 130 (bu (pre++y::post)++rest).toArray)(XP:(pre++y::post).length<=cap)(L:cap<=maxLen)(l5:L8≠rg)(hb:ah w0 L8 363 ([.int .i64 a4,.int .i64 U2,.slice (some ⟨rg,0,none⟩) (pre++y::post).length cap]:List Value).toArray):
 Calls prog 284 #[.pointer (some ⟨L8,0,none⟩),.int .i64 m,.int .i64 z] w0 fun e w'=> ∃H,e= .returned (.int .i64 0)/\cY w' L8 H a4 U2 (give (pre++y::post) m z)/\(H=rg\/w0.heap.size<=H)/\Z1 (fun b=>b≠L8/\b≠rg) w0 w':=by
 obtain⟨p,s⟩: ∃p,Hid (pre.length=p):=⟨_,I rfl⟩
 obtain⟨q,P⟩: ∃q,Hid (post.length=q):=⟨_,I rfl⟩
 have u:(pre++y::post).length=p+1+q:=by rw[ak,aI,s.out,P.out];omega
 have C:=I (show(y::post).length=q+1 by rw[aI,P.out]);have M: ∀f:World,ah f rg 130 (bu (pre++y::post)++rest).toArray->KC f (fun b=>b=rg) (.slice (some ⟨rg,0,none⟩) (p+1+q) cap) (p+1+q) 2 (eP (pre++y::post)):=fun f h=>by
  have:=mF h XP L;rw[u]at this;exact this
 replace M:=I M;rw[u]at hb XP cV;have G: ∀f:World,ah f rg 130 (bu pre++(bu (y::post)++rest)).toArray->KC f (fun b=>b=rg) (.slice (some ⟨rg,p*2,none⟩) (q+1) (cap-p)) (q+1) 2 (eP (y::post)):=fun f h=>by
  have:=Fz (c:=cap-p) h s.out (by rw[C.out];omega) (by unfold maxLen at*;omega);rw[C.out]at this;exact this
 replace G:=I G;have fH:=I u;have o:bu (pre++y::post)++rest=bu pre++(.int .i64 y.a:: .int .i64 y.z::(bu post++rest)):=by rw[dS,eS,aJ];rfl
 have Yl:=I o;have F5:=I (show bu pre++(bu (y::post)++rest)=bu pre++(.int .i64 y.a:: .int .i64 y.z::(bu post++rest)) by rw[eS];rfl);rw[o]at j;have jx:=I (show(bu pre).length=p*2 by rw[e3,s.out]);have Gw:=I (show∀i,i<p+1+q->0<=((pre++y::post).getD i ⟨0,0⟩).a/\((pre++y::post).getD i ⟨0,0⟩).a<=65536/\0<=((pre++y::post).getD i ⟨0,0⟩).z/\((pre++y::post).getD i ⟨0,0⟩).z<=65536 from fun i hi=>by
  rw[ae,an (by rw[u];exact hi)];exact l _ (bA _))
 have mx:=I dU;have W:=I zv;have VN:=I l;have v: ∀args w,(callFunc 337 args).run prog w= .ok (.enter 337 args) w:=enters_of func337 aM rfl;have R:=I v;have rs: ∀(fn:Fn) (first cap:Array Value) (w:World),(Instr.makeFunc fn first cap).run prog w= .ok (.func fn first cap) w:=fun _ _ _ _=>rfl;have U:=Bx.two hb j l5;have O7:=l y aN;have VQ:decide (z<1)=false:=by simp;omega
 have ya:IntKind.i64.wrap (U2-1)=U2-1:=by rw[IntKind.wrap_i64];omega
 have VD:IntKind.i64.wrap (U2-m)=U2-m:=by rw[IntKind.wrap_i64];omega
 have Zq:decide (z>U2-m)=false:=by simp;omega
 have z0:(0:Int)<=z:=J;have t2:(z.tmod 8 !=0)=false:=by rw[al J];simp;omega
 have t3:(m.tmod 8 !=0)=false:=by rw[al J];simp;omega
 have ado:decide (a4<=m)=true:=by simpa using hm.1
 have PM:decide (m<=U2-1)=true:=by simp;omega
 have aeM:decide ((p:Int)<0)=false:=aN;have aeN:IntKind.i64.wrap (m+z)=m+z:=by rw[IntKind.wrap_i64];omega
 have aeO:decide (y.a<m+z)=false:=by simp;omega
 have aeQ:(p:Int)<(p:Int)+1+(q:Int):=J;have YK:(0:Int)<=m:=J;have Vj:a4<=m:=J;have PN:m<=U2-1:=J;have xC:(0:Int)<=(p:Int):=J;have vN:(p:Int)<=(cap:Int):=J;have ZF:(p:Int)+1+(q:Int)<=(cap:Int):=J;have YR:(p:Int)<=(p:Int):=J;have WT:(p:Int)<=(p:Int)+1+(q:Int):=J;have adv:p+1+q-p=q+1:=J;have abB:p<cap:=J;have yU:=I L;unfold maxLen at L;clear dU l v hb j u o zv;go_enter func284,ntmps284;go_wp2_with(first|(refine aq ?_)|(refine Ws U 3 ?_;clear U;intro UI w U j7)|(refine VP U eK ?_;clear U;intro hQ w U gU)|(refine Po U ?_;clear U;intro w U));replace U:=U.drew;refine b0 ?_;intro X;refine az [[0,1,2,3,4,5,6,7,8,9,10,11,12,13,14,15,16,17,18,19,20,21,22]] ?_;refine aF 23 fun K Z7=>?_;go_simp
 (first|(go_at_call 104;refine(fM _ _ _ _).mono ?_;rintro e w' ⟨rfl,rfl⟩)|skip)
 (try go_wp2_with fail)
 refine PK Z7 fun X=>?_;refine az [[24,25,26,27,28,29,30,31,32,33,34,35]] ?_;go_wp2_with(first|(go_at_call 301;have Yq:=U.b (g:=UI) ag;refine Calls.mono (jw _ (fun b=>b=rg) (.slice (some ⟨rg,0,none⟩) (p+1+q) cap) (p+1+q) (eP (pre++y::post)) (fun i=>.agg #[.int .i64 ((pre++y::post).getD i ⟨0,0⟩).a,.int .i64 ((pre++y::post).getD i ⟨0,0⟩).z]) 337 #[.pointer (some ⟨UI,0,none⟩)] (fun i=>decide (m<((pre++y::post).getD i ⟨0,0⟩).a+((pre++y::post).getD i ⟨0,0⟩).z)) R.out (M.out _ (by rw[Yl.out];exact U.b (g:=rg) ag)) (fun i hi=>iA (pre++y::post) i (by rw[fH.out];exact hi)) J (fun i hi w' T=>uv w' _ m _ _ (Yq.below T Yq.lt) (Gw.out i hi))) ?_;rintro e f ⟨r,rfl,j,N⟩;replace U:=U.below N;clear Yq N;obtain rfl:r=(p:Int):=CQ s.out J W.out mx.out j;clear j)|(refine aq ?_)|(refine Ws U 3 ?_;clear U;intro UI w U j7)|(refine VP U eK ?_;clear U;intro hQ w U gU)|(refine Po U ?_;clear U;intro w U));replace U:=U.drew;refine b0 ?_;intro X;refine az [[0,1,2,3,4,5,6,7,8,9,10,11,12,13,14]] ?_;first|(refine ub 15 ?_)|(refine eE 15 rfl (cb (by rfl) 3 _ rfl rg (p*2) rfl (c0.at_ ag) _ (rv jx.out) underlying3 rfl) ?_)
 refine az [[16,17,18,19,20]] ?_;go_wp2_with(first|(refine aq ?_)|(refine Ws U 3 ?_;clear U;intro UI w U j7)|(refine VP U eK ?_;clear U;intro hQ w U gU)|(refine Po U ?_;clear U;intro w U));replace U:=U.drew;refine b0 ?_;intro X;refine az [[0,1,2,3,4,5,6,7,8,9]] ?_;refine aF 10 fun K Z7=>?_;rw[Z (by rfl)];refine bK U 58 130 _ rfl _ [.int .i64 m,.int .i64 z] rfl rfl (.agg #[.int .i64 0,.int .i64 0]) 2 16 bw cj rfl am am ?_;clear U;intro di w U dO;refine PK Z7 fun X=>?_;refine aF 11 fun K Z7=>?_;rw[Z (by rfl)];refine sV U _ _ 58 rfl (.agg #[.int .i64 0,.int .i64 0]) 16 bw cj rfl am rg rfl ag jx.out ⟨di,0,none⟩ 1 1 [.int .i64 m,.int .i64 z] rfl rfl am (U.news ag) (by unfold maxLen;omega) J ?_;clear U;intro WP w U T9;obtain⟨Wq,Wz,rfl⟩:=T9.form;refine PK Z7 fun X=>?_;refine Xh 12 ?_;refine UF ?_;dsimp only[Exit.then]
 apply_assumption
 have DI:=U;clear U;have U:=DI.base;go_wp2_with(first|(refine gZ DI U T9 rfl rfl _ _ 58 rfl (.agg #[.int .i64 0,.int .i64 0]) 16 bw cj rfl am rfl (some ⟨rg,p*2,none⟩) (q+1) (cap-p) rfl (F:=eP (y::post)) (G.out _ (by rw[F5.out];exact U.b (g:=rg) ag)) (kn _ _) (by unfold maxLen;omega) J ?_;clear U DI T9;intro WP w U T9;obtain⟨nL,Zo,rfl⟩:=T9.form;have DI:=U;clear U;have U:=DI.base)|(refine aq ?_)|(refine Ws U 3 ?_;clear U;intro UI w U j7)|(refine VP U eK ?_;clear U;intro hQ w U gU)|(refine Po U ?_;clear U;intro w U));have Yq:=DI.back U;have p0:=T9.on DI U rfl;clear DI U T9;obtain⟨sn,n4,A,UN,Ut,Sl,kd,lk,fx⟩:=Yq.open_ p0 J;simp only[Value.slice.injEq]at UN;obtain⟨rfl,-,rfl⟩:=UN;clear Yq p0;have qM:=Ut.Me;clear Ut;rw[show(bu pre++ [.int .i64 m,.int .i64 z]++bx (q+1) 2 (eP (y::post)))++A=bu (pre++⟨m,z⟩::y::post)++A from by rw[<-C.out,acv];simp only[dS,eS,aJ,aU,au]]at qM;have V:=I qM;clear qM;obtain⟨d,B⟩: ∃d,Hid (pre++⟨m,z⟩::y::post=d):=⟨_,I rfl⟩
 rw[B.out]at V;have O:=I (show d.length=p+1+(q+1) by rw[<-B.out,ak,aI,aI,s.out,P.out];omega);have Fx:=I (show∀x,x∈d->pZ x by
  intro x l;rw[<-B.out,List.mem_append,ad]at l;rcases l with l|rfl|l
  ·have:=VN.out x (by simp[l]);unfold pZ;omega
  ·unfold pZ;dsimp only;omega
  ·have:=VN.out x (List.mem_append_right _ l);unfold pZ;omega)
 go_loopw [107] (fun i wr=> ∃k:Nat,k<=p+1+(q+1)/\i= .int .i64 k/\BP w0 L8 rg sn a4 U2 (bu d++A) ((d.take k).foldl fz []) wr) (fun i _=>p+1+(q+1)-(intOf i).toNat)
 case atStart=>exact⟨0,J,rfl,.inl ⟨rfl,V.out⟩⟩
 case round=>
  obtain⟨k,TS,rfl,VW⟩:=hrel;by_cases ip:k<p+1+(q+1)
  ·obtain⟨pre,x,post,YF,ih,Md,IQ⟩:=so d k (by rw[O.out];exact ip);have IR:=I (show((bu d++A).drop (k*2)).take 2= [.int .i64 x.a,.int .i64 x.z]from by rw[YF];exact wu ih);have LM:=Fx.out x (by rw[YF];simp);have n3:=yX pre [] (fun y hy=>(by cases hy)) (fun y hy=>Fx.out y (by rw[YF];simp[hy]));have xo:=I IQ;have WU:(k:Int)<((p+1+(q+1):Nat):Int):=J;have Sm:(k:Int)<(p:Int)+1+((q:Int)+1):=J;exact n2
  ·obtain rfl:k=p+1+(q+1):=by omega
   rw[cm (by rw[O.out];exact ai _)]at VW;have Q:=I VW;clear VW;go_wp2_with fail;go_ret;rcases Q.out with⟨ZQ,-⟩|⟨ZQ,VS,wo,n1,U,h1,Tw,ZV,Ya⟩
   ·exact absurd ZQ (yW d (fun e=>by have:=O.out;rw[e,bR]at this;omega))
   ·have Mc:give (pre++y::post) m z=d.foldl fz []:=by rw[<-uy,<-B.out,<-BO pre (y::post) ⟨m,z⟩ mx.out (fun x h=>by simp at h;rw[<-h];exact W.out)]
    rw[Mc];exact⟨VS,rfl,⟨_,U.b (g:=L8) (by exact r3),.inr ⟨wo,n1,rfl,U.b (g:=VS) (by exact cX),Tw,ZV,Ya,fun e=>by have:=U.UH;simp[e]at this⟩⟩,.inr h1,U.Wu⟩
end
end Go.Proofs.YtcimojgkeoecfaaGreat
