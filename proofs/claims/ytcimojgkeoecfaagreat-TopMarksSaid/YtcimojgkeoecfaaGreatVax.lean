import Derived.Test.YtcimojgkeoecfaaGreatVaw
set_option linter.all false
set_option maxHeartbeats 16000000
set_option maxRecDepth 100000
namespace Go.Proofs.YtcimojgkeoecfaaGreat
open Go.RowKit Tryz
theorem hD{G:Prop}(h:G:=by
 refine b0 ?_;intro X;refine az [[0,1,2,3,4,5,6,7,8,9]] ?_;refine Zj [10,11] ?_;refine ea (fun K Z7=>?_) ?_
 ·refine ZZ U gg ?_;clear U;intro gb w U ef;refine PK Z7 fun X=>?_;refine az [[],[11,12,13]] ?_;clear U;intro Mj FM w U;go_wp2_with fail;go_meet;first|exact⟨_,_,rfl,rfl,U,ef⟩|exact⟨_,_,rfl,rfl,U.swap,ef⟩
 refine ei (fun K Z7=>?_);refine ZZ U tW ?_;clear U;intro Mj w U FM;refine PK Z7 fun X=>?_;refine az [[],[10,12,13]] ?_;clear U;intro gb ef w U;go_wp2_with fail;go_meet;first|exact⟨_,_,rfl,rfl,U,ef⟩|exact⟨_,_,rfl,rfl,U.swap,ef⟩):G:=h
theorem Z1.sZ{w0 w:World}{S:Nat->Prop}{g:Nat}{t:TypeId}{cs:Array Value}(k:Z1 (fun b=>b≠g/\S b) w0 w)(hb:ah w0 g t cs)(e:ah w g t cs):Z1 S w0 w:=
 ⟨k.os,k.tape,k.output,k.size,fun b d a=>by
   by_cases c:b=g
   ·subst c
    exact(show w.heap[b]? =_ from e).trans (show w0.heap[b]? =_ from hb).symm
   ·exact k.block b d ⟨c,a⟩⟩
theorem Z1.lf{w w':World}{g:Nat}(k:Z1 (fun b=>b≠g) w w'):ce w.heap.size g w w':=⟨k.os,k.tape,k.output,k.size,fun j c a=>k.block j c a⟩
theorem Bx.three{w:World}{d g c:Nat}{t1 t2 t3:TypeId}{k i l:List Value}(h1:ah w d t1 k.toArray)(n:ah w g t2 i.toArray)(o:ah w c t3 l.toArray)(U7:d≠g)(m:d≠c)(j:g≠c):Bx w (fun b=>b≠d/\b≠g/\b≠c) w none [⟨d,t1,k⟩,⟨g,t2,i⟩,⟨c,t3,l⟩]:=
 ⟨fun x f=>by
   simp only[ad,E,av]at f
   rcases f with rfl|rfl|rfl<;>assumption,by simp[U7,m,j],fun x f=>by
   simp only[ad,E,av]at f
   rcases f with rfl|rfl|rfl
   ·exact .inr fun h=>h.1 rfl
   ·exact .inr fun h=>h.2.1 rfl
   ·exact .inr fun h=>h.2.2 rfl,Z1.refl _ _,trivial,fun a e=>by cases e⟩
theorem y4(w0:World)(S:Nat->Prop)(f i gc B:Nat)(T6 VZ:Value)(r:RJ)(x:Yr)(busy d:Bool)(C:Nat)(l:List bO)(j:ah w0 i 196 ([.pointer (some ⟨f,0,none⟩)]:List Value).toArray)(n:ah w0 gc 42 ([.int .u8 r.call.op,.int .u8 r.call.r,.int .u8 r.call.h,.int .u8 r.call.v,.int .i64 r.call.a,.int .i64 r.call.b,.int .i64 r.call.c]:List Value).toArray)(m:ah w0 f 200 (fI T6 (.slice (some ⟨B,0,none⟩) 4 4) VZ r x busy C).toArray)(p:de w0 S VZ l)(F:l.length<6)(hS: ∀b,S b->b≠i/\b≠gc/\b≠f):
 Calls prog 190 #[.bool d,.pointer (some ⟨i,0,none⟩),.pointer (some ⟨gc,0,none⟩)] w0 fun e w'=> ∃A k,e= .returned (.tuple #[])/\ah w' f 200 (fI T6 (.slice (some ⟨B,0,none⟩) 4 4) (.slice A (l.length+1) k) r x busy C).toArray/\de w' (fun b=>w0.heap.size<=b) (.slice A (l.length+1) k) (l++ [(⟨r.call.a,d⟩:bO)])/\Z1 (fun b=>b≠f) w0 w':=by
 have U:=Bx.three j n m (j.ne n am) (j.ne m am) (n.ne m am);have y:=I p;have L:=I j;have G:=I n;clear j n m p;go_enter func190,ntmps190;go_wp2_with(first|(refine aq ?_)|(refine Po U ?_;clear U;intro w U));replace U:=U.drew;refine wp_region_held_drew (S:=(c0 [⟨i,196,[.pointer (some ⟨f,0,none⟩)]⟩,⟨gc,42,[.int .u8 r.call.op,.int .u8 r.call.r,.int .u8 r.call.h,.int .u8 r.call.v,.int .i64 r.call.a,.int .i64 r.call.b,.int .i64 r.call.c]⟩])) aM ?_ (fun X=>?_)
 ·exact U.bG aN
 refine az [[0,1,2,3,5,6,7,8],[4]] ?_;refine aF 9 fun K H=>?_;go_simp
 (go_at_call 191;refine Calls.mono (BH _ S _ l r.call.a d (y.out.Wu (U.Wu.mono fun b hb h=>hS b h)) F) ?_;rintro e O ⟨v',rfl,s,N⟩;obtain⟨z,u,rfl,-,-,-⟩:=id s;have hv:=U.eh s;clear s;have o:=U.below N;clear U N;have U:=o.base)
 go_wp2_with fail;refine WE H fun X=>?_;refine az [[10,11,12,13,14],[15]] ?_;clear U;intro w U;go_wp2_with(first|(refine aq ?_)|(refine Po U ?_;clear U;intro w U));refine fY ?_;have q:=o.back U;have M:(l++ [(⟨r.call.a,d⟩:bO)]).length=l.length+1:=aN;refine⟨z,u,rfl,q.b (g:=f) ag,?_,(q.Wu.sZ L.out (q.b (g:=i) ag)).sZ G.out (q.b (g:=gc) ag)⟩;rw[<-M];exact(U.carry hv fun b _ h=>h.2).mono fun b _ h=>h.1
section
theorem rB{G:Prop}(h:G:=by
 refine fY ?_;exact⟨Uu,Ug,rfl,U.b (g:=O4) ag,U.b (g:=YS) ag,hv.mono (fun b _ h=>h.1),U.Wu⟩):G:=h
section
variable(w0:World)(O4 YS:Nat)(T6 VZ:Value)(r:RJ)(j ls p:Value)(d:Option Addr)(m o:Nat)(busy:Bool)(q:Nat)(regs:Nat->Int)(i:ah w0 O4 200 (fI T6 (.slice (some ⟨YS,0,none⟩) 4 4) VZ r ⟨j,ls,p,.slice d m o⟩ busy q).toArray)(f:ah w0 YS 59 (bN .u64 4 regs).toArray)(S:Nat->Prop)(l:List bO)
include w0 O4 YS T6 VZ r j ls p d m o busy q regs i f S l
section
variable(s:de w0 S VZ l)(x:l.length<6)(hS: ∀b,S b->b<w0.heap.size/\b≠O4/\b≠YS)(u:r.aC.code=0)
include s x hS u
theorem I5(z:r.call.op=4):
 Calls prog 108 #[.pointer (some ⟨O4,0,none⟩)] w0 fun e w'=> ∃A k,e= .returned (.tuple #[])/\ah w' O4 200 (fI T6 (.slice (some ⟨YS,0,none⟩) 4 4) (.slice A (l.length+1) k) r ⟨j,ls,p,.slice d m o⟩ false q).toArray/\ah w' YS 59 (bN .u64 4 regs).toArray/\de w' (fun b=>w0.heap.size<=b) (.slice A (l.length+1) k) (l++ [⟨r.call.a,true⟩])/\Z1 (fun b=>b≠O4/\b≠YS) w0 w':=by
 have U:=Bx.two i f (i.ne f am);have L:=I s;clear s;have ab7: ∀args w,(callFunc 190 args).run prog w= .ok (.enter 190 args) w:=enters_of func190 aM rfl;have VI:(r.aC.code !=0)=false:=by simp[u]
 have us:(r.call.op==1)=false:=by simp[z]
 have vA:(r.call.op==7)=false:=by simp[z]
 have V:(r.call.op==8)=false:=by simp[z]
 have I1:(r.call.op==10)=false:=by simp[z]
 have mb:(r.call.op==4)=true:=by simp[z]
 have rs: ∀(fn:Fn) (first cap:Array Value) (w:World),(Instr.makeFunc fn first cap).run prog w= .ok (.func fn first cap) w:=fun _ _ _ _=>rfl;have AQ:=i.lt;have ss:=f.lt;clear i f u z;go_enter func108,ntmps108;go_upto_region 2 with(first|(refine aq ?_)|(refine Ws U 196 ?_;clear U;intro B w U T)|(refine VP U gg ?_;clear U;intro gb w U ef)|(refine aT ?_;clear U;intro P w U F))
 replace U:=U.drew;go_cut [2,3]from 8 to 18 (fun H G Q=> ∃y C,H= .pointer (some ⟨y,0,none⟩)/\G= .pointer (some ⟨C,0,none⟩)/\Bx w0 (fun b=>b≠O4/\b≠YS) Q none [⟨y,42,[.int .u8 r.call.op,.int .u8 r.call.r,.int .u8 r.call.h,.int .u8 r.call.v,.int .i64 r.call.a,.int .i64 r.call.b,.int .i64 r.call.c]⟩,⟨C,44,[.int .i64 r.aC.code,.int .i64 r.aC.n,.slice d m o]⟩,⟨B,196,[.pointer (some ⟨O4,0,none⟩)]⟩,⟨O4,200,fI T6 (.slice (some ⟨YS,0,none⟩) 4 4) VZ r ⟨j,ls,p,.slice d m o⟩ false q⟩,⟨YS,59,bN .u64 4 regs⟩]/\w0.heap.size<=y)
 case first=>
  exact hD
 case rest=>
 obtain⟨y,C,rfl,rfl,U,dP⟩:=hcut;go_wp2_with(first|(go_at_call 190;refine Calls.mono (y4 _ (fun b=>S b) O4 B y YS T6 VZ r ⟨j,ls,p,.slice d m o⟩ false true q l (U.b (g:=B) ag) (U.b (g:=y) ag) (U.b (g:=O4) ag) (L.out.Wu (U.Wu.mono fun b hb h=>(hS b h).2)) x (fun b h=>⟨fun e=>by have:=(hS b h).1;omega,fun e=>by have:=(hS b h).1;omega,(hS b h).2.1⟩)) ?_;rintro e W ⟨Uu,Ug,rfl,N,O,M⟩;have R:=U.hX cf N M.lf;have hv:=U.eh O;clear U N O M;have U:=R)|(refine aq ?_)|(refine Ws U 196 ?_;clear U;intro B w U T)|(refine VP U gg ?_;clear U;intro gb w U ef)|(refine aT ?_;clear U;intro P w U F));exact rB
theorem I6(y:r.call.op=6):
 Calls prog 108 #[.pointer (some ⟨O4,0,none⟩)] w0 fun e w'=> ∃A k,e= .returned (.tuple #[])/\ah w' O4 200 (fI T6 (.slice (some ⟨YS,0,none⟩) 4 4) (.slice A (l.length+1) k) r ⟨j,ls,p,.slice d m o⟩ false q).toArray/\ah w' YS 59 (bN .u64 4 regs).toArray/\de w' (fun b=>w0.heap.size<=b) (.slice A (l.length+1) k) (l++ [⟨r.call.a,false⟩])/\Z1 (fun b=>b≠O4/\b≠YS) w0 w':=by
 have U:=Bx.two i f (i.ne f am);have L:=I s;clear s;have ab7: ∀args w,(callFunc 190 args).run prog w= .ok (.enter 190 args) w:=enters_of func190 aM rfl;have VI:(r.aC.code !=0)=false:=by simp[u]
 have us:(r.call.op==1)=false:=by simp[y]
 have vA:(r.call.op==7)=false:=by simp[y]
 have V:(r.call.op==8)=false:=by simp[y]
 have I1:(r.call.op==10)=false:=by simp[y]
 have mb:(r.call.op==4)=false:=by simp[y]
 have aak:(r.call.op==6)=true:=by simp[y]
 have rs: ∀(fn:Fn) (first cap:Array Value) (w:World),(Instr.makeFunc fn first cap).run prog w= .ok (.func fn first cap) w:=fun _ _ _ _=>rfl;have AQ:=i.lt;have ss:=f.lt;clear i f u y;go_enter func108,ntmps108;go_upto_region 2 with(first|(refine aq ?_)|(refine Ws U 196 ?_;clear U;intro B w U T)|(refine VP U gg ?_;clear U;intro gb w U ef)|(refine aT ?_;clear U;intro P w U F))
 replace U:=U.drew;go_cut [2,3]from 8 to 18 (fun H G Q=> ∃z C,H= .pointer (some ⟨z,0,none⟩)/\G= .pointer (some ⟨C,0,none⟩)/\Bx w0 (fun b=>b≠O4/\b≠YS) Q none [⟨z,42,[.int .u8 r.call.op,.int .u8 r.call.r,.int .u8 r.call.h,.int .u8 r.call.v,.int .i64 r.call.a,.int .i64 r.call.b,.int .i64 r.call.c]⟩,⟨C,44,[.int .i64 r.aC.code,.int .i64 r.aC.n,.slice d m o]⟩,⟨B,196,[.pointer (some ⟨O4,0,none⟩)]⟩,⟨O4,200,fI T6 (.slice (some ⟨YS,0,none⟩) 4 4) VZ r ⟨j,ls,p,.slice d m o⟩ false q⟩,⟨YS,59,bN .u64 4 regs⟩]/\w0.heap.size<=z)
 case first=>
  exact hD
 case rest=>
 obtain⟨z,C,rfl,rfl,U,dP⟩:=hcut;go_wp2_with(first|(go_at_call 190;refine Calls.mono (y4 _ (fun b=>S b) O4 B z YS T6 VZ r ⟨j,ls,p,.slice d m o⟩ false false q l (U.b (g:=B) ag) (U.b (g:=z) ag) (U.b (g:=O4) ag) (L.out.Wu (U.Wu.mono fun b hb h=>(hS b h).2)) x (fun b h=>⟨fun e=>by have:=(hS b h).1;omega,fun e=>by have:=(hS b h).1;omega,(hS b h).2.1⟩)) ?_;rintro e W ⟨Uu,Ug,rfl,N,O,M⟩;have R:=U.hX cf N M.lf;have hv:=U.eh O;clear U N O M;have U:=R)|(refine aq ?_)|(refine Ws U 196 ?_;clear U;intro B w U T)|(refine VP U gg ?_;clear U;intro gb w U ef)|(refine aT ?_;clear U;intro P w U F));exact rB
end
theorem I7(B:Int)(d0:Bool)(z:de w0 S VZ (l++ [⟨B,d0⟩]))(W:l.length<=6)(hS: ∀b,S b->b<w0.heap.size/\b≠O4/\b≠YS)(T:r.aC.code=0)(s:r.call.op=5):
 Calls prog 108 #[.pointer (some ⟨O4,0,none⟩)] w0 fun e w'=> ∃A k,e= .returned (.tuple #[])/\ah w' O4 200 (fI T6 (.slice (some ⟨YS,0,none⟩) 4 4) (.slice A (l.length) k) r ⟨j,ls,p,.slice d m o⟩ false q).toArray/\ah w' YS 59 (bN .u64 4 regs).toArray/\de w' (fun b=>w0.heap.size<=b) (.slice A (l.length) k) l/\Z1 (fun b=>b≠O4/\b≠YS) w0 w':=by
 have U:=Bx.two i f (i.ne f am);have P:=I z;clear z;have VI:(r.aC.code !=0)=false:=by simp[T]
 have us:(r.call.op==1)=false:=by simp[s]
 have vA:(r.call.op==7)=false:=by simp[s]
 have aa5:(r.call.op==8)=false:=by simp[s]
 have I1:(r.call.op==10)=false:=by simp[s]
 have mb:(r.call.op==4)=false:=by simp[s]
 have aak:(r.call.op==6)=false:=by simp[s]
 have YZ:(r.call.op==5)=true:=by simp[s]
 have rs: ∀(fn:Fn) (first cap:Array Value) (w:World),(Instr.makeFunc fn first cap).run prog w= .ok (.func fn first cap) w:=fun _ _ _ _=>rfl;have AQ:=i.lt;have ss:=f.lt;clear i f T s;go_enter func108,ntmps108;go_upto_region 2 with(first|(refine aq ?_)|(refine Ws U 196 ?_;clear U;intro F w U V)|(refine VP U gg ?_;clear U;intro gb w U ef)|(refine aT ?_;clear U;intro R w U y))
 replace U:=U.drew;go_cut [2,3]from 8 to 18 (fun O M ZT=> ∃u C,O= .pointer (some ⟨u,0,none⟩)/\M= .pointer (some ⟨C,0,none⟩)/\Bx w0 (fun b=>b≠O4/\b≠YS) ZT none [⟨u,42,[.int .u8 r.call.op,.int .u8 r.call.r,.int .u8 r.call.h,.int .u8 r.call.v,.int .i64 r.call.a,.int .i64 r.call.b,.int .i64 r.call.c]⟩,⟨C,44,[.int .i64 r.aC.code,.int .i64 r.aC.n,.slice d m o]⟩,⟨F,196,[.pointer (some ⟨O4,0,none⟩)]⟩,⟨O4,200,fI T6 (.slice (some ⟨YS,0,none⟩) 4 4) VZ r ⟨j,ls,p,.slice d m o⟩ false q⟩,⟨YS,59,bN .u64 4 regs⟩]/\w0.heap.size<=u)
 case first=>
  exact hD
 case rest=>
 obtain⟨u,C,rfl,rfl,U,dP⟩:=hcut;go_wp2_with(first|(refine aq ?_)|(refine Ws U 196 ?_;clear U;intro F w U V)|(refine VP U gg ?_;clear U;intro gb w U ef)|(refine aT ?_;clear U;intro R w U y));replace U:=U.drew;refine wp_region_held_drew (S:=(c0 [⟨u,42,[.int .u8 r.call.op,.int .u8 r.call.r,.int .u8 r.call.h,.int .u8 r.call.v,.int .i64 r.call.a,.int .i64 r.call.b,.int .i64 r.call.c]⟩,⟨C,44,[.int .i64 r.aC.code,.int .i64 r.aC.n,.slice d m o]⟩,⟨F,196,[.pointer (some ⟨O4,0,none⟩)]⟩])) aM ?_ (fun X=>?_)
 ·exact U.bG aN
 refine az [[0,1,2,3],[4]] ?_;refine aF 5 fun K Z7=>?_;go_simp
 (go_at_call 192;refine Calls.mono (EO _ (fun b=>S b) _ l B d0 (P.out.Wu (U.Wu.mono fun b hb h=>(hS b h).2)) W) ?_;rintro e EH ⟨v',rfl,H,N⟩;obtain⟨Q,L,rfl,-,-,-⟩:=id H;have hv:=U.eh H;clear H;have x:=U.below N;clear U N;have U:=x.base)
 go_wp2_with fail;refine WE Z7 fun X=>?_;refine az [[6,7,8,9,10,11],[12]] ?_;clear U;intro w U;go_wp2_with(first|(refine aq ?_)|(refine Ws U 196 ?_;clear U;intro F w U V)|(refine VP U gg ?_;clear U;intro gb w U ef)|(refine aT ?_;clear U;intro R w U y));refine fY ?_;have G:=x.back U;exact⟨Q,L,rfl,G.b (g:=O4) ag,G.b (g:=YS) ag,(U.carry hv fun b _ h=>h.2).mono fun b _ h=>h.1,G.Wu⟩
end
end
section
theorem qe{G:Prop}(h:G:=by
 go_wp2_with(first|(refine aq ?_)|(refine aT ?_;clear U;intro X8 w U T7));refine cw results107 rfl rfl ⟨_,U.b ag,rfl⟩ underlying198 rfl (by kernel_rfl) ?_;have Yq:=DI.back U;exact⟨_,aO,rfl,U.bB,gw.out.Wu (U.Wu.block _ gw.out.lt.1 oc.out.1) (U.Wu.block _ gw.out.lt.2 oc.out.2),iG.out,(uE.out.Wu (U.Wu.mono fun b _ h=>h.2)).mono fun b _ h=>h.1,Yq.Pe UL.out ag⟩):G:=h
theorem od{G:Prop}(h:G:=by
 go_wp2_with fail;refine PK Z7 fun X=>?_;refine az [[14,15,16],[17]] ?_;clear U;intro w U;exact qe):G:=h
theorem kO{G:Prop}(h:G:=by
 go_wp2_with fail;refine PK Z7 fun X=>?_;refine az [[10,11,12],[13]] ?_;clear U;intro w U;exact qe):G:=h
section
variable(w0:World)(S:Nat->Prop)(p:PO)(l:Nat)(y v Z2:Value)(z:Int)(ap c n:Nat)(V:Nat->Int)(a rg:Nat)(o d:Int)(fr:List Ext)(r:RJ)(x:Yr)(hb:ah w0 l 142 (gh p y ap a v Z2 z).toArray)(s:ar w0 ap c n V)(i:cY w0 a rg o d fr)(f:aW w0 S r x)(hS: ∀b,S b->b<w0.heap.size/\b≠l)(j:l≠ap/\l≠c/\l≠a/\l≠rg)(q:ap≠a/\ap≠rg/\c≠a/\c≠rg)(V2:Nat->Int)(u:List Ext)(m:RJ)
include w0 S p l y v Z2 z ap c n V a rg o d fr r x hb s i f hS j q V2 u m
section
variable(A:r.Xj≠0)(h1:r.Xj≠1)
include A h1
theorem Ml(hop:r.call.op=7)(H: ∀(B:World),ar B ap c n V->cY B a rg o d fr->aW B S r x->Below w0.heap.size w0 B->Calls prog 186 #[ej p,.pointer (some ⟨ap,0,none⟩),.agg (aY r x)] B fun e w'=> ∃x' aO,e= .returned (.tuple #[.agg (aY m x'),.int .i64 0])/\ar w' ap c n V2/\cY w' a aO o d u/\(aO=rg\/B.heap.size<=aO)/\aW w' (fun b=>(S b\/B.heap.size<=b)/\b≠c/\b≠a/\b≠aO) m x'/\Z1 (fun b=>b≠c/\b≠a/\b≠rg) B w'):
 Calls prog 107 #[.pointer (some ⟨l,0,none⟩),.agg (aY r x)] w0 fun e w'=> ∃x' aO,e= .returned (.agg (aY m x'))/\ar w' ap c n V2/\cY w' a aO o d u/\(aO=rg\/w0.heap.size<=aO)/\aW w' (fun b=>(S b\/w0.heap.size<=b)/\b≠c/\b≠a/\b≠aO) m x'/\Z1 (fun b=>b≠c/\b≠a/\b≠rg) w0 w':=by
 obtain⟨W9,Tv,Tz,Tt,Tu,Tm,Tx,ZM,rfl⟩:=eW f;replace H:=I H;have G:=I s;have O:=I i;have M:=I i.lt;have P:=I f;have UL:=I hb;have Q:=I hS;replace q:=I q;replace j:=I j;have U:=Bx.g8 hb;have Zh:(r.Xj==0)=false:=by simpa using A
 have q1:(r.Xj==1)=false:=by simpa using h1
 have vA:(r.call.op==7)=true:=by simp[hop]
 clear s i f hb hS A h1 hop;go_enter func107,ntmps107;go_wp2_with(first|(refine aq ?_)|(refine aT ?_;clear U;intro X8 w U T7));replace U:=U.drew;refine wp_region_held_drew aM U.l0 (fun X=>?_);refine az [[0,1,2,3,4,5,6,7,8]] ?_;refine aF 9 fun K Z7=>?_;go_simp
 (go_at_call 186;have C:=U.ro UL.out ag;refine Calls.mono (H.out _ (ar.below G.out C G.out.c9.1 G.out.c9.2.1) (O.out.Wu (C.block _ M.out.1) (C.block _ M.out.2)) (P.out.Wu (Z1.cg C)) C) ?_;rintro e B ⟨⟨UY,UM,Xl,XR⟩,aO,rfl,W,dP,N,L,aX⟩;obtain⟨DI,T,F⟩:=U.found W G.out M.out q.out j.out aX N;have iG:=I (N.imp id fun h=>D U.size h);have gw:=I dP;have oc:=I (And.intro T F);obtain⟨YG,X3,Za,UV,Yf,XB,XU,Zz,R⟩:=eW L;cases R;have uE:=I (U.rA (ap:=ap) (n:=n) (V2:=V2) L Q.out);clear U dP N aX T F L W C;have U:=DI.base)
 exact kO
theorem Mm(hop:r.call.op=4)(H: ∀(B:World),ar B ap c n V->cY B a rg o d fr->aW B S r x->Below w0.heap.size w0 B->Calls prog 187 #[ej p,.pointer (some ⟨ap,0,none⟩),.agg (aY r x)] B fun e w'=> ∃x' aO,e= .returned (.tuple #[.agg (aY m x'),.int .i64 0])/\ar w' ap c n V2/\cY w' a aO o d u/\(aO=rg\/B.heap.size<=aO)/\aW w' (fun b=>(S b\/B.heap.size<=b)/\b≠c/\b≠a/\b≠aO) m x'/\Z1 (fun b=>b≠c/\b≠a/\b≠rg) B w'):
 Calls prog 107 #[.pointer (some ⟨l,0,none⟩),.agg (aY r x)] w0 fun e w'=> ∃x' aO,e= .returned (.agg (aY m x'))/\ar w' ap c n V2/\cY w' a aO o d u/\(aO=rg\/w0.heap.size<=aO)/\aW w' (fun b=>(S b\/w0.heap.size<=b)/\b≠c/\b≠a/\b≠aO) m x'/\Z1 (fun b=>b≠c/\b≠a/\b≠rg) w0 w':=by
 obtain⟨W9,Tv,Tz,Tt,Tu,Tm,Tx,ZM,rfl⟩:=eW f;replace H:=I H;have G:=I s;have O:=I i;have M:=I i.lt;have P:=I f;have UL:=I hb;have Q:=I hS;replace q:=I q;replace j:=I j;have U:=Bx.g8 hb;have Zh:(r.Xj==0)=false:=by simpa using A
 have q1:(r.Xj==1)=false:=by simpa using h1
 have vA:(r.call.op==7)=false:=by simp[hop]
 have mb:(r.call.op==4)=true:=by simp[hop]
 clear s i f hb hS A h1 hop;go_enter func107,ntmps107;go_wp2_with(first|(refine aq ?_)|(refine aT ?_;clear U;intro X8 w U T7));replace U:=U.drew;refine wp_region_held_drew aM U.l0 (fun X=>?_);refine az [[0,1,2,3,4,5,6,7,8]] ?_;refine aF 9 fun K Z7=>?_;go_simp
 (go_at_call 187;have C:=U.ro UL.out ag;refine Calls.mono (H.out _ (ar.below G.out C G.out.c9.1 G.out.c9.2.1) (O.out.Wu (C.block _ M.out.1) (C.block _ M.out.2)) (P.out.Wu (Z1.cg C)) C) ?_;rintro e B ⟨⟨UY,UM,Xl,XR⟩,aO,rfl,W,dP,N,L,aX⟩;obtain⟨DI,T,F⟩:=U.found W G.out M.out q.out j.out aX N;have iG:=I (N.imp id fun h=>D U.size h);have gw:=I dP;have oc:=I (And.intro T F);obtain⟨YG,X3,Za,UV,Yf,XB,XU,Zz,R⟩:=eW L;cases R;have uE:=I (U.rA (ap:=ap) (n:=n) (V2:=V2) L Q.out);clear U dP N aX T F L W C;have U:=DI.base)
 exact kO
theorem Mn(hop:r.call.op=5)(H: ∀(B:World),ar B ap c n V->cY B a rg o d fr->aW B S r x->Below w0.heap.size w0 B->Calls prog 188 #[ej p,y,.pointer (some ⟨ap,0,none⟩),.agg (aY r x)] B fun e w'=> ∃x' aO,e= .returned (.tuple #[.agg (aY m x'),.int .i64 0])/\ar w' ap c n V2/\cY w' a aO o d u/\(aO=rg\/B.heap.size<=aO)/\aW w' (fun b=>(S b\/B.heap.size<=b)/\b≠c/\b≠a/\b≠aO) m x'/\Z1 (fun b=>b≠c/\b≠a/\b≠rg) B w'):
 Calls prog 107 #[.pointer (some ⟨l,0,none⟩),.agg (aY r x)] w0 fun e w'=> ∃x' aO,e= .returned (.agg (aY m x'))/\ar w' ap c n V2/\cY w' a aO o d u/\(aO=rg\/w0.heap.size<=aO)/\aW w' (fun b=>(S b\/w0.heap.size<=b)/\b≠c/\b≠a/\b≠aO) m x'/\Z1 (fun b=>b≠c/\b≠a/\b≠rg) w0 w':=by
 obtain⟨W9,Tv,Tz,Tt,Tu,Tm,Tx,ZM,rfl⟩:=eW f;replace H:=I H;have G:=I s;have O:=I i;have M:=I i.lt;have P:=I f;have UL:=I hb;have Q:=I hS;replace q:=I q;replace j:=I j;have U:=Bx.g8 hb;have Zh:(r.Xj==0)=false:=by simpa using A
 have q1:(r.Xj==1)=false:=by simpa using h1
 have vA:(r.call.op==7)=false:=by simp[hop]
 have mb:(r.call.op==4)=false:=by simp[hop]
 have YZ:(r.call.op==5)=true:=by simp[hop]
 clear s i f hb hS A h1 hop;go_enter func107,ntmps107;go_wp2_with(first|(refine aq ?_)|(refine aT ?_;clear U;intro X8 w U T7));replace U:=U.drew;refine wp_region_held_drew aM U.l0 (fun X=>?_);refine az [[0,1,2,3,4,5,6,7,8,9,10,11,12]] ?_;refine aF 13 fun K Z7=>?_;go_simp
 (go_at_call 188;have C:=U.ro UL.out ag;refine Calls.mono (H.out _ (ar.below G.out C G.out.c9.1 G.out.c9.2.1) (O.out.Wu (C.block _ M.out.1) (C.block _ M.out.2)) (P.out.Wu (Z1.cg C)) C) ?_;rintro e B ⟨⟨UY,UM,Xl,XR⟩,aO,rfl,W,dP,N,L,aX⟩;obtain⟨DI,T,F⟩:=U.found W G.out M.out q.out j.out aX N;have iG:=I (N.imp id fun h=>D U.size h);have gw:=I dP;have oc:=I (And.intro T F);obtain⟨YG,X3,Za,UV,Yf,XB,XU,Zz,R⟩:=eW L;cases R;have uE:=I (U.rA (ap:=ap) (n:=n) (V2:=V2) L Q.out);clear U dP N aX T F L W C;have U:=DI.base)
 exact od
theorem Mo(G:r.call.op≠7/\r.call.op≠4/\r.call.op≠5)(L: ∀(B:World),ar B ap c n V->cY B a rg o d fr->aW B S r x->Below w0.heap.size w0 B->Calls prog 189 #[ej p,.pointer (some ⟨ap,0,none⟩),.agg (aY r x)] B fun e w'=> ∃x' aO,e= .returned (.tuple #[.agg (aY m x'),.int .i64 0])/\ar w' ap c n V2/\cY w' a aO o d u/\(aO=rg\/B.heap.size<=aO)/\aW w' (fun b=>(S b\/B.heap.size<=b)/\b≠c/\b≠a/\b≠aO) m x'/\Z1 (fun b=>b≠c/\b≠a/\b≠rg) B w'):
 Calls prog 107 #[.pointer (some ⟨l,0,none⟩),.agg (aY r x)] w0 fun e w'=> ∃x' aO,e= .returned (.agg (aY m x'))/\ar w' ap c n V2/\cY w' a aO o d u/\(aO=rg\/w0.heap.size<=aO)/\aW w' (fun b=>(S b\/w0.heap.size<=b)/\b≠c/\b≠a/\b≠aO) m x'/\Z1 (fun b=>b≠c/\b≠a/\b≠rg) w0 w':=by
 obtain⟨W9,Tv,Tz,Tt,Tu,Tm,Tx,ZM,rfl⟩:=eW f;replace L:=I L;have H:=I s;have P:=I i;have N:=I i.lt;have Q:=I f;have UL:=I hb;have R:=I hS;replace q:=I q;replace j:=I j;have U:=Bx.g8 hb;have Zh:(r.Xj==0)=false:=by simpa using A
 have q1:(r.Xj==1)=false:=by simpa using h1
 have vA:(r.call.op==7)=false:=by simp[G]
 have mb:(r.call.op==4)=false:=by simp[G]
 have YZ:(r.call.op==5)=false:=by simp[G]
 clear s i f hb hS A h1 G;go_enter func107,ntmps107;go_wp2_with(first|(refine aq ?_)|(refine aT ?_;clear U;intro X8 w U T7));replace U:=U.drew;refine wp_region_held_drew aM U.l0 (fun X=>?_);refine az [[0,1,2,3,4,5,6,7,8]] ?_;refine aF 9 fun K Z7=>?_;go_simp
 (go_at_call 189;have C:=U.ro UL.out ag;refine Calls.mono (L.out _ (ar.below H.out C H.out.c9.1 H.out.c9.2.1) (P.out.Wu (C.block _ N.out.1) (C.block _ N.out.2)) (Q.out.Wu (Z1.cg C)) C) ?_;rintro e B ⟨⟨UY,UM,Xl,XR⟩,aO,rfl,aH,dP,O,M,aX⟩;obtain⟨DI,W,F⟩:=U.found aH H.out N.out q.out j.out aX O;have iG:=I (O.imp id fun h=>D U.size h);have gw:=I dP;have oc:=I (And.intro W F);obtain⟨YG,X3,Za,UV,Yf,XB,XU,Zz,T⟩:=eW M;cases T;have uE:=I (U.rA (ap:=ap) (n:=n) (V2:=V2) M R.out);clear U dP O aX W F M aH C;have U:=DI.base)
 exact kO
end
theorem Mp(H:r.Xj=1)(G: ∀(A:World),ar A ap c n V->cY A a rg o d fr->aW A S r x->Below w0.heap.size w0 A->Calls prog 185 #[ej p,.pointer (some ⟨ap,0,none⟩),.pointer (some ⟨a,0,none⟩),.agg (aY r x)] A fun e w'=> ∃x' aO,e= .returned (.tuple #[.agg (aY m x'),.int .i64 0])/\ar w' ap c n V2/\cY w' a aO o d u/\(aO=rg\/A.heap.size<=aO)/\aW w' (fun b=>(S b\/A.heap.size<=b)/\b≠c/\b≠a/\b≠aO) m x'/\Z1 (fun b=>b≠c/\b≠a/\b≠rg) A w'):
 Calls prog 107 #[.pointer (some ⟨l,0,none⟩),.agg (aY r x)] w0 fun e w'=> ∃x' aO,e= .returned (.agg (aY m x'))/\ar w' ap c n V2/\cY w' a aO o d u/\(aO=rg\/w0.heap.size<=aO)/\aW w' (fun b=>(S b\/w0.heap.size<=b)/\b≠c/\b≠a/\b≠aO) m x'/\Z1 (fun b=>b≠c/\b≠a/\b≠rg) w0 w':=by
 obtain⟨W9,Tv,Tz,Tt,Tu,Tm,Tx,ZM,rfl⟩:=eW f;replace G:=I G;have F:=I s;have O:=I i;have M:=I i.lt;have P:=I f;have UL:=I hb;have Q:=I hS;replace q:=I q;replace j:=I j;have U:=Bx.g8 hb;have Zh:(r.Xj==0)=false:=by simp[H]
 have q1:(r.Xj==1)=true:=by simp[H]
 clear s i f hb hS H;go_enter func107,ntmps107;go_wp2_with(first|(refine aq ?_)|(refine aT ?_;clear U;intro X8 w U T7));replace U:=U.drew;refine wp_region_held_drew aM U.l0 (fun X=>?_);refine az [[0,1,2,3,4,5,6,7,8,9,10,11,12]] ?_;refine aF 13 fun K Z7=>?_;go_simp
 (go_at_call 185;have B:=U.ro UL.out ag;refine Calls.mono (G.out _ (ar.below F.out B F.out.c9.1 F.out.c9.2.1) (O.out.Wu (B.block _ M.out.1) (B.block _ M.out.2)) (P.out.Wu (Z1.cg B)) B) ?_;rintro e A ⟨⟨UY,UM,Xl,XR⟩,aO,rfl,W,dP,N,L,aX⟩;obtain⟨DI,T,C⟩:=U.found W F.out M.out q.out j.out aX N;have iG:=I (N.imp id fun h=>D U.size h);have gw:=I dP;have oc:=I (And.intro T C);obtain⟨YG,X3,Za,UV,Yf,XB,XU,Zz,R⟩:=eW L;cases R;have uE:=I (U.rA (ap:=ap) (n:=n) (V2:=V2) L Q.out);clear U dP N aX T C L W B;have U:=DI.base)
 exact od
end
end
end Go.Proofs.YtcimojgkeoecfaaGreat
