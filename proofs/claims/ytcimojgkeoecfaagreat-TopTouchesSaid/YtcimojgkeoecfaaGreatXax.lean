import Derived.Test.YtcimojgkeoecfaaGreatXaw
set_option linter.all false
set_option maxHeartbeats 16000000
set_option maxRecDepth 100000
namespace Go.Proofs.YtcimojgkeoecfaaGreat
open Go.RowKit Tryz
theorem hD{G:Prop}(h:G:=by
 refine b0 ?_;intro X;refine az [[0,1,2,3,4,5,6,7,8,9]] ?_;refine Zj [10,11] ?_;refine ea (fun K Z7=>?_) ?_
 ·refine ZZ U gg ?_;clear U;intro gb w U ef;refine abR Z7 fun X=>?_;refine az [[],[11,12,13]] ?_;clear U;intro Mj FM w U;go_wp2_with fail;go_meet;first|exact⟨_,_,rfl,rfl,U,ef⟩|exact⟨_,_,rfl,rfl,U.swap,ef⟩
 refine ei (fun K Z7=>?_);refine ZZ U tW ?_;clear U;intro Mj w U FM;refine abR Z7 fun X=>?_;refine az [[],[10,12,13]] ?_;clear U;intro gb ef w U;go_wp2_with fail;go_meet;first|exact⟨_,_,rfl,rfl,U,ef⟩|exact⟨_,_,rfl,rfl,U.swap,ef⟩):G:=h
theorem Z1.sZ{w0 w:World}{S:Nat->Prop}{g:Nat}{t:TypeId}{cs:Array Value}(k:Z1 (fun b=>b≠g/\S b) w0 w)(hb:ah w0 g t cs)(kr:ah w g t cs):Z1 S w0 w:=
 ⟨k.os,k.tape,k.output,k.size,fun b be YF=>by
   by_cases c:b=g
   ·subst c
    exact(show w.heap[b]? =_ from kr).trans (show w0.heap[b]? =_ from hb).symm
   ·exact k.block b be ⟨c,YF⟩⟩
theorem Z1.lf{w w':World}{g:Nat}(k:Z1 (fun b=>b≠g) w w'):ce w.heap.size g w w':=⟨k.os,k.tape,k.output,k.size,fun j aeD abi=>k.block j aeD abi⟩
theorem aah.three{w:World}{Vt Y6 ad2:Nat}{t1 t2 t3:TypeId}{WJ adr XO:List Value}(h1:ah w Vt t1 WJ.toArray)(aaV:ah w Y6 t2 adr.toArray)(ZV:ah w ad2 t3 XO.toArray)(abX:Vt≠Y6)(V3:Vt≠ad2)(aeR:Y6≠ad2):aah w (fun b=>b≠Vt/\b≠Y6/\b≠ad2) w none [⟨Vt,t1,WJ⟩,⟨Y6,t2,adr⟩,⟨ad2,t3,XO⟩]:=
 ⟨fun x Wy=>by
   simp only[ad,E,av]at Wy
   rcases Wy with rfl|rfl|rfl<;>assumption,by simp[abX,V3,aeR],fun x Wy=>by
   simp only[ad,E,av]at Wy
   rcases Wy with rfl|rfl|rfl
   ·exact .inr fun h=>h.1 rfl
   ·exact .inr fun h=>h.2.1 rfl
   ·exact .inr fun h=>h.2.2 rfl,Z1.refl _ _,trivial,fun a e=>by cases e⟩
theorem y4(w0:World)(S:Nat->Prop)(aaF aa2 gc YS:Nat)(aa3 VZ:Value)(r:aax)(x:Yr)(busy d:Bool)(aK:Nat)(l:List bO)(adu:ah w0 aa2 196 ([.pointer (some ⟨aaF,0,none⟩)]:List Value).toArray)(VG:ah w0 gc 42 ([.int .u8 r.call.op,.int .u8 r.call.r,.int .u8 r.call.h,.int .u8 r.call.v,.int .i64 r.call.a,.int .i64 r.call.b,.int .i64 r.call.c]:List Value).toArray)(aen:ah w0 aaF 200 (fI aa3 (.slice (some ⟨YS,0,none⟩) 4 4) VZ r x busy aK).toArray)(abo:de w0 S VZ l)(YJ:l.length<6)(hS: ∀b,S b->b≠aa2/\b≠gc/\b≠aaF):
 Calls prog 190 #[.bool d,.pointer (some ⟨aa2,0,none⟩),.pointer (some ⟨gc,0,none⟩)] w0 fun e w'=> ∃A k,e= .returned (.tuple #[])/\ah w' aaF 200 (fI aa3 (.slice (some ⟨YS,0,none⟩) 4 4) (.slice A (l.length+1) k) r x busy aK).toArray/\de w' (fun b=>w0.heap.size<=b) (.slice A (l.length+1) k) (l++ [(⟨r.call.a,d⟩:bO)])/\Z1 (fun b=>b≠aaF) w0 w':=by
 have U:=aah.three adu VG aen (adu.ne VG am) (adu.ne aen am) (VG.ne aen am);have abx:=I abo;have Zn:=I adu;have YT:=I VG;clear adu VG aen abo;go_enter func190,ntmps190;go_wp2_with(first|(refine aq ?_)|(refine ac2 U ?_;clear U;intro w U));replace U:=U.drew;refine wp_region_held_drew (S:=(c0 [⟨aa2,196,[.pointer (some ⟨aaF,0,none⟩)]⟩,⟨gc,42,[.int .u8 r.call.op,.int .u8 r.call.r,.int .u8 r.call.h,.int .u8 r.call.v,.int .i64 r.call.a,.int .i64 r.call.b,.int .i64 r.call.c]⟩])) aM ?_ (fun X=>?_)
 ·exact U.bG aN
 refine az [[0,1,2,3,5,6,7,8],[4]] ?_;refine aF 9 fun K Z7=>?_;go_simp
 (go_at_call 191;refine Calls.mono (BH _ S _ l r.call.a d (abx.out.Wu (U.Wu.mono fun b hb h=>hS b h)) YJ) ?_;rintro e aaM ⟨v',rfl,bD,N⟩;obtain⟨aeU,aaP,rfl,-,-,-⟩:=id bD;have hv:=U.eh bD;clear bD;have aaH:=U.below N;clear U N;have U:=aaH.base)
 go_wp2_with fail;refine WE Z7 fun X=>?_;refine az [[10,11,12,13,14],[15]] ?_;clear U;intro w U;go_wp2_with(first|(refine aq ?_)|(refine ac2 U ?_;clear U;intro w U));refine fY ?_;have Yq:=aaH.back U;have fx:(l++ [(⟨r.call.a,d⟩:bO)]).length=l.length+1:=aN;refine⟨aeU,aaP,rfl,Yq.b (g:=aaF) ag,?_,(Yq.Wu.sZ Zn.out (Yq.b (g:=aa2) ag)).sZ YT.out (Yq.b (g:=gc) ag)⟩;rw[<-fx];exact(U.carry hv fun b _ h=>h.2).mono fun b _ h=>h.1
section
theorem rB{G:Prop}(h:G:=by
 refine fY ?_;exact⟨aeU,aaP,rfl,U.b (g:=aaF) ag,U.b (g:=YS) ag,hv.mono (fun b _ h=>h.1),U.Wu⟩):G:=h
section
variable(w0:World)(aaF YS:Nat)(aa3 VZ:Value)(r:aax)(ads ls Wh:Value)(af3:Option Addr)(Ym ZM:Nat)(busy:Bool)(aK:Nat)(regs:Nat->Int)(aen:ah w0 aaF 200 (fI aa3 (.slice (some ⟨YS,0,none⟩) 4 4) VZ r ⟨ads,ls,Wh,.slice af3 Ym ZM⟩ busy aK).toArray)(adS:ah w0 YS 59 (bN .u64 4 regs).toArray)(S:Nat->Prop)(l:List bO)
include w0 aaF YS aa3 VZ r ads ls Wh af3 Ym ZM busy aK regs aen adS S l
section
variable(abo:de w0 S VZ l)(YJ:l.length<6)(hS: ∀b,S b->b<w0.heap.size/\b≠aaF/\b≠YS)(XP:r.aC.code=0)
include abo YJ hS XP
theorem I5(ZQ:r.call.op=4):
 Calls prog 108 #[.pointer (some ⟨aaF,0,none⟩)] w0 fun e w'=> ∃A k,e= .returned (.tuple #[])/\ah w' aaF 200 (fI aa3 (.slice (some ⟨YS,0,none⟩) 4 4) (.slice A (l.length+1) k) r ⟨ads,ls,Wh,.slice af3 Ym ZM⟩ false aK).toArray/\ah w' YS 59 (bN .u64 4 regs).toArray/\de w' (fun b=>w0.heap.size<=b) (.slice A (l.length+1) k) (l++ [⟨r.call.a,true⟩])/\Z1 (fun b=>b≠aaF/\b≠YS) w0 w':=by
 have U:=aah.two aen adS (aen.ne adS am);have abx:=I abo;clear abo;have ab7: ∀args w,(callFunc 190 args).run prog w= .ok (.enter 190 args) w:=enters_of func190 aM rfl;have VI:(r.aC.code !=0)=false:=by simp[XP]
 have adO:(r.call.op==1)=false:=by simp[ZQ]
 have ae8:(r.call.op==7)=false:=by simp[ZQ]
 have aa5:(r.call.op==8)=false:=by simp[ZQ]
 have I1:(r.call.op==10)=false:=by simp[ZQ]
 have adl:(r.call.op==4)=true:=by simp[ZQ]
 have rs: ∀(fn:Fn) (first cap:Array Value) (w:World),(Instr.makeFunc fn first cap).run prog w= .ok (.func fn first cap) w:=fun _ _ _ _=>rfl;have AQ:=aen.lt;have ss:=adS.lt;clear aen adS XP ZQ;go_enter func108,ntmps108;go_upto_region 2 with(first|(refine aq ?_)|(refine Ws U 196 ?_;clear U;intro gI w U jy)|(refine VP U gg ?_;clear U;intro gb w U ef)|(refine aT ?_;clear U;intro X8 w U aay))
 replace U:=U.drew;go_cut [2,3]from 8 to 18 (fun abq abb ZT=> ∃Vt Y6,abq= .pointer (some ⟨Vt,0,none⟩)/\abb= .pointer (some ⟨Y6,0,none⟩)/\aah w0 (fun b=>b≠aaF/\b≠YS) ZT none [⟨Vt,42,[.int .u8 r.call.op,.int .u8 r.call.r,.int .u8 r.call.h,.int .u8 r.call.v,.int .i64 r.call.a,.int .i64 r.call.b,.int .i64 r.call.c]⟩,⟨Y6,44,[.int .i64 r.aC.code,.int .i64 r.aC.n,.slice af3 Ym ZM]⟩,⟨gI,196,[.pointer (some ⟨aaF,0,none⟩)]⟩,⟨aaF,200,fI aa3 (.slice (some ⟨YS,0,none⟩) 4 4) VZ r ⟨ads,ls,Wh,.slice af3 Ym ZM⟩ false aK⟩,⟨YS,59,bN .u64 4 regs⟩]/\w0.heap.size<=Vt)
 case first=>
  exact hD
 case rest=>
 obtain⟨Vt,Y6,rfl,rfl,U,dP⟩:=hcut;go_wp2_with(first|(go_at_call 190;refine Calls.mono (y4 _ (fun b=>S b) aaF gI Vt YS aa3 VZ r ⟨ads,ls,Wh,.slice af3 Ym ZM⟩ false true aK l (U.b (g:=gI) ag) (U.b (g:=Vt) ag) (U.b (g:=aaF) ag) (abx.out.Wu (U.Wu.mono fun b hb h=>(hS b h).2)) YJ (fun b h=>⟨fun e=>by have:=(hS b h).1;omega,fun e=>by have:=(hS b h).1;omega,(hS b h).2.1⟩)) ?_;rintro e aaM ⟨aeU,aaP,rfl,N,bD,aX⟩;have jT:=U.hX cf N aX.lf;have hv:=U.eh bD;clear U N bD aX;have U:=jT)|(refine aq ?_)|(refine Ws U 196 ?_;clear U;intro gI w U jy)|(refine VP U gg ?_;clear U;intro gb w U ef)|(refine aT ?_;clear U;intro X8 w U aay));exact rB
theorem I6(ZQ:r.call.op=6):
 Calls prog 108 #[.pointer (some ⟨aaF,0,none⟩)] w0 fun e w'=> ∃A k,e= .returned (.tuple #[])/\ah w' aaF 200 (fI aa3 (.slice (some ⟨YS,0,none⟩) 4 4) (.slice A (l.length+1) k) r ⟨ads,ls,Wh,.slice af3 Ym ZM⟩ false aK).toArray/\ah w' YS 59 (bN .u64 4 regs).toArray/\de w' (fun b=>w0.heap.size<=b) (.slice A (l.length+1) k) (l++ [⟨r.call.a,false⟩])/\Z1 (fun b=>b≠aaF/\b≠YS) w0 w':=by
 have U:=aah.two aen adS (aen.ne adS am);have abx:=I abo;clear abo;have ab7: ∀args w,(callFunc 190 args).run prog w= .ok (.enter 190 args) w:=enters_of func190 aM rfl;have VI:(r.aC.code !=0)=false:=by simp[XP]
 have adO:(r.call.op==1)=false:=by simp[ZQ]
 have ae8:(r.call.op==7)=false:=by simp[ZQ]
 have aa5:(r.call.op==8)=false:=by simp[ZQ]
 have I1:(r.call.op==10)=false:=by simp[ZQ]
 have adl:(r.call.op==4)=false:=by simp[ZQ]
 have Zg:(r.call.op==6)=true:=by simp[ZQ]
 have rs: ∀(fn:Fn) (first cap:Array Value) (w:World),(Instr.makeFunc fn first cap).run prog w= .ok (.func fn first cap) w:=fun _ _ _ _=>rfl;have AQ:=aen.lt;have ss:=adS.lt;clear aen adS XP ZQ;go_enter func108,ntmps108;go_upto_region 2 with(first|(refine aq ?_)|(refine Ws U 196 ?_;clear U;intro gI w U jy)|(refine VP U gg ?_;clear U;intro gb w U ef)|(refine aT ?_;clear U;intro X8 w U aay))
 replace U:=U.drew;go_cut [2,3]from 8 to 18 (fun abq abb ZT=> ∃Vt Y6,abq= .pointer (some ⟨Vt,0,none⟩)/\abb= .pointer (some ⟨Y6,0,none⟩)/\aah w0 (fun b=>b≠aaF/\b≠YS) ZT none [⟨Vt,42,[.int .u8 r.call.op,.int .u8 r.call.r,.int .u8 r.call.h,.int .u8 r.call.v,.int .i64 r.call.a,.int .i64 r.call.b,.int .i64 r.call.c]⟩,⟨Y6,44,[.int .i64 r.aC.code,.int .i64 r.aC.n,.slice af3 Ym ZM]⟩,⟨gI,196,[.pointer (some ⟨aaF,0,none⟩)]⟩,⟨aaF,200,fI aa3 (.slice (some ⟨YS,0,none⟩) 4 4) VZ r ⟨ads,ls,Wh,.slice af3 Ym ZM⟩ false aK⟩,⟨YS,59,bN .u64 4 regs⟩]/\w0.heap.size<=Vt)
 case first=>
  exact hD
 case rest=>
 obtain⟨Vt,Y6,rfl,rfl,U,dP⟩:=hcut;go_wp2_with(first|(go_at_call 190;refine Calls.mono (y4 _ (fun b=>S b) aaF gI Vt YS aa3 VZ r ⟨ads,ls,Wh,.slice af3 Ym ZM⟩ false false aK l (U.b (g:=gI) ag) (U.b (g:=Vt) ag) (U.b (g:=aaF) ag) (abx.out.Wu (U.Wu.mono fun b hb h=>(hS b h).2)) YJ (fun b h=>⟨fun e=>by have:=(hS b h).1;omega,fun e=>by have:=(hS b h).1;omega,(hS b h).2.1⟩)) ?_;rintro e aaM ⟨aeU,aaP,rfl,N,bD,aX⟩;have jT:=U.hX cf N aX.lf;have hv:=U.eh bD;clear U N bD aX;have U:=jT)|(refine aq ?_)|(refine Ws U 196 ?_;clear U;intro gI w U jy)|(refine VP U gg ?_;clear U;intro gb w U ef)|(refine aT ?_;clear U;intro X8 w U aay));exact rB
end
theorem I7(aeY:Int)(d0:Bool)(abo:de w0 S VZ (l++ [⟨aeY,d0⟩]))(YJ:l.length<=6)(hS: ∀b,S b->b<w0.heap.size/\b≠aaF/\b≠YS)(XP:r.aC.code=0)(ZQ:r.call.op=5):
 Calls prog 108 #[.pointer (some ⟨aaF,0,none⟩)] w0 fun e w'=> ∃A k,e= .returned (.tuple #[])/\ah w' aaF 200 (fI aa3 (.slice (some ⟨YS,0,none⟩) 4 4) (.slice A (l.length) k) r ⟨ads,ls,Wh,.slice af3 Ym ZM⟩ false aK).toArray/\ah w' YS 59 (bN .u64 4 regs).toArray/\de w' (fun b=>w0.heap.size<=b) (.slice A (l.length) k) l/\Z1 (fun b=>b≠aaF/\b≠YS) w0 w':=by
 have U:=aah.two aen adS (aen.ne adS am);have abx:=I abo;clear abo;have VI:(r.aC.code !=0)=false:=by simp[XP]
 have adO:(r.call.op==1)=false:=by simp[ZQ]
 have ae8:(r.call.op==7)=false:=by simp[ZQ]
 have aa5:(r.call.op==8)=false:=by simp[ZQ]
 have I1:(r.call.op==10)=false:=by simp[ZQ]
 have adl:(r.call.op==4)=false:=by simp[ZQ]
 have Zg:(r.call.op==6)=false:=by simp[ZQ]
 have YZ:(r.call.op==5)=true:=by simp[ZQ]
 have rs: ∀(fn:Fn) (first cap:Array Value) (w:World),(Instr.makeFunc fn first cap).run prog w= .ok (.func fn first cap) w:=fun _ _ _ _=>rfl;have AQ:=aen.lt;have ss:=adS.lt;clear aen adS XP ZQ;go_enter func108,ntmps108;go_upto_region 2 with(first|(refine aq ?_)|(refine Ws U 196 ?_;clear U;intro gI w U jy)|(refine VP U gg ?_;clear U;intro gb w U ef)|(refine aT ?_;clear U;intro X8 w U aay))
 replace U:=U.drew;go_cut [2,3]from 8 to 18 (fun abq abb ZT=> ∃Vt Y6,abq= .pointer (some ⟨Vt,0,none⟩)/\abb= .pointer (some ⟨Y6,0,none⟩)/\aah w0 (fun b=>b≠aaF/\b≠YS) ZT none [⟨Vt,42,[.int .u8 r.call.op,.int .u8 r.call.r,.int .u8 r.call.h,.int .u8 r.call.v,.int .i64 r.call.a,.int .i64 r.call.b,.int .i64 r.call.c]⟩,⟨Y6,44,[.int .i64 r.aC.code,.int .i64 r.aC.n,.slice af3 Ym ZM]⟩,⟨gI,196,[.pointer (some ⟨aaF,0,none⟩)]⟩,⟨aaF,200,fI aa3 (.slice (some ⟨YS,0,none⟩) 4 4) VZ r ⟨ads,ls,Wh,.slice af3 Ym ZM⟩ false aK⟩,⟨YS,59,bN .u64 4 regs⟩]/\w0.heap.size<=Vt)
 case first=>
  exact hD
 case rest=>
 obtain⟨Vt,Y6,rfl,rfl,U,dP⟩:=hcut;go_wp2_with(first|(refine aq ?_)|(refine Ws U 196 ?_;clear U;intro gI w U jy)|(refine VP U gg ?_;clear U;intro gb w U ef)|(refine aT ?_;clear U;intro X8 w U aay));replace U:=U.drew;refine wp_region_held_drew (S:=(c0 [⟨Vt,42,[.int .u8 r.call.op,.int .u8 r.call.r,.int .u8 r.call.h,.int .u8 r.call.v,.int .i64 r.call.a,.int .i64 r.call.b,.int .i64 r.call.c]⟩,⟨Y6,44,[.int .i64 r.aC.code,.int .i64 r.aC.n,.slice af3 Ym ZM]⟩,⟨gI,196,[.pointer (some ⟨aaF,0,none⟩)]⟩])) aM ?_ (fun X=>?_)
 ·exact U.bG aN
 refine az [[0,1,2,3],[4]] ?_;refine aF 5 fun K Z7=>?_;go_simp
 (go_at_call 192;refine Calls.mono (EO _ (fun b=>S b) _ l aeY d0 (abx.out.Wu (U.Wu.mono fun b hb h=>(hS b h).2)) YJ) ?_;rintro e aaM ⟨v',rfl,bD,N⟩;obtain⟨aeU,aaP,rfl,-,-,-⟩:=id bD;have hv:=U.eh bD;clear bD;have aaH:=U.below N;clear U N;have U:=aaH.base)
 go_wp2_with fail;refine WE Z7 fun X=>?_;refine az [[6,7,8,9,10,11],[12]] ?_;clear U;intro w U;go_wp2_with(first|(refine aq ?_)|(refine Ws U 196 ?_;clear U;intro gI w U jy)|(refine VP U gg ?_;clear U;intro gb w U ef)|(refine aT ?_;clear U;intro X8 w U aay));refine fY ?_;have Yq:=aaH.back U;exact⟨aeU,aaP,rfl,Yq.b (g:=aaF) ag,Yq.b (g:=YS) ag,(U.carry hv fun b _ h=>h.2).mono fun b _ h=>h.1,Yq.Wu⟩
end
end
section
theorem qe{G:Prop}(h:G:=by
 go_wp2_with(first|(refine aq ?_)|(refine aT ?_;clear U;intro X8 w U aay));refine cw results107 rfl rfl ⟨_,U.b ag,rfl⟩ underlying198 rfl (by kernel_rfl) ?_;have Yq:=aaH.back U;exact⟨_,aO,rfl,U.bB,gw.out.Wu (U.Wu.block _ gw.out.lt.1 oc.out.1) (U.Wu.block _ gw.out.lt.2 oc.out.2),iG.out,(uE.out.Wu (U.Wu.mono fun b _ h=>h.2)).mono fun b _ h=>h.1,Yq.Pe aav.out ag⟩):G:=h
theorem od{G:Prop}(h:G:=by
 go_wp2_with fail;refine abR Z7 fun X=>?_;refine az [[14,15,16],[17]] ?_;clear U;intro w U;exact qe):G:=h
theorem kO{G:Prop}(h:G:=by
 go_wp2_with fail;refine abR Z7 fun X=>?_;refine az [[10,11,12],[13]] ?_;clear U;intro w U;exact qe):G:=h
section
variable(w0:World)(S:Nat->Prop)(p:afy)(aeh:Nat)(Y8 acc Z2:Value)(h4:Int)(ap WC n:Nat)(V:Nat->Int)(aff rg:Nat)(a4 aaY:Int)(fr:List Ext)(r:aax)(x:Yr)(hb:ah w0 aeh 142 (gh p Y8 ap aff acc Z2 h4).toArray)(Xg:ar w0 ap WC n V)(afj:cY w0 aff rg a4 aaY fr)(abk:aW w0 S r x)(hS: ∀b,S b->b<w0.heap.size/\b≠aeh)(afl:aeh≠ap/\aeh≠WC/\aeh≠aff/\aeh≠rg)(dK:ap≠aff/\ap≠rg/\WC≠aff/\WC≠rg)(V2:Nat->Int)(gV:List Ext)(XY:aax)
include w0 S p aeh Y8 acc Z2 h4 ap WC n V aff rg a4 aaY fr r x hb Xg afj abk hS afl dK V2 gV XY
section
variable(YM:r.Xj≠0)(h1:r.Xj≠1)
include YM h1
theorem Ml(hop:r.call.op=7)(YT: ∀(aaM:World),ar aaM ap WC n V->cY aaM aff rg a4 aaY fr->aW aaM S r x->Below w0.heap.size w0 aaM->Calls prog 186 #[ej p,.pointer (some ⟨ap,0,none⟩),.agg (aY r x)] aaM fun e w'=> ∃x' aO,e= .returned (.tuple #[.agg (aY XY x'),.int .i64 0])/\ar w' ap WC n V2/\cY w' aff aO a4 aaY gV/\(aO=rg\/aaM.heap.size<=aO)/\aW w' (fun b=>(S b\/aaM.heap.size<=b)/\b≠WC/\b≠aff/\b≠aO) XY x'/\Z1 (fun b=>b≠WC/\b≠aff/\b≠rg) aaM w'):
 Calls prog 107 #[.pointer (some ⟨aeh,0,none⟩),.agg (aY r x)] w0 fun e w'=> ∃x' aO,e= .returned (.agg (aY XY x'))/\ar w' ap WC n V2/\cY w' aff aO a4 aaY gV/\(aO=rg\/w0.heap.size<=aO)/\aW w' (fun b=>(S b\/w0.heap.size<=b)/\b≠WC/\b≠aff/\b≠aO) XY x'/\Z1 (fun b=>b≠WC/\b≠aff/\b≠rg) w0 w':=by
 obtain⟨W9,adX,aeQ,acN,acG,aeb,af3,ZM,rfl⟩:=eW abk;replace YT:=I YT;have Zn:=I Xg;have aaq:=I afj;have cH:=I afj.lt;have aby:=I abk;have aav:=I hb;have acf:=I hS;replace dK:=I dK;replace afl:=I afl;have U:=aah.g8 hb;have Zh:(r.Xj==0)=false:=by simpa using YM
 have q1:(r.Xj==1)=false:=by simpa using h1
 have ae8:(r.call.op==7)=true:=by simp[hop]
 clear Xg afj abk hb hS YM h1 hop;go_enter func107,ntmps107;go_wp2_with(first|(refine aq ?_)|(refine aT ?_;clear U;intro X8 w U aay));replace U:=U.drew;refine wp_region_held_drew aM U.l0 (fun X=>?_);refine az [[0,1,2,3,4,5,6,7,8]] ?_;refine aF 9 fun K Z7=>?_;go_simp
 (go_at_call 186;have dq:=U.ro aav.out ag;refine Calls.mono (YT.out _ (ar.below Zn.out dq Zn.out.c9.1 Zn.out.c9.2.1) (aaq.out.Wu (dq.block _ cH.out.1) (dq.block _ cH.out.2)) (aby.out.Wu (Z1.cg dq)) dq) ?_;rintro e aaM ⟨⟨agd,abl,Xl,XR⟩,aO,rfl,aH,dP,cT,bv,aX⟩;obtain⟨aaH,Zd,adQ⟩:=U.found aH Zn.out cH.out dK.out afl.out aX cT;have iG:=I (cT.imp id fun h=>D U.size h);have gw:=I dP;have oc:=I (And.intro Zd adQ);obtain⟨aaw,X3,Za,aaZ,ad4,XB,XU,Zz,aeo⟩:=eW bv;cases aeo;have uE:=I (U.rA (ap:=ap) (n:=n) (V2:=V2) bv acf.out);clear U dP cT aX Zd adQ bv aH dq;have U:=aaH.base)
 exact kO
theorem Mm(hop:r.call.op=4)(YT: ∀(aaM:World),ar aaM ap WC n V->cY aaM aff rg a4 aaY fr->aW aaM S r x->Below w0.heap.size w0 aaM->Calls prog 187 #[ej p,.pointer (some ⟨ap,0,none⟩),.agg (aY r x)] aaM fun e w'=> ∃x' aO,e= .returned (.tuple #[.agg (aY XY x'),.int .i64 0])/\ar w' ap WC n V2/\cY w' aff aO a4 aaY gV/\(aO=rg\/aaM.heap.size<=aO)/\aW w' (fun b=>(S b\/aaM.heap.size<=b)/\b≠WC/\b≠aff/\b≠aO) XY x'/\Z1 (fun b=>b≠WC/\b≠aff/\b≠rg) aaM w'):
 Calls prog 107 #[.pointer (some ⟨aeh,0,none⟩),.agg (aY r x)] w0 fun e w'=> ∃x' aO,e= .returned (.agg (aY XY x'))/\ar w' ap WC n V2/\cY w' aff aO a4 aaY gV/\(aO=rg\/w0.heap.size<=aO)/\aW w' (fun b=>(S b\/w0.heap.size<=b)/\b≠WC/\b≠aff/\b≠aO) XY x'/\Z1 (fun b=>b≠WC/\b≠aff/\b≠rg) w0 w':=by
 obtain⟨W9,adX,aeQ,acN,acG,aeb,af3,ZM,rfl⟩:=eW abk;replace YT:=I YT;have Zn:=I Xg;have aaq:=I afj;have cH:=I afj.lt;have aby:=I abk;have aav:=I hb;have acf:=I hS;replace dK:=I dK;replace afl:=I afl;have U:=aah.g8 hb;have Zh:(r.Xj==0)=false:=by simpa using YM
 have q1:(r.Xj==1)=false:=by simpa using h1
 have ae8:(r.call.op==7)=false:=by simp[hop]
 have adl:(r.call.op==4)=true:=by simp[hop]
 clear Xg afj abk hb hS YM h1 hop;go_enter func107,ntmps107;go_wp2_with(first|(refine aq ?_)|(refine aT ?_;clear U;intro X8 w U aay));replace U:=U.drew;refine wp_region_held_drew aM U.l0 (fun X=>?_);refine az [[0,1,2,3,4,5,6,7,8]] ?_;refine aF 9 fun K Z7=>?_;go_simp
 (go_at_call 187;have dq:=U.ro aav.out ag;refine Calls.mono (YT.out _ (ar.below Zn.out dq Zn.out.c9.1 Zn.out.c9.2.1) (aaq.out.Wu (dq.block _ cH.out.1) (dq.block _ cH.out.2)) (aby.out.Wu (Z1.cg dq)) dq) ?_;rintro e aaM ⟨⟨agd,abl,Xl,XR⟩,aO,rfl,aH,dP,cT,bv,aX⟩;obtain⟨aaH,Zd,adQ⟩:=U.found aH Zn.out cH.out dK.out afl.out aX cT;have iG:=I (cT.imp id fun h=>D U.size h);have gw:=I dP;have oc:=I (And.intro Zd adQ);obtain⟨aaw,X3,Za,aaZ,ad4,XB,XU,Zz,aeo⟩:=eW bv;cases aeo;have uE:=I (U.rA (ap:=ap) (n:=n) (V2:=V2) bv acf.out);clear U dP cT aX Zd adQ bv aH dq;have U:=aaH.base)
 exact kO
theorem Mn(hop:r.call.op=5)(YT: ∀(aaM:World),ar aaM ap WC n V->cY aaM aff rg a4 aaY fr->aW aaM S r x->Below w0.heap.size w0 aaM->Calls prog 188 #[ej p,Y8,.pointer (some ⟨ap,0,none⟩),.agg (aY r x)] aaM fun e w'=> ∃x' aO,e= .returned (.tuple #[.agg (aY XY x'),.int .i64 0])/\ar w' ap WC n V2/\cY w' aff aO a4 aaY gV/\(aO=rg\/aaM.heap.size<=aO)/\aW w' (fun b=>(S b\/aaM.heap.size<=b)/\b≠WC/\b≠aff/\b≠aO) XY x'/\Z1 (fun b=>b≠WC/\b≠aff/\b≠rg) aaM w'):
 Calls prog 107 #[.pointer (some ⟨aeh,0,none⟩),.agg (aY r x)] w0 fun e w'=> ∃x' aO,e= .returned (.agg (aY XY x'))/\ar w' ap WC n V2/\cY w' aff aO a4 aaY gV/\(aO=rg\/w0.heap.size<=aO)/\aW w' (fun b=>(S b\/w0.heap.size<=b)/\b≠WC/\b≠aff/\b≠aO) XY x'/\Z1 (fun b=>b≠WC/\b≠aff/\b≠rg) w0 w':=by
 obtain⟨W9,adX,aeQ,acN,acG,aeb,af3,ZM,rfl⟩:=eW abk;replace YT:=I YT;have Zn:=I Xg;have aaq:=I afj;have cH:=I afj.lt;have aby:=I abk;have aav:=I hb;have acf:=I hS;replace dK:=I dK;replace afl:=I afl;have U:=aah.g8 hb;have Zh:(r.Xj==0)=false:=by simpa using YM
 have q1:(r.Xj==1)=false:=by simpa using h1
 have ae8:(r.call.op==7)=false:=by simp[hop]
 have adl:(r.call.op==4)=false:=by simp[hop]
 have YZ:(r.call.op==5)=true:=by simp[hop]
 clear Xg afj abk hb hS YM h1 hop;go_enter func107,ntmps107;go_wp2_with(first|(refine aq ?_)|(refine aT ?_;clear U;intro X8 w U aay));replace U:=U.drew;refine wp_region_held_drew aM U.l0 (fun X=>?_);refine az [[0,1,2,3,4,5,6,7,8,9,10,11,12]] ?_;refine aF 13 fun K Z7=>?_;go_simp
 (go_at_call 188;have dq:=U.ro aav.out ag;refine Calls.mono (YT.out _ (ar.below Zn.out dq Zn.out.c9.1 Zn.out.c9.2.1) (aaq.out.Wu (dq.block _ cH.out.1) (dq.block _ cH.out.2)) (aby.out.Wu (Z1.cg dq)) dq) ?_;rintro e aaM ⟨⟨agd,abl,Xl,XR⟩,aO,rfl,aH,dP,cT,bv,aX⟩;obtain⟨aaH,Zd,adQ⟩:=U.found aH Zn.out cH.out dK.out afl.out aX cT;have iG:=I (cT.imp id fun h=>D U.size h);have gw:=I dP;have oc:=I (And.intro Zd adQ);obtain⟨aaw,X3,Za,aaZ,ad4,XB,XU,Zz,aeo⟩:=eW bv;cases aeo;have uE:=I (U.rA (ap:=ap) (n:=n) (V2:=V2) bv acf.out);clear U dP cT aX Zd adQ bv aH dq;have U:=aaH.base)
 exact od
theorem Mo(ZQ:r.call.op≠7/\r.call.op≠4/\r.call.op≠5)(YT: ∀(aaM:World),ar aaM ap WC n V->cY aaM aff rg a4 aaY fr->aW aaM S r x->Below w0.heap.size w0 aaM->Calls prog 189 #[ej p,.pointer (some ⟨ap,0,none⟩),.agg (aY r x)] aaM fun e w'=> ∃x' aO,e= .returned (.tuple #[.agg (aY XY x'),.int .i64 0])/\ar w' ap WC n V2/\cY w' aff aO a4 aaY gV/\(aO=rg\/aaM.heap.size<=aO)/\aW w' (fun b=>(S b\/aaM.heap.size<=b)/\b≠WC/\b≠aff/\b≠aO) XY x'/\Z1 (fun b=>b≠WC/\b≠aff/\b≠rg) aaM w'):
 Calls prog 107 #[.pointer (some ⟨aeh,0,none⟩),.agg (aY r x)] w0 fun e w'=> ∃x' aO,e= .returned (.agg (aY XY x'))/\ar w' ap WC n V2/\cY w' aff aO a4 aaY gV/\(aO=rg\/w0.heap.size<=aO)/\aW w' (fun b=>(S b\/w0.heap.size<=b)/\b≠WC/\b≠aff/\b≠aO) XY x'/\Z1 (fun b=>b≠WC/\b≠aff/\b≠rg) w0 w':=by
 obtain⟨W9,adX,aeQ,acN,acG,aeb,af3,ZM,rfl⟩:=eW abk;replace YT:=I YT;have Zn:=I Xg;have aaq:=I afj;have cH:=I afj.lt;have aby:=I abk;have aav:=I hb;have acf:=I hS;replace dK:=I dK;replace afl:=I afl;have U:=aah.g8 hb;have Zh:(r.Xj==0)=false:=by simpa using YM
 have q1:(r.Xj==1)=false:=by simpa using h1
 have ae8:(r.call.op==7)=false:=by simp[ZQ]
 have adl:(r.call.op==4)=false:=by simp[ZQ]
 have YZ:(r.call.op==5)=false:=by simp[ZQ]
 clear Xg afj abk hb hS YM h1 ZQ;go_enter func107,ntmps107;go_wp2_with(first|(refine aq ?_)|(refine aT ?_;clear U;intro X8 w U aay));replace U:=U.drew;refine wp_region_held_drew aM U.l0 (fun X=>?_);refine az [[0,1,2,3,4,5,6,7,8]] ?_;refine aF 9 fun K Z7=>?_;go_simp
 (go_at_call 189;have dq:=U.ro aav.out ag;refine Calls.mono (YT.out _ (ar.below Zn.out dq Zn.out.c9.1 Zn.out.c9.2.1) (aaq.out.Wu (dq.block _ cH.out.1) (dq.block _ cH.out.2)) (aby.out.Wu (Z1.cg dq)) dq) ?_;rintro e aaM ⟨⟨agd,abl,Xl,XR⟩,aO,rfl,aH,dP,cT,bv,aX⟩;obtain⟨aaH,Zd,adQ⟩:=U.found aH Zn.out cH.out dK.out afl.out aX cT;have iG:=I (cT.imp id fun h=>D U.size h);have gw:=I dP;have oc:=I (And.intro Zd adQ);obtain⟨aaw,X3,Za,aaZ,ad4,XB,XU,Zz,aeo⟩:=eW bv;cases aeo;have uE:=I (U.rA (ap:=ap) (n:=n) (V2:=V2) bv acf.out);clear U dP cT aX Zd adQ bv aH dq;have U:=aaH.base)
 exact kO
end
theorem Mp(a5:r.Xj=1)(YT: ∀(aaM:World),ar aaM ap WC n V->cY aaM aff rg a4 aaY fr->aW aaM S r x->Below w0.heap.size w0 aaM->Calls prog 185 #[ej p,.pointer (some ⟨ap,0,none⟩),.pointer (some ⟨aff,0,none⟩),.agg (aY r x)] aaM fun e w'=> ∃x' aO,e= .returned (.tuple #[.agg (aY XY x'),.int .i64 0])/\ar w' ap WC n V2/\cY w' aff aO a4 aaY gV/\(aO=rg\/aaM.heap.size<=aO)/\aW w' (fun b=>(S b\/aaM.heap.size<=b)/\b≠WC/\b≠aff/\b≠aO) XY x'/\Z1 (fun b=>b≠WC/\b≠aff/\b≠rg) aaM w'):
 Calls prog 107 #[.pointer (some ⟨aeh,0,none⟩),.agg (aY r x)] w0 fun e w'=> ∃x' aO,e= .returned (.agg (aY XY x'))/\ar w' ap WC n V2/\cY w' aff aO a4 aaY gV/\(aO=rg\/w0.heap.size<=aO)/\aW w' (fun b=>(S b\/w0.heap.size<=b)/\b≠WC/\b≠aff/\b≠aO) XY x'/\Z1 (fun b=>b≠WC/\b≠aff/\b≠rg) w0 w':=by
 obtain⟨W9,adX,aeQ,acN,acG,aeb,af3,ZM,rfl⟩:=eW abk;replace YT:=I YT;have Zn:=I Xg;have aaq:=I afj;have cH:=I afj.lt;have aby:=I abk;have aav:=I hb;have acf:=I hS;replace dK:=I dK;replace afl:=I afl;have U:=aah.g8 hb;have Zh:(r.Xj==0)=false:=by simp[a5]
 have q1:(r.Xj==1)=true:=by simp[a5]
 clear Xg afj abk hb hS a5;go_enter func107,ntmps107;go_wp2_with(first|(refine aq ?_)|(refine aT ?_;clear U;intro X8 w U aay));replace U:=U.drew;refine wp_region_held_drew aM U.l0 (fun X=>?_);refine az [[0,1,2,3,4,5,6,7,8,9,10,11,12]] ?_;refine aF 13 fun K Z7=>?_;go_simp
 (go_at_call 185;have dq:=U.ro aav.out ag;refine Calls.mono (YT.out _ (ar.below Zn.out dq Zn.out.c9.1 Zn.out.c9.2.1) (aaq.out.Wu (dq.block _ cH.out.1) (dq.block _ cH.out.2)) (aby.out.Wu (Z1.cg dq)) dq) ?_;rintro e aaM ⟨⟨agd,abl,Xl,XR⟩,aO,rfl,aH,dP,cT,bv,aX⟩;obtain⟨aaH,Zd,adQ⟩:=U.found aH Zn.out cH.out dK.out afl.out aX cT;have iG:=I (cT.imp id fun h=>D U.size h);have gw:=I dP;have oc:=I (And.intro Zd adQ);obtain⟨aaw,X3,Za,aaZ,ad4,XB,XU,Zz,aeo⟩:=eW bv;cases aeo;have uE:=I (U.rA (ap:=ap) (n:=n) (V2:=V2) bv acf.out);clear U dP cT aX Zd adQ bv aH dq;have U:=aaH.base)
 exact od
end
end
end Go.Proofs.YtcimojgkeoecfaaGreat
