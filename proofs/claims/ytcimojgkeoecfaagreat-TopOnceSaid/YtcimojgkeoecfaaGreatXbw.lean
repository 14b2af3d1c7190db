import Derived.Test.YtcimojgkeoecfaaGreatXbv
set_option linter.all false
set_option maxHeartbeats 16000000
set_option maxRecDepth 100000
namespace Go.Proofs.YtcimojgkeoecfaaGreat
open Go.RowKit Tryz
section
theorem pH{G:Prop}(h:G:=by
 have U:=aah.a0 w0;go_enter func282,ntmps282;go_upto_region 1 with(refine Ws U 319 ?_;clear U;intro g w U VW)
 have VI:=U.cell (g:=g) (i:=0) cX rfl;go_wp2_with fail;go_ret;exact⟨rfl,U.all⟩):G:=h
theorem Er(w:World):(Instr.makeSlice 315 (.int .i64 ((2:Nat):Int)) (.int .i64 ((2:Nat):Int))).run prog w= .ok (.slice (some ⟨w.heap.size,0,none⟩) 2 2) (w.alloc (.cells ([.int .i64 0,.int .i64 0,.int .i64 0,.int .i64 0,.int .i64 0,.int .i64 0,.int .i64 0,.int .i64 0,.int .i64 0,.int .i64 0,.int .i64 0,.int .i64 0]:List Value).toArray 319)):=
 vr (z:=.agg #[.int .i64 0,.int .i64 0,.int .i64 0,.int .i64 0,.int .i64 0,.int .i64 0]) (sz:=6) (bytes:=48) underlying315 aM am am aM w
section
variable(w0:World)
include w0
theorem H5:
 Calls prog 127 #[.agg ([.int .i64 2,.int .i64 1,.int .i64 0,.int .i64 64]:List Value).toArray] w0 fun e w'=> ∃gs acw aff rg,e= .returned (.tuple #[.pointer (some ⟨gs,0,none⟩),.int .i64 0])/\aah w0 (fun _=>True) w' none [⟨gs,317,[.slice (some ⟨acw,0,none⟩) 2 2,.pointer (some ⟨aff,0,none⟩)]⟩,⟨acw,319,[.int .i64 2,.int .i64 1,.int .i64 (-1),.int .i64 0,.int .i64 128,.int .i64 0,.int .i64 0,.int .i64 0,.int .i64 (-1),.int .i64 0,.int .i64 0,.int .i64 0]⟩]/\
  cY w' aff rg 128 192 [⟨128,64⟩]/\w0.heap.size<=aff/\w0.heap.size<=rg:=by
 have U:=aah.a0 w0;have aeg:=I Er;have afm:=I fun w'=>BU w' 128 64 am am;have ac5:=I fun w'=>jS 2 1 0 64 w' (I am) am;have Yl:=I fun w'=>pR 2 1 0 64 w' (I am) am am;go_enter func127,ntmps127;go_upto_region 1 with(refine Ws U 27 ?_;clear U;intro hk w U VW)
 go_upto_region 3 with(first|(go_at_call 77;refine a6 U (kJ 2 1 0 64 _ am) ?_;clear U;intro aaM U)|(refine Ww U ?_))
 go_upto_region 4 with(first|(refine aaO U ?_)|(refine NI U aeg.out ?_;clear U;intro acw w U Vf)|(refine Ws U 317 ?_;clear U;intro gs w U Tm))
 go_wp2_with(first|(refine aq ?_)|(refine ac2 U ?_;clear U;intro w U));refine wp_loop_rounds 3 ?_;rw[rounds_succ];go_wp2_with(first|(refine aq ?_)|(refine ac2 U ?_;clear U;intro w U));rw[rounds_succ];go_wp2_with(first|(refine aq ?_)|(refine ac2 U ?_;clear U;intro w U));rw[rounds_succ];go_upto_region 10 with(first|(refine aq ?_)|(refine ac2 U ?_;clear U;intro w U))
 replace U:=U.drew;refine wp_region_held_drew (S:=(c0 [⟨gs,317,[.slice (some ⟨acw,0,none⟩) 2 2,.pointer none]⟩,⟨hk,27,[.int .i64 2,.int .i64 1,.int .i64 0,.int .i64 64]⟩])) aM ?_ (fun X=>?_)
 ·exact U.bG aN
 refine az [[0,1,2,3,4]] ?_;refine aF 5 fun K Z7=>?_;go_simp;go_at_call 199;refine a6 U (ac5.out _) ?_;clear U;intro aaM U;go_wp2_with fail;refine WE Z7 fun X=>?_;refine az [[6,7,8,9,10],[11]] ?_;clear U;intro w U;go_upto_region 12 with(first|(go_at_call 153;refine a6 U (Yl.out _) ?_;clear U;intro aaM U)|(refine Ww U ?_)|(refine VP U eK ?_;clear U;intro ge w U TP)|(refine ac2 U ?_;clear U;intro w U))
 go_wp2_with(first|(go_at_call 198;refine Calls.mono (afm.out _) ?_;rintro e aaM ⟨aff,rg,rfl,afj,dP,qS,ae3⟩;have ZG:=I (And.intro (U.hO dP) (U.hO qS));have aaq:=I afj;have aaH:=U.below ae3.q9;clear U afj dP qS ae3;have U:=aaH.base)|(refine aq ?_)|(refine ac2 U ?_;clear U;intro w U));go_ret2;obtain⟨⟨abX,V3⟩,aeR,Ym⟩:=ZG.out;exact⟨gs,acw,aff,rg,rfl,aah.front (L1:= [_,_]) (L2:= [_]) (aaH.back U).c6,aaq.out.Wu (U.Wu.block aff aaq.out.lt.1 V3) (U.Wu.block rg aaq.out.lt.2 Ym),abX,aeR⟩
theorem Es:Calls prog 282 #[.agg ([.int .i64 2,.int .i64 1,.int .i64 (-1),.int .i64 0,.int .i64 128,.int .i64 0]:List Value).toArray] w0 fun e w'=>e= .returned (.bool false)/\Below w0.heap.size w0 w':=by
 exact pH
theorem Et:Calls prog 282 #[.agg ([.int .i64 0,.int .i64 0,.int .i64 (-1),.int .i64 0,.int .i64 0,.int .i64 0]:List Value).toArray] w0 fun e w'=>e= .returned (.bool true)/\Below w0.heap.size w0 w':=by
 exact pH
theorem H6(acw:Nat)(hb:ah w0 acw 319 ([.int .i64 2,.int .i64 1,.int .i64 (-1),.int .i64 0,.int .i64 128,.int .i64 0,.int .i64 0,.int .i64 0,.int .i64 (-1),.int .i64 0,.int .i64 0,.int .i64 0]:List Value).toArray):
 Calls prog 281 #[.slice (some ⟨acw,0,none⟩) 2 2,.func (.func 282) #[] #[]] w0 fun e w'=>e= .returned (.int .i64 1)/\Below w0.heap.size w0 w':=by
 have ab7: ∀args w,(callFunc 282 args).run prog w= .ok (.enter 282 args) w:=enters_of func282 aM rfl;have U:=aah.g8 hb;have aav:=I hb;clear hb;go_enter func281,ntmps281;go_wp2_with fail;refine wp_loop_rounds 2 ?_;rw[rounds_succ];go_wp2_with(refine Ww U ?_);refine(Es _).mono ?_;rintro e aaM ⟨rfl,N⟩;replace U:=U.below N;clear N;go_wp2_with fail;rw[rounds_succ];go_wp2_with(refine Ww U ?_);refine(Et _).mono ?_;rintro e aaM ⟨rfl,N⟩;replace U:=U.below N;clear N;go_wp2_with fail;go_ret;exact⟨rfl,U.ro aav.out cX⟩
theorem z1(gs acw aff rg:Nat)(YF:ah w0 gs 317 ([.slice (some ⟨acw,0,none⟩) 2 2,.pointer (some ⟨aff,0,none⟩)]:List Value).toArray)(YJ:ah w0 acw 319 ([.int .i64 2,.int .i64 1,.int .i64 (-1),.int .i64 0,.int .i64 128,.int .i64 0,.int .i64 0,.int .i64 0,.int .i64 (-1),.int .i64 0,.int .i64 0,.int .i64 0]:List Value).toArray)(afj:cY w0 aff rg 128 192 [⟨128,64⟩])(bo:acw≠gs/\aff≠gs/\rg≠gs/\aff≠acw/\rg≠acw):
 Calls prog 208 #[.pointer (some ⟨gs,0,none⟩),.int .i64 64] w0 fun e w'=>e= .returned (.tuple #[.int .i64 1,.int .i64 0])/\Z1 (fun b=>b≠gs/\b≠acw/\b≠aff/\b≠rg) w0 w':=by
 obtain⟨abX,V3,aeR,Ym,YP⟩:=bo;have U:aah w0 (fun b=>b≠gs/\b≠acw/\b≠aff/\b≠rg) w0 none [⟨acw,319,[.int .i64 2,.int .i64 1,.int .i64 (-1),.int .i64 0,.int .i64 128,.int .i64 0,.int .i64 0,.int .i64 0,.int .i64 (-1),.int .i64 0,.int .i64 0,.int .i64 0]⟩,⟨gs,317,[.slice (some ⟨acw,0,none⟩) 2 2,.pointer (some ⟨aff,0,none⟩)]⟩]:=
  ((aah.start (A:=none) _ w0 trivial (fun a e=>by cases e)).jY YF (je.nil _) (.inr fun q=>q.1 rfl) (fun a e=>by cases e)).jY YJ ((je.nil _).cons (fun e=>abX e.symm)) (.inr fun q=>q.2.1 rfl) (fun a e=>by cases e)
 have aaq:=I afj;have WI:=I fun w'=>bm 64 1 8192 w' am am;have abI:=I (show∀w',Calls prog 264 #[.int .i64 64] w' fun e du=>e= .returned (.tuple #[.int .i64 64,.int .i64 0])/\w'=du from fun w'=>tv 64 w' am am);have ZG:=I (And.intro V3 (And.intro aeR (And.intro Ym YP)));clear YF YJ afj abX V3 aeR Ym YP;go_enter func208,ntmps208;go_wp2_with(first|(go_at_call 104;refine Calls.mono (WI.out _) ?_;rintro e aaM ⟨rfl,rfl⟩;skip)|first|(refine aq ?_)|(refine ac2 U ?_;clear U;intro w U));refine(H6 _ acw (U.b cX)).mono ?_;rintro e aaM ⟨rfl,N⟩;replace U:=U.below N;have MN:=I (aaq.out.Wu (N.block _ aaq.out.lt.1) (N.block _ aaq.out.lt.2));clear N aaq;go_wp2_with(first|(go_at_call 264;refine Calls.mono (abI.out _) ?_;rintro e aaM ⟨rfl,rfl⟩;skip)|first|(refine aq ?_)|(refine ac2 U ?_;clear U;intro w U));refine(uw _ aff rg 128 192 64 [⟨128,64⟩] am aN aN MN.out).mono ?_;rintro e WW ⟨rfl,-,ae3⟩;obtain⟨V3,aeR,Ym,YP⟩:=ZG.out;replace U:=aah.calls (S:=fun b=>b≠gs/\b≠acw/\b≠aff/\b≠rg) U ae3 (fun b _ h=>⟨h,h.2.2⟩) (fun x Wy=>by
  simp only[ad,E,av]at Wy;rcases Wy with rfl|rfl
  ·exact⟨Ym.symm,YP.symm⟩
  ·exact⟨V3.symm,aeR.symm⟩)
 clear ae3 V3 aeR Ym YP;have aal:e4 [(⟨128,64⟩:Ext)] 64=(128,true,[]):=aM;rw[aal];clear aal;go_wp2_with(first|(refine aq ?_)|(refine ac2 U ?_;clear U;intro w U));go_ret2;exact⟨rfl,U.Wu⟩
end
end
section
section
variable{b4 w w':World}{S:Nat->Prop}{L L' L2:List abN}{X9:Program}{o:Oper}{a:Act}{K:Act->World->Prop}{Q:Exit->Act->World->Prop}{ops:Array Oper}{rest:List Oper}
theorem lR{G:Prop}(h:G:=by
 refine WE Z7 fun X=>?_;refine az [[10],[11],[12,13]] ?_;clear U;intro Lf TQ w U;go_wp2_with fail;go_ret2;exact⟨Lf,gt,gs,acw,aff,rg,_,aa2,_,rfl,U.b ag,U.b ag,U.b ag,U.b ag,aaq.out.Wu (U.Wu.block aff aaq.out.lt.1 Q6.out.1) (U.Wu.block rg aaq.out.lt.2 Q6.out.2),(aaH.back U).all,(aaH.back U).ge (g:=Lf) ag,(aaH.back U).ge (g:=gs) ag,(aaH.back U).ge (g:=acw) ag,ZG.out.1.1,ZG.out.2.1⟩):G:=h
theorem pI{G:Prop}(h:G:=by
 refine WE Z7 fun X=>?_;refine aF 5 fun K Z7=>?_;rw[Z (by rfl)];refine xQ U afd.out ?_;clear U;intro aa2 w U NP;exact lR):G:=h
theorem pJ{G:Prop}(h:G:=by
 refine WE Z7 fun X=>?_;refine aF 8 fun K Z7=>?_;rw[Z (by rfl)];refine xQ U Y4.out ?_;clear U;intro gt w U JU;exact lR):G:=h
theorem pK{G:Prop}(h:G:=by
 refine WE Z7 fun X=>?_;refine aF 9 fun K Z7=>?_;rw[Z (by rfl)];refine Kq U ?_;clear U;intro abG w U;exact lR):G:=h
section
variable(h:aah b4 S w none L)
include h
theorem TR{f:Nat->Value}{m j g:Nat}{r:List Value}{u:Value}{t:TypeId}(aeD:j<m)(Z7: ∀w',aah b4 S w' none L'->wpList X9 ops Q rest (a.put o.dst undef) w'){Yn:TypeId}{x y:Operand}
 (afl:Region.wanted o (yielded ops a.tmps)=true:=by rfl)(ZQ:o.op= .store Yn x y:=by exact rfl)(Wy:a.eval x= .pointer (some ⟨g,j,none⟩):=by exact rfl)(hy:dt a y=some u:=by exact rfl)(hv:u.cells= [u].toArray:=by exact rfl)
 (XJ:aco L g t ((List.range m).map f++r) ((List.range m).map (put f j u)++r) L':=by exact cf)(hi:(X9.info? Yn).map (·.size)=some 1:=by kernel_rfl)(h1: [u].all (·.oneCell')=true:=by exact rfl):wpList X9 ops Q (o::rest) a w:=
 wpList_step fun K k=>afA h aeD (fun w' s=>k _ _ (Z7 w' s)) afl ZQ Wy hy hv XJ hi h1
theorem aah.join(k:aah w (fun _=>True) w' none L2):aah b4 S w' none (L2++L):=by
 have ae3:=h.below k.all;have ge: ∀x,x∈L2->w.heap.size<=x.g:=fun x Wy=>(k.fr x Wy).resolve_right fun q=>q trivial;refine⟨fun x Wy=>?_,?_,fun x Wy=>?_,ae3.Wu,trivial,fun a e=>by cases e⟩
 ·rcases List.mem_append.1 Wy with q|q
  ·exact k.bC x q
  ·exact ae3.bC x q
 ·rw[cP,List.nodup_append];refine⟨k.aed,h.aed,fun a Xg b hb e=>?_⟩;obtain⟨x,Wy,rfl⟩:=List.mem_map.1 Xg;obtain⟨y,hy,rfl⟩:=List.mem_map.1 hb;have h1:=ge x Wy;have aaV:=(h.bC y hy).lt;omega
 ·rcases List.mem_append.1 Wy with q|q
  ·exact .inl (D h.size (ge x q))
  ·exact h.fr x q
theorem Kq(Z7: ∀b w',aah b4 S w' none L->K (a.put o.dst (.map (some b))) w'){t:TypeId}(ZQ:o.op= .makeMap t none:=by exact rfl):Oper.wp X9 o a w K Q:=by
 have aaV:=Z7 w.heap.size _ (h.below ((Below.refl w.heap.size w).alloc (ai _) (.map #[] 0)));unfold Oper.wp execOp;simp only[ZQ,Instr.makeMap];simpa [go_sem]using aaV
end
end
theorem cY.keeps{w0 w:World}{S:Nat->Prop}{L:List abN}{aff rg:Nat}{a4 aaY:Int}{l:List Ext}(h:cY w aff rg a4 aaY l)(aaH:aah w0 S w none L)(h1:(L.map abN.t).contains 363=false:=by rfl)(aaV:(L.map abN.t).contains 130=false:=by rfl):bq none L aff/\bq none L rg:=by
 obtain⟨v,hb,ZV⟩:=h.ex;have abX:=zI aaH hb h1;refine⟨⟨abX,fun a e=>by cases e⟩,?_⟩;rcases ZV with⟨_,_,e,_⟩|⟨cap,rest,_,be,_⟩
 ·rw[e];exact⟨abX,fun a e=>by cases e⟩
 ·exact⟨zI aaH be aaV,fun a e=>by cases e⟩
theorem H7(w:World):(Instr.makeSlice 241 (.int .i64 ((2:Nat):Int)) (.int .i64 ((2:Nat):Int))).run prog w= .ok (.slice (some ⟨w.heap.size,0,none⟩) 2 2) (w.alloc (.cells ([.int .i64 0,.int .u64 0,.slice none 0 0,.int .i64 0,.int .u64 0,.slice none 0 0]:List Value).toArray 325)):=
 vr (z:=.agg #[.int .i64 0,.int .u64 0,.slice none 0 0]) (sz:=3) (bytes:=40) underlying241 aM am am aM w
theorem BD(w:World):(Instr.makeSlice 242 (.int .i64 ((1:Nat):Int)) (.int .i64 ((1:Nat):Int))).run prog w= .ok (.slice (some ⟨w.heap.size,0,none⟩) 1 1) (w.alloc (.cells ([.int .u64 0,.int .u64 0,.int .u64 0,.int .u64 0,.slice none 0 0]:List Value).toArray 248)):=
 vr (z:=.agg #[.int .u64 0,.int .u64 0,.int .u64 0,.int .u64 0,.slice none 0 0]) (sz:=5) (bytes:=56) underlying242 aM am am aM w
theorem Kr(w:World):(Instr.makeSlice 28 (.int .i64 ((8:Nat):Int)) (.int .i64 ((8:Nat):Int))).run prog w= .ok (.slice (some ⟨w.heap.size,0,none⟩) 8 8) (w.alloc (.cells ((List.range 8).map fun _=>Value.slice none 0 0).toArray 95)):=
 vr (z:=.slice none 0 0) (sz:=1) (bytes:=24) underlying28 aM am am aM w
theorem Ks(w0:World)(ado:Nat->Prop)(Y8:Value)(aeI:Nat->Value)(hF:eF w0 ado Y8 (bX aeB) aeI):
 Calls prog 71 #[.agg ([.int .i64 2,.int .i64 1,.int .i64 0,.int .i64 64]:List Value).toArray,Y8] w0 fun e w'=> ∃aaD gt gs acw aff rg Zv aa2 WP,e= .returned (.tuple #[.pointer (some ⟨aaD,0,none⟩),.int .i64 0])/\ah w' aaD 245 ([.int .i64 2,.int .i64 1,.int .i64 0,.int .i64 64,Zv,.pointer (some ⟨gs,0,none⟩),.slice (some ⟨aa2,0,none⟩) 2 2,.slice (some ⟨gt,0,none⟩) 1 1,WP]:List Value).toArray/\
  ah w' gt 248 ([.int .u64 0,.int .u64 0,.int .u64 0,.int .u64 0,.slice none 0 0]:List Value).toArray/\ah w' gs 317 ([.slice (some ⟨acw,0,none⟩) 2 2,.pointer (some ⟨aff,0,none⟩)]:List Value).toArray/\ah w' acw 319 ([.int .i64 2,.int .i64 1,.int .i64 (-1),.int .i64 0,.int .i64 128,.int .i64 0,.int .i64 0,.int .i64 0,.int .i64 (-1),.int .i64 0,.int .i64 0,.int .i64 0]:List Value).toArray/\cY w' aff rg 128 192 [⟨128,64⟩]/\Below w0.heap.size w0 w'/\w0.heap.size<=aaD/\w0.heap.size<=gs/\w0.heap.size<=acw/\w0.heap.size<=aff/\w0.heap.size<=rg:=by
 obtain⟨af5,acR,rfl,q1,Xt,ada⟩:=id hF.row;rw[gd]at q1 ada⊢;have WX:=I (show eF w0 ado (.slice af5 8 acR) (bX aeB) aeI from by have h:=hF;rw[gd]at h;exact h);have afJ:=I ada;have afd:=I H7;have Y4:=I BD;have adA:=I Kr;have U:=aah.a0 w0;clear hF q1 Xt ada;go_enter func71,ntmps71;go_upto_region 1 with(refine Ws U 27 ?_;clear U;intro hk w U VW)
 go_upto_region 3 with(first|(go_at_call 77;refine a6 U (kJ 2 1 0 64 _ am) ?_;clear U;intro aaM U)|(go_at_call 70;refine a6 U (sj _ ado _ (bX aeB) aeI (WX.out.below U.all) (by rw[gd];exact ai _) (xP hW)) ?_;clear U;intro aaM U)|(refine Ww U ?_))
 go_upto_region 4 with(first|(go_at_call 127;refine Calls.mono (H5 _) ?_;rintro e aaM ⟨gs,acw,aff,rg,rfl,lO,afj,dP,qS⟩;have ZG:=I (And.intro (U.hO dP) (U.hO qS));have aaH:=U.join lO;simp only[aU,au]at aaH;have aaq:=I afj;clear U lO afj dP qS;have U:=aaH)|(refine Ww U ?_))
 have U:=aaH.base;have Q6:=I (aaq.out.keeps aaH);go_upto_region 5 with(refine NI U adA.out ?_;clear U;intro go w U Vg)
 go_wp2_with fail;have eB:=I U;clear U;go_loopw [29] (fun i wr=> ∃(k:Nat) (f:Nat->Value),k<=8/\i= .int .i64 k/\aah aaM (bq none [⟨gs,317,[.slice (some ⟨acw,0,none⟩) 2 2,.pointer (some ⟨aff,0,none⟩)]⟩,⟨acw,319,[.int .i64 2,.int .i64 1,.int .i64 (-1),.int .i64 0,.int .i64 128,.int .i64 0,.int .i64 0,.int .i64 0,.int .i64 (-1),.int .i64 0,.int .i64 0,.int .i64 0]⟩,⟨hk,27,[.int .i64 2,.int .i64 1,.int .i64 0,.int .i64 64]⟩]) wr none [⟨go,95,(List.range 8).map f++ []⟩,⟨gs,317,[.slice (some ⟨acw,0,none⟩) 2 2,.pointer (some ⟨aff,0,none⟩)]⟩,⟨acw,319,[.int .i64 2,.int .i64 1,.int .i64 (-1),.int .i64 0,.int .i64 128,.int .i64 0,.int .i64 0,.int .i64 0,.int .i64 (-1),.int .i64 0,.int .i64 0,.int .i64 0]⟩,⟨hk,27,[.int .i64 2,.int .i64 1,.int .i64 0,.int .i64 64]⟩]) (fun i _=>8-(intOf i).toNat)
 case atStart=>exact⟨0,fun _=>.slice none 0 0,J,rfl,by rw[br];exact eB.out⟩
 case round=>
  obtain⟨k,f,ae3,rfl,aen⟩:=hrel;clear eB;by_cases bV:k<8
  ·have aaX:(k:Int)<8:=by omega
   obtain⟨b,off,rfl,YF,fC,XP⟩:=afJ.out J;have hj:w0.cell? ⟨b,off+k,none⟩=some (aeI k):=by simpa using XP k 0 _ bV rfl
   have gq:=WX.out.each k (aeB.eI k) (by unfold bX;rw[a3,a1 bV];rfl);obtain⟨aeQ,adr,abF,-,-,-⟩:=id gq;have uG:=(hW.f k).1;have WS:=I gq;rw[abF]at hj WS;have U:=aaH.back aen;have Wy:=(U.all.cell (p:=⟨b,off+k,none⟩) fC).trans hj;obtain⟨m,hm⟩: ∃m,(aeB.eI k).length=m:=⟨_,rfl⟩
   have aey:=I hm;rw[hm]at Wy uG;clear hj XP YF fC gq abF hm;go_upto_region 8 with fail
   have Zm:=I (show∀w',Below w0.heap.size w0 w'->Calls prog 120 #[.slice aeQ m adr] w' fun e du=> ∃v',e= .returned v'/\acr du (fun b=>w'.heap.size<=b) v' m 3 (jQ (aeB.eI k))/\Below w'.heap.size w' du from fun w' hb=>by rw[<-aey.out];exact nl w' ado _ _ _ (WS.out.below hb) (by rw[aey.out];omega) (pQ _ _));have iH:=aen.base;replace U:=iH;clear Wy;go_upto_region 9 with(first|(go_at_call 120;refine Calls.mono (Zm.out _ (aaH.back (aen.back U)).all) ?_;rintro e aaM ⟨v',rfl,hv,N⟩;obtain⟨af3,ZM,rfl,-,-,-⟩:=id hv;clear hv;replace U:=U.below N;clear N)|(refine TR U (f:=f) (m:=8) (j:=k) (r:= []) (u:=.slice af3 m ZM) bV ?_;clear U;intro w U))
   go_wp2_with fail;go_roundw
   case rel=>exact⟨k+1,_,J,by go_num,aen.back U⟩
   case measure=>simp[intOf];omega
  ·obtain rfl:k=8:=by omega
   have U:=aen;clear aen;go_upto_region 10 with fail
   replace U:=U.drew;refine wp_region_held_drew (S:=(c0 [⟨hk,27,[.int .i64 2,.int .i64 1,.int .i64 0,.int .i64 64]⟩])) aM ?_ (fun X=>?_)
   ·exact U.bG aN
   refine az [[0,1,2,3,4,6,7]] ?_;refine Zj [5,8,9] ?_;refine ea (fun K Z7=>?_) ?_
   ·rw[Z (by rfl)];refine xQ U afd.out ?_;clear U;intro aa2 w U NP;refine WE Z7 fun X=>?_;refine Zj [8,9] ?_;refine ea (fun K Z7=>?_) ?_
    ·rw[Z (by rfl)];refine xQ U Y4.out ?_;clear U;intro gt w U JU;exact pK
    refine ei (fun K Z7=>?_);rw[Z (by rfl)];refine Kq U ?_;clear U;intro abG w U;exact pJ
   refine ea (fun K Z7=>?_) ?_
   ·rw[Z (by rfl)];refine xQ U Y4.out ?_;clear U;intro gt w U JU;refine WE Z7 fun X=>?_;refine Zj [5,9] ?_;refine ea (fun K Z7=>?_) ?_
    ·rw[Z (by rfl)];refine xQ U afd.out ?_;clear U;intro aa2 w U NP;exact pK
    refine ei (fun K Z7=>?_);rw[Z (by rfl)];refine Kq U ?_;clear U;intro abG w U;exact pI
   refine ei (fun K Z7=>?_);rw[Z (by rfl)];refine Kq U ?_;clear U;intro abG w U;refine WE Z7 fun X=>?_;refine Zj [5,8] ?_;refine ea (fun K Z7=>?_) ?_
   ·rw[Z (by rfl)];refine xQ U afd.out ?_;clear U;intro aa2 w U NP;exact pJ
   refine ei (fun K Z7=>?_);rw[Z (by rfl)];refine xQ U Y4.out ?_;clear U;intro gt w U JU;exact pI
end
theorem aah.Kt{w:World}{L:List abN}(hb: ∀x,x∈L->ah w x.g x.t x.cs.toArray)(aed:(L.map abN.t).Nodup:=by(simp only[aS,ck]);decide):aah w (bq none L) w none L:=by
 refine⟨hb,?_,fun x Wy=>.inr fun k=>k.1 x Wy rfl,Z1.refl _ _,trivial,fun a e=>by cases e⟩;have key: ∀l:List abN,(∀x,x∈l->x∈L)->(l.map abN.t).Nodup->(l.map abN.g).Nodup:=by
  intro l;induction l with
  |nil=>intro _ _;exact List.nodup_nil
  |cons x l aes=>
   intro YF abi;rw[aS,bS]at abi⊢;refine⟨fun hm=>?_,aes (fun y hy=>YF y (ao _ hy)) abi.2⟩;obtain⟨y,hy,e⟩:=List.mem_map.1 hm;have Wy:=hb x (YF x a8);have jP:=hb y (YF y (ao _ hy));have bo:y.t≠x.t:=fun abF=>abi.1 (List.mem_map.2 ⟨y,hy,abF⟩);exact ah.ne jP Wy bo e
 exact key L (fun _ h=>h) aed
theorem wT:(Tryz.prog.info? 5).map (fun i=>(i.zero,i.size,i.bytes))=some (some (.int .u8 0),1,1):=aM
theorem H8(w0:World):Calls prog 140 #[.agg ([.int .u8 2,.int .u8 0,.int .u8 0,.int .u8 0,.int .i64 64,.int .i64 0,.int .i64 0]:List Value).toArray] w0 fun e w'=>e= .returned (.bool true)/\Below w0.heap.size w0 w':=by
 have ab7: ∀args w,(callFunc 228 args).run prog w= .ok (.enter 228 args) w:=enters_of func228 aM rfl;have afP:=I (fun w'=>wk w' (fun _=>True) (.slice none 0 0) 0 (fun _=> []) (fun _=>undef) 228 #[] (fun _=>false) ab7 (acr.nil _ _ _ _) (fun i hi=>J) am (fun i hi=>J));have U:=aah.a0 w0;clear ab7;go_enter func140,ntmps140;go_upto_region 1 with(refine Ws U 42 ?_;clear U;intro gb w U VW)
 go_upto_region 2 with(first|(refine Ka U ?_;clear U;intro abG w U hm NQ _ _)|(refine dE U.base rfl 22 5 _ rfl _ [.int .u8 0] rfl rfl (.int .u8 0) 1 1 underlying22 wT rfl am am ?_;intro di w Wa dO;replace hm:=U.qY hm Wa;replace U:=U.back Wa;clear Wa;refine cN ?_)|(refine kB U.base rfl 22 5 _ _ rfl (.int .u8 0) (.int .u8 0) rfl rfl rfl rfl (.int .u8 0) 1 underlying22 wT ?_;intro di w Wa dO;replace hm:=U.qY hm Wa;replace U:=U.back Wa;clear Wa;refine cN ?_)|(refine Kb U hm (.inl NQ) underlying338 underlying5 ?_;clear U hm;intro w U hm _)|(refine aaO U ?_))
 have le:=mR (P:=prog) (ok:=false) (q:=.u8) (key:=2) (z:=.slice none 0 0) (r:=none) hm underlying338 underlying5 aM (by rfl) rfl;have VI:=U.cell (g:=gb) (i:=0) ag rfl;go_wp2_with fail;refine(afP.out _).mono ?_;rintro e aaM ⟨r,rfl,abk,N⟩;replace U:=U.below N;obtain rfl:r=false:=by
  rcases abk with h|⟨_,i,h,_⟩
  ·exact h.1
  ·omega
 go_wp2_with fail;go_ret;exact⟨rfl,U.all⟩
theorem BE(w0:World)(aaD gt gs acw aff acK aa2:Nat)(Zv WP:Value)(hm:ah w0 aaD 245 ([.int .i64 2,.int .i64 1,.int .i64 0,.int .i64 64,Zv,.pointer (some ⟨gs,0,none⟩),.slice (some ⟨aa2,0,none⟩) 2 2,.slice (some ⟨gt,0,none⟩) 1 1,WP]:List Value).toArray)(YF:ah w0 gs 317 ([.slice (some ⟨acw,0,none⟩) 2 2,.pointer (some ⟨aff,0,none⟩)]:List Value).toArray)(YJ:ah w0 acw 319 ([.int .i64 2,.int .i64 1,.int .i64 (-1),.int .i64 0,.int .i64 128,.int .i64 0,.int .i64 0,.int .i64 0,.int .i64 (-1),.int .i64 0,.int .i64 0,.int .i64 0]:List Value).toArray)(afj:cY w0 aff acK 128 192 [⟨128,64⟩]):
 Calls prog 130 #[.agg ([.pointer (some ⟨aaD,0,none⟩),.pointer (some ⟨gt,0,none⟩),.int .u8 2,.int .u8 0,.int .u8 0,.int .u8 0,.int .i64 64,.int .i64 0,.int .i64 0]:List Value).toArray] w0 fun e w'=>e= .returned (.agg #[.int .i64 0,.int .i64 1,.slice none 0 0])/\Z1 (fun b=>bq none [⟨aaD,245,[.int .i64 2,.int .i64 1,.int .i64 0,.int .i64 64,Zv,.pointer (some ⟨gs,0,none⟩),.slice (some ⟨aa2,0,none⟩) 2 2,.slice (some ⟨gt,0,none⟩) 1 1,WP]⟩,⟨gs,317,[.slice (some ⟨acw,0,none⟩) 2 2,.pointer (some ⟨aff,0,none⟩)]⟩,⟨acw,319,[.int .i64 2,.int .i64 1,.int .i64 (-1),.int .i64 0,.int .i64 128,.int .i64 0,.int .i64 0,.int .i64 0,.int .i64 (-1),.int .i64 0,.int .i64 0,.int .i64 0]⟩] b/\b≠aff/\b≠acK) w0 w':=by
 have U:=aah.Kt (L:= [⟨aaD,245,[.int .i64 2,.int .i64 1,.int .i64 0,.int .i64 64,Zv,.pointer (some ⟨gs,0,none⟩),.slice (some ⟨aa2,0,none⟩) 2 2,.slice (some ⟨gt,0,none⟩) 1 1,WP]⟩,⟨gs,317,[.slice (some ⟨acw,0,none⟩) 2 2,.pointer (some ⟨aff,0,none⟩)]⟩,⟨acw,319,[.int .i64 2,.int .i64 1,.int .i64 (-1),.int .i64 0,.int .i64 128,.int .i64 0,.int .i64 0,.int .i64 0,.int .i64 (-1),.int .i64 0,.int .i64 0,.int .i64 0]⟩]) (fun x Wy=>by
  simp only[ad,E,av]at Wy;rcases Wy with rfl|rfl|rfl
  ·exact hm
  ·exact YF
  ·exact YJ)
 have aaq:=I afj;have aav:=I U;clear hm YF YJ afj;go_enter func130,ntmps130;go_upto_region 1 with(first|(refine Ws U 250 ?_;clear U;intro Vx w U TS)|(refine VP U tW ?_;clear U;intro gr w U Bq))
 have aaR:=I (aaq.out.keeps aav.out);replace U:=U.drew;refine wp_region_held_drew (S:=c0 [⟨Vx,250,[.pointer (some ⟨aaD,0,none⟩),.pointer (some ⟨gt,0,none⟩),.int .u8 2,.int .u8 0,.int .u8 0,.int .u8 0,.int .i64 64,.int .i64 0,.int .i64 0]⟩,⟨aaD,245,[.int .i64 2,.int .i64 1,.int .i64 0,.int .i64 64,Zv,.pointer (some ⟨gs,0,none⟩),.slice (some ⟨aa2,0,none⟩) 2 2,.slice (some ⟨gt,0,none⟩) 1 1,WP]⟩]) aM (U.bG aN) (fun X=>?_);refine az [[0,1,2,3,4,5,6,7]] ?_;refine Yt (fun K Z7=>?_);go_simp;have q:=U.aed;simp only[aS,ck,bS,ad,E,av,not_or]at q;have qS:=aaq.out.Wu (U.Wu.block aff aaq.out.lt.1 aaR.out.1) (U.Wu.block acK aaq.out.lt.2 aaR.out.2);obtain⟨adX,acN⟩:=qS.keeps U;have acO:=I (And.intro adX acN);have acQ:=I q;refine(z1 _ gs acw aff acK (U.b ag) (U.b ag) qS ⟨fun e=>q.2.2.2.1 e.symm,fun e=>adX.1 _ (In.mem (g:=gs) ag) e.symm,fun e=>acN.1 _ (In.mem (g:=gs) ag) e.symm,fun e=>adX.1 _ (In.mem (g:=acw) ag) e.symm,fun e=>acN.1 _ (In.mem (g:=acw) ag) e.symm⟩).mono ?_;clear q qS adX acN;rintro e aaM ⟨rfl,ae3⟩;have aen:=aah.calls (S:=fun b=>bq none [⟨aaD,245,[.int .i64 2,.int .i64 1,.int .i64 0,.int .i64 64,Zv,.pointer (some ⟨gs,0,none⟩),.slice (some ⟨aa2,0,none⟩) 2 2,.slice (some ⟨gt,0,none⟩) 1 1,WP]⟩,⟨gs,317,[.slice (some ⟨acw,0,none⟩) 2 2,.pointer (some ⟨aff,0,none⟩)]⟩,⟨acw,319,[.int .i64 2,.int .i64 1,.int .i64 (-1),.int .i64 0,.int .i64 128,.int .i64 0,.int .i64 0,.int .i64 0,.int .i64 (-1),.int .i64 0,.int .i64 0,.int .i64 0]⟩] b/\b≠aff/\b≠acK) (aah.front (L1:= [⟨gr,44,[.int .i64 0,.int .i64 0,.slice none 0 0]⟩,⟨Vx,250,[.pointer (some ⟨aaD,0,none⟩),.pointer (some ⟨gt,0,none⟩),.int .u8 2,.int .u8 0,.int .u8 0,.int .u8 0,.int .i64 64,.int .i64 0,.int .i64 0]⟩,⟨aaD,245,[.int .i64 2,.int .i64 1,.int .i64 0,.int .i64 64,Zv,.pointer (some ⟨gs,0,none⟩),.slice (some ⟨aa2,0,none⟩) 2 2,.slice (some ⟨gt,0,none⟩) 1 1,WP]⟩]) U) ae3 (fun b _ h=>⟨h.1,fun e=>h.1.1 _ (In.mem (g:=gs) ag) e.symm,fun e=>h.1.1 _ (In.mem (g:=acw) ag) e.symm,h.2⟩) (fun x Wy=>by
  have q:=acQ.out;obtain⟨adX,acN⟩:=acO.out;simp only[ad,E,av]at Wy;rcases Wy with rfl|rfl|rfl
  ·exact⟨q.1.2.2.1,q.1.2.2.2,adX.1 _ (In.mem (g:=gr) ag),acN.1 _ (In.mem (g:=gr) ag)⟩
  ·exact⟨q.2.1.2.1,q.2.1.2.2,adX.1 _ (In.mem (g:=Vx) ag),acN.1 _ (In.mem (g:=Vx) ag)⟩
  ·exact⟨q.2.2.1.1,q.2.2.1.2,adX.1 _ (In.mem (g:=aaD) ag),acN.1 _ (In.mem (g:=aaD) ag)⟩)
 clear U ae3;have U:=aen;clear aen;go_wp2_with fail;refine WE Z7 ?_;clear Z7 K;intro X;refine az [[9,10,11,12,13]] ?_;go_wp2_with(refine ac2 U ?_;clear U;intro w U);refine cw results130 rfl rfl ⟨_,U.b (g:=gr) ag,rfl⟩ underlying44 rfl aM ?_;exact⟨rfl,U.Wu⟩
theorem H9(w0:World)(aaD gt gs acw aff acK aa2:Nat)(Zv WP:Value)(hm:ah w0 aaD 245 ([.int .i64 2,.int .i64 1,.int .i64 0,.int .i64 64,Zv,.pointer (some ⟨gs,0,none⟩),.slice (some ⟨aa2,0,none⟩) 2 2,.slice (some ⟨gt,0,none⟩) 1 1,WP]:List Value).toArray)(YF:ah w0 gs 317 ([.slice (some ⟨acw,0,none⟩) 2 2,.pointer (some ⟨aff,0,none⟩)]:List Value).toArray)(YJ:ah w0 acw 319 ([.int .i64 2,.int .i64 1,.int .i64 (-1),.int .i64 0,.int .i64 128,.int .i64 0,.int .i64 0,.int .i64 0,.int .i64 (-1),.int .i64 0,.int .i64 0,.int .i64 0]:List Value).toArray)(afj:cY w0 aff acK 128 192 [⟨128,64⟩]):
 Calls prog 72 #[.pointer (some ⟨aaD,0,none⟩),.int .i64 0,.agg ([.int .u8 2,.int .u8 0,.int .u8 0,.int .u8 0,.int .i64 64,.int .i64 0,.int .i64 0]:List Value).toArray] w0 fun e w'=>e= .returned (.tuple #[.agg #[.int .i64 0,.int .i64 1,.slice none 0 0],.int .i64 0])/\Z1 (fun b=>bq none [⟨aaD,245,[.int .i64 2,.int .i64 1,.int .i64 0,.int .i64 64,Zv,.pointer (some ⟨gs,0,none⟩),.slice (some ⟨aa2,0,none⟩) 2 2,.slice (some ⟨gt,0,none⟩) 1 1,WP]⟩,⟨gs,317,[.slice (some ⟨acw,0,none⟩) 2 2,.pointer (some ⟨aff,0,none⟩)]⟩,⟨acw,319,[.int .i64 2,.int .i64 1,.int .i64 (-1),.int .i64 0,.int .i64 128,.int .i64 0,.int .i64 0,.int .i64 0,.int .i64 (-1),.int .i64 0,.int .i64 0,.int .i64 0]⟩] b/\b≠aff/\b≠acK) w0 w':=by
 have ab7: ∀args w,(callFunc 130 args).run prog w= .ok (.enter 130 args) w:=enters_of func130 aM rfl;have ae6:=I ab7;have U:=aah.Kt (L:= [⟨aaD,245,[.int .i64 2,.int .i64 1,.int .i64 0,.int .i64 64,Zv,.pointer (some ⟨gs,0,none⟩),.slice (some ⟨aa2,0,none⟩) 2 2,.slice (some ⟨gt,0,none⟩) 1 1,WP]⟩,⟨gs,317,[.slice (some ⟨acw,0,none⟩) 2 2,.pointer (some ⟨aff,0,none⟩)]⟩,⟨acw,319,[.int .i64 2,.int .i64 1,.int .i64 (-1),.int .i64 0,.int .i64 128,.int .i64 0,.int .i64 0,.int .i64 0,.int .i64 (-1),.int .i64 0,.int .i64 0,.int .i64 0]⟩]) (fun x Wy=>by
  simp only[ad,E,av]at Wy;rcases Wy with rfl|rfl|rfl
  ·exact hm
  ·exact YF
  ·exact YJ)
 have aaq:=I afj;have aav:=I U;have WI:=I fun w'=>bm 0 0 0 w' am am;clear hm YF YJ afj ab7;go_enter func72,ntmps72;go_upto_region 1 with(first|(refine Ws U 42 ?_;clear U;intro gc w U Bx)|(refine VP U tW ?_;clear U;intro gr w U Bq))
 go_upto_region 3 with(first|(go_at_call 104;refine Calls.mono (WI.out _) ?_;rintro e aaM ⟨rfl,rfl⟩;skip)|(refine aaO U ?_))
 have aaR:=I (aaq.out.keeps aav.out);replace U:=U.drew;refine wp_region_held_drew (S:=c0 [⟨gc,42,[.int .u8 2,.int .u8 0,.int .u8 0,.int .u8 0,.int .i64 64,.int .i64 0,.int .i64 0]⟩,⟨aaD,245,[.int .i64 2,.int .i64 1,.int .i64 0,.int .i64 64,Zv,.pointer (some ⟨gs,0,none⟩),.slice (some ⟨aa2,0,none⟩) 2 2,.slice (some ⟨gt,0,none⟩) 1 1,WP]⟩]) aM (U.bG aN) (fun X=>?_);refine az [[0,1,2,3,4,5,6,7,8]] ?_;refine Yt (fun K Z7=>?_);refine kx U 250 rfl _ _ ER rfl ?_;clear U;intro Vx w U TS;refine WE Z7 ?_;clear Z7 K;intro X;refine az [[],[10]] ?_;clear U;intro w U;go_upto_region 5 with(first|(refine Ka U ?_;clear U;intro abG w U hm NQ _ _)|(refine Kb U hm (.inl NQ) underlying252 underlying5 ?_;clear U hm;intro w U hm _)|(refine Ww U ?_))
 have le:=mR (P:=prog) (ok:=true) (q:=.u8) (key:=2) (z:=.nilFunc) (r:=some (2,.func (.func 130) #[.agg ([.pointer (some ⟨aaD,0,none⟩),.pointer (some ⟨gt,0,none⟩),.int .u8 2,.int .u8 0,.int .u8 0,.int .u8 0,.int .i64 64,.int .i64 0,.int .i64 0]:List Value).toArray] #[])) hm underlying252 underlying5 aM (by rfl) rfl;have VI:=U.cell (g:=gc) (i:=0) ag rfl;go_upto_region 6 with fail
 clear le VI hm;go_upto_region 8 with(first|(go_at_call 140;refine a6 U (H8 _) ?_;clear U;intro aaM U)|(refine WG U ?_))
 have q:=U.aed;simp only[aS,ck,bS,ad,E,av,not_or]at q;have y9:=I (aaq.out.Wu (U.Wu.block aff aaq.out.lt.1 aaR.out.1) (U.Wu.block acK aaq.out.lt.2 aaR.out.2));have acO:=I (y9.out.keeps U);have acQ:=I q;have ab7:=ae6.out;clear q;go_wp2_with fail;refine(BE _ aaD gt gs acw aff acK aa2 Zv WP (U.b ag) (U.b ag) (U.b ag) y9.out).mono ?_;clear ab7;rintro e aaM ⟨rfl,ae3⟩;have aen:=aah.calls (S:=fun b=>bq none [⟨aaD,245,[.int .i64 2,.int .i64 1,.int .i64 0,.int .i64 64,Zv,.pointer (some ⟨gs,0,none⟩),.slice (some ⟨aa2,0,none⟩) 2 2,.slice (some ⟨gt,0,none⟩) 1 1,WP]⟩,⟨gs,317,[.slice (some ⟨acw,0,none⟩) 2 2,.pointer (some ⟨aff,0,none⟩)]⟩,⟨acw,319,[.int .i64 2,.int .i64 1,.int .i64 (-1),.int .i64 0,.int .i64 128,.int .i64 0,.int .i64 0,.int .i64 0,.int .i64 (-1),.int .i64 0,.int .i64 0,.int .i64 0]⟩] b/\b≠aff/\b≠acK) (aah.front (L1:= [⟨Vx,250,[.pointer (some ⟨aaD,0,none⟩),.pointer (some ⟨gt,0,none⟩),.int .u8 2,.int .u8 0,.int .u8 0,.int .u8 0,.int .i64 64,.int .i64 0,.int .i64 0]⟩,⟨gr,44,[.int .i64 0,.int .i64 0,.slice none 0 0]⟩,⟨gc,42,[.int .u8 2,.int .u8 0,.int .u8 0,.int .u8 0,.int .i64 64,.int .i64 0,.int .i64 0]⟩]) U) ae3 (fun b _ h=>⟨h.1,h⟩) (fun x Wy=>by
  have q:=acQ.out;obtain⟨adX,acN⟩:=acO.out;simp only[ad,E,av]at Wy;have abi: ∀b,b≠aaD->b≠gs->b≠acw->bq none [⟨aaD,245,[.int .i64 2,.int .i64 1,.int .i64 0,.int .i64 64,Zv,.pointer (some ⟨gs,0,none⟩),.slice (some ⟨aa2,0,none⟩) 2 2,.slice (some ⟨gt,0,none⟩) 1 1,WP]⟩,⟨gs,317,[.slice (some ⟨acw,0,none⟩) 2 2,.pointer (some ⟨aff,0,none⟩)]⟩,⟨acw,319,[.int .i64 2,.int .i64 1,.int .i64 (-1),.int .i64 0,.int .i64 128,.int .i64 0,.int .i64 0,.int .i64 0,.int .i64 (-1),.int .i64 0,.int .i64 0,.int .i64 0]⟩] b:=fun b aal abF acL=>⟨fun y hy e=>by
   simp only[ad,E,av]at hy;rcases hy with rfl|rfl|rfl
   ·exact aal e.symm
   ·exact abF e.symm
   ·exact acL e.symm,fun a e=>by cases e⟩
  rcases Wy with rfl|rfl|rfl
  ·exact⟨abi _ q.1.2.2.1 q.1.2.2.2.1 q.1.2.2.2.2,adX.1 _ (In.mem (g:=Vx) ag),acN.1 _ (In.mem (g:=Vx) ag)⟩
  ·exact⟨abi _ q.2.1.2.1 q.2.1.2.2.1 q.2.1.2.2.2,adX.1 _ (In.mem (g:=gr) ag),acN.1 _ (In.mem (g:=gr) ag)⟩
  ·exact⟨abi _ q.2.2.1.1 q.2.2.1.2.1 q.2.2.1.2.2,adX.1 _ (In.mem (g:=gc) ag),acN.1 _ (In.mem (g:=gc) ag)⟩)
 clear U ae3;have U:=aen;clear aen;go_wp2_with(refine ac2 U ?_;clear U;intro w U);refine aZ results72 rfl rfl ⟨_,U.b (g:=gr) ag,rfl⟩ underlying44 rfl aM ?_;exact⟨rfl,U.Wu⟩
theorem pL{G:Prop}(h:G:=by
 refine Yt (fun K Z7=>?_);refine ev U 44 _ _ rfl adn 0 _ [.int .i64 0,.int .i64 1,.slice none 0 0] rfl rfl rfl cf (by decide) (by kernel_rfl) rfl ?_;clear U;intro w U;refine WE Z7 ?_ (fun j v aeD=>((U).all.cell (p:=⟨bs,os+j,none⟩) aav.out).trans (VN.out j v aeD));clear Z7 K;intro X;refine az [[17]] ?_;go_wp2_with fail;go_meet;exact⟨adn,rfl,U⟩):G:=h
theorem NR(w:World)(A B:Option Addr)(c d:Nat):Calls prog 73 #[.slice A 0 c,.slice B 0 d] w fun e w'=>e= .returned (.bool true)/\w=w':=by
 go_enter func73,ntmps73;exact lc
theorem Ia{ZJ:Option Addr}{XF j:Nat}{v:Value}(h:([.int .u8 2,.int .u8 0,.int .u8 0,.int .u8 0,.int .i64 64,.int .i64 0,.int .i64 0]:List Value)[j]? =some v):([.int .i64 0,.int .u8 2,.int .u8 0,.int .u8 0,.int .u8 0,.int .i64 64,.int .i64 0,.int .i64 0,.int .i64 0,.int .i64 0,.int .i64 0,.int .i64 0,.int .i64 1,.slice ZJ 0 XF]:List Value)[1+j]? =some v:=by
 rcases j with _|_|_|_|_|_|_|j
 all_goals first|exact h|simp at h
theorem Ib{ZJ:Option Addr}{XF j:Nat}{v:Value}(h:([.int .i64 0,.int .i64 1,.slice ZJ 0 XF]:List Value)[j]? =some v):([.int .i64 0,.int .u8 2,.int .u8 0,.int .u8 0,.int .u8 0,.int .i64 64,.int .i64 0,.int .i64 0,.int .i64 0,.int .i64 0,.int .i64 0,.int .i64 0,.int .i64 1,.slice ZJ 0 XF]:List Value)[11+j]? =some v:=by
 rcases j with _|_|_|j
 all_goals first|exact h|simp at h
theorem Eu(w0:World)(ado:Nat->Prop)(Y8:Value)(aeI:Nat->Value)(hF:eF w0 ado Y8 (bX aeB) aeI)(bs os cs:Nat)(ZJ:Option Addr)(XF:Nat)(Wy: ∀(j:Nat) (v:Value),([.int .i64 0,.int .u8 2,.int .u8 0,.int .u8 0,.int .u8 0,.int .i64 64,.int .i64 0,.int .i64 0,.int .i64 0,.int .i64 0,.int .i64 0,.int .i64 0,.int .i64 1,.slice ZJ 0 XF]:List Value)[j]? =some v->w0.cell? ⟨bs,os+j,none⟩=some v)(xT:bs<w0.heap.size):
 Calls prog 33 #[.agg ([.int .i64 2,.int .i64 1,.int .i64 0,.int .i64 64]:List Value).toArray,Y8,.slice (some ⟨bs,os,none⟩) 1 cs] w0 fun e w'=>e= .returned (.tuple #[.bool true,.int .i64 0])/\Below w0.heap.size w0 w':=by
 have WX:=I hF;have VN:=I Wy;have aav:=I xT;have U:=aah.a0 w0;clear Wy hF xT;go_enter func33,ntmps33;go_upto_region 1 with(refine Ws U 27 ?_;clear U;intro Q7 w U VW)
 go_upto_region 3 with(first|(go_at_call 69;refine a6 U (Ep _ bs os cs ZJ XF (fun j v aeD=>(U.all.cell (p:=⟨bs,os+j,none⟩) aav.out).trans (VN.out j v aeD)) (aj aav.out U.size)) ?_;clear U;intro aaM U)|(go_at_call 70;refine a6 U (sj _ ado _ (bX aeB) aeI (WX.out.below U.all) (by rw[gd];exact ai _) (xP hW)) ?_;clear U;intro aaM U)|(refine Ww U ?_))
 go_upto_region 4 with(first|(go_at_call 71;refine Calls.mono (Ks _ ado _ aeI (WX.out.below U.all)) ?_;rintro e aaM ⟨aaD,gt,gs,acw,aff,acK,Zv,aa2,WP,rfl,hm,afq,YF,YJ,afj,N,q1,Xt,ada,ab8,ZX⟩;have aeN:=U.size;have aaH:=U.below N;have aey:=I hm;have aeO:=I YF;have WS:=I YJ;have aaq:=I afj;have kb:=I (And.intro (D aeN q1) (And.intro (D aeN Xt) (And.intro (D aeN ada) (And.intro (D aeN ab8) (D aeN ZX)))));clear U hm afq YF YJ afj N q1 Xt ada ab8 ZX aeN;have U:=aaH.base)|(refine Ww U ?_))
 go_wp2_with fail;refine(wS _ bs os cs ZJ XF (fun j v aeD=>((aaH.back U).all.cell (p:=⟨bs,os+j,none⟩) aav.out).trans (VN.out j v aeD)) (aj aav.out (aaH.back U).size)).mono ?_;rintro e aaM ⟨g,c,rfl,Ae,Vh,N⟩;replace U:=U.below N;clear N;have hb:=vp aaH.bC U fun _ h=>h;have o1:=(aaH.back U).drew;have aeq:=I (show∀w',Z1 (bq none [⟨Q7,27,[.int .i64 2,.int .i64 1,.int .i64 0,.int .i64 64]⟩]) aaM.drew w'->ah w' aaD 245 ([.int .i64 2,.int .i64 1,.int .i64 0,.int .i64 64,Zv,.pointer (some ⟨gs,0,none⟩),.slice (some ⟨aa2,0,none⟩) 2 2,.slice (some ⟨gt,0,none⟩) 1 1,WP]:List Value).toArray/\ah w' gs 317 ([.slice (some ⟨acw,0,none⟩) 2 2,.pointer (some ⟨aff,0,none⟩)]:List Value).toArray/\ah w' acw 319 ([.int .i64 2,.int .i64 1,.int .i64 (-1),.int .i64 0,.int .i64 128,.int .i64 0,.int .i64 0,.int .i64 0,.int .i64 (-1),.int .i64 0,.int .i64 0,.int .i64 0]:List Value).toArray/\cY w' aff acK 128 192 [⟨128,64⟩]from fun w' k=>by
  have adL:=aey.out.below hb aey.out.lt;have Yz:=aeO.out.below hb aeO.out.lt;have acF:=WS.out.below hb WS.out.lt;have abw:=aaq.out.Wu (hb.block _ aaq.out.lt.1) (hb.block _ aaq.out.lt.2);have ZM:=abw.keeps U;have YB: ∀ {g:Nat} {t:TypeId} {cs:Array Value},ah aaM g t cs->([27].contains t)=false->ah w' g t cs:=fun hb afq=>(k.block _ hb.lt ⟨zI U hb afq,fun a e=>by cases e⟩).trans hb;exact⟨YB adL rfl,YB Yz rfl,YB acF rfl,abw.Wu (k.block _ abw.lt.1 ZM.1) (k.block _ abw.lt.2 ZM.2)⟩)
 have Ev:=I o1;clear aey aeO WS aaq hb U aaH;go_wp2_with fail;refine wp_loop_rounds 2 ?_;rw[rounds_succ];go_upto_region 7 with fail
 clear Ae;go_cut [12,13]from 37 to 51 (fun ut Vi ZT=> ∃adn,ut= .pointer (some ⟨adn,0,none⟩)/\aah w0 (fun _=>True) ZT none [⟨adn,44,[.int .i64 0,.int .i64 1,.slice none 0 0]⟩,⟨Q7,27,[.int .i64 2,.int .i64 1,.int .i64 0,.int .i64 64]⟩])
 case first=>
  have U:=Ev.out.base;refine wp_region_held_drew (S:=(fun w=> ∀(j:Nat) (v:Value),([.int .i64 0,.int .u8 2,.int .u8 0,.int .u8 0,.int .u8 0,.int .i64 64,.int .i64 0,.int .i64 0,.int .i64 0,.int .i64 0,.int .i64 0,.int .i64 0,.int .i64 1,.slice ZJ 0 XF]:List Value)[j]? =some v->w.cell? ⟨bs,os+j,none⟩=some v)) aM (fun j v aeD=>((Ev.out).all.cell (p:=⟨bs,os+j,none⟩) aav.out).trans (VN.out j v aeD)) (fun X=>?_);refine az [[0,1,2,3,4]] ?_;refine eE 5 rfl (bl (by rfl) 3 _ rfl bs os rfl _ (fun w h=>h 0 _ rfl) underlying3 rfl) ?_;refine az [[6,7,8,9]] ?_;refine eE 10 rfl (yieldsIf_load_mid (by rfl) 42 _ rfl bs (os+1) rfl [.int .u8 2,.int .u8 0,.int .u8 0,.int .u8 0,.int .i64 64,.int .i64 0,.int .i64 0] _ (fun w h j v aeD=>by rw[Nat.add_assoc];exact h (1+j) v (Ia aeD)) underlying42 rfl aM) ?_;refine Zj [11,15] ?_;refine ea (fun K Z7=>?_) ?_
  ·rw[Z (by rfl)];go_simp;obtain⟨adL,Yz,acF,abw⟩:=aeq.out _ U.Wu;have aay:=aah.Kt (L:= [⟨aaD,245,[.int .i64 2,.int .i64 1,.int .i64 0,.int .i64 64,Zv,.pointer (some ⟨gs,0,none⟩),.slice (some ⟨aa2,0,none⟩) 2 2,.slice (some ⟨gt,0,none⟩) 1 1,WP]⟩,⟨gs,317,[.slice (some ⟨acw,0,none⟩) 2 2,.pointer (some ⟨aff,0,none⟩)]⟩,⟨acw,319,[.int .i64 2,.int .i64 1,.int .i64 (-1),.int .i64 0,.int .i64 128,.int .i64 0,.int .i64 0,.int .i64 0,.int .i64 (-1),.int .i64 0,.int .i64 0,.int .i64 0]⟩]) (fun x Wy=>by
    simp only[ad,E,av]at Wy;rcases Wy with rfl|rfl|rfl
    ·exact adL
    ·exact Yz
    ·exact acF)
   have k:=abw.keeps U;refine(H9 _ aaD gt gs acw aff acK aa2 Zv WP adL Yz acF abw).mono ?_;rintro e aaM ⟨rfl,ae3⟩;have aen:=aah.calls (S:=fun _=>True) (Ev.out.back U) ae3 (fun b hb _=>⟨trivial,by
    obtain⟨abE,Yk,adc,Zf,Y2⟩:=kb.out;refine⟨⟨fun x Wy e=>?_,fun a e=>by cases e⟩,fun e=>J,fun e=>J⟩;simp only[ad,E,av]at Wy;rcases Wy with rfl|rfl|rfl<;>simp only at e<;>omega⟩) (fun x Wy=>⟨⟨zI aay (U.bC x Wy) (by
    simp only[ad,E,av]at Wy;rcases Wy with rfl<;>rfl),fun a e=>by cases e⟩,fun e=>k.1.1 x Wy e,fun e=>k.2.1 x Wy e⟩)
   clear U ae3 adL Yz acF abw aay k;have U:=aen;clear aen;go_wp2_with fail;refine WE Z7 ?_ (fun j v aeD=>((U).all.cell (p:=⟨bs,os+j,none⟩) aav.out).trans (VN.out j v aeD));clear Z7 K;intro X;refine az [[12,13,14]] ?_;refine Yt (fun K Z7=>?_);refine kx U 44 rfl _ _ tW rfl ?_;clear U;intro adn w U TT;refine WE Z7 ?_ (fun j v aeD=>((U).all.cell (p:=⟨bs,os+j,none⟩) aav.out).trans (VN.out j v aeD));clear Z7 K;intro X;exact pL
  refine ei (fun K Z7=>?_);rw[Z (by rfl)];refine kx U 44 rfl _ _ tW rfl ?_;clear U;intro adn w U TT;refine WE Z7 ?_ (fun j v aeD=>((Ev.out.back U).all.cell (p:=⟨bs,os+j,none⟩) aav.out).trans (VN.out j v aeD));clear Z7 K;intro X;refine Yt (fun K Z7=>?_);go_simp;obtain⟨adL,Yz,acF,abw⟩:=aeq.out _ U.Wu;have aay:=aah.Kt (L:= [⟨aaD,245,[.int .i64 2,.int .i64 1,.int .i64 0,.int .i64 64,Zv,.pointer (some ⟨gs,0,none⟩),.slice (some ⟨aa2,0,none⟩) 2 2,.slice (some ⟨gt,0,none⟩) 1 1,WP]⟩,⟨gs,317,[.slice (some ⟨acw,0,none⟩) 2 2,.pointer (some ⟨aff,0,none⟩)]⟩,⟨acw,319,[.int .i64 2,.int .i64 1,.int .i64 (-1),.int .i64 0,.int .i64 128,.int .i64 0,.int .i64 0,.int .i64 0,.int .i64 (-1),.int .i64 0,.int .i64 0,.int .i64 0]⟩]) (fun x Wy=>by
   simp only[ad,E,av]at Wy;rcases Wy with rfl|rfl|rfl
   ·exact adL
   ·exact Yz
   ·exact acF)
  have k:=abw.keeps U;refine(H9 _ aaD gt gs acw aff acK aa2 Zv WP adL Yz acF abw).mono ?_;rintro e aaM ⟨rfl,ae3⟩;have aen:=aah.calls (S:=fun _=>True) (Ev.out.back U) ae3 (fun b hb _=>⟨trivial,by
   obtain⟨abE,Yk,adc,Zf,Y2⟩:=kb.out;refine⟨⟨fun x Wy e=>?_,fun a e=>by cases e⟩,fun e=>J,fun e=>J⟩;simp only[ad,E,av]at Wy;rcases Wy with rfl|rfl|rfl<;>simp only at e<;>omega⟩) (fun x Wy=>⟨⟨zI aay (U.bC x Wy) (by
   simp only[ad,E,av]at Wy;rcases Wy with rfl|rfl<;>rfl),fun a e=>by cases e⟩,fun e=>k.1.1 x Wy e,fun e=>k.2.1 x Wy e⟩)
  clear U ae3 adL Yz acF abw aay k;have U:=aen;clear aen;go_wp2_with fail;refine WE Z7 ?_ (fun j v aeD=>((U).all.cell (p:=⟨bs,os+j,none⟩) aav.out).trans (VN.out j v aeD));clear Z7 K;intro X;refine az [[12,13,14]] ?_;exact pL
 case rest=>
  obtain⟨adn,rfl,U⟩:=hcut;clear Ev aeq;have Vq:=I (fun(j:Nat) (v:Value) (aeD:([.int .i64 0,.int .i64 1,.slice ZJ 0 XF]:List Value)[j]? =some v)=>(show wc.cell? ⟨bs,os+11+j,none⟩=some v by rw[Nat.add_assoc];exact(U.all.cell (p:=⟨bs,os+(11+j),none⟩) aav.out).trans (VN.out (11+j) v (Ib aeD))));go_upto_region 9 with(refine adD Vq.out ?_ rfl)
  clear Vq;have aay:=U.new 44 [.int .i64 0,.int .i64 1,.slice ZJ 0 XF];clear U;have U:=aay;clear aay;generalize wc.alloc (.cells ([.int .i64 0,.int .i64 1,.slice ZJ 0 XF]:List Value).toArray 44)=age at*;generalize wc.heap.size=Xx at*;have VI:=U.cell (g:=adn) (i:=0) kw rfl;have WJ:=U.cell (g:=adn) (i:=1) kw rfl;have adr:=U.cell (g:=adn) (i:=2) kw rfl;have d0:=U.cell (g:=Xx) (i:=0) cX rfl;have d1:=U.cell (g:=Xx) (i:=1) cX rfl;have d2:=U.cell (g:=Xx) (i:=2) cX rfl;go_wp2_with(go_at_call 73;refine Calls.mono (NR _ _ _ _ _) ?_;rintro e aaM ⟨rfl,rfl⟩;skip);rw[rounds_succ];go_wp2_with fail;go_ret2;exact⟨rfl,U.all⟩
end Go.Proofs.YtcimojgkeoecfaaGreat
