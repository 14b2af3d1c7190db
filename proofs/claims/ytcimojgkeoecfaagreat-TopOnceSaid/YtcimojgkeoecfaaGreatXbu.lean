import Derived.Conc.LoneSelect
import Derived.Test.YtcimojgkeoecfaaGreatXbt
set_option linter.all false
set_option maxHeartbeats 16000000
set_option maxRecDepth 100000
namespace Go.Proofs.YtcimojgkeoecfaaGreat
section
open Go.Conc Go.RowKit Tryz
section
variable{P:Program}{f:FuncId}{fn:Func}{R:Ending->World->Prop}{cs:List Frame}{k:List Item}{a a':Act}{w w':World}{c x y:Code}{ops:Array Oper}{i:Nat}{rest:List Nat}{o:Oper}
abbrev aeV(f:FuncId):Frame:={(default:Frame)with fn:=f,kind:=.normal}
def ae4(P:Program)(f:FuncId)(R:Ending->World->Prop)(cs:List Frame)(k:List Item)(a:Act)(w:World):Prop:=
 ∃v w' fr,R (.returned v) w'/\Steps P (lone ((aeV f).at a k) cs w) (lone fr cs w')/\fr.fn=f/\fr.leaving P w' (.returned v)
theorem mO{args:Array Value}(acA:P.funcs[f]? =some fn)(hb:fn.body=some c)(h: ∀cs,ae4 P f R cs [.code c] {tmps:=args++Array.replicate (fn.ntmps-args.size) undef,defers:= []} w):Calls P f args w R:=fun cs=>by
 have JW:Frame.enter P f args .normal=(aeV f).at {tmps:=args++Array.replicate (fn.ntmps-args.size) undef,defers:= []} [.code c]:=by simp[Frame.enter,Frame.at,acA,hb]
 obtain⟨v,w',fr,adS,YF,h1,aaV⟩:=h cs;exact⟨_,w',fr,adS,by rw[JW];exact YF,h1,aaV⟩
theorem ae4.step{k':List Item}(h':ae4 P f R cs k' a' w')(h:step P (lone ((aeV f).at a k) cs w)= .next (lone ((aeV f).at a' k') cs w')):ae4 P f R cs k a w:=
 let⟨v,WW,fr,adS,YF,r⟩:=h';⟨v,WW,fr,adS,Steps.head h YF,r⟩
def mP(P:Program)(f:FuncId)(fn:Func)(R:Ending->World->Prop)(cs:List Frame)(k:List Item):Exit->Act->World->Prop
 |.normal,a,w=>ae4 P f R cs k a w
 |.exit id,a,w=> ∃k',exitTo id k=some k'/\ae4 P f R cs k' a w
 |.ret,a,w=>bodyPost P fn R .ret a w
 |_,_,_=>False
theorem ae4.wp(acA:P.funcs[f]? =some fn)(h:c.wp P (mP P f fn R cs k) a w):ae4 P f R cs (.code c::k) a w:=by
 obtain⟨e,a',w',VX,Hx⟩:=h (aeV f) k cs;cases e with
 |normal=>obtain⟨v,WW,fr,adS,YF,r⟩:=VX;exact⟨v,WW,fr,adS,Steps.trans Hx YF,r⟩
 |exit id=>obtain⟨k',ae3,v,WW,fr,adS,YF,r⟩:=VX;exact⟨v,WW,fr,adS,Steps.trans (Hx k' ae3) YF,r⟩
 |ret=>obtain⟨hd,v,abk,adS⟩:=VX;obtain⟨Uc,YF⟩:=Hx;exact⟨v,w',_,adS,YF,rfl,rfl,hd,rfl,fn,acA,abk⟩
 |goto l=>exact VX.elim
 |panic ads=>exact VX.elim
 |outgrown=>exact VX.elim
theorem ae4.seq(h:ae4 P f R cs (.code x:: .code y::k) a w):ae4 P f R cs (.code (.seq x y)::k) a w:=h.step step_seq
theorem ae4.block{id:Nat}(h:ae4 P f R cs (.code c:: .inBlock id::k) a w):ae4 P f R cs (.code (.block id c)::k) a w:=h.step step_block
section
variable(h:ae4 P f R cs (.code c:: .inLoop c::k) a w)
include h
theorem ae4.loop:ae4 P f R cs (.code (.loop c)::k) a w:=h.step step_loop
theorem ae4.again:ae4 P f R cs (.inLoop c::k) a w:=h.step step_inLoop
end
theorem ae4.out{id:Nat}(h:ae4 P f R cs k a w):ae4 P f R cs (.inBlock id::k) a w:=h.step step_inBlock
theorem ae4.reg{id:Nat}{l:List Nat}(h:ae4 P f R cs (.inRegion ops l::k) a w)(YJ:List.range ops.size=l:=by rfl):ae4 P f R cs (.code (.region id ops false)::k) a w:=ae4.step (by rw[YJ];exact h) step_region
theorem ae4.Hy(h:ae4 P f R cs k a w):ae4 P f R cs (.inRegion ops []::k) a w:=h.step step_region_end
theorem tB(ZQ:ops[i]? =some o)(v:Value):((aeV f).at a (.inRegion ops (i::rest)::k)).finish v=(aeV f).at (a.put o.dst v) (.inRegion ops rest::k):=by rw[Frame.finish_at,ZQ];rfl
theorem ae4.op{v:Value}(abk:(execOp a.eval o).run P w= .ok (.value v) w')(h:ae4 P f R cs (.inRegion ops rest::k) a' w')(ZQ:ops[i]? =some o:=by exact rfl)(afl:Region.wanted o (yielded ops a.tmps)=true:=by rfl)
 (Xg:a.put o.dst v=a':=by exact fa):ae4 P f R cs (.inRegion ops (i::rest)::k) a w:=by
 refine h.step (step_lone_go ?_);rw[stepG_op ZQ afl,<-Xg,<-tB ZQ];simp[stepG.apply,abk]
theorem ae4.send{ads cap s r:Nat}{buf:Array Value}{v z:Value}(abk:(execOp a.eval o).run P w= .ok (.comm #[scase ads v z] true .send) w)(XP:w.heap[ads]? =some (.chan cap buf false s r false))(AH:buf.size<cap)
 (h:ae4 P f R cs (.inRegion ops rest::k) a' (w.setChan ads cap (buf.push v) false (s+1) r false))(ZQ:ops[i]? =some o:=by exact rfl)(afl:Region.wanted o (yielded ops a.tmps)=true:=by rfl)
 (Xg:a.put o.dst undef=a':=by exact fa):ae4 P f R cs (.inRegion ops (i::rest)::k) a w:=by
 refine h.step ?_;rw[<-Xg,<-tB ZQ];exact step_lone_send_room (stepG_comm ZQ afl (fun e=>by cases e) abk) XP AH
theorem ae4.Qr{ads cap s r:Nat}{buf:Array Value}{closed:Bool}{z:Value}(abk:(execOp a.eval o).run P w= .ok (.comm #[rcase ads z] false .select) w)(XP:w.heap[ads]? =some (.chan cap buf closed s r false))(Nq:0<buf.size)
 (h:ae4 P f R cs (.inRegion ops rest::k) a' (w.setChan ads cap (buf.extract 1 buf.size) closed s (r+1) false))(ZQ:ops[i]? =some o:=by exact rfl)(afl:Region.wanted o (yielded ops a.tmps)=true:=by rfl)
 (Xg:a.put o.dst (.tuple #[goInt 0,.bool true,buf.getD 0 undef])=a':=by exact fa):ae4 P f R cs (.inRegion ops (i::rest)::k) a w:=by
 refine h.step ?_;rw[<-Xg,<-tB ZQ];exact step_lone_select_recv_buf (stepG_comm ZQ afl (fun e=>by cases e) abk) XP Nq
theorem ae4.Qs{ads cap s r:Nat}{z:Value}(abk:(execOp a.eval o).run P w= .ok (.comm #[rcase ads z] false .select) w)(XP:w.heap[ads]? =some (.chan cap #[] true s r false))
 (h:ae4 P f R cs (.inRegion ops rest::k) a' w)(ZQ:ops[i]? =some o:=by exact rfl)(afl:Region.wanted o (yielded ops a.tmps)=true:=by rfl)
 (Xg:a.put o.dst (.tuple #[goInt 0,.bool false,z])=a':=by exact fa):ae4 P f R cs (.inRegion ops (i::rest)::k) a w:=by
 refine h.step ?_;rw[<-Xg,<-tB ZQ];exact step_lone_select_recv_shut (stepG_comm ZQ afl (fun e=>by cases e) abk) XP
end
section
variable{w0 w w':World}{S:Nat->Prop}{L:List abN}{P:Program}{o:Oper}{a a':Act}{Q:Exit->Act->World->Prop}{ops:Array Oper}{rest:List Oper}
theorem aah.Qt{T:Nat->Prop}{A:Option XS}(h:aah w0 S w A L)(aen: ∀b,b<w0.heap.size->T b->S b)(Wy: ∀x,x∈L->w0.heap.size<=x.g:=by simp)(adu:A=none:=by rfl):aah w0 T w A L:=by
 subst adu;exact⟨h.bC,h.aed,fun x lV=>.inl (Wy x lV),h.Wu.mono fun b hb q=>aen b hb q,trivial,fun a e=>by cases e⟩
section
variable(h:aah w0 S w none L)
include h
theorem aah.tC{c cap s r:Nat}{buf:Array Value}{ZS:Bool}(XP:w.heap[c]? =some (.chan cap buf ZS s r false)):bq none L c:=by
 refine⟨fun x Wy e=>?_,fun a e=>by cases e⟩;have h1:=h.bC x Wy;rw[e]at h1;rw[show w.heap[c]? =_ from h1]at XP;cases XP
theorem aah.Hz{c cap s r:Nat}{buf:Array Value}{ZS:Bool}(XP:w.heap[c]? =some (.chan cap buf ZS s r false))(afj:w0.heap.size<=c\/¬S c)(acP:Obj):aah w0 S {w with heap:=w.heap.setIfInBounds c acP} none L:=by
 have abi:=(h.tC XP).1;refine⟨fun x Wy=>?_,h.aed,h.fr,⟨h.Wu.os,h.Wu.tape,h.Wu.output,by simpa using h.Wu.size,fun b hb YF=>?_⟩,trivial,fun a e=>by cases e⟩
 ·show(w.heap.setIfInBounds c acP)[x.g]? =_;rw[bk (fun e=>abi x Wy e.symm)];exact h.bC x Wy
 ·show(w.heap.setIfInBounds c acP)[b]? =_;rw[bk (fun e=>by subst e;rcases afj with q|q;omega;exact q YF)];exact h.Wu.block b hb YF
theorem Ty{t:TypeId}{x:Operand}{n:Nat}(hm: ∀w,(Instr.makeChan t (.int .i64 n)).run P w= .ok (.chan (some w.heap.size)) (w.alloc (.chan n #[] false 0 0 false)))
 (Z7: ∀c w',aah w0 S w' none L->w'.heap[c]? =some (.chan n #[] false 0 0 false)->w0.heap.size<=c->wpList P ops Q rest (a.put o.dst (.chan (some c))) w')(dj:o.guard=none:=by exact rfl)(ZQ:o.op= .makeChan t x:=by exact rfl)(Wy:a.eval x= .int .i64 n:=by exact rfl):wpList P ops Q (o::rest) a w:=by
 refine wpList_plain dj fun K k=>?_;have aaV:=k _ _ (Z7 w.heap.size (w.alloc (.chan n #[] false 0 0 false)) (h.below ((Below.refl _ _).alloc (ai _) _)) (dL _ _) h.size);unfold Oper.wp execOp;simp only[ZQ,Wy];simpa [go_sem,hm]using aaV
end
end
theorem Nr(w:World):(Instr.makeChan 224 (.int .i64 ((1:Nat):Int))).run prog w= .ok (.chan (some w.heap.size)) (w.alloc (.chan 1 #[] false 0 0 false)):=by
 obtain⟨i,hi,hb⟩:=Option.map_eq_some_iff.1 (show(Tryz.prog.info? 3).map (·.bytes)=some 8 by kernel_rfl);exact run_makeChan underlying224 hi .i64 1 am (by rw[hb];decide)
theorem zP{w:World}{S:Nat->Prop}{v:Value}{x:Int}(h:cF w S v [x]): ∃b off c,v= .slice (some ⟨b,off,none⟩) 1 c/\w.cell? ⟨b,off,none⟩=some (.int .i64 x)/\S b/\b<w.heap.size:=by
 obtain⟨A,WJ,rfl,h1,aaV,ZV⟩:=id h;obtain⟨b,off,rfl,YF,YJ,XP⟩:=ZV aN;exact⟨b,off,WJ,rfl,XP 0 0 _ aN rfl,YF,YJ⟩
theorem Ea(w0:World)(B:WB)(p:afy)(F:b1)(n:Nat)(W:Wd)(h:df w0 B p F n W)(aeJ:a9 p)(fc: ∀i,i<p.t.toNat->(W.XT i).calls.length<=65536)(YJ:ec W p.t.toNat= [0]):
 Calls prog 122 #[.pointer (some ⟨B.aeh,0,none⟩)] w0 fun e w'=> ∃c,e= .returned (.agg #[.chan (some c)])/\w'.heap[c]? =some (.chan 1 #[.int .i64 0] true 1 0 false)/\w0.heap.size<=c/\Below w0.heap.size w0 w':=by
 have abL:=I (show∀w',Below w0.heap.size w0 w'->_ from fun w' hb=>tx w' B p F n W (h.below hb) aeJ fc);rw[YJ]at abL;have U:=aah.a0 w0;clear h aeJ fc YJ;refine mO func122 rfl (fun cs=>?_);simp only[ntmps122,List.size_toArray,aI,bR,Nat.reduceAdd,Nat.reduceSub,Array.replicate_succ,Array.replicate_zero,List.push_toArray,List.append_toArray,au,aU];have aeg:=I Nr;refine .seq (.wp func122 ?_);go_wp2_with fail;dsimp only[mP];replace U:=U.new 226 [.chan none];refine .seq (.wp func122 ?_);go_wp2_with fail;refine Calls.mono (abL.out _ U.all) ?_;rintro e aaM ⟨v,rfl,hv,N⟩;obtain⟨acw,abS,WJ,rfl,Wy,-,v2⟩:=zP hv;replace U:=U.below N;have aaH:=U;replace U:=aaH.base;clear hv N;go_wp2_with fail;dsimp only[mP];refine .seq (.wp func122 ?_);go_wp2_with(first|(refine Ty U aeg.out ?_;clear U;intro c w U XP wZ)|first|(refine aq ?_)|(refine aT ?_;clear U;intro X8 w U aay));dsimp only[mP];have N:=vp aaH.bC U fun _ h=>h;have ir:=aaH.back U;have bV:=(Array.getElem?_eq_some_iff.1 XP).1;have abi:=ir.new 226 [.chan (some c)];have be:Below w.heap.size w (w.alloc (.cells #[.chan (some c)] 226)):=(Below.refl _ _).alloc (ai _) _;have eR:=(be.block c bV).trans XP;have jb:=((N.trans (be.mono N.size)).cell (p:=⟨acw,abS,none⟩) v2).trans Wy;have aeN:w0.heap.size<=c:=D aaH.size wZ;clear U XP Wy aaH ir wZ N be bV v2 abL;generalize w.alloc (.cells #[.chan (some c)] 226)=WW at*;generalize w.heap.size=W3 at*;refine .seq (.seq (.wp func122 ?_));go_wp2_with fail;dsimp only[mP];refine .block (.loop (.seq (.wp func122 ?_)));go_wp2_with fail;dsimp only[mP];refine .seq (.wp func122 ?_);go_wp2_with fail;dsimp only[mP];refine .seq (.block (.seq (.wp func122 ?_)));go_wp2_with fail;dsimp only[mP];have sM:=abi.cell (g:=W3) (i:=0) cX rfl;refine .reg (l:= [0,1,2,3]) ?_;refine .op (v:=.pointer (some ⟨W3,0,none⟩)) (w':=WW) ?_ ?_
 ·go_simp
 refine .op (v:=.chan (some c)) (w':=WW) ?_ ?_
 ·go_simp
 refine .op (v:=.int .i64 0) (w':=WW) ?_ ?_
 ·go_simp
 refine .send (z:=.tuple #[]) (v:=.int .i64 0) ?_ eR am ?_
 ·go_simp;rfl
 refine .Hy (.out ?_);have kd:aah w0 (fun _=>True) (WW.setChan c 1 #[.int .i64 0] false 1 0 false) none _:=abi.Hz eR (.inl aeN) _;have c7:=heap_setChan WW c 1 #[.int .i64 0] false 1 0 false (Array.getElem?_eq_some_iff.1 eR).1;show ae4 _ _ _ _ _ _ (WW.setChan c 1 #[.int .i64 0] false 1 0 false);clear abi eR jb sM;generalize WW.setChan c 1 #[.int .i64 0] false 1 0 false=w3 at*;refine .wp func122 ?_;go_wp2_with fail;dsimp only[mP];refine .again (.seq (.wp func122 ?_));go_wp2_with fail;dsimp only[mP];refine .seq (.wp func122 ?_);go_wp2_with fail;dsimp only[mP];refine⟨_,rfl,?_⟩;refine .seq (.wp func122 ?_);have sM:=kd.cell (g:=W3) (i:=0) cX rfl;have fc:=fun Tz Yn=>run_close_open (P:=prog) (w:=w3) Tz Yn c7;go_wp2_with fail;dsimp only[mP];have Ns:=kd.Hz c7 (.inl aeN) (.chan 1 #[.int .i64 0] true 1 0 false);have lk:({w3 with heap:=w3.heap.setIfInBounds c (.chan 1 #[.int .i64 0] true 1 0 false)}:World).heap[c]? =some (.chan 1 #[.int .i64 0] true 1 0 false):=heap_setChan w3 c 1 #[.int .i64 0] true 1 0 false (Array.getElem?_eq_some_iff.1 c7).1;clear fc sM kd c7;generalize({w3 with heap:=w3.heap.setIfInBounds c (.chan 1 #[.int .i64 0] true 1 0 false)}:World)=acJ at*;have U:=Ns.base;have ae3:=Ns.tC lk;refine .wp func122 ?_;go_wp2_with(first|(refine aq ?_)|(refine aT ?_;clear U;intro X8 w U aay));dsimp only[mP];refine cw results122 rfl rfl ⟨_,U.b kw,rfl⟩ underlying226 rfl aM ?_;exact⟨c,rfl,(U.Wu.block c (Array.getElem?_eq_some_iff.1 lk).1 ae3).trans lk,aeN,(Ns.back U).all⟩
theorem HA(w0:World)(c:Nat)(XP:w0.heap[c]? =some (.chan 1 #[.int .i64 0] true 1 0 false)):
 Calls prog 123 #[.agg #[.chan (some c)]] w0 fun e w'=>e= .returned (.tuple #[.int .i64 0,.bool true])/\w'.heap[c]? =some (.chan 1 #[] true 1 1 false)/\Z1 (fun b=>b≠c) w0 w':=by
 have U:=(aah.a0 w0).new 226 [.chan (some c)];have bV:=(Array.getElem?_eq_some_iff.1 XP).1;have hb:Below w0.heap.size w0 (w0.alloc (.cells #[.chan (some c)] 226)):=(Below.refl _ _).alloc (ai _) _;have eR:=(hb.block c bV).trans XP;refine mO func123 rfl (fun cs=>?_);simp only[ntmps123,List.size_toArray,aI,bR,Nat.reduceAdd,Nat.reduceSub,Array.replicate_succ,Array.replicate_zero,List.push_toArray,List.append_toArray,au,aU];clear bV hb XP;refine .seq (.wp func123 ?_);go_wp2_with fail;dsimp only[mP];generalize w0.alloc (.cells #[.chan (some c)] 226)=w at*;have sM:=U.cell (g:=w0.heap.size) (i:=0) cX rfl;refine .seq (.wp func123 ?_);go_wp2_with fail;dsimp only[mP];refine .seq (.reg (l:= [0,1,2]) ?_);refine .Qr (z:=.int .i64 0) ?_ eR am ?_
 ·go_simp;rfl
 have c7:=heap_setChan w c 1 #[] true 1 1 false (Array.getElem?_eq_some_iff.1 eR).1;have kd:aah w0 (fun b=>b≠c) (w.setChan c 1 #[] true 1 1 false) none _:=(U.Qt fun _ _ _=>trivial).Hz eR (.inr fun q=>q rfl) _;show ae4 _ _ _ _ _ _ (w.setChan c 1 #[] true 1 1 false);generalize w.setChan c 1 #[] true 1 1 false=w3 at*;refine .op (v:=.int .i64 0) (w':=w3) ?_ ?_
 ·go_simp
 refine .op (v:=.bool true) (w':=w3) ?_ ?_
 ·go_simp
 refine .Hy (.wp func123 ?_);go_wp2_with fail;dsimp only[mP];go_ret2;exact⟨rfl,c7,kd.Wu⟩
theorem HB(w0:World)(c:Nat)(XP:w0.heap[c]? =some (.chan 1 #[] true 1 1 false)):
 Calls prog 123 #[.agg #[.chan (some c)]] w0 fun e w'=>e= .returned (.tuple #[.int .i64 0,.bool false])/\Below w0.heap.size w0 w':=by
 have U:=(aah.a0 w0).new 226 [.chan (some c)];have bV:=(Array.getElem?_eq_some_iff.1 XP).1;have hb:Below w0.heap.size w0 (w0.alloc (.cells #[.chan (some c)] 226)):=(Below.refl _ _).alloc (ai _) _;have eR:=(hb.block c bV).trans XP;refine mO func123 rfl (fun cs=>?_);simp only[ntmps123,List.size_toArray,aI,bR,Nat.reduceAdd,Nat.reduceSub,Array.replicate_succ,Array.replicate_zero,List.push_toArray,List.append_toArray,au,aU];clear bV hb XP;refine .seq (.wp func123 ?_);go_wp2_with fail;dsimp only[mP];generalize w0.alloc (.cells #[.chan (some c)] 226)=w at*;have sM:=U.cell (g:=w0.heap.size) (i:=0) cX rfl;refine .seq (.wp func123 ?_);go_wp2_with fail;dsimp only[mP];refine .seq (.reg (l:= [0,1,2]) ?_);refine .Qs (z:=.int .i64 0) ?_ eR ?_
 ·go_simp;rfl
 refine .op (v:=.int .i64 0) (w':=w) ?_ ?_
 ·go_simp
 refine .op (v:=.bool true) (w':=w) ?_ ?_
 ·go_simp
 refine .Hy (.wp func123 ?_);go_wp2_with fail;dsimp only[mP];go_ret2;exact⟨rfl,U.all⟩
end
section
open Go.Conc Go.RowKit Tryz
def Ej:Nat->Int:=fun i=>([1,0,0,8,0,0,2,0,64,0,0,0]:List Int).getD i 0
def aeB:h9:=j9 Ej 12
def W0:Wd:=l2 aeB.p aeB.bj
def W1:Wd:=bI aeB.p (bX aeB) (e5 aeB.p) W0 0
theorem m1:aeB.p=⟨2,1,0,64⟩:=aM
theorem B9:e0 Ej:=fun i=>by
 unfold Ej;rcases Nat.lt_or_ge i 12 with h|h
 ·have: ∀j,j<12->0<=([1,0,0,8,0,0,2,0,64,0,0,0]:List Int).getD j 0/\([1,0,0,8,0,0,2,0,64,0,0,0]:List Int).getD j 0<=255:=by decide
  exact this i h
 ·rw[ae,aV (by simpa using h)];decide
theorem hW:hV aeB:=sN B9 12
theorem HM:aeB.p.t=1:=by rw[m1]
theorem HN:ec W0 aeB.p.t.toNat= [0]:=aM
theorem NH:ec W1 aeB.p.t.toNat= []:=aM
theorem HO:W1.ops= [⟨0,⟨2,0,0,0,64,0,0⟩,0,0,0,⟨0,1,[]⟩⟩]:=aM
theorem QY:W1.fr= []:=aM
theorem abX:W1.n=1:=aM
theorem tD(i:Nat):(W0.XT i).calls.length<=65536:=by
 show(aeB.bj i).length<=_;have:=(hW.c i).1;omega
theorem J8(i:Nat):(W1.XT i).calls.length<=65536:=D rW (tD i)
theorem HP:Inv aeB.p (bX aeB) (e5 aeB.p) W0 (fun _=> []) (fun _=>none):=Inv.init hW.p (zT hW) (rU hW.p) fun t _ c XP=>(hW.c t).2 c XP
theorem HQ:(W0.XT 0).ended=false:=aM
theorem Lc:dx (bd aeB.p (W0.XT 0) W0.ops.length).run/\(bd aeB.p (W0.XT 0) W0.ops.length).run.n<=65536:=⟨⟨by decide+kernel,by decide+kernel,by decide+kernel⟩,by decide+kernel⟩
theorem aah.Ca{w0 w w':World}{L:List abN}{S T:Nat->Prop}(h:aah w0 (fun _=>True) w none L)(k:Z1 T w w')(aen: ∀b,b<w0.heap.size->S b->T b)(Wy: ∀x,x∈L->T x.g):aah w0 S w' none L:=
 ⟨fun x hm=>(k.block x.g (h.bC x hm).lt (Wy x hm)).trans (h.bC x hm),h.aed,fun x hm=>.inl ((h.fr x hm).resolve_right fun q=>q trivial),⟨k.os.trans h.Wu.os,k.tape.trans h.Wu.tape,k.output.trans h.Wu.output,D h.Wu.size k.size,fun b hb YF=>(k.block b (aj hb h.Wu.size) (aen b hb YF)).trans (h.Wu.block b hb trivial)⟩,trivial,fun a e=>by cases e⟩
theorem HR(w0:World)(B:WB)(h:df w0 B aeB.p (bX aeB) (e5 aeB.p) W0)(gS: ∀b,afi B aeB.p.t.toNat b->b<w0.heap.size):
 Calls prog 68 #[.pointer (some ⟨B.aeh,0,none⟩),.int .i64 9] w0 fun e w'=> ∃B':WB,e= .returned (.tuple #[.int .i64 1,.int .i64 0])/\B'.aeh=B.aeh/\df w' B' aeB.p (bX aeB) (e5 aeB.p) W1/\Z1 (aaJ B aeB.p.t.toNat) w0 w':=by
 have H:=I h;have aey:=I gS;have U:=aah.a0 w0;clear h gS;go_enter func68,ntmps68;go_wp2_with fail;refine wp_loop_rounds 2 ?_;rw[rounds_succ];go_wp2_with fail;refine Calls.mono (tx _ _ _ _ _ _ (H.out.below U.all) hW.p fun i _=>tD i) ?_;rintro e aaM ⟨v,rfl,hv,N⟩;rw[HN]at hv;obtain⟨acw,abS,WJ,rfl,Wy,-,v2⟩:=zP hv;replace U:=U.below N;clear hv N Wy v2;go_wp2_with fail;refine Calls.mono (Ea _ _ _ _ _ _ (H.out.below U.all) hW.p (fun i _=>tD i) HN) ?_;rintro e WW ⟨c,rfl,XP,wZ,be⟩;have aaH:=U.below be;have Ud:=D U.size wZ;have U:=aaH.base;clear be wZ;go_upto_region 6 with fail
 replace U:=U.new 226 [.chan (some c)];generalize WW.alloc (.cells #[.chan (some c)] 226)=Wo at U⊢;have eR:=(U.Wu.block c (Array.getElem?_eq_some_iff.1 XP).1 (aaH.tC XP)).trans XP;have ir:=aaH.back U;clear U aaH XP;have U:=ir;go_wp2_with(first|(refine aq ?_));refine Calls.mono (HA _ c eR) ?_;rintro e w3 ⟨rfl,c7,uR⟩;have abi:=(ir.tC eR).1;have fu:=ir.after uR (fun b hb e=>J) (fun x Wy=>⟨(uR.block x.g (ir.bC x Wy).lt fun e=>abi x Wy e).trans (ir.bC x Wy),by
  rcases ir.fr x Wy with q|q
  ·exact q
  ·exact absurd trivial q⟩) ir.aed
 clear U ir eR uR abi;have U:=fu;go_wp2_with fail;refine wp_loop_rounds 2 ?_;rw[rounds_succ];go_wp2_with fail;refine Calls.mono (zF w3 {B with Yi:=fun _=>True} _ _ _ _ _ _ ((H.out.fr _ fun _ _ _=>trivial).below fu.all) HP vK.init 0 (by rw[HM];decide) HQ Lc.1 Lc.2 (tD 0) am fun _ _=>trivial) ?_;rintro e acJ ⟨B',rfl,mb,-,ae9,iu,-⟩;have qX:aah w0 (aaJ B aeB.p.t.toNat) acJ none _:=fu.Ca iu (fun b hb hm=>hm) fun x Wy hm=>by
  have:=aey.out _ hm;rcases fu.fr x Wy with q|q
  ·omega
  ·exact q trivial
 have TL:=(iu.block c (Array.getElem?_eq_some_iff.1 c7).1 fun hm=>by have:=aey.out _ hm;omega).trans c7;clear U fu iu c7;have U:=qX.base;replace ae9:Hid (df acJ B' aeB.p (bX aeB) (e5 aeB.p) W1):=I ae9;replace mb:=I mb;go_wp2_with(first|(refine aq ?_));refine Calls.mono (HB _ c TL) ?_;rintro e ae5 ⟨rfl,tn⟩;replace U:=U.below tn;go_wp2_with fail;rw[rounds_succ];go_wp2_with fail;rw[rounds_succ];go_wp2_with fail;rw[show B.aeh=B'.aeh from mb.out.symm];refine Calls.mono (tx _ B' _ _ _ _ (ae9.out.below tn) hW.p fun i _=>J8 i) ?_;rintro e VV ⟨v,rfl,hv,v5⟩;rw[NH]at hv;obtain⟨A,adb,rfl,-,-,-⟩:=id hv;replace U:=U.below v5;go_wp2_with fail;go_ret2;exact⟨B',rfl,mb.out,ae9.out.below (tn.trans (v5.mono tn.size)),(qX.back U).Wu⟩
theorem J9(w0:World)(B:WB)(A:Option Addr)(c:Nat)(h:df w0 B aeB.p (bX aeB) (e5 aeB.p) W0)(gS: ∀b,afi B aeB.p.t.toNat b->b<w0.heap.size):
 Calls prog 32 #[.pointer (some ⟨B.aeh,0,none⟩),.slice A 0 c,.int .i64 9] w0 fun e w'=> ∃B':WB,e= .returned (.tuple #[.int .i64 0,.int .i64 0])/\B'.aeh=B.aeh/\df w' B' aeB.p (bX aeB) (e5 aeB.p) W1/\Z1 (aaJ B aeB.p.t.toNat) w0 w':=by
 have aG:=I (HR w0 B h gS);clear h gS;go_enter func32,ntmps32;go_wp2_with fail;refine wp_loop_rounds 1 ?_;rw[rounds_succ];go_wp2_with fail;refine Calls.mono aG.out ?_;rintro e aaM ⟨B',rfl,mb,ae9,ae3⟩;have afl:=I mb;clear mb;go_wp2_with fail;go_ret2;exact⟨B',rfl,afl.out,ae9,ae3⟩
end
section
open Go.RowKit Tryz
def gB(w:World)(B:WB):Prop:=df w B aeB.p (bX aeB) (e5 aeB.p) W1
theorem gB.below{w w':World}{B:WB}(h:gB w B)(k:Below w.heap.size w w'):gB w' B:=df.below h k
theorem NK:e5 aeB.p=24:=aM
theorem HW:(W1.XT 0).aD= []:=aM
theorem t1:aeB.p.t.toNat=1:=by rw[m1];rfl
variable(w0:World)(B:WB)(h:gB w0 B)
theorem Kg(ap:Nat):Calls prog 154 #[.agg ([.int .i64 2,.int .i64 1,.int .i64 0,.int .i64 64]:List Value).toArray,.pointer (some ⟨ap,0,none⟩),.int .i64 (-1)] w0 fun e w'=>e= .returned (.tuple #[.agg #[.int .i64 0,.int .i64 0,.int .i64 0,.int .i64 0],.int .i64 11])/\Below w0.heap.size w0 w':=by
 have U:=aah.a0 w0;have AT:=I fun w'=>OZ 2 1 0 64 0 (-1) w' (I am) am am am;go_enter func154,ntmps154;go_upto_region 1 with(first|(refine Ws U 27 ?_;clear U;intro aff w U Hr)|(refine VP U ny ?_;clear U;intro gc w U Bx))
 go_wp2_with(first|(go_at_call 155;refine a6 U (AT.out _) ?_;clear U;intro aaM U)|(refine aq ?_)|(refine ac2 U ?_;clear U;intro w U));refine aZ results154 rfl rfl ⟨_,U.b (g:=gc) ag,rfl⟩ underlying56 rfl aM ?_;exact⟨rfl,U.all⟩
include h
theorem Cb:Calls prog 80 #[.pointer (some ⟨B.aeh,0,none⟩),.int .i64 (-1)] w0 fun e w'=>e= .returned (.tuple #[.agg #[.int .i64 0,.int .i64 0,.int .i64 0,.int .i64 0],.int .i64 11])/\Below w0.heap.size w0 w':=by
 have hb:ah w0 B.aeh 142 _:=h.wd;rw[m1]at hb;have aav:=I hb;have U:=aah.g8 hb;clear h hb;go_enter func80,ntmps80;go_wp2_with(first|(refine aq ?_)|(refine aT ?_;clear U;intro X8 w U aay));replace U:=U.drew;refine wp_region_held_drew aM U.l0 (fun X=>?_);refine az [[0,1,2,3,4,5,6,7,8]] ?_;refine aF 9 fun K Z7=>?_;go_simp;go_at_call 154;refine a6 U (Kg _ _) ?_;clear U;intro aaM U;exact n8
theorem tE:Calls prog 80 #[.pointer (some ⟨B.aeh,0,none⟩),.int .i64 0] w0 fun e w'=>e= .returned (.tuple #[.agg ([.int .i64 2,.int .i64 1,.int .i64 (-1),.int .i64 0]:List Value).toArray,.int .i64 0])/\Below w0.heap.size w0 w':=by
 obtain⟨O',dk,adu⟩:=HP.bI (t:=0) (by rw[HM];decide) HQ;exact xq w0 B _ _ _ _ h hW.p (by rw[NK,m1];decide) 0 (by rw[m1];decide) (adu.inv.Zt 0 (by rw[m1];decide)).ft
theorem xR:Calls prog 80 #[.pointer (some ⟨B.aeh,0,none⟩),.int .i64 1] w0 fun e w'=>e= .returned (.tuple #[.agg ([.int .i64 1,.int .i64 0,.int .i64 (-1),.int .i64 0]:List Value).toArray,.int .i64 0])/\Below w0.heap.size w0 w':=by
 obtain⟨O',dk,adu⟩:=HP.bI (t:=0) (by rw[HM];decide) HQ;exact xq w0 B _ _ _ _ h hW.p (by rw[NK,m1];decide) 1 (by rw[m1];decide) (adu.inv.Zt 1 (by rw[m1];decide)).ft
theorem zV(k:Nat)(ae3:k<24):Calls prog 156 #[.agg ([.int .i64 2,.int .i64 1,.int .i64 0,.int .i64 64,.pointer (some ⟨B.aeh,0,none⟩)]:List Value).toArray,.int .i64 (8*(k:Int))] w0 fun e w'=>e= .returned (.int .u64 (W1.V k))/\Below w0.heap.size w0 w':=by
 have H:=I h;have U:=aah.a0 w0;clear h;have aaR:=I ae3;clear ae3;go_enter func156,ntmps156;go_upto_region 1 with(first|(refine Ws U 165 ?_;clear U;intro gk w U tt))
 go_wp2_with(first|(go_at_call 100;refine a6 U (FG _ _ _ _ _ _ (H.out.below U.all) _ k rfl (by rw[NK];exact aaR.out)) ?_;clear U;intro aaM U)|(refine aq ?_)|(refine ac2 U ?_;clear U;intro w U)|(refine WG U ?_));go_ret;exact⟨rfl,U.all⟩
theorem ib(q s k:Nat)(VX:q<=4)(YF:s<2)(ae3:8*s+q=k):Calls prog 81 #[.agg ([.int .i64 2,.int .i64 1,.int .i64 0,.int .i64 64,.pointer (some ⟨B.aeh,0,none⟩)]:List Value).toArray,.int .i64 (q:Int),.int .i64 (s:Int)] w0 fun e w'=>e= .returned (.int .u64 (W1.V k))/\Below w0.heap.size w0 w':=by
 have H:=I h;have AT:=I (show∀w',Calls prog 155 #[.agg ([.int .i64 2,.int .i64 1,.int .i64 0,.int .i64 64]:List Value).toArray,.int .i64 (q:Int),.int .i64 (s:Int)] w' fun e du=>e= .returned (.tuple #[.int .i64 (8*(k:Int)),.int .i64 0])/\Below w'.heap.size w' du from fun w'=>by
  have h1:=KI 2 1 0 64 q s w' (I am) am J J;rwa[show(s:Int)*64+q*8=8*(k:Int) by omega]at h1)
 have jN:k<24:=J;have aaR:=I jN;have U:=aah.a0 w0;clear h VX YF ae3 jN;go_enter func81,ntmps81;go_upto_region 1 with(first|(refine Ws U 165 ?_;clear U;intro gk w U tt))
 go_wp2_with(first|(go_at_call 155;refine a6 U (AT.out _) ?_;clear U;intro aaM U)|(go_at_call 156;refine a6 U (zV _ B (H.out.below U.all) k aaR.out) ?_;clear U;intro aaM U)|(refine aq ?_)|(refine ac2 U ?_;clear U;intro w U)|(refine WG U ?_));go_ret;exact⟨rfl,U.all⟩
theorem Kh:Calls prog 103 #[.pointer (some ⟨B.aeh,0,none⟩),.int .i64 0] w0 fun e w'=> ∃A c,e= .returned (.slice A 0 c)/\Below w0.heap.size w0 w':=
 (sX w0 B _ _ _ _ h hW.p 0 (by rw[m1];decide) (by rw[HW];decide)).mono fun e w' aaV=>by
   obtain⟨v,rfl,hv,hb⟩:=aaV
   obtain⟨A,c,abF,-,-,-⟩:=id hv
   rw[HW]at abF
   exact⟨A,c,by rw[abF];rfl,hb⟩
theorem xS(i:Int)(hi:1<=i/\i<=3):Calls prog 103 #[.pointer (some ⟨B.aeh,0,none⟩),.int .i64 i] w0 fun e w'=>e= .returned (.slice none 0 0)/\Below w0.heap.size w0 w':=by
 have hb:ah w0 B.aeh 142 _:=h.wd;obtain⟨A,c,e,-,-,-⟩:=id h.Wl;rw[e,m1]at hb;have aav:=I hb;have WI:=I fun w'=>fq i 0 0 w' (.inr J);have U:=aah.g8 hb;clear h hb e hi;go_enter func103,ntmps103;go_wp2_with(first|(go_at_call 104;refine Calls.mono (WI.out _) ?_;rintro e aaM ⟨rfl,rfl⟩;skip)|(refine aaO U ?_));go_ret;exact⟨rfl,U.ro aav.out ag⟩
theorem By:Calls prog 234 #[.agg ([.int .i64 2,.int .i64 1,.int .i64 0,.int .i64 64,.pointer (some ⟨B.aeh,0,none⟩)]:List Value).toArray,.int .i64 1] w0 fun e w'=>e= .returned (.int .i64 0)/\Below w0.heap.size w0 w':=by
 have H:=I h;have U:=aah.a0 w0;clear h;go_enter func234,ntmps234;go_upto_region 1 with(first|(refine Ws U 165 ?_;clear U;intro gk w U tt))
 go_wp2_with fail;refine wp_loop_rounds 5 ?_;rw[rounds_succ];go_wp2_with(first|(refine aq ?_)|(refine ac2 U ?_;clear U;intro w U)|(refine WG U ?_));refine(Kh _ B (H.out.below U.all)).mono ?_;rintro e aaM ⟨A,c,rfl,N⟩;replace U:=U.below N;clear N;go_wp2_with fail;refine wp_loop_rounds 1 ?_;rw[rounds_succ];go_wp2_with fail;rw[rounds_succ];go_wp2_with(first|(refine aq ?_)|(refine ac2 U ?_;clear U;intro w U)|(refine WG U ?_));refine(xS _ B (H.out.below U.all) 1 am).mono ?_;rintro e aaM ⟨rfl,N⟩;replace U:=U.below N;clear N;go_wp2_with fail;refine wp_loop_rounds 1 ?_;rw[rounds_succ];go_wp2_with fail;rw[rounds_succ];go_wp2_with(first|(refine aq ?_)|(refine ac2 U ?_;clear U;intro w U)|(refine WG U ?_));refine(xS _ B (H.out.below U.all) 2 am).mono ?_;rintro e aaM ⟨rfl,N⟩;replace U:=U.below N;clear N;go_wp2_with fail;refine wp_loop_rounds 1 ?_;rw[rounds_succ];go_wp2_with fail;rw[rounds_succ];go_wp2_with(first|(refine aq ?_)|(refine ac2 U ?_;clear U;intro w U)|(refine WG U ?_));refine(xS _ B (H.out.below U.all) 3 am).mono ?_;rintro e aaM ⟨rfl,N⟩;replace U:=U.below N;clear N;go_wp2_with fail;refine wp_loop_rounds 1 ?_;rw[rounds_succ];go_wp2_with fail;rw[rounds_succ];go_wp2_with fail;go_ret;exact⟨rfl,U.all⟩
end
end Go.Proofs.YtcimojgkeoecfaaGreat
