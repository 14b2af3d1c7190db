import Derived.Conc.LoneSelect
import Derived.Test.YtcimojgkeoecfaaGreatTas
set_option linter.all false
set_option maxHeartbeats 16000000
set_option maxRecDepth 100000
namespace Go.Proofs.YtcimojgkeoecfaaGreat
section
open Go.Conc Go.RowKit Tryz
section
variable{P:Program}{f:FuncId}{fn:Func}{R:Ending->World->Prop}{cs:List Frame}{k:List Item}{a a':Act}{w w':World}{c x y:Code}{ops:Array Oper}{i:Nat}{rest:List Nat}{o:Oper}
abbrev aeV(f:FuncId):Frame:={(default:Frame)with fn:=f,kind:=.normal}
def ae4(P:Program)(f:FuncId)(R:Ending->World->Prop)(cs:List Frame)(k:List Item)(a:Act)(w:World):Prop:=
 ∃v w' fr,R (.returned v) w'/\Steps P (lone ((aeV f).at a k) cs w) (lone fr cs w')/\fr.fn=f/\fr.leaving P w' (.returned v)
theorem mO{args:Array Value}(acA:P.funcs[f]? =some fn)(hb:fn.body=some c)(h: ∀cs,ae4 P f R cs [.code c] {tmps:=args++Array.replicate (fn.ntmps-args.size) undef,defers:= []} w):Calls P f args w R:=λcs=>by
 have JW:Frame.enter P f args .normal=(aeV f).at {tmps:=args++Array.replicate (fn.ntmps-args.size) undef,defers:= []} [.code c]:=by simp[Frame.enter,Frame.at,acA,hb]
 obtain⟨v,w',fr,adS,YF,h1,aaV⟩:=h cs;exact⟨_,w',fr,adS,by rw[JW];exact YF,h1,aaV⟩
theorem ae4.step{k':List Item}(h':ae4 P f R cs k' a' w')(h:step P (lone ((aeV f).at a k) cs w)= .next (lone ((aeV f).at a' k') cs w')):ae4 P f R cs k a w:=
 let⟨v,WW,fr,adS,YF,r⟩:=h';⟨v,WW,fr,adS,Steps.head h YF,r⟩
def mP(P:Program)(f:FuncId)(fn:Func)(R:Ending->World->Prop)(cs:List Frame)(k:List Item):Exit->Act->World->Prop
 |.normal,a,w=>ae4 P f R cs k a w
 |.exit id,a,w=> ∃k',exitTo id k=some k'/\ae4 P f R cs k' a w
 |.ret,a,w=>bodyPost P fn R .ret a w
 |_,_,_=>False
theorem ae4.wp(acA:P.funcs[f]? =some fn)(h:c.wp P (mP P f fn R cs k) a w):ae4 P f R cs (.code c::k) a w:=by
 obtain⟨e,a',w',VX,Hx⟩:=h (aeV f) k cs;cases e with
 |normal=>obtain⟨v,WW,fr,adS,YF,r⟩:=VX;exact⟨v,WW,fr,adS,Steps.trans Hx YF,r⟩
 |exit id=>obtain⟨k',ae3,v,WW,fr,adS,YF,r⟩:=VX;exact⟨v,WW,fr,adS,Steps.trans (Hx k' ae3) YF,r⟩
 |ret=>obtain⟨hd,v,abk,adS⟩:=VX;obtain⟨Uc,YF⟩:=Hx;exact⟨v,w',_,adS,YF,rfl,rfl,hd,rfl,fn,acA,abk⟩
 |goto l=>exact VX.elim
 |panic ads=>exact VX.elim
 |outgrown=>exact VX.elim
theorem ae4.seq(h:ae4 P f R cs (.code x:: .code y::k) a w):ae4 P f R cs (.code (.seq x y)::k) a w:=h.step step_seq
theorem ae4.block{id:Nat}(h:ae4 P f R cs (.code c:: .inBlock id::k) a w):ae4 P f R cs (.code (.block id c)::k) a w:=h.step step_block
section
variable(h:ae4 P f R cs (.code c:: .inLoop c::k) a w)
include h
theorem ae4.loop:ae4 P f R cs (.code (.loop c)::k) a w:=h.step step_loop
theorem ae4.again:ae4 P f R cs (.inLoop c::k) a w:=h.step step_inLoop
end
theorem ae4.out{id:Nat}(h:ae4 P f R cs k a w):ae4 P f R cs (.inBlock id::k) a w:=h.step step_inBlock
theorem ae4.reg{id:Nat}{l:List Nat}(h:ae4 P f R cs (.inRegion ops l::k) a w)(YJ:List.range ops.size=l:=by rfl):ae4 P f R cs (.code (.region id ops false)::k) a w:=ae4.step (by rw[YJ];exact h) step_region
theorem ae4.Hy(h:ae4 P f R cs k a w):ae4 P f R cs (.inRegion ops []::k) a w:=h.step step_region_end
theorem tB(ZQ:ops[i]? =some o)(v:Value):((aeV f).at a (.inRegion ops (i::rest)::k)).finish v=(aeV f).at (a.put o.dst v) (.inRegion ops rest::k):=by rw[Frame.finish_at,ZQ];rfl
theorem ae4.op{v:Value}(abk:(execOp a.eval o).run P w= .ok (.value v) w')(h:ae4 P f R cs (.inRegion ops rest::k) a' w')(ZQ:ops[i]? =some o:=by exact rfl)(afl:Region.wanted o (yielded ops a.tmps)=true:=by rfl)
 (Xg:a.put o.dst v=a':=by exact fa):ae4 P f R cs (.inRegion ops (i::rest)::k) a w:=by
 refine h.step (step_lone_go ?_);rw[stepG_op ZQ afl,<-Xg,<-tB ZQ];simp[stepG.apply,abk]
theorem ae4.send{ads cap s r:Nat}{buf:Array Value}{v z:Value}(abk:(execOp a.eval o).run P w= .ok (.comm #[scase ads v z] true .send) w)(XP:w.heap[ads]? =some (.chan cap buf false s r false))(AH:buf.size<cap)
 (h:ae4 P f R cs (.inRegion ops rest::k) a' (w.setChan ads cap (buf.push v) false (s+1) r false))(ZQ:ops[i]? =some o:=by exact rfl)(afl:Region.wanted o (yielded ops a.tmps)=true:=by rfl)
 (Xg:a.put o.dst undef=a':=by exact fa):ae4 P f R cs (.inRegion ops (i::rest)::k) a w:=by
 refine h.step ?_;rw[<-Xg,<-tB ZQ];exact step_lone_send_room (stepG_comm ZQ afl (λe=>by cases e) abk) XP AH
theorem ae4.Qr{ads cap s r:Nat}{buf:Array Value}{closed:Bool}{z:Value}(abk:(execOp a.eval o).run P w= .ok (.comm #[rcase ads z] false .select) w)(XP:w.heap[ads]? =some (.chan cap buf closed s r false))(Nq:0<buf.size)
 (h:ae4 P f R cs (.inRegion ops rest::k) a' (w.setChan ads cap (buf.extract 1 buf.size) closed s (r+1) false))(ZQ:ops[i]? =some o:=by exact rfl)(afl:Region.wanted o (yielded ops a.tmps)=true:=by rfl)
 (Xg:a.put o.dst (.tuple #[goInt 0,.bool true,buf.getD 0 undef])=a':=by exact fa):ae4 P f R cs (.inRegion ops (i::rest)::k) a w:=by
 refine h.step ?_;rw[<-Xg,<-tB ZQ];exact step_lone_select_recv_buf (stepG_comm ZQ afl (λe=>by cases e) abk) XP Nq
theorem ae4.Qs{ads cap s r:Nat}{z:Value}(abk:(execOp a.eval o).run P w= .ok (.comm #[rcase ads z] false .select) w)(XP:w.heap[ads]? =some (.chan cap #[] true s r false))
 (h:ae4 P f R cs (.inRegion ops rest::k) a' w)(ZQ:ops[i]? =some o:=by exact rfl)(afl:Region.wanted o (yielded ops a.tmps)=true:=by rfl)
 (Xg:a.put o.dst (.tuple #[goInt 0,.bool false,z])=a':=by exact fa):ae4 P f R cs (.inRegion ops (i::rest)::k) a w:=by
 refine h.step ?_;rw[<-Xg,<-tB ZQ];exact step_lone_select_recv_shut (stepG_comm ZQ afl (λe=>by cases e) abk) XP
end
section
variable{w0 w w':World}{S:Nat->Prop}{L:List abN}{P:Program}{o:Oper}{a a':Act}{Q:Exit->Act->World->Prop}{ops:Array Oper}{rest:List Oper}
theorem aah.Qt{T:Nat->Prop}{A:Option XS}(h:aah w0 S w A L)(aen: ∀b,b<w0.heap.size->T b->S b)(Wy: ∀x,x∈L->w0.heap.size<=x.g:=by simp)(adu:A=none:=by rfl):aah w0 T w A L:=by
 subst adu;exact⟨h.bC,h.aed,λx lV=>.inl (Wy x lV),h.Wu.mono λb hb q=>aen b hb q,trivial,λa e=>by cases e⟩
section
variable(h:aah w0 S w none L)
include h
theorem aah.tC{c cap s r:Nat}{buf:Array Value}{ZS:Bool}(XP:w.heap[c]? =some (.chan cap buf ZS s r false)):bq none L c:=by
 refine⟨λx Wy e=>?_,λa e=>by cases e⟩;have h1:=h.bC x Wy;rw[e]at h1;rw[show w.heap[c]? =_ from h1]at XP;cases XP
theorem aah.Hz{c cap s r:Nat}{buf:Array Value}{ZS:Bool}(XP:w.heap[c]? =some (.chan cap buf ZS s r false))(afj:w0.heap.size<=c\/¬S c)(acP:Obj):aah w0 S {w with heap:=w.heap.setIfInBounds c acP} none L:=by
 have abi:=(h.tC XP).1;refine⟨λx Wy=>?_,h.aed,h.fr,⟨h.Wu.os,h.Wu.tape,h.Wu.output,by simpa using h.Wu.size,λb hb YF=>?_⟩,trivial,λa e=>by cases e⟩
 ·show(w.heap.setIfInBounds c acP)[x.g]? =_;rw[bk (λe=>abi x Wy e.symm)];exact h.bC x Wy
 ·show(w.heap.setIfInBounds c acP)[b]? =_;rw[bk (λe=>by subst e;rcases afj with q|q;omega;exact q YF)];exact h.Wu.block b hb YF
theorem Ty{t:TypeId}{x:Operand}{n:Nat}(hm: ∀w,(Instr.makeChan t (.int .i64 n)).run P w= .ok (.chan (some w.heap.size)) (w.alloc (.chan n #[] false 0 0 false)))
 (Z7: ∀c w',aah w0 S w' none L->w'.heap[c]? =some (.chan n #[] false 0 0 false)->w0.heap.size<=c->wpList P ops Q rest (a.put o.dst (.chan (some c))) w')(dj:o.guard=none:=by exact rfl)(ZQ:o.op= .makeChan t x:=by exact rfl)(Wy:a.eval x= .int .i64 n:=by exact rfl):wpList P ops Q (o::rest) a w:=by
 refine wpList_plain dj λK k=>?_
 have aaV:=k _ _ (Z7 w.heap.size (w.alloc (.chan n #[] false 0 0 false)) (h.below ((Below.refl _ _).alloc (ai _) _)) (dL _ _) h.size);unfold Oper.wp execOp;simp only[ZQ,Wy];simpa [go_sem,hm]using aaV
end
end
theorem Nr(w:World):(Instr.makeChan 224 (.int .i64 ((1:Nat):Int))).run prog w= .ok (.chan (some w.heap.size)) (w.alloc (.chan 1 #[] false 0 0 false)):=by
 obtain⟨i,hi,hb⟩:=Option.map_eq_some_iff.1 (show(Tryz.prog.info? 3).map (·.bytes)=some 8 by kernel_rfl);exact run_makeChan underlying224 hi .i64 1 am (by rw[hb];decide)
theorem zP{w:World}{S:Nat->Prop}{v:Value}{x:Int}(h:cF w S v [x]): ∃b off c,v= .slice (some ⟨b,off,none⟩) 1 c/\w.cell? ⟨b,off,none⟩=some (.int .i64 x)/\S b/\b<w.heap.size:=by
 obtain⟨A,WJ,rfl,h1,aaV,ZV⟩:=id h;obtain⟨b,off,rfl,YF,YJ,XP⟩:=ZV aN;exact⟨b,off,WJ,rfl,XP 0 0 _ aN rfl,YF,YJ⟩
theorem Ea(w0:World)(B:WB)(p:afy)(F:b1)(n:Nat)(W:Wd)(h:df w0 B p F n W)(aeJ:a9 p)(fc: ∀i,i<p.t.toNat->(W.XT i).calls.length<=65536)(YJ:ec W p.t.toNat= [0]):
 Calls prog 122 #[.pointer (some ⟨B.aeh,0,none⟩)] w0 λe w'=> ∃c,e= .returned (.agg #[.chan (some c)])/\w'.heap[c]? =some (.chan 1 #[.int .i64 0] true 1 0 false)/\w0.heap.size<=c/\Below w0.heap.size w0 w':=by
 have abL:=I (show∀w',Below w0.heap.size w0 w'->_ from λw' hb=>tx w' B p F n W (h.below hb) aeJ fc);rw[YJ]at abL;have U:=aah.a0 w0;clear h aeJ fc YJ;refine mO func122 rfl (λcs=>?_);simp only[ntmps122,List.size_toArray,aI,bR,Nat.reduceAdd,Nat.reduceSub,Array.replicate_succ,Array.replicate_zero,List.push_toArray,List.append_toArray,au,aU];have aeg:=I Nr;refine .seq (.wp func122 ?_);go_wp2_with fail;dsimp only[mP];replace U:=U.new 226 [.chan none];refine .seq (.wp func122 ?_);go_wp2_with fail;refine Calls.mono (abL.out _ U.all) ?_;rintro e aaM ⟨v,rfl,hv,N⟩;obtain⟨acw,abS,WJ,rfl,Wy,-,v2⟩:=zP hv;replace U:=U.below N;have aaH:=U;replace U:=aaH.base;clear hv N;go_wp2_with fail;dsimp only[mP];refine .seq (.wp func122 ?_);go_wp2_with(first|(refine Ty U aeg.out ?_;clear U;intro c w U XP wZ)|first|(refine aq ?_)|(refine aT ?_;clear U;intro X8 w U aay));dsimp only[mP];have N:=vp aaH.bC U λ_ h=>h
 have ir:=aaH.back U;have bV:=(Array.getElem?_eq_some_iff.1 XP).1;have abi:=ir.new 226 [.chan (some c)];have be:Below w.heap.size w (w.alloc (.cells #[.chan (some c)] 226)):=(Below.refl _ _).alloc (ai _) _;have eR:=(be.block c bV).trans XP;have jb:=((N.trans (be.mono N.size)).cell (p:=⟨acw,abS,none⟩) v2).trans Wy;have aeN:w0.heap.size<=c:=D aaH.size wZ;clear U XP Wy aaH ir wZ N be bV v2 abL;generalize w.alloc (.cells #[.chan (some c)] 226)=WW at*;generalize w.heap.size=W3 at*;refine .seq (.seq (.wp func122 ?_));go_wp2_with fail;dsimp only[mP];refine .block (.loop (.seq (.wp func122 ?_)));go_wp2_with fail;dsimp only[mP];refine .seq (.wp func122 ?_);go_wp2_with fail;dsimp only[mP];refine .seq (.block (.seq (.wp func122 ?_)));go_wp2_with fail;dsimp only[mP];have sM:=abi.cell (g:=W3) (i:=0) cX rfl;refine .reg (l:= [0,1,2,3]) ?_;refine .op (v:=.pointer (some ⟨W3,0,none⟩)) (w':=WW) ?_ ?_
 ·go_simp
 refine .op (v:=.chan (some c)) (w':=WW) ?_ ?_
 ·go_simp
 refine .op (v:=.int .i64 0) (w':=WW) ?_ ?_
 ·go_simp
 refine .send (z:=.tuple #[]) (v:=.int .i64 0) ?_ eR am ?_
 ·go_simp;rfl
 refine .Hy (.out ?_);have kd:aah w0 (λ_=>True) (WW.setChan c 1 #[.int .i64 0] false 1 0 false) none _:=abi.Hz eR (.inl aeN) _;have c7:=heap_setChan WW c 1 #[.int .i64 0] false 1 0 false (Array.getElem?_eq_some_iff.1 eR).1;show ae4 _ _ _ _ _ _ (WW.setChan c 1 #[.int .i64 0] false 1 0 false);clear abi eR jb sM;generalize WW.setChan c 1 #[.int .i64 0] false 1 0 false=w3 at*;refine .wp func122 ?_;go_wp2_with fail;dsimp only[mP];refine .again (.seq (.wp func122 ?_));go_wp2_with fail;dsimp only[mP];refine .seq (.wp func122 ?_);go_wp2_with fail;dsimp only[mP];refine⟨_,rfl,?_⟩;refine .seq (.wp func122 ?_);have sM:=kd.cell (g:=W3) (i:=0) cX rfl;have fc:=λTz Yn=>run_close_open (P:=prog) (w:=w3) Tz Yn c7
 go_wp2_with fail;dsimp only[mP];have Ns:=kd.Hz c7 (.inl aeN) (.chan 1 #[.int .i64 0] true 1 0 false);have lk:({w3 with heap:=w3.heap.setIfInBounds c (.chan 1 #[.int .i64 0] true 1 0 false)}:World).heap[c]? =some (.chan 1 #[.int .i64 0] true 1 0 false):=heap_setChan w3 c 1 #[.int .i64 0] true 1 0 false (Array.getElem?_eq_some_iff.1 c7).1;clear fc sM kd c7;generalize({w3 with heap:=w3.heap.setIfInBounds c (.chan 1 #[.int .i64 0] true 1 0 false)}:World)=acJ at*;have U:=Ns.base;have ae3:=Ns.tC lk;refine .wp func122 ?_;go_wp2_with(first|(refine aq ?_)|(refine aT ?_;clear U;intro X8 w U aay));dsimp only[mP];refine cw results122 rfl rfl ⟨_,U.b kw,rfl⟩ underlying226 rfl aM ?_;exact⟨c,rfl,(U.Wu.block c (Array.getElem?_eq_some_iff.1 lk).1 ae3).trans lk,aeN,(Ns.back U).all⟩
theorem HA(w0:World)(c:Nat)(XP:w0.heap[c]? =some (.chan 1 #[.int .i64 0] true 1 0 false)):
 Calls prog 123 #[.agg #[.chan (some c)]] w0 λe w'=>e= .returned (.tuple #[.int .i64 0,.bool true])/\w'.heap[c]? =some (.chan 1 #[] true 1 1 false)/\Z1 (λb=>b≠c) w0 w':=by
 have U:=(aah.a0 w0).new 226 [.chan (some c)];have bV:=(Array.getElem?_eq_some_iff.1 XP).1;have hb:Below w0.heap.size w0 (w0.alloc (.cells #[.chan (some c)] 226)):=(Below.refl _ _).alloc (ai _) _;have eR:=(hb.block c bV).trans XP;refine mO func123 rfl (λcs=>?_);simp only[ntmps123,List.size_toArray,aI,bR,Nat.reduceAdd,Nat.reduceSub,Array.replicate_succ,Array.replicate_zero,List.push_toArray,List.append_toArray,au,aU];clear bV hb XP;refine .seq (.wp func123 ?_);go_wp2_with fail;dsimp only[mP];generalize w0.alloc (.cells #[.chan (some c)] 226)=w at*;have sM:=U.cell (g:=w0.heap.size) (i:=0) cX rfl;refine .seq (.wp func123 ?_);go_wp2_with fail;dsimp only[mP];refine .seq (.reg (l:= [0,1,2]) ?_);refine .Qr (z:=.int .i64 0) ?_ eR am ?_
 ·go_simp;rfl
 have c7:=heap_setChan w c 1 #[] true 1 1 false (Array.getElem?_eq_some_iff.1 eR).1;have kd:aah w0 (λb=>b≠c) (w.setChan c 1 #[] true 1 1 false) none _:=(U.Qt λ_ _ _=>trivial).Hz eR (.inr λq=>q rfl) _;show ae4 _ _ _ _ _ _ (w.setChan c 1 #[] true 1 1 false);generalize w.setChan c 1 #[] true 1 1 false=w3 at*;refine .op (v:=.int .i64 0) (w':=w3) ?_ ?_
 ·go_simp
 refine .op (v:=.bool true) (w':=w3) ?_ ?_
 ·go_simp
 refine .Hy (.wp func123 ?_);go_wp2_with fail;dsimp only[mP];go_ret2;exact⟨rfl,c7,kd.Wu⟩
theorem HB(w0:World)(c:Nat)(XP:w0.heap[c]? =some (.chan 1 #[] true 1 1 false)):
 Calls prog 123 #[.agg #[.chan (some c)]] w0 λe w'=>e= .returned (.tuple #[.int .i64 0,.bool false])/\Below w0.heap.size w0 w':=by
 have U:=(aah.a0 w0).new 226 [.chan (some c)];have bV:=(Array.getElem?_eq_some_iff.1 XP).1;have hb:Below w0.heap.size w0 (w0.alloc (.cells #[.chan (some c)] 226)):=(Below.refl _ _).alloc (ai _) _;have eR:=(hb.block c bV).trans XP;refine mO func123 rfl (λcs=>?_);simp only[ntmps123,List.size_toArray,aI,bR,Nat.reduceAdd,Nat.reduceSub,Array.replicate_succ,Array.replicate_zero,List.push_toArray,List.append_toArray,au,aU];clear bV hb XP;refine .seq (.wp func123 ?_);go_wp2_with fail;dsimp only[mP];generalize w0.alloc (.cells #[.chan (some c)] 226)=w at*;have sM:=U.cell (g:=w0.heap.size) (i:=0) cX rfl;refine .seq (.wp func123 ?_);go_wp2_with fail;dsimp only[mP];refine .seq (.reg (l:= [0,1,2]) ?_);refine .Qs (z:=.int .i64 0) ?_ eR ?_
 ·go_simp;rfl
 refine .op (v:=.int .i64 0) (w':=w) ?_ ?_
 ·go_simp
 refine .op (v:=.bool true) (w':=w) ?_ ?_
 ·go_simp
 refine .Hy (.wp func123 ?_);go_wp2_with fail;dsimp only[mP];go_ret2;exact⟨rfl,U.all⟩
end
section
open Go.Conc Go.RowKit Tryz
def Ej:Nat->Int:=λi=>([1,0,0,8,0,0,2,0,64,0,0,0]:List Int).getD i 0
def aeB:h9:=j9 Ej 12
def W0:Wd:=l2 aeB.p aeB.bj
def W1:Wd:=bI aeB.p (bX aeB) (e5 aeB.p) W0 0
theorem m1:aeB.p=⟨2,1,0,64⟩:=aM
theorem B9:e0 Ej:=λi=>by
 unfold Ej;rcases Nat.lt_or_ge i 12 with h|h
 ·have: ∀j,j<12->0<=([1,0,0,8,0,0,2,0,64,0,0,0]:List Int).getD j 0/\([1,0,0,8,0,0,2,0,64,0,0,0]:List Int).getD j 0<=255:=by decide
  exact this i h
 ·rw[ae,aV (by simpa using h)];decide
theorem hW:hV aeB:=sN B9 12
theorem HM:aeB.p.t=1:=by rw[m1]
theorem HN:ec W0 aeB.p.t.toNat= [0]:=aM
theorem NH:ec W1 aeB.p.t.toNat= []:=aM
theorem HO:W1.ops= [⟨0,⟨2,0,0,0,64,0,0⟩,0,0,0,⟨0,1,[]⟩⟩]:=aM
theorem QY:W1.fr= []:=aM
theorem abX:W1.n=1:=aM
theorem tD(i:Nat):(W0.XT i).calls.length<=65536:=by
 show(aeB.bj i).length<=_;have:=(hW.c i).1;omega
theorem J8(i:Nat):(W1.XT i).calls.length<=65536:=D rW (tD i)
theorem HP:Inv aeB.p (bX aeB) (e5 aeB.p) W0 (λ_=> []) (λ_=>none):=Inv.init hW.p (zT hW) (rU hW.p) λt _ c XP=>(hW.c t).2 c XP
theorem HQ:(W0.XT 0).ended=false:=aM
theorem Lc:dx (bd aeB.p (W0.XT 0) W0.ops.length).run/\(bd aeB.p (W0.XT 0) W0.ops.length).run.n<=65536:=⟨⟨by decide+kernel,by decide+kernel,by decide+kernel⟩,by decide+kernel⟩
theorem aah.Ca{w0 w w':World}{L:List abN}{S T:Nat->Prop}(h:aah w0 (λ_=>True) w none L)(k:Z1 T w w')(aen: ∀b,b<w0.heap.size->S b->T b)(Wy: ∀x,x∈L->T x.g):aah w0 S w' none L:=
 ⟨λx hm=>(k.block x.g (h.bC x hm).lt (Wy x hm)).trans (h.bC x hm),h.aed,λx hm=>.inl ((h.fr x hm).resolve_right λq=>q trivial),⟨k.os.trans h.Wu.os,k.tape.trans h.Wu.tape,k.output.trans h.Wu.output,D h.Wu.size k.size,λb hb YF=>(k.block b (aj hb h.Wu.size) (aen b hb YF)).trans (h.Wu.block b hb trivial)⟩,trivial,λa e=>by cases e⟩
theorem HR(w0:World)(B:WB)(h:df w0 B aeB.p (bX aeB) (e5 aeB.p) W0)(gS: ∀b,afi B aeB.p.t.toNat b->b<w0.heap.size):
 Calls prog 68 #[.pointer (some ⟨B.aeh,0,none⟩),.int .i64 9] w0 λe w'=> ∃B':WB,e= .returned (.tuple #[.int .i64 1,.int .i64 0])/\B'.aeh=B.aeh/\df w' B' aeB.p (bX aeB) (e5 aeB.p) W1/\Z1 (aaJ B aeB.p.t.toNat) w0 w':=by
 have H:=I h;have aey:=I gS;have U:=aah.a0 w0;clear h gS;go_enter func68,ntmps68;go_wp2_with fail;refine wp_loop_rounds 2 ?_;rw[rounds_succ];go_wp2_with fail;refine Calls.mono (tx _ _ _ _ _ _ (H.out.below U.all) hW.p λi _=>tD i) ?_;rintro e aaM ⟨v,rfl,hv,N⟩;rw[HN]at hv;obtain⟨acw,abS,WJ,rfl,Wy,-,v2⟩:=zP hv;replace U:=U.below N;clear hv N Wy v2;go_wp2_with fail;refine Calls.mono (Ea _ _ _ _ _ _ (H.out.below U.all) hW.p (λi _=>tD i) HN) ?_;rintro e WW ⟨c,rfl,XP,wZ,be⟩;have aaH:=U.below be;have Ud:=D U.size wZ;have U:=aaH.base;clear be wZ;go_upto_region 6 with fail
 replace U:=U.new 226 [.chan (some c)];generalize WW.alloc (.cells #[.chan (some c)] 226)=Wo at U⊢;have eR:=(U.Wu.block c (Array.getElem?_eq_some_iff.1 XP).1 (aaH.tC XP)).trans XP;have ir:=aaH.back U;clear U aaH XP;have U:=ir;go_wp2_with(first|(refine aq ?_));refine Calls.mono (HA _ c eR) ?_;rintro e w3 ⟨rfl,c7,uR⟩;have abi:=(ir.tC eR).1;have fu:=ir.after uR (λb hb e=>J) (λx Wy=>⟨(uR.block x.g (ir.bC x Wy).lt λe=>abi x Wy e).trans (ir.bC x Wy),by
  rcases ir.fr x Wy with q|q
  ·exact q
  ·exact absurd trivial q⟩) ir.aed
 clear U ir eR uR abi;have U:=fu;go_wp2_with fail;refine wp_loop_rounds 2 ?_;rw[rounds_succ];go_wp2_with fail;refine Calls.mono (zF w3 {B with Yi:=λ_=>True} _ _ _ _ _ _ ((H.out.fr _ λ_ _ _=>trivial).below fu.all) HP vK.init 0 (by rw[HM];decide) HQ Lc.1 Lc.2 (tD 0) am λ_ _=>trivial) ?_;rintro e acJ ⟨B',rfl,mb,-,ae9,iu,-⟩;have qX:aah w0 (aaJ B aeB.p.t.toNat) acJ none _:=fu.Ca iu (λb hb hm=>hm) λx Wy hm=>by
  have:=aey.out _ hm;rcases fu.fr x Wy with q|q
  ·omega
  ·exact q trivial
 have TL:=(iu.block c (Array.getElem?_eq_some_iff.1 c7).1 λhm=>by have:=aey.out _ hm;omega).trans c7;clear U fu iu c7;have U:=qX.base;replace ae9:Hid (df acJ B' aeB.p (bX aeB) (e5 aeB.p) W1):=I ae9;replace mb:=I mb;go_wp2_with(first|(refine aq ?_));refine Calls.mono (HB _ c TL) ?_;rintro e ae5 ⟨rfl,tn⟩;replace U:=U.below tn;go_wp2_with fail;rw[rounds_succ];go_wp2_with fail;rw[rounds_succ];go_wp2_with fail;rw[show B.aeh=B'.aeh from mb.out.symm];refine Calls.mono (tx _ B' _ _ _ _ (ae9.out.below tn) hW.p λi _=>J8 i) ?_;rintro e VV ⟨v,rfl,hv,v5⟩;rw[NH]at hv;obtain⟨A,adb,rfl,-,-,-⟩:=id hv;replace U:=U.below v5;go_wp2_with fail;go_ret2;exact⟨B',rfl,mb.out,ae9.out.below (tn.trans (v5.mono tn.size)),(qX.back U).Wu⟩
theorem J9(w0:World)(B:WB)(A:Option Addr)(c:Nat)(h:df w0 B aeB.p (bX aeB) (e5 aeB.p) W0)(gS: ∀b,afi B aeB.p.t.toNat b->b<w0.heap.size):
 Calls prog 32 #[.pointer (some ⟨B.aeh,0,none⟩),.slice A 0 c,.int .i64 9] w0 λe w'=> ∃B':WB,e= .returned (.tuple #[.int .i64 0,.int .i64 0])/\B'.aeh=B.aeh/\df w' B' aeB.p (bX aeB) (e5 aeB.p) W1/\Z1 (aaJ B aeB.p.t.toNat) w0 w':=by
 have aG:=I (HR w0 B h gS);clear h gS;go_enter func32,ntmps32;go_wp2_with fail;refine wp_loop_rounds 1 ?_;rw[rounds_succ];go_wp2_with fail;refine Calls.mono aG.out ?_;rintro e aaM ⟨B',rfl,mb,ae9,ae3⟩;have afl:=I mb;clear mb;go_wp2_with fail;go_ret2;exact⟨B',rfl,afl.out,ae9,ae3⟩
end
section
open Go.RowKit
variable{w0 w w':World}{S:Nat->Prop}{L:List abN}{P:Program}{o:Oper}{a a':Act}{Q:Exit->Act->World->Prop}{ops:Array Oper}{rest:List Oper}{b c:Nat}{ae1:Array MapEntry}
theorem lc{G:Prop}(h:G:=by
 go_wp2_with fail;refine wp_loop_rounds 1 ?_;rw[rounds_succ];go_wp2_with fail;go_ret;exact⟨rfl,rfl⟩):G:=h
theorem ld{G:Prop}(h:G:=by
 go_wp2_with fail;refine wp_loop_rounds 1 ?_;rw[rounds_succ];go_wp2_with fail;refine fY ?_;exact⟨rfl,rfl⟩):G:=h
theorem aah.HS(h:aah w0 S w none L)(hm:w.heap[b]? =some (.map ae1 c)):bq none L b:=by
 refine⟨λx Wy e=>?_,λa e=>by cases e⟩;have h1:=h.bC x Wy;rw[e]at h1;rw[show w.heap[b]? =_ from h1]at hm;cases hm
theorem aah.qY{L2:List abN}(h:aah w0 S w none L)(hm:w.heap[b]? =some (.map ae1 c))(k:aah w (bq none L) w' none L2):w'.heap[b]? =some (.map ae1 c):=
 (k.Wu.block b (Array.getElem?_eq_some_iff.1 hm).1 (h.HS hm)).trans hm
theorem aah.QZ(h:aah w0 S w none L)(hm:w.heap[b]? =some (.map ae1 c))(afj:w0.heap.size<=b\/¬S b)(acP:Obj):aah w0 S {w with heap:=w.heap.setIfInBounds b acP} none L:=by
 have abi:=(h.HS hm).1;refine⟨λx Wy=>?_,h.aed,h.fr,⟨h.Wu.os,h.Wu.tape,h.Wu.output,by simpa using h.Wu.size,λj hb YF=>?_⟩,trivial,λa e=>by cases e⟩
 ·show(w.heap.setIfInBounds b acP)[x.g]? =_;rw[bk (λe=>abi x Wy e.symm)];exact h.bC x Wy
 ·show(w.heap.setIfInBounds b acP)[j]? =_;rw[bk (λe=>by subst e;rcases afj with q|q;omega;exact q YF)];exact h.Wu.block j hb YF
theorem aah.calls{Yo T:Nat->Prop}(h:aah w0 Yo w none L)(k:Z1 T w w')(aen: ∀b,b<w0.heap.size->S b->Yo b/\T b)(acY: ∀x,x∈L->T x.g):aah w0 S w' none L:=
 ⟨λx hm=>(k.block x.g (h.bC x hm).lt (acY x hm)).trans (h.bC x hm),h.aed,λx hm=>by
   rcases Nat.lt_or_ge x.g w0.heap.size with q|q
   ·exact .inr λYF=>by
     rcases h.fr x hm with z|z
     ·omega
     ·exact z (aen _ q YF).1
   ·exact .inl q,⟨k.os.trans h.Wu.os,k.tape.trans h.Wu.tape,k.output.trans h.Wu.output,D h.Wu.size k.size,λb hb YF=>(k.block b (aj hb h.Wu.size) (aen b hb YF).2).trans (h.Wu.block b hb (aen b hb YF).1)⟩,trivial,λa e=>by cases e⟩
theorem aah.front{A:Option XS}{L1 L2:List abN}(h:aah w0 S w A (L1++L2)):aah w0 S w A L1:=h.drop (λx Wy=>cB _ Wy) (by have:=h.aed;rw[cP,List.nodup_append]at this;exact this.1)
theorem Ka(h:aah w0 S w none L)(Z7: ∀b w',aah w0 S w' none L->w'.heap[b]? =some (.map #[] 0)->w0.heap.size<=b->w.heap.size<=b->Below w.heap.size w w'->wpList P ops Q rest (a.put o.dst (.map (some b))) w'){t:TypeId}(dj:o.guard=none:=by exact rfl)(ZQ:o.op= .makeMap t none:=by exact rfl):wpList P ops Q (o::rest) a w:=by
 have hb:Below w.heap.size w (w.alloc (.map #[] 0)):=(Below.refl _ _).alloc (ai _) _;have aaV:=Z7 w.heap.size _ (h.below hb) (dL _ _) h.size (ai _) hb;exact nE
theorem Kb(h:aah w0 S w none L)(hm:w.heap[b]? =some (.map ae1 c))(afj:w0.heap.size<=b\/¬S b){t k e:TypeId}{q:IntKind}{key:Int}{val:Value}{m x v:Operand}(afq:P.underlying t=some (.map k e))(ae3:P.underlying k=some (.int q))
 (Z7: ∀w',aah w0 S w' none L->w'.heap[b]? =some (.map (ae1.push {key:=.int q key,val:=val,born:=c}) (c+1))->ce w.heap.size b w w'->wpList P ops Q rest (a.put o.dst undef) w')
 (dj:o.guard=none:=by exact rfl)(hop:o.op= .mapUpdate t m x v\/o.op= .insert t m x v:=by first|exact .inl rfl|exact .inr rfl)
 (TM:a.eval m= .map (some b):=by exact rfl)(Wy:a.eval x= .int q key:=by exact rfl)(hv:dt a v=some val:=by exact rfl)(acA:Instr.findNow (.int q) (.int q key) ae1.toList 0=some none:=by rfl):wpList P ops Q (o::rest) a w:=by
 refine wpList_plain dj λK' Lu=>?_
 have hv:=gF hv;have XP:(Instr.checkKey false 10000 k (.int q key)).run P w= .ok () w:=MapKept.run_checkKey (k:=.int q key) ae3 (by simp[MapKept.IsKey]) false 9999;have nC:(Instr.mapUpdate t (.map (some b)) (.int q key) val).run P w= .ok () {w with heap:=w.heap.setIfInBounds b (.map (ae1.push {key:=.int q key,val:=val,born:=c}) (c+1))}:=by
  simp[Instr.mapUpdate,run_underlying afq,MapKept.run_getObj_map hm,XP,MapKept.run_findKey ae3 acA,MapKept.run_setObj_map _ hm,Result.andThen]
 have bV:=(Array.getElem?_eq_some_iff.1 hm).1;have zU:=Lu _ _ (Z7 {w with heap:=w.heap.setIfInBounds b (.map (ae1.push {key:=.int q key,val:=val,born:=c}) (c+1))} (h.QZ hm afj _) (by show(w.heap.setIfInBounds b _)[b]? =_;rw[cr bV]) ⟨rfl,rfl,rfl,aN,λi hi abi=>by show(w.heap.setIfInBounds b _)[i]? =_;rw[bk (Ne.symm abi)]⟩);unfold Oper.wp;rcases hop with hop|hop<;>(simp[execOp,hop,TM,Wy,hv,nC,Result.andThen];exact zU)
theorem mR{t k e:TypeId}{q:IntKind}{key:Int}{ok:Bool}{z v:Value}{r:Option (Nat×Value)}(hm:w.heap[b]? =some (.map ae1 c))(afq:P.underlying t=some (.map k e))(ae3:P.underlying k=some (.int q))(aeN:(P.info? e).bind (·.zero)=some z)
 (acA:Instr.findNow (.int q) (.int q key) ae1.toList 0=some r)(hv:(match r with|some (_,v)=>(if ok then Value.tuple #[v,.bool true]else v)|none=>(if ok then Value.tuple #[z,.bool false]else z))=v):(Instr.lookup t (.map (some b)) (.int q key) ok).run P w= .ok v w:=by
 subst hv;have XP: ∀j,(Instr.checkKey j 10000 k (.int q key)).run P w= .ok () w:=λj=>MapKept.run_checkKey (k:=.int q key) ae3 (by simp[MapKept.IsKey]) j 9999
 obtain⟨i,hi,Nk⟩:=Option.bind_eq_some_iff.1 aeN;cases r with
 |none=>simp[Instr.lookup,run_underlying afq,MapKept.run_getObj_map hm,XP,MapKept.run_findKey ae3 acA,Result.andThen,zeroValue,typeInfo,go_sem,hi,Nk]
 |some p=>obtain⟨i,v⟩:=p;simp[Instr.lookup,run_underlying afq,MapKept.run_getObj_map hm,XP,MapKept.run_findKey ae3 acA,Result.andThen]
theorem vr{t e:TypeId}{z:Value}{sz bytes n:Nat}{ds:List Value}(afq:P.underlying t=some (.slice e))(cC:(P.info? e).map (λi=>(i.zero,i.size,i.bytes))=some (some z,sz,bytes))(hb:bytes*n<=281474976710656)(abi:n<=1000000)(hd:madeCells z.cells (n*sz)=ds.toArray)(w:World):
 (Instr.makeSlice t (.int .i64 n) (.int .i64 n)).run P w= .ok (.slice (some ⟨w.heap.size,0,none⟩) n n) (w.alloc (.cells ds.toArray e)):=by
 obtain⟨i,hi,aeN⟩:=Option.map_eq_some_iff.1 cC;simp only[Prod.mk.injEq]at aeN;have abk:=run_make (P:=P) (w:=w) t e i _ afq hi aeN.1 .i64 .i64 n n J (Int.le_refl _) (by rw[aeN.2.2];omega) J;rw[aeN.2.1,bL,hd]at abk;exact abk
theorem xQ{K:Act->World->Prop}(h:aah w0 S w none L){t e:TypeId}{n:Nat}{ds:List Value}(abk: ∀w,(Instr.makeSlice t (.int .i64 n) (.int .i64 n)).run P w= .ok (.slice (some ⟨w.heap.size,0,none⟩) n n) (w.alloc (.cells ds.toArray e)))
 (Z7: ∀g w',aah w0 S w' none (⟨g,e,ds⟩::L)->w0.heap.size<=g->K (a.put o.dst (.slice (some ⟨g,0,none⟩) n n)) w'){x y:Operand}(ZQ:o.op= .makeSlice t x y:=by exact rfl)(Wy:a.eval x= .int .i64 n:=by exact rfl)(hy:a.eval y= .int .i64 n:=by exact rfl):Oper.wp P o a w K Q:=by
 have aaV:=Z7 _ _ (h.new e ds) h.size;unfold Oper.wp execOp;simp only[ZQ,Wy,hy,Sem.run_bind,abk];simpa [go_sem]using aaV
theorem NI(h:aah w0 S w none L){t e:TypeId}{n:Nat}{ds:List Value}(abk: ∀w,(Instr.makeSlice t (.int .i64 n) (.int .i64 n)).run P w= .ok (.slice (some ⟨w.heap.size,0,none⟩) n n) (w.alloc (.cells ds.toArray e)))
 (Z7: ∀g w',aah w0 S w' none (⟨g,e,ds⟩::L)->w0.heap.size<=g->wpList P ops Q rest (a.put o.dst (.slice (some ⟨g,0,none⟩) n n)) w')(dj:o.guard=none:=by exact rfl){x y:Operand}(ZQ:o.op= .makeSlice t x y:=by exact rfl)(Wy:a.eval x= .int .i64 n:=by exact rfl)(hy:a.eval y= .int .i64 n:=by exact rfl):wpList P ops Q (o::rest) a w:=
 wpList_plain dj λK k=>xQ h abk (λg w' s afj=>k _ _ (Z7 g w' s afj)) ZQ Wy hy
end
section
open Go.RowKit Tryz
section
variable(w:World)
include w
theorem HT:Calls prog 311 #[.int .u64 1] w λe w'=>e= .returned (.int .i64 1)/\w=w':=by
 go_enter func311,ntmps311;go_upto_region 10 with fail
 generalize Yg:(Operand.const (Value.string _))=V;have e: ∃dw,V= .const dw/\∀w,(Instr.index 9 dw (.int .u8 1)).run prog w= .ok (.int .u8 1) w:=⟨_,Yg.symm,λw=>aM⟩
 clear Yg;obtain⟨dw,rfl,e⟩:=e;go_wp2_with fail;go_ret;exact⟨rfl,rfl⟩
theorem NJ:Calls prog 238 #[.int .u64 1] w λe w'=>e= .returned (.int .i64 1)/\w=w':=by
 go_enter func238,ntmps238;go_wp2_with fail;refine Calls.mono (HT _) ?_;rintro e aaM ⟨rfl,rfl⟩;go_wp2_with fail;go_ret;exact⟨rfl,rfl⟩
section
variable(A:Option Addr)(c:Nat)(af9:Value)
include A c af9
theorem Kc:Calls prog 302 #[.slice A 1 c,.int .i64 0,.int .i64 1,af9] w λe w'=>e= .returned (.tuple #[])/\w=w':=by
 go_enter func302,ntmps302;exact ld
theorem Kd:Calls prog 237 #[.slice A 1 c,.int .i64 0,.int .i64 1,.int .i64 1,af9] w λe w'=>e= .returned (.tuple #[])/\w=w':=by
 go_enter func237,ntmps237;go_wp2_with fail;refine wp_loop_rounds 1 ?_;rw[rounds_succ];go_wp2_with fail;refine Calls.mono (Kc _ A c af9) ?_;rintro e aaM ⟨rfl,rfl⟩;go_wp2_with fail;refine fY ?_;exact⟨rfl,rfl⟩
theorem HU:Calls prog 151 #[.slice A 1 c,af9] w λe w'=>e= .returned (.tuple #[])/\w=w':=by
 go_enter func151,ntmps151;go_wp2_with fail;refine Calls.mono (NJ _) ?_;rintro e aaM ⟨rfl,rfl⟩;go_wp2_with fail;refine Calls.mono (Kd _ A c af9) ?_;rintro e aaM ⟨rfl,rfl⟩;go_wp2_with fail;refine fY ?_;exact⟨rfl,rfl⟩
theorem Ke:Calls prog 301 #[.slice A 0 c,af9] w λe w'=>e= .returned (.int .i64 (-1))/\w=w':=by
 go_enter func301,ntmps301;exact lc
theorem HV:Calls prog 235 #[.slice A 0 c,af9] w λe w'=>e= .returned (.bool false)/\w=w':=by
 go_enter func235,ntmps235;go_wp2_with fail;refine Calls.mono (Ke _ A c af9) ?_;rintro e aaM ⟨rfl,rfl⟩;go_wp2_with fail;go_ret;exact⟨rfl,rfl⟩
theorem Kf:Calls prog 148 #[.slice A 0 c,af9] w λe w'=>e= .returned (.bool true)/\Below w.heap.size w w':=by
 go_enter func148,ntmps148;have U:=aah.a0 w;go_upto_region 1 with(refine Ws U 258 ?_;clear U;intro aca w U VW)
 go_wp2_with fail;refine Calls.mono (HV _ A c _) ?_;rintro e aaM ⟨rfl,rfl⟩;go_wp2_with fail;go_ret;exact⟨rfl,U.all⟩
end
end
end
section
open Go.RowKit Tryz
def gB(w:World)(B:WB):Prop:=df w B aeB.p (bX aeB) (e5 aeB.p) W1
theorem gB.below{w w':World}{B:WB}(h:gB w B)(k:Below w.heap.size w w'):gB w' B:=df.below h k
theorem NK:e5 aeB.p=24:=aM
theorem HW:(W1.XT 0).aD= []:=aM
theorem t1:aeB.p.t.toNat=1:=by rw[m1];rfl
variable(w0:World)(B:WB)(h:gB w0 B)
theorem Kg(ap:Nat):Calls prog 154 #[.agg ([.int .i64 2,.int .i64 1,.int .i64 0,.int .i64 64]:List Value).toArray,.pointer (some ⟨ap,0,none⟩),.int .i64 (-1)] w0 λe w'=>e= .returned (.tuple #[.agg #[.int .i64 0,.int .i64 0,.int .i64 0,.int .i64 0],.int .i64 11])/\Below w0.heap.size w0 w':=by
 have U:=aah.a0 w0;have AT:=I λw'=>OZ 2 1 0 64 0 (-1) w' (I am) am am am
 go_enter func154,ntmps154;go_upto_region 1 with(first|(refine Ws U 27 ?_;clear U;intro aff w U Hr)|(refine VP U ny ?_;clear U;intro gc w U Bx))
 go_wp2_with(first|(go_at_call 155;refine a6 U (AT.out _) ?_;clear U;intro aaM U)|(refine aq ?_)|(refine ac2 U ?_;clear U;intro w U));refine aZ results154 rfl rfl ⟨_,U.b (g:=gc) ag,rfl⟩ underlying56 rfl aM ?_;exact⟨rfl,U.all⟩
include h
theorem Cb:Calls prog 80 #[.pointer (some ⟨B.aeh,0,none⟩),.int .i64 (-1)] w0 λe w'=>e= .returned (.tuple #[.agg #[.int .i64 0,.int .i64 0,.int .i64 0,.int .i64 0],.int .i64 11])/\Below w0.heap.size w0 w':=by
 have hb:ah w0 B.aeh 142 _:=h.wd;rw[m1]at hb;have aav:=I hb;have U:=aah.g8 hb;clear h hb;go_enter func80,ntmps80;go_wp2_with(first|(refine aq ?_)|(refine aT ?_;clear U;intro X8 w U aay));replace U:=U.drew;refine wp_region_held_drew aM U.l0 (λX=>?_);refine az [[0,1,2,3,4,5,6,7,8]] ?_;refine aF 9 λK Z7=>?_
 go_simp;go_at_call 154;refine a6 U (Kg _ _) ?_;clear U;intro aaM U;exact n8
theorem tE:Calls prog 80 #[.pointer (some ⟨B.aeh,0,none⟩),.int .i64 0] w0 λe w'=>e= .returned (.tuple #[.agg ([.int .i64 2,.int .i64 1,.int .i64 (-1),.int .i64 0]:List Value).toArray,.int .i64 0])/\Below w0.heap.size w0 w':=by
 obtain⟨O',dk,adu⟩:=HP.bI (t:=0) (by rw[HM];decide) HQ;exact xq w0 B _ _ _ _ h hW.p (by rw[NK,m1];decide) 0 (by rw[m1];decide) (adu.inv.Zt 0 (by rw[m1];decide)).ft
theorem xR:Calls prog 80 #[.pointer (some ⟨B.aeh,0,none⟩),.int .i64 1] w0 λe w'=>e= .returned (.tuple #[.agg ([.int .i64 1,.int .i64 0,.int .i64 (-1),.int .i64 0]:List Value).toArray,.int .i64 0])/\Below w0.heap.size w0 w':=by
 obtain⟨O',dk,adu⟩:=HP.bI (t:=0) (by rw[HM];decide) HQ;exact xq w0 B _ _ _ _ h hW.p (by rw[NK,m1];decide) 1 (by rw[m1];decide) (adu.inv.Zt 1 (by rw[m1];decide)).ft
theorem zV(k:Nat)(ae3:k<24):Calls prog 156 #[.agg ([.int .i64 2,.int .i64 1,.int .i64 0,.int .i64 64,.pointer (some ⟨B.aeh,0,none⟩)]:List Value).toArray,.int .i64 (8*(k:Int))] w0 λe w'=>e= .returned (.int .u64 (W1.V k))/\Below w0.heap.size w0 w':=by
 have H:=I h;have U:=aah.a0 w0;clear h;have aaR:=I ae3;clear ae3;go_enter func156,ntmps156;go_upto_region 1 with(first|(refine Ws U 165 ?_;clear U;intro gk w U tt))
 go_wp2_with(first|(go_at_call 100;refine a6 U (FG _ _ _ _ _ _ (H.out.below U.all) _ k rfl (by rw[NK];exact aaR.out)) ?_;clear U;intro aaM U)|(refine aq ?_)|(refine ac2 U ?_;clear U;intro w U)|(refine WG U ?_));go_ret;exact⟨rfl,U.all⟩
theorem ib(q s k:Nat)(VX:q<=4)(YF:s<2)(ae3:8*s+q=k):Calls prog 81 #[.agg ([.int .i64 2,.int .i64 1,.int .i64 0,.int .i64 64,.pointer (some ⟨B.aeh,0,none⟩)]:List Value).toArray,.int .i64 (q:Int),.int .i64 (s:Int)] w0 λe w'=>e= .returned (.int .u64 (W1.V k))/\Below w0.heap.size w0 w':=by
 have H:=I h;have AT:=I (show∀w',Calls prog 155 #[.agg ([.int .i64 2,.int .i64 1,.int .i64 0,.int .i64 64]:List Value).toArray,.int .i64 (q:Int),.int .i64 (s:Int)] w' λe du=>e= .returned (.tuple #[.int .i64 (8*(k:Int)),.int .i64 0])/\Below w'.heap.size w' du from λw'=>by
  have h1:=KI 2 1 0 64 q s w' (I am) am J J;rwa[show(s:Int)*64+q*8=8*(k:Int) by omega]at h1)
 have jN:k<24:=J;have aaR:=I jN;have U:=aah.a0 w0;clear h VX YF ae3 jN;go_enter func81,ntmps81;go_upto_region 1 with(first|(refine Ws U 165 ?_;clear U;intro gk w U tt))
 go_wp2_with(first|(go_at_call 155;refine a6 U (AT.out _) ?_;clear U;intro aaM U)|(go_at_call 156;refine a6 U (zV _ B (H.out.below U.all) k aaR.out) ?_;clear U;intro aaM U)|(refine aq ?_)|(refine ac2 U ?_;clear U;intro w U)|(refine WG U ?_));go_ret;exact⟨rfl,U.all⟩
theorem Kh:Calls prog 103 #[.pointer (some ⟨B.aeh,0,none⟩),.int .i64 0] w0 λe w'=> ∃A c,e= .returned (.slice A 0 c)/\Below w0.heap.size w0 w':=
 (sX w0 B _ _ _ _ h hW.p 0 (by rw[m1];decide) (by rw[HW];decide)).mono λe w' aaV=>by
   obtain⟨v,rfl,hv,hb⟩:=aaV
   obtain⟨A,c,abF,-,-,-⟩:=id hv
   rw[HW]at abF
   exact⟨A,c,by rw[abF];rfl,hb⟩
theorem xS(i:Int)(hi:1<=i/\i<=3):Calls prog 103 #[.pointer (some ⟨B.aeh,0,none⟩),.int .i64 i] w0 λe w'=>e= .returned (.slice none 0 0)/\Below w0.heap.size w0 w':=by
 have hb:ah w0 B.aeh 142 _:=h.wd;obtain⟨A,c,e,-,-,-⟩:=id h.Wl;rw[e,m1]at hb;have aav:=I hb;have WI:=I λw'=>fq i 0 0 w' (.inr J)
 have U:=aah.g8 hb;clear h hb e hi;go_enter func103,ntmps103;go_wp2_with(first|(go_at_call 104;refine Calls.mono (WI.out _) ?_;rintro e aaM ⟨rfl,rfl⟩;skip)|(refine aaO U ?_));go_ret;exact⟨rfl,U.ro aav.out ag⟩
theorem By:Calls prog 234 #[.agg ([.int .i64 2,.int .i64 1,.int .i64 0,.int .i64 64,.pointer (some ⟨B.aeh,0,none⟩)]:List Value).toArray,.int .i64 1] w0 λe w'=>e= .returned (.int .i64 0)/\Below w0.heap.size w0 w':=by
 have H:=I h;have U:=aah.a0 w0;clear h;go_enter func234,ntmps234;go_upto_region 1 with(first|(refine Ws U 165 ?_;clear U;intro gk w U tt))
 go_wp2_with fail;refine wp_loop_rounds 5 ?_;rw[rounds_succ];go_wp2_with(first|(refine aq ?_)|(refine ac2 U ?_;clear U;intro w U)|(refine WG U ?_));refine(Kh _ B (H.out.below U.all)).mono ?_;rintro e aaM ⟨A,c,rfl,N⟩;replace U:=U.below N;clear N;go_wp2_with fail;refine wp_loop_rounds 1 ?_;rw[rounds_succ];go_wp2_with fail;rw[rounds_succ];go_wp2_with(first|(refine aq ?_)|(refine ac2 U ?_;clear U;intro w U)|(refine WG U ?_));refine(xS _ B (H.out.below U.all) 1 am).mono ?_;rintro e aaM ⟨rfl,N⟩;replace U:=U.below N;clear N;go_wp2_with fail;refine wp_loop_rounds 1 ?_;rw[rounds_succ];go_wp2_with fail;rw[rounds_succ];go_wp2_with(first|(refine aq ?_)|(refine ac2 U ?_;clear U;intro w U)|(refine WG U ?_));refine(xS _ B (H.out.below U.all) 2 am).mono ?_;rintro e aaM ⟨rfl,N⟩;replace U:=U.below N;clear N;go_wp2_with fail;refine wp_loop_rounds 1 ?_;rw[rounds_succ];go_wp2_with fail;rw[rounds_succ];go_wp2_with(first|(refine aq ?_)|(refine ac2 U ?_;clear U;intro w U)|(refine WG U ?_));refine(xS _ B (H.out.below U.all) 3 am).mono ?_;rintro e aaM ⟨rfl,N⟩;replace U:=U.below N;clear N;go_wp2_with fail;refine wp_loop_rounds 1 ?_;rw[rounds_succ];go_wp2_with fail;rw[rounds_succ];go_wp2_with fail;go_ret;exact⟨rfl,U.all⟩
end
section
open Go.RowKit Tryz
theorem pD{G:Prop}(h:G:=by
 refine WE Z7 λX=>?_
 refine aF 4 λK Z7=>?_
 go_simp
 (go_at_call 145;refine a6 U (Ki _ B (H.out.below U.all) acw WS.out) ?_;clear U;intro aaM U)
 go_wp2_with fail;refine WE Z7 λX=>?_
 refine aF 5 λK Z7=>?_
 go_simp
 (go_at_call 144;refine Calls.mono (zW _) ?_;rintro e aaM ⟨rfl,rfl⟩;skip)
 go_wp2_with fail;refine WE Z7 λX=>?_
 refine Xh 6 ?_;refine adB ?_;go_wp2_with fail;go_ret;exact⟨rfl,U.all⟩):G:=h
theorem zW(w:World):Calls prog 144 #[.bool true] w λe w'=>e= .returned (.int .i64 0)/\w=w':=by
 go_enter func144,ntmps144;go_wp2_with fail;go_ret;exact⟨rfl,rfl⟩
variable(w0:World)(B:WB)(h:gB w0 B)
include h
theorem Ek:Calls prog 147 #[.agg ([.int .i64 2,.int .i64 1,.int .i64 0,.int .i64 64,.pointer (some ⟨B.aeh,0,none⟩)]:List Value).toArray,.int .i64 0] w0 λe w'=>e= .returned (.bool true)/\Below w0.heap.size w0 w':=by
 have H:=I h;have U:=aah.a0 w0;clear h;have X5:=I λw'=>km (⟨2,1,-1,0⟩) w' ⟨am,am,am,am⟩
 go_enter func147,ntmps147;go_upto_region 1 with(first|(refine Ws U 165 ?_;clear U;intro gk w U tt))
 go_upto_region 2 with(first|(go_at_call 80;refine a6 U (tE _ B (H.out.below U.all)) ?_;clear U;intro aaM U)|(refine VP U ny ?_;clear U;intro gc w U Bx)|(refine aq ?_)|(refine ac2 U ?_;clear U;intro w U))
 go_upto_region 3 with(first|(go_at_call 80;refine a6 U (Cb _ B (H.out.below U.all)) ?_;clear U;intro aaM U)|(refine VP U ny ?_;clear U;intro Wp w U Bx)|(refine aq ?_)|(refine ac2 U ?_;clear U;intro w U))
 go_upto_region 5 with(first|(go_at_call 233;refine a6 U (X5.out _) ?_;clear U;intro aaM U)|(refine WG U ?_))
 go_wp2_with(first|(refine Ww U ?_));go_ret;exact⟨rfl,U.all⟩
theorem El:Calls prog 147 #[.agg ([.int .i64 2,.int .i64 1,.int .i64 0,.int .i64 64,.pointer (some ⟨B.aeh,0,none⟩)]:List Value).toArray,.int .i64 1] w0 λe w'=>e= .returned (.bool true)/\Below w0.heap.size w0 w':=by
 have H:=I h;have U:=aah.a0 w0;clear h;have X5:=I λw'=>km (⟨1,0,-1,0⟩) w' ⟨am,am,am,am⟩
 go_enter func147,ntmps147;go_upto_region 1 with(first|(refine Ws U 165 ?_;clear U;intro gk w U tt))
 go_upto_region 2 with(first|(go_at_call 80;refine a6 U (xR _ B (H.out.below U.all)) ?_;clear U;intro aaM U)|(refine VP U ny ?_;clear U;intro gc w U Bx)|(refine aq ?_)|(refine ac2 U ?_;clear U;intro w U))
 go_upto_region 3 with(first|(go_at_call 80;refine a6 U (Cb _ B (H.out.below U.all)) ?_;clear U;intro aaM U)|(refine VP U ny ?_;clear U;intro Wp w U Bx)|(refine aq ?_)|(refine ac2 U ?_;clear U;intro w U))
 go_upto_region 5 with(first|(go_at_call 233;refine a6 U (X5.out _) ?_;clear U;intro aaM U)|(refine WG U ?_))
 have acN:=U.cell (g:=gc) (i:=2) kw rfl;have acZ:=U.cell (g:=gc) (i:=0) kw rfl;go_wp2_with(first|(go_at_call 234;refine a6 U (By _ B (H.out.below U.all)) ?_;clear U;intro aaM U)|(refine Ww U ?_));go_ret;exact⟨rfl,U.all⟩
omit h in
theorem HX(w:World):(Instr.makeSlice 30 (.int .i64 ((2:Nat):Int)) (.int .i64 ((2:Nat):Int))).run prog w= .ok (.slice (some ⟨w.heap.size,0,none⟩) 2 2) (w.alloc (.cells ([.int .i64 0,.int .i64 0]:List Value).toArray 3)):=
 vr (z:=.int .i64 0) (sz:=1) (bytes:=8) underlying30 aM am am aM w
omit h in
set_option maxHeartbeats 8000000 in
set_option maxRecDepth 100000 in
theorem zX:Calls prog 146 #[.agg ([.int .i64 2,.int .i64 1,.int .i64 0,.int .i64 64,.pointer (some ⟨B.aeh,0,none⟩)]:List Value).toArray] w0 λe w'=> ∃g,e= .returned (.slice (some ⟨g,0,none⟩) 2 2)/\ah w' g 3 ([.int .i64 0,.int .i64 1]:List Value).toArray/\Below w0.heap.size w0 w':=by
 have aeg:=I HX;have U:=aah.a0 w0;go_enter func146,ntmps146;go_upto_region 1 with(first|(refine Ws U 165 ?_;clear U;intro gk w U tt))
 go_upto_region 2 with(first|(refine NI U aeg.out ?_;clear U;intro g w U VW)|(refine aaO U ?_))
 go_wp2_with fail;refine wp_loop_rounds 3 ?_;rw[rounds_succ];go_wp2_with(refine ac2 U ?_;clear U;intro w U);rw[rounds_succ];go_wp2_with(refine ac2 U ?_;clear U;intro w U);rw[rounds_succ];go_wp2_with fail;go_ret;exact⟨g,rfl,U.b (g:=g) cX,U.all⟩
section
variable(aca:Nat)(acA:w0.cell? ⟨aca,0,none⟩=some (.func (.func 147) #[.agg ([.int .i64 2,.int .i64 1,.int .i64 0,.int .i64 64,.pointer (some ⟨B.aeh,0,none⟩)]:List Value).toArray] #[]))
include aca acA
theorem HY:Calls prog 232 #[.int .i64 0,.pointer (some ⟨aca,0,none⟩)] w0 λe w'=>e= .returned (.bool false)/\Below w0.heap.size w0 w':=by
 have ab7: ∀args w,(callFunc 147 args).run prog w= .ok (.enter 147 args) w:=enters_of func147 aM rfl;have H:=I h;clear h;go_enter func232,ntmps232;go_wp2_with fail;refine(Ek _ B H.out).mono ?_;rintro e aaM ⟨rfl,N⟩;go_wp2_with fail;go_ret;exact⟨rfl,N⟩
theorem HZ:Calls prog 232 #[.int .i64 1,.pointer (some ⟨aca,0,none⟩)] w0 λe w'=>e= .returned (.bool false)/\Below w0.heap.size w0 w':=by
 have ab7: ∀args w,(callFunc 147 args).run prog w= .ok (.enter 147 args) w:=enters_of func147 aM rfl;have H:=I h;clear h;go_enter func232,ntmps232;go_wp2_with fail;refine(El _ B H.out).mono ?_;rintro e aaM ⟨rfl,N⟩;go_wp2_with fail;go_ret;exact⟨rfl,N⟩
end
theorem Ki(g:Nat)(hb:ah w0 g 3 ([.int .i64 0,.int .i64 1]:List Value).toArray):Calls prog 145 #[.slice (some ⟨g,0,none⟩) 2 2,(.func (.func 147) #[.agg ([.int .i64 2,.int .i64 1,.int .i64 0,.int .i64 64,.pointer (some ⟨B.aeh,0,none⟩)]:List Value).toArray] #[])] w0 λe w'=>e= .returned (.bool true)/\Below w0.heap.size w0 w':=by
 have ab7: ∀args w,(callFunc 232 args).run prog w= .ok (.enter 232 args) w:=enters_of func232 aM rfl;have ae6:=I ab7;have H:=I h;have aav:=I hb;have U:=aah.a0 w0;clear ab7 h hb;go_enter func145,ntmps145;go_upto_region 1 with(refine Ws U 144 ?_;clear U;intro aca w U VW)
 go_wp2_with fail;have fC:=aav.out.below U.all aav.out.lt;refine(uq _ (λb=>0<=b) _ 2 (λi=> [.int .i64 i]) (λi=>.int .i64 i) 232 #[.pointer (some ⟨aca,0,none⟩)] (λ_=>false) ae6.out (tz (f:=λi=>.int .i64 i) (r:= []) fC (aL _) am) (λi hi=>rfl) am (λi hi w' kr=>?_)).mono ?_
 ·have XP:=(kr.cell (p:=⟨aca,0,none⟩) (U.b (g:=aca) cX).lt).trans (U.cell (g:=aca) (i:=0) cX rfl);have afl:gB w' B:=gB.below H.out (U.all.trans (kr.mono U.size))
  ·rcases i with _|_|i
   ·exact HY w' B afl aca XP
   ·exact HZ w' B afl aca XP
   ·omega
 rintro e aaM ⟨r,rfl,abk,N⟩;replace U:=U.below N;obtain rfl:r=false:=by
  rcases abk with abk|⟨_,i,_,abk⟩
  ·exact abk.1
  ·cases abk
 go_wp2_with fail;go_ret;exact⟨rfl,U.all⟩
theorem Bz:Calls prog 78 #[.agg ([.int .i64 2,.int .i64 1,.int .i64 0,.int .i64 64]:List Value).toArray,.pointer (some ⟨B.aeh,0,none⟩)] w0 λe w'=>e= .returned (.int .i64 0)/\Below w0.heap.size w0 w':=by
 have H:=I h;have U:=aah.a0 w0;clear h;go_enter func78,ntmps78;go_upto_region 1 with(refine Ws U 27 ?_;clear U;intro aff w U Hr)
 go_upto_region 2 with(first|(refine VP U xc ?_;clear U;intro gk w U tt)|(refine aq ?_)|(refine ac2 U ?_;clear U;intro w U))
 replace U:=U.drew;refine wp_region_held_drew (S:=(c0 [⟨gk,165,[.int .i64 2,.int .i64 1,.int .i64 0,.int .i64 64,.pointer (some ⟨B.aeh,0,none⟩)]⟩])) aM ?_ (λX=>?_)
 ·exact U.bG aN
 refine az [[0,2]] ?_;refine Zj [1,3] ?_;refine ea (λK Z7=>?_) ?_
 ·go_simp
  (go_at_call 146;refine Calls.mono (zX _ B) ?_;rintro e aaM ⟨acw,rfl,YJ,N⟩;replace U:=U.below N;clear N;have WS:=I YJ;have WL:=I U;clear YJ)
  go_wp2_with fail;refine WE Z7 λX=>?_
  refine aF 3 λK Z7=>?_
  go_simp;exact pD
 refine ei (λK Z7=>?_);go_simp;refine WE Z7 λX=>?_
 refine aF 1 λK Z7=>?_
 go_simp
 (go_at_call 146;refine Calls.mono (zX _ B) ?_;rintro e aaM ⟨acw,rfl,YJ,N⟩;replace U:=U.below N;clear N;have WS:=I YJ;have WL:=I U;clear YJ)
 go_wp2_with fail;exact pD
end
section
open Go.RowKit Tryz
theorem pE{G:Prop}(h:G:=by
 replace U:=U.drew;refine wp_region_held_drew (S:=(c0 [⟨gk,165,[.int .i64 2,.int .i64 1,.int .i64 0,.int .i64 64,.pointer (some ⟨B.aeh,0,none⟩)]⟩])) (by kernel_rfl) ?_ (λX=>?_)
 ·exact U.bG (by simp)
 refine az [[0,1,3,4,6,7]] ?_;refine Zj [2,10] ?_;refine ea (λK Z7=>?_) ?_
 ·go_simp
  (go_at_call 81;refine a6 U (aeF.out _ U.all) ?_;clear U;intro aaM U)
  go_wp2_with fail;refine WE Z7 λX=>?_
  refine Zj [5,10] ?_;refine ea (λK Z7=>?_) ?_
  ·go_simp
   (go_at_call 81;refine a6 U (ZK.out _ U.all) ?_;clear U;intro aaM U)
   go_wp2_with fail;refine WE Z7 λX=>?_
   refine Zj [8,10] ?_;refine ea (λK Z7=>?_) ?_
   ·go_simp
    (go_at_call 81;refine a6 U (W6.out _ U.all) ?_;clear U;intro aaM U)
    go_wp2_with fail;refine WE Z7 λX=>?_
    refine Xh 9 ?_;refine aF 10 λK Z7=>?_
    refine ZZ U tX ?_;clear U;intro aaT w U NL;refine WE Z7 λX=>?_
    refine az [[],[11]] ?_;clear U;intro w U;go_wp2_with fail;go_meet;exact⟨aaT,rfl,U⟩
   refine ei (λK Z7=>?_);refine ZZ U tX ?_;clear U;intro aaT w U NL;refine WE Z7 λX=>?_
   refine aF 8 λK Z7=>?_
   go_simp
   (go_at_call 81;refine a6 U (W6.out _ U.all) ?_;clear U;intro aaM U)
   go_wp2_with fail;refine WE Z7 λX=>?_
   refine az [[9],[11]] ?_;clear U;intro w U;go_wp2_with fail;go_meet;exact⟨aaT,rfl,U⟩
  refine ei (λK Z7=>?_);refine ZZ U tX ?_;clear U;intro aaT w U NL;refine WE Z7 λX=>?_
  refine aF 5 λK Z7=>?_
  go_simp
  (go_at_call 81;refine a6 U (ZK.out _ U.all) ?_;clear U;intro aaM U)
  go_wp2_with fail;refine WE Z7 λX=>?_
  refine aF 8 λK Z7=>?_
  go_simp
  (go_at_call 81;refine a6 U (W6.out _ U.all) ?_;clear U;intro aaM U)
  go_wp2_with fail;refine WE Z7 λX=>?_
  refine az [[9],[11]] ?_;clear U;intro w U;go_wp2_with fail;go_meet;exact⟨aaT,rfl,U⟩
 refine ei (λK Z7=>?_);refine ZZ U tX ?_;clear U;intro aaT w U NL;refine WE Z7 λX=>?_
 refine aF 2 λK Z7=>?_
 go_simp
 (go_at_call 81;refine a6 U (aeF.out _ U.all) ?_;clear U;intro aaM U)
 go_wp2_with fail;refine WE Z7 λX=>?_
 refine aF 5 λK Z7=>?_
 go_simp
 (go_at_call 81;refine a6 U (ZK.out _ U.all) ?_;clear U;intro aaM U)
 go_wp2_with fail;refine WE Z7 λX=>?_
 refine aF 8 λK Z7=>?_
 go_simp
 (go_at_call 81;refine a6 U (W6.out _ U.all) ?_;clear U;intro aaM U)
 go_wp2_with fail;refine WE Z7 λX=>?_
 refine az [[9],[11]] ?_;clear U;intro w U;go_wp2_with fail;go_meet;exact⟨aaT,rfl,U⟩):G:=h
theorem pF{G:Prop}(h:G:=by
 refine az [[0,1,2,3,4,5,6,7,8,9,10,11,12,13,14,15]] ?_;refine aF 16 λK Z7=>?_
 go_simp
 (first|(go_at_call 149;refine a6 U (ZE.out _ U.all) ?_;clear U;intro aaM U)|skip)
 (try go_wp2_with fail)
 refine WE Z7 λX=>?_
 refine az [[17],[18],[19]] ?_;clear U;intro w U;go_wp2_with fail;refine aZ results150 rfl rfl ⟨_,U.b (g:=gr) ag,rfl⟩ underlying130 rfl (by kernel_rfl) ?_;exact⟨rfl,U.all⟩):G:=h
theorem Em:(Tryz.prog.info? 59).map (·.size)=some 1:=aM
theorem kp(cs:Array Value)(i:Nat)(v:Value)(w:World)(hi:i<3)(hv:cs[i]? =some v):(Instr.index 344 (.agg cs) (.int .i64 i)).run prog w= .ok v w:=by
 obtain⟨z,aeN,bz⟩:=Option.map_eq_some_iff.1 Em;have aaV:(i:Int)<3:=J;have ZV:(0:Int)<=i:=J;simp[Instr.index,asIntOf,Sem.run_bind,run_underlying underlying344,run_underlying underlying59,part,isAgg,sizeOf,typeInfo,aeN,bz,aaV,ZV,hv,go_sem];intro h;omega
variable(w0:World)(B:WB)(h:gB w0 B)
include h
omit h in
set_option maxHeartbeats 8000000 in
set_option maxRecDepth 100000 in
theorem H0(aeh a m:Nat)(hm:a<=m/\m<=24)(z':Int)(acb:8*(a:Int)+z'=8*(m:Int))(wd: ∀k,a<=k->k<m->∀w',Below w0.heap.size w0 w'->Calls prog 156 #[.agg ([.int .i64 2,.int .i64 1,.int .i64 0,.int .i64 64,.pointer (some ⟨aeh,0,none⟩)]:List Value).toArray,.int .i64 (8*(k:Int))] w' λe du=>e= .returned (.int .u64 0)/\Below w'.heap.size w' du):
 Calls prog 149 #[.agg ([.int .i64 2,.int .i64 1,.int .i64 0,.int .i64 64,.pointer (some ⟨aeh,0,none⟩)]:List Value).toArray,.agg #[.int .i64 (8*(a:Int)),.int .i64 z']] w0 λe w'=>e= .returned (.bool true)/\Below w0.heap.size w0 w':=by
 have WD:=I wd;have TJ:IntKind.i64.wrap (8*(a:Int)+z')=8*(m:Int):=by rw[IntKind.wrap_i64];omega
 have TK:wrap64 (8*(a:Int)+z')=8*(m:Int):=by unfold wrap64;omega
 have w2:=I hm;have U:=aah.a0 w0;clear wd hm acb;go_enter func149,ntmps149;go_upto_region 1 with(first|(refine Ws U 165 ?_;clear U;intro gk w U tt)|(refine Ws U 130 ?_;clear U;intro afL w U Q0))
 go_wp2_with(refine aaO U ?_);have eB:=I U;clear U;go_loopw [5] (λi wr=> ∃k:Nat,a<=k/\k<=m/\i= .int .i64 (8*(k:Int))/\aah w0 (λ_=>True) wr none [⟨afL,130,[.int .i64 (8*(a:Int)),.int .i64 z']⟩,⟨gk,165,[.int .i64 2,.int .i64 1,.int .i64 0,.int .i64 64,.pointer (some ⟨aeh,0,none⟩)]⟩]) (λi _=>8*m-(intOf i).toNat)
 case atStart=>exact⟨a,ai _,w2.out.1,rfl,eB.out⟩
 case round=>
  obtain⟨k,An,ae3,rfl,U⟩:=hrel;clear eB;by_cases bV:k<m
  ·have aaX:8*(k:Int)<8*(m:Int):=by omega
   have Ue:k<24:=by have:=w2.out;omega
   go_wp2_with(first|(go_at_call 156;refine a6 U (WD.out k An bV _ U.all) ?_;clear U;intro aaM U)|(refine aq ?_));go_roundw
   case rel=>exact⟨k+1,J,J,by go_num,U⟩
   case measure=>simp[intOf];omega
  ·obtain rfl:m=k:=by omega
   have aaX: ¬8*(m:Int)<8*(m:Int):=J;go_wp2_with(refine aaO U ?_);go_ret;exact⟨rfl,U.all⟩
theorem zY(a m:Nat)(hm:a<=m/\m<=24)(z':Int)(acb:8*(a:Int)+z'=8*(m:Int))(aeN: ∀k,a<=k->k<m->W1.V k=0):Calls prog 149 #[.agg ([.int .i64 2,.int .i64 1,.int .i64 0,.int .i64 64,.pointer (some ⟨B.aeh,0,none⟩)]:List Value).toArray,.agg #[.int .i64 (8*(a:Int)),.int .i64 z']] w0 λe w'=>e= .returned (.bool true)/\Below w0.heap.size w0 w':=
 H0 w0 B.aeh a m hm z' acb λk An ae3 w' hb=>by
  have h1:=zV w' B (gB.below h hb) k J
  rw[aeN k An ae3]at h1
  exact h1
theorem BA:Calls prog 150 #[.agg ([.int .i64 2,.int .i64 1,.int .i64 0,.int .i64 64,.pointer (some ⟨B.aeh,0,none⟩)]:List Value).toArray,.int .i64 0] w0 λe w'=>e= .returned (.tuple #[.agg #[.int .i64 128,.int .i64 0],.bool true])/\Below w0.heap.size w0 w':=by
 have H:=I h;have U:=aah.a0 w0;clear h;have aeF:=I (show∀w',Below w0.heap.size w0 w'->Calls prog 81 #[.agg ([.int .i64 2,.int .i64 1,.int .i64 0,.int .i64 64,.pointer (some ⟨B.aeh,0,none⟩)]:List Value).toArray,.int .i64 1,.int .i64 0] w' λe du=>e= .returned (.int .u64 128)/\Below w'.heap.size w' du from λw' hb=>by
  have h1:=ib w' B (gB.below H.out hb) 1 0 1 am am rfl;rw[show W1.V 1=128 by kernel_rfl]at h1;exact h1)
 have ZK:=I (show∀w',Below w0.heap.size w0 w'->Calls prog 81 #[.agg ([.int .i64 2,.int .i64 1,.int .i64 0,.int .i64 64,.pointer (some ⟨B.aeh,0,none⟩)]:List Value).toArray,.int .i64 2,.int .i64 0] w' λe du=>e= .returned (.int .u64 0)/\Below w'.heap.size w' du from λw' hb=>by
  have h1:=ib w' B (gB.below H.out hb) 2 0 2 am am rfl;rw[show W1.V 2=0 by kernel_rfl]at h1;exact h1)
 have W6:=I (show∀w',Below w0.heap.size w0 w'->Calls prog 81 #[.agg ([.int .i64 2,.int .i64 1,.int .i64 0,.int .i64 64,.pointer (some ⟨B.aeh,0,none⟩)]:List Value).toArray,.int .i64 3,.int .i64 0] w' λe du=>e= .returned (.int .u64 0)/\Below w'.heap.size w' du from λw' hb=>by
  have h1:=ib w' B (gB.below H.out hb) 3 0 3 am am rfl;rw[show W1.V 3=0 by kernel_rfl]at h1;exact h1)
 have ac5:=I λw'=>jS 2 1 0 64 w' (I am) am
 have Yl:=I λw'=>pR 2 1 0 64 w' (I am) am am
 have ZE:=I (show∀w',Below w0.heap.size w0 w'->Calls prog 149 #[.agg ([.int .i64 2,.int .i64 1,.int .i64 0,.int .i64 64,.pointer (some ⟨B.aeh,0,none⟩)]:List Value).toArray,.agg #[.int .i64 128,.int .i64 0]] w' λe du=>e= .returned (.bool true)/\Below w'.heap.size w' du from λw' hb=>zY w' B (gB.below H.out hb) 16 16 am 0 am (λk h1 aaV=>J));go_enter func150,ntmps150;go_upto_region 1 with(first|(refine Ws U 165 ?_;clear U;intro gk w U tt)|(refine VP U eK ?_;clear U;intro gr w U Bq))
 go_upto_region 2 with(first|(go_at_call 80;refine a6 U (tE _ B (H.out.below U.all)) ?_;clear U;intro aaM U)|(refine VP U ny ?_;clear U;intro gc w U Bx)|(refine aq ?_)|(refine ac2 U ?_;clear U;intro w U))
 go_cut [8]from 23 to 33 (λaba ZT=> ∃aaT,aba= .pointer (some ⟨aaT,0,none⟩)/\aah w0 (λ_=>True) ZT none [⟨aaT,344,[.int .u64 128,.int .u64 0,.int .u64 0]⟩,⟨gc,56,[.int .i64 2,.int .i64 1,.int .i64 (-1),.int .i64 0]⟩,⟨gr,130,[.int .i64 0,.int .i64 0]⟩,⟨gk,165,[.int .i64 2,.int .i64 1,.int .i64 0,.int .i64 64,.pointer (some ⟨B.aeh,0,none⟩)]⟩])
 case first=>
  exact pE
 case rest=>
 obtain⟨aaT,rfl,U⟩:=hcut;clear aeF ZK W6;have X0:=U.cell (g:=aaT) (i:=0) ag rfl;have YN:=U.cell (g:=aaT) (i:=1) ag rfl;have XW:=U.cell (g:=aaT) (i:=2) ag rfl;go_wp2_with(refine aaO U ?_);clear X0 YN XW;have Wx:=(show∀w,(Instr.index 344 (.agg #[.int .u64 128,.int .u64 0,.int .u64 0]) (.int .i64 0)).run prog w= .ok (.int .u64 128) w from λw=>kp _ 0 _ w am rfl)
 have aal:=(show∀w,(Instr.index 344 (.agg #[.int .u64 128,.int .u64 0,.int .u64 0]) (.int .i64 1)).run prog w= .ok (.int .u64 0) w from λw=>kp _ 1 _ w am rfl)
 have abF:=(show∀w,(Instr.index 344 (.agg #[.int .u64 128,.int .u64 0,.int .u64 0]) (.int .i64 2)).run prog w= .ok (.int .u64 0) w from λw=>kp _ 2 _ w am rfl)
 refine wp_loop_rounds 4 ?_;rw[rounds_succ];go_wp2_with fail;rw[rounds_succ];go_wp2_with fail;rw[rounds_succ];go_wp2_with fail;rw[rounds_succ];go_upto_region 11 with fail
 replace U:=U.drew;refine wp_region_held_drew (S:=(c0 [⟨aaT,344,[.int .u64 128,.int .u64 0,.int .u64 0]⟩])) aM ?_ (λX=>?_)
 ·exact U.bG aN
 refine az [[0,1,2,3,4,5,6,7,8,9]] ?_;refine aF 10 λK Z7=>?_
 refine ZZ U eK ?_;clear U;intro afL w U Q0;refine WE Z7 λX=>?_
 refine az [[],[11],[12]] ?_;clear U;intro w U;simp only[show IntKind.i64.wrap 128=128 by decide,show IntKind.i64.wrap 64=64 by decide,show IntKind.i64.wrap 0=0 by decide]at U;clear Wx aal abF;go_upto_region 13 with(first|(go_at_call 153;refine a6 U (Yl.out _) ?_;clear U;intro aaM U)|(refine VP U eK ?_;clear U;intro adE w U TN)|(refine aq ?_)|(refine ac2 U ?_;clear U;intro w U))
 go_upto_region 15 with(first|(go_at_call 199;refine a6 U (ac5.out _) ?_;clear U;intro aaM U)|(refine aq ?_)|(refine ac2 U ?_;clear U;intro w U))
 have adC:=U.cell (g:=afL) (i:=0) ag rfl;have aaK:=U.cell (g:=afL) (i:=1) ag rfl;have YM:=U.cell (g:=adE) (i:=0) ag rfl;have h1:=U.cell (g:=adE) (i:=1) ag rfl;have acZ:=U.cell (g:=gc) (i:=0) ag rfl;go_upto_region 17 with(refine WG U ?_)
 clear adC aaK YM h1 acZ;replace U:=U.drew;refine wp_region_held_drew (S:=(c0 [⟨afL,130,[.int .i64 128,.int .i64 0]⟩,⟨gk,165,[.int .i64 2,.int .i64 1,.int .i64 0,.int .i64 64,.pointer (some ⟨B.aeh,0,none⟩)]⟩])) aM ?_ (λX=>?_)
 ·exact U.bG aN
 exact pF
theorem BB:Calls prog 150 #[.agg ([.int .i64 2,.int .i64 1,.int .i64 0,.int .i64 64,.pointer (some ⟨B.aeh,0,none⟩)]:List Value).toArray,.int .i64 1] w0 λe w'=>e= .returned (.tuple #[.agg #[.int .i64 128,.int .i64 64],.bool true])/\Below w0.heap.size w0 w':=by
 have H:=I h;have U:=aah.a0 w0;clear h;have aeF:=I (show∀w',Below w0.heap.size w0 w'->Calls prog 81 #[.agg ([.int .i64 2,.int .i64 1,.int .i64 0,.int .i64 64,.pointer (some ⟨B.aeh,0,none⟩)]:List Value).toArray,.int .i64 1,.int .i64 1] w' λe du=>e= .returned (.int .u64 128)/\Below w'.heap.size w' du from λw' hb=>by
  have h1:=ib w' B (gB.below H.out hb) 1 1 9 am am rfl;rw[show W1.V 9=128 by kernel_rfl]at h1;exact h1)
 have ZK:=I (show∀w',Below w0.heap.size w0 w'->Calls prog 81 #[.agg ([.int .i64 2,.int .i64 1,.int .i64 0,.int .i64 64,.pointer (some ⟨B.aeh,0,none⟩)]:List Value).toArray,.int .i64 2,.int .i64 1] w' λe du=>e= .returned (.int .u64 64)/\Below w'.heap.size w' du from λw' hb=>by
  have h1:=ib w' B (gB.below H.out hb) 2 1 10 am am rfl;rw[show W1.V 10=64 by kernel_rfl]at h1;exact h1)
 have W6:=I (show∀w',Below w0.heap.size w0 w'->Calls prog 81 #[.agg ([.int .i64 2,.int .i64 1,.int .i64 0,.int .i64 64,.pointer (some ⟨B.aeh,0,none⟩)]:List Value).toArray,.int .i64 3,.int .i64 1] w' λe du=>e= .returned (.int .u64 0)/\Below w'.heap.size w' du from λw' hb=>by
  have h1:=ib w' B (gB.below H.out hb) 3 1 11 am am rfl;rw[show W1.V 11=0 by kernel_rfl]at h1;exact h1)
 have ac5:=I λw'=>jS 2 1 0 64 w' (I am) am
 have Yl:=I λw'=>pR 2 1 0 64 w' (I am) am am
 have ZE:=I (show∀w',Below w0.heap.size w0 w'->Calls prog 149 #[.agg ([.int .i64 2,.int .i64 1,.int .i64 0,.int .i64 64,.pointer (some ⟨B.aeh,0,none⟩)]:List Value).toArray,.agg #[.int .i64 128,.int .i64 64]] w' λe du=>e= .returned (.bool true)/\Below w'.heap.size w' du from λw' hb=>zY w' B (gB.below H.out hb) 16 24 am 64 am (λk h1 aaV=>by have aeD: ∀j,j<8->W1.V (16+j)=0:=(by decide+kernel);have:=aeD (k-16) J;rwa[show 16+(k-16)=k by omega]at this));go_enter func150,ntmps150;go_upto_region 1 with(first|(refine Ws U 165 ?_;clear U;intro gk w U tt)|(refine VP U eK ?_;clear U;intro gr w U Bq))
 go_upto_region 2 with(first|(go_at_call 80;refine a6 U (xR _ B (H.out.below U.all)) ?_;clear U;intro aaM U)|(refine VP U ny ?_;clear U;intro gc w U Bx)|(refine aq ?_)|(refine ac2 U ?_;clear U;intro w U))
 go_cut [8]from 23 to 33 (λaba ZT=> ∃aaT,aba= .pointer (some ⟨aaT,0,none⟩)/\aah w0 (λ_=>True) ZT none [⟨aaT,344,[.int .u64 128,.int .u64 64,.int .u64 0]⟩,⟨gc,56,[.int .i64 1,.int .i64 0,.int .i64 (-1),.int .i64 0]⟩,⟨gr,130,[.int .i64 0,.int .i64 0]⟩,⟨gk,165,[.int .i64 2,.int .i64 1,.int .i64 0,.int .i64 64,.pointer (some ⟨B.aeh,0,none⟩)]⟩])
 case first=>
  exact pE
 case rest=>
 obtain⟨aaT,rfl,U⟩:=hcut;clear aeF ZK W6;have X0:=U.cell (g:=aaT) (i:=0) ag rfl;have YN:=U.cell (g:=aaT) (i:=1) ag rfl;have XW:=U.cell (g:=aaT) (i:=2) ag rfl;go_wp2_with(refine aaO U ?_);clear X0 YN XW;have Wx:=(show∀w,(Instr.index 344 (.agg #[.int .u64 128,.int .u64 64,.int .u64 0]) (.int .i64 0)).run prog w= .ok (.int .u64 128) w from λw=>kp _ 0 _ w am rfl)
 have aal:=(show∀w,(Instr.index 344 (.agg #[.int .u64 128,.int .u64 64,.int .u64 0]) (.int .i64 1)).run prog w= .ok (.int .u64 64) w from λw=>kp _ 1 _ w am rfl)
 have abF:=(show∀w,(Instr.index 344 (.agg #[.int .u64 128,.int .u64 64,.int .u64 0]) (.int .i64 2)).run prog w= .ok (.int .u64 0) w from λw=>kp _ 2 _ w am rfl)
 refine wp_loop_rounds 4 ?_;rw[rounds_succ];go_wp2_with fail;rw[rounds_succ];go_wp2_with fail;rw[rounds_succ];go_wp2_with fail;rw[rounds_succ];go_upto_region 11 with fail
 replace U:=U.drew;refine wp_region_held_drew (S:=(c0 [⟨aaT,344,[.int .u64 128,.int .u64 64,.int .u64 0]⟩])) aM ?_ (λX=>?_)
 ·exact U.bG aN
 refine az [[0,1,2,3,4,5,6,7,8,9]] ?_;refine aF 10 λK Z7=>?_
 refine ZZ U eK ?_;clear U;intro afL w U Q0;refine WE Z7 λX=>?_
 refine az [[],[11],[12]] ?_;clear U;intro w U;simp only[show IntKind.i64.wrap 128=128 by decide,show IntKind.i64.wrap 64=64 by decide,show IntKind.i64.wrap 0=0 by decide]at U;clear Wx aal abF;go_upto_region 13 with(first|(go_at_call 153;refine a6 U (Yl.out _) ?_;clear U;intro aaM U)|(refine VP U eK ?_;clear U;intro adE w U TN)|(refine aq ?_)|(refine ac2 U ?_;clear U;intro w U))
 go_upto_region 15 with(first|(go_at_call 199;refine a6 U (ac5.out _) ?_;clear U;intro aaM U)|(refine aq ?_)|(refine ac2 U ?_;clear U;intro w U))
 have adC:=U.cell (g:=afL) (i:=0) ag rfl;have aaK:=U.cell (g:=afL) (i:=1) ag rfl;have YM:=U.cell (g:=adE) (i:=0) ag rfl;have h1:=U.cell (g:=adE) (i:=1) ag rfl;have acZ:=U.cell (g:=gc) (i:=0) ag rfl;go_upto_region 17 with(refine WG U ?_)
 clear adC aaK YM h1 acZ;replace U:=U.drew;refine wp_region_held_drew (S:=(c0 [⟨afL,130,[.int .i64 128,.int .i64 64]⟩,⟨gk,165,[.int .i64 2,.int .i64 1,.int .i64 0,.int .i64 64,.pointer (some ⟨B.aeh,0,none⟩)]⟩])) aM ?_ (λX=>?_)
 ·exact U.bG aN
 exact pF
end
section
open Go.RowKit Tryz
theorem mS{w:World}{b c:Nat}{e:TypeId}{sz:Nat}{v:Value}{n:Nat}{xs:List Value}(h:w.ownsRow b e sz v n xs)(hb:c<=b):w.ownsRow c e sz v n xs:=
 ⟨h.1,h.2.imp id fun⟨g,cap,cS,h1,aaV,ZV⟩=>⟨g,cap,cS,h1,D hb aaV,ZV⟩⟩
theorem vs(w:World)(S:Nat->Prop)(v:Value)(n:Nat)(F:Nat->List Value)(h:acr w S v n 2 F)(abi:n<=65536)(hF:hl n 2 F):
 Calls prog 254 #[v] w λe w'=> ∃v',e= .returned v'/\w'.ownsRow w.heap.size 130 2 v' n (bx n 2 F)/\Below w.heap.size w w':=by
 obtain⟨aaX,iM,iN,iO,iP⟩:=info_parts cj;have gP:=λi hi=>(hF i hi).1
 have fh:=hF.flat (by decide:0<2);obtain⟨A,c,rfl,h1,aaV,ZV⟩:=id h;have gC:n<=maxLen:=by unfold maxLen;omega
 cases A with
 |none=>
  have eN:n=0:=by
   rcases aQ n with h|h
   ·exact h
   ·obtain⟨b,off,e,_⟩:=ZV h;cases e
  subst eN;clear h ZV hF gP fh abi h1 aaV gC iM iN iO iP;have mq:=λw=>Lib.run_eql_slice_nil (P:=prog) w _ _ none 0 c 0 0 bw
  go_enter func254,ntmps254;go_wp2_with fail;go_ret;exact⟨_,rfl,World.ownsRow_nil _ _ _ _,by
   exact a2⟩
 |some afF=>
  have H:=I h;have lZ:=I gP;have mr:=I fh;have ZG:=I abi;have ms:=I gC;clear h ZV hF gP fh abi h1 aaV gC;have mq:=λw=>Lib.run_eql_slice_nil (P:=prog) w _ _ (some afF) n c 0 0 bw
  have mv:=I (H.out.news lZ.out am);go_enter func254,ntmps254;go_wp2_with(at_builtin;refine wpList_append_own _ rfl _ _ 58 rfl w.heap.size 130 aaX (.agg #[.int .i64 0,.int .i64 0]) 2 16 bw iM iN iO iP rfl am _ _ _ rfl (World.ownsRow_made w #[] 0 (ai _) (aL _) rfl) afF n c (bx n 2 F) rfl (cv _ _ _) (mv.out _ (World.dY _ _)) mr.out (by rw[ax];exact ms.out) (by have:=ZG.out;omega) aN ?_;intro v' w' ZQ afj _;rw[au,ax]at ZQ);exact kL
theorem Kj(w0:World)(aff rg:Nat)(a4 aaY:Int)(l:List Ext)(cV:l.length<=65536)(afj:cY w0 aff rg a4 aaY l):
 Calls prog 177 #[.pointer (some ⟨aff,0,none⟩)] w0 λe w'=> ∃v',e= .returned v'/\w'.ownsRow w0.heap.size 130 2 v' l.length (bx l.length 2 (eP l))/\Below w0.heap.size w0 w':=by
 have key: ∃S v,ah w0 aff 363 ([.int .i64 a4,.int .i64 aaY,v]:List Value).toArray/\acr w0 S v l.length 2 (eP l):=by
  exact nZ
 obtain⟨S,v,hb,YF⟩:=key;have aeO:=I YF;have ZG:=I cV;have aav:=I hb;have U:=aah.g8 hb;clear YF cV afj hb;go_enter func177,ntmps177;go_wp2_with(first|(go_at_call 254;have dI:=U.ro aav.out (by with_reducible first|exact cX|exact kw|exact r3);refine Calls.mono (vs _ S _ _ _ (aeO.out.below (U.ro aav.out (by with_reducible first|exact cX|exact kw|exact r3))) ZG.out (kn _ _)) ?_;rintro e aaM ⟨Zv,rfl,h2,N⟩;replace U:=U.below N)|(refine aaO U ?_));go_ret;exact⟨_,rfl,mS h2 dI.size,U.ro aav.out (by exact cX)⟩
theorem H1{w0:World}{B:WB}{p:afy}{F:b1}{n:Nat}{W:Wd}(h:df w0 B p F n W)(YJ:W.fr.length<=65536):
 Calls prog 101 #[.pointer (some ⟨B.aeh,0,none⟩)] w0 λe w'=> ∃v,e= .returned v/\w'.ownsRow w0.heap.size 130 2 v W.fr.length (bx W.fr.length 2 (eP W.fr))/\Below w0.heap.size w0 w':=by
 have hb:=h.wd;have aav:=I hb;have aaq:=I h.gr;have U:=aah.g8 hb;clear h hb;go_enter func101,ntmps101;go_wp2_with(first|(go_at_call 177;have dq:=U.ro aav.out ag;refine Calls.mono (Kj _ _ _ _ _ W.fr YJ (aaq.out.Wu (dq.block _ aaq.out.lt.1) (dq.block _ aaq.out.lt.2))) ?_;rintro e aaM ⟨v',rfl,hv,N⟩;replace U:=U.below N)|(refine aaO U ?_));go_ret;exact⟨_,rfl,mS hv dq.size,U.ro aav.out ag⟩
variable(w0:World)(B:WB)(h:gB w0 B)
include h
theorem zZ:Calls prog 79 #[.agg ([.int .i64 2,.int .i64 1,.int .i64 0,.int .i64 64]:List Value).toArray,.pointer (some ⟨B.aeh,0,none⟩)] w0 λe w'=>e= .returned (.int .i64 0)/\Below w0.heap.size w0 w':=by
 have H:=I h;have U:=aah.a0 w0;clear h;have Yl:=I (show∀w',Calls prog 153 #[.agg #[.int .i64 2,.int .i64 1,.int .i64 0,.int .i64 64]] w' λx du=>x= .returned (.tuple #[.agg #[.int .i64 128,.int .i64 64],.int .i64 0])/\Below w'.heap.size w' du from λw'=>pR 2 1 0 64 w' (I am) am am);go_enter func79,ntmps79;go_upto_region 1 with(refine Ws U 27 ?_;clear U;intro aff w U Hr)
 go_upto_region 2 with(first|(refine VP U xc ?_;clear U;intro gk w U tt)|(refine aq ?_)|(refine ac2 U ?_;clear U;intro w U))
 go_upto_region 3 with(first|(go_at_call 101;refine Calls.mono (H1 (H.out.below U.all) (by rw[QY];decide)) ?_;rintro e aaM ⟨v,rfl,hv,N⟩;have Q1:=I U.size;have Wr:=(U.b (g:=gk) (by with_reducible first|exact cX|exact kw)).lt;have Yb:=(U.b (g:=aff) (by with_reducible first|exact cX|exact kw)).lt;replace U:=U.below N;clear N;rw[QY]at hv;obtain⟨A,c,rfl⟩: ∃A c,v= .slice A 0 c:=(by rcases hv.2 with⟨rfl,_⟩|⟨g,cap,_,rfl,_⟩<;>exact⟨_,_,rfl⟩))|(refine aq ?_)|(refine ac2 U ?_;clear U;intro w U))
 have aeO:=I (show∀j,(Value.slice A 0 c).ownBlock=some j->bq none [⟨gk,165,[.int .i64 2,.int .i64 1,.int .i64 0,.int .i64 64,.pointer (some ⟨B.aeh,0,none⟩)]⟩,⟨aff,27,[.int .i64 2,.int .i64 1,.int .i64 0,.int .i64 64]⟩] j from λj aeD=>⟨λx Wy e=>by have:=(hv.lt j aeD).1;simp only[ad,E,av]at Wy;rcases Wy with rfl|rfl<;>(simp only at e;omega),λa e=>by cases e⟩);have WS:=I (show∀j,(Value.slice A 0 c).ownBlock=some j->w0.heap.size<=j from λj aeD=>D Q1.out (hv.lt j aeD).1);have abx:=I (show aaM.ownsRow 0 130 2 (.slice A 0 c) 0 []from mS hv (aL _));have aaH:=U;replace U:=aaH.base;clear hv Wr Yb Q1;go_upto_region 4 with(first|(go_at_call 148;refine a6 U (Kf _ A c _) ?_;clear U;intro aaM U)|(refine aq ?_)|(refine ac2 U ?_;clear U;intro w U))
 go_upto_region 6 with(first|(refine aq ?_)|(refine ac2 U ?_;clear U;intro w U))
 refine wp_loop_rounds 3 ?_;rw[rounds_succ];go_upto_region 8 with fail
 go_upto_region 9 with(first|(go_at_call 150;refine a6 U (BA _ B (H.out.below (aaH.back U).all)) ?_;clear U;intro aaM U)|(refine aq ?_)|(refine ac2 U ?_;clear U;intro w U))
 have Q2:=U.size;replace U:=U.new 130 [.int .i64 128,.int .i64 0];generalize aaM.alloc (.cells ([.int .i64 128,.int .i64 0]:List Value).toArray 130)=U5 at*;generalize aaM.heap.size=afL at*;have aaK:=U.cell (g:=afL) (i:=1) cX rfl;go_wp2_with fail;clear aaK;rw[rounds_succ];go_upto_region 8 with fail
 go_upto_region 9 with(first|(go_at_call 150;refine a6 U (BB _ B (H.out.below (aaH.back U).all)) ?_;clear U;intro aaM U)|(refine aq ?_)|(refine ac2 U ?_;clear U;intro w U))
 have Q3:=U.size;replace U:=U.new 130 [.int .i64 128,.int .i64 64];generalize aaM.alloc (.cells ([.int .i64 128,.int .i64 64]:List Value).toArray 130)=U6 at*;generalize aaM.heap.size=aaL at*;have aaK:=U.cell (g:=aaL) (i:=1) cX rfl;go_upto_region 12 with fail
 clear aaK;go_upto_region 13 with(first|(refine dE U rfl 58 130 _ rfl _ [.int .i64 128,.int .i64 64] rfl rfl (.agg #[.int .i64 0,.int .i64 0]) 2 16 bw cj rfl am am ?_;clear U;intro di w U dO;refine cN ?_)|(refine g0 U abx.out (λj aeD=>aeO.out j aeD) rfl _ _ 58 rfl (.agg #[.int .i64 0,.int .i64 0]) 16 bw cj rfl am rfl ⟨di,0,none⟩ 1 1 [.int .i64 128,.int .i64 64] rfl rfl am (U.news ag) rfl am am ?_;have NM:=U.size;clear U;intro g' cW lL w U e8 lm;refine cN ?_)|(refine aq ?_)|(refine ac2 U ?_;clear U;intro w U))
 have YF:=aaH.size;have TO:w0.heap.size<=g':=by
  rcases e8 with e8|e8
  ·exact WS.out _ e8
  ·exact D YF (D NM e8)
 replace U:=aah.Qt (T:=λ_=>True) (aaH.j5 U) (λb hb _=>⟨trivial,λe=>by have:=WS.out b e;omega⟩) (by simp only[ad,E,av];rintro x (rfl|rfl|rfl|rfl|rfl|rfl)<;>(simp only;omega));simp only[au,aU]at U;clear abx aeO WS aaH e8 lm dO Q2 Q3 YF TO NM;go_wp2_with fail;rw[rounds_succ];go_upto_region 15 with(first|(go_at_call 151;refine Calls.mono (HU _ _ _ _) ?_;rintro e aaM ⟨rfl,rfl⟩;skip)|(refine aq ?_)|(refine ac2 U ?_;clear U;intro w U))
 go_upto_region 16 with(first|(go_at_call 153;refine a6 U (Yl.out _) ?_;clear U;intro aaM U)|(refine aq ?_)|(refine ac2 U ?_;clear U;intro w U))
 have Q4:=U.size;replace U:=U.new 130 [.int .i64 128,.int .i64 64];generalize aaM.alloc (.cells ([.int .i64 128,.int .i64 64]:List Value).toArray 130)=NN at*;generalize aaM.heap.size=adE at*;have aaK:=U.cell (g:=adE) (i:=1) cX rfl;go_upto_region 17 with(first|(refine aq ?_)|(refine ac2 U ?_;clear U;intro w U))
 clear aaK Q4;go_wp2_with fail;refine wp_loop_rounds 2 ?_;rw[rounds_succ];have ZP:=I (show∀(j:Nat) (v:Value),([.int .i64 128,.int .i64 64]:List Value)[j]? =some v->NN.cell? ⟨g',0+j,none⟩=some v from λj v aeD=>by
  rcases j with _|_|j
  ·cases aeD;exact U.cell (g:=g') (i:=0) ag rfl
  ·cases aeD;exact U.cell (g:=g') (i:=1) ag rfl
  ·simp at aeD)
 go_upto_region 20 with(refine adD ZP.out ?_ rfl)
 clear ZP;have Q5:=U.size;replace U:=U.new 130 [.int .i64 128,.int .i64 64];generalize NN.alloc (.cells ([.int .i64 128,.int .i64 64]:List Value).toArray 130)=U7 at*;generalize NN.heap.size=Xz at*;have aaK:=U.cell (g:=Xz) (i:=1) cX rfl;clear aaK Q5;go_wp2_with(refine aaO U ?_);rw[rounds_succ];go_wp2_with(first|(go_at_call 144;refine Calls.mono (zW _) ?_;rintro e aaM ⟨rfl,rfl⟩;skip)|(refine aaO U ?_));go_ret;exact⟨rfl,U.all⟩
end
section
open Go.RowKit Tryz
section
variable(w:World)(A:Option Addr)(c:Nat)(af9:Value)
include w A c af9
theorem Kk:Calls prog 243 #[.slice A 0 c,af9] w λe w'=>e= .returned (.int .i64 (-1))/\w=w':=by
 go_enter func243,ntmps243;exact lc
theorem H2:Calls prog 162 #[.slice A 0 c,af9] w λe w'=>e= .returned (.bool false)/\w=w':=by
 go_enter func162,ntmps162;go_wp2_with fail;refine Calls.mono (Kk _ A c af9) ?_;rintro e aaM ⟨rfl,rfl⟩;go_wp2_with fail;go_ret;exact⟨rfl,rfl⟩
theorem Kl:Calls prog 85 #[.slice A 0 c,af9] w λe w'=>e= .returned (.bool true)/\Below w.heap.size w w':=by
 go_enter func85,ntmps85;have U:=aah.a0 w;go_upto_region 1 with(refine Ws U 177 ?_;clear U;intro aca w U VW)
 go_wp2_with fail;refine Calls.mono (H2 _ A c _) ?_;rintro e aaM ⟨rfl,rfl⟩;go_wp2_with fail;go_ret;exact⟨rfl,U.all⟩
end
variable(w0:World)(B:WB)(h:gB w0 B)
include h
theorem z0:Calls prog 84 #[.agg ([.int .i64 2,.int .i64 1,.int .i64 0,.int .i64 64,.pointer (some ⟨B.aeh,0,none⟩)]:List Value).toArray,.int .i64 0] w0 λe w'=>e= .returned (.tuple #[.slice none 0 0,.int .i64 0])/\Below w0.heap.size w0 w':=by
 have H:=I h;have U:=aah.a0 w0;clear h;have aeF:=I (show∀w',Below w0.heap.size w0 w'->Calls prog 81 #[.agg ([.int .i64 2,.int .i64 1,.int .i64 0,.int .i64 64,.pointer (some ⟨B.aeh,0,none⟩)]:List Value).toArray,.int .i64 1,.int .i64 0] w' λe du=>e= .returned (.int .u64 128)/\Below w'.heap.size w' du from λw' hb=>by
  have h1:=ib w' B (gB.below H.out hb) 1 0 1 am am rfl;rw[show W1.V 1=128 by kernel_rfl]at h1;exact h1)
 have W6:=I (show∀w',Below w0.heap.size w0 w'->Calls prog 81 #[.agg ([.int .i64 2,.int .i64 1,.int .i64 0,.int .i64 64,.pointer (some ⟨B.aeh,0,none⟩)]:List Value).toArray,.int .i64 3,.int .i64 0] w' λe du=>e= .returned (.int .u64 0)/\Below w'.heap.size w' du from λw' hb=>by
  have h1:=ib w' B (gB.below H.out hb) 3 0 3 am am rfl;rw[show W1.V 3=0 by kernel_rfl]at h1;exact h1)
 have adW:=I λw'=>bm 0 0 1 w' am am
 go_enter func84,ntmps84;go_upto_region 1 with(refine Ws U 165 ?_;clear U;intro gk w U tt)
 go_upto_region 2 with(first|(go_at_call 80;refine a6 U (tE _ B (H.out.below U.all)) ?_;clear U;intro aaM U)|(refine aq ?_)|(refine ac2 U ?_;clear U;intro w U))
 replace U:=U.new 56 [.int .i64 2,.int .i64 1,.int .i64 (-1),.int .i64 0];generalize aaM.alloc (.cells ([.int .i64 2,.int .i64 1,.int .i64 (-1),.int .i64 0]:List Value).toArray 56)=aa3 at*;generalize aaM.heap.size=gc at*;have VI:=U.cell (g:=gc) (i:=0) cX rfl;have acZ:=U.cell (g:=gk) (i:=0) kw rfl;go_upto_region 4 with(first|(go_at_call 104;refine Calls.mono (adW.out _) ?_;rintro e aaM ⟨rfl,rfl⟩;skip)|fail)
 clear VI acZ;replace U:=U.drew;refine wp_region_held_drew (S:=(c0 [⟨gk,165,[.int .i64 2,.int .i64 1,.int .i64 0,.int .i64 64,.pointer (some ⟨B.aeh,0,none⟩)]⟩])) aM ?_ (λX=>?_)
 ·exact U.bG aN
 refine az [[0,1,4,5]] ?_;refine aF 2 λK Z7=>?_
 go_simp
 (go_at_call 81;refine a6 U (aeF.out _ U.all) ?_;clear U;intro aaM U)
 go_wp2_with fail;refine WE Z7 λX=>?_
 refine Xh 3 ?_;refine aF 6 λK Z7=>?_
 go_simp
 (go_at_call 81;refine a6 U (W6.out _ U.all) ?_;clear U;intro aaM U)
 go_wp2_with fail;refine WE Z7 λX=>?_
 refine az [[7,8,9]] ?_;go_wp2_with fail;refine wp_loop_rounds 1 ?_;rw[rounds_succ];go_wp2_with fail;go_ret2;exact⟨rfl,U.all⟩
theorem En:Calls prog 83 #[.agg ([.int .i64 2,.int .i64 1,.int .i64 0,.int .i64 64]:List Value).toArray,.pointer (some ⟨B.aeh,0,none⟩),.int .u64 0,.int .i64 0] w0 λe w'=>e= .returned (.bool true)/\Below w0.heap.size w0 w':=by
 have H:=I h;have U:=aah.a0 w0;clear h;go_enter func83,ntmps83;go_upto_region 1 with(refine Ws U 27 ?_;clear U;intro aff w U Hr)
 go_wp2_with fail;go_ret;exact⟨rfl,U.all⟩
theorem BC(aff abQ gs:Nat)(aeJ:ah w0 aff 27 ([.int .i64 2,.int .i64 1,.int .i64 0,.int .i64 64]:List Value).toArray)(afl:w0.cell? ⟨abQ,0,none⟩=some (.pointer (some ⟨B.aeh,0,none⟩)))(YF:w0.cell? ⟨gs,0,none⟩=some (.int .i64 0)):Calls prog 82 #[.int .u64 0,.pointer (some ⟨aff,0,none⟩),.pointer (some ⟨abQ,0,none⟩),.pointer (some ⟨gs,0,none⟩)] w0 λe w'=>e= .returned (.bool true)/\Below w0.heap.size w0 w':=by
 have H:=I h;have ady:=I (fun(j:Nat) (v:Value) (aeD:([.int .i64 2,.int .i64 1,.int .i64 0,.int .i64 64]:List Value)[j]? =some v)=>(show w0.cell? ⟨aff,0+j,none⟩=some v by
  unfold ah at aeJ;simp only[World.cell?,ax,aeJ];simpa using aeD))
 clear h aeJ;go_enter func82,ntmps82;go_wp2_with(refine adD ady.out ?_ rfl);refine(En _ B H.out).mono ?_;rintro e aaM ⟨rfl,N⟩;go_wp2_with fail;go_ret;exact⟨rfl,N⟩
end
section
open Go.RowKit Tryz
variable(w0:World)(B:WB)(h:gB w0 B)
include h
theorem Eo:Calls prog 35 #[.agg ([.int .i64 2,.int .i64 1,.int .i64 0,.int .i64 64]:List Value).toArray,.pointer (some ⟨B.aeh,0,none⟩)] w0 λe w'=>e= .returned (.int .i64 0)/\Below w0.heap.size w0 w':=by
 have H:=I h;have U:=aah.a0 w0;clear h;have Y7:=I λw'=>kJ 2 1 0 64 w' am
 have ab7: ∀args w,(callFunc 82 args).run prog w= .ok (.enter 82 args) w:=enters_of func82 aM rfl;have adi:=I (show∀w',Below w0.heap.size w0 w'->Calls prog 81 #[.agg ([.int .i64 2,.int .i64 1,.int .i64 0,.int .i64 64,.pointer (some ⟨B.aeh,0,none⟩)]:List Value).toArray,.int .i64 4,.int .i64 0] w' λe du=>e= .returned (.int .u64 0)/\Below w'.heap.size w' du from λw' hb=>by
  have h1:=ib w' B (gB.below H.out hb) 4 0 4 am am rfl;rw[show W1.V 4=0 by kernel_rfl]at h1;exact h1)
 have aeF:=I (show∀w',Below w0.heap.size w0 w'->Calls prog 81 #[.agg ([.int .i64 2,.int .i64 1,.int .i64 0,.int .i64 64,.pointer (some ⟨B.aeh,0,none⟩)]:List Value).toArray,.int .i64 4,.int .i64 1] w' λe du=>e= .returned (.int .u64 0)/\Below w'.heap.size w' du from λw' hb=>by
  have h1:=ib w' B (gB.below H.out hb) 4 1 12 am am rfl;rw[show W1.V 12=0 by kernel_rfl]at h1;exact h1)
 go_enter func35,ntmps35;go_upto_region 1 with(first|(refine Ws U 27 ?_;clear U;intro aff w U Hr)|(refine Ws U 50 ?_;clear U;intro abQ w U NM))
 go_upto_region 3 with(first|(go_at_call 77;refine a6 U (Y7.out _) ?_;clear U;intro aaM U)|(refine aq ?_)|(refine ac2 U ?_;clear U;intro w U))
 go_upto_region 4 with(first|(refine VP U xc ?_;clear U;intro gk w U tt)|(refine aq ?_)|(refine ac2 U ?_;clear U;intro w U))
 go_upto_region 5 with(first|(go_at_call 78;refine a6 U (Bz _ B (H.out.below U.all)) ?_;clear U;intro aaM U)|(refine aq ?_)|(refine ac2 U ?_;clear U;intro w U))
 go_upto_region 7 with fail
 go_upto_region 8 with(first|(go_at_call 79;refine a6 U (zZ _ B (H.out.below U.all)) ?_;clear U;intro aaM U)|(refine aq ?_)|(refine ac2 U ?_;clear U;intro w U))
 go_upto_region 10 with fail
 have abz:=U.cell (g:=aff) (i:=0) ag rfl;go_upto_region 11 with fail
 clear abz;refine wp_loop_rounds 3 ?_;rw[rounds_succ];go_upto_region 13 with fail
 replace U:=U.new 3 [.int .i64 0];generalize aaM.alloc (.cells ([.int .i64 0]:List Value).toArray 3)=U8 at*;generalize aaM.heap.size=gs at*;go_upto_region 14 with(first|(go_at_call 80;refine a6 U (tE _ B (H.out.below U.all)) ?_;clear U;intro aaM U)|(refine aq ?_)|(refine ac2 U ?_;clear U;intro w U))
 replace U:=U.new 56 [.int .i64 2,.int .i64 1,.int .i64 (-1),.int .i64 0];generalize aaM.alloc (.cells ([.int .i64 2,.int .i64 1,.int .i64 (-1),.int .i64 0]:List Value).toArray 56)=U9 at*;generalize aaM.heap.size=gc at*;go_upto_region 15 with(first|(go_at_call 81;refine a6 U (adi.out _ U.all) ?_;clear U;intro aaM U)|(refine aq ?_)|(refine ac2 U ?_;clear U;intro w U))
 go_upto_region 16 with(first|(refine VP U (z:=.nilFunc) aM (ds:= [.nilFunc]) ?_;clear U;intro aca w U Va)|(refine aq ?_)|(refine ac2 U ?_;clear U;intro w U))
 go_upto_region 21 with(refine aaO U ?_)
 go_upto_region 24 with(first|(go_at_call 84;refine a6 U (z0 _ B (H.out.below U.all)) ?_;clear U;intro aaM U)|(refine aq ?_)|(refine ac2 U ?_;clear U;intro w U))
 go_wp2_with(first|(go_at_call 82;refine a6 U (BC _ B (H.out.below U.all) aff abQ gs (U.b (g:=aff) ag) (U.cell (g:=abQ) (i:=0) ag rfl) (U.cell (g:=gs) (i:=0) ag rfl)) ?_;clear U;intro aaM U)|(go_at_call 85;refine a6 U (Kl _ _ _ _) ?_;clear U;intro aaM U)|(refine aaO U ?_));rw[rounds_succ];go_upto_region 13 with fail
 replace U:=U.new 3 [.int .i64 1];generalize aaM.alloc (.cells ([.int .i64 1]:List Value).toArray 3)=Vb at*;generalize aaM.heap.size=gt at*;go_upto_region 14 with(first|(go_at_call 80;refine a6 U (xR _ B (H.out.below U.all)) ?_;clear U;intro aaM U)|(refine aq ?_)|(refine ac2 U ?_;clear U;intro w U))
 replace U:=U.new 56 [.int .i64 1,.int .i64 0,.int .i64 (-1),.int .i64 0];generalize aaM.alloc (.cells ([.int .i64 1,.int .i64 0,.int .i64 (-1),.int .i64 0]:List Value).toArray 56)=Vc at*;generalize aaM.heap.size=Wp at*;go_upto_region 15 with(first|(go_at_call 81;refine a6 U (aeF.out _ U.all) ?_;clear U;intro aaM U)|(refine aq ?_)|(refine ac2 U ?_;clear U;intro w U))
 go_upto_region 16 with(first|(refine VP U (z:=.nilFunc) aM (ds:= [.nilFunc]) ?_;clear U;intro ge w U TP)|(refine aq ?_)|(refine ac2 U ?_;clear U;intro w U))
 go_wp2_with(refine aaO U ?_);rw[rounds_succ];go_wp2_with fail;go_ret;exact⟨rfl,U.all⟩
end
section
open Go.RowKit Tryz
theorem pG{G:Prop}(h:G:=by
 go_upto_region 1 with(refine Ws U 46 ?_;clear U;intro Bn w U VW)
 have afc:=U.cell (g:=Bn) (i:=8) cX rfl;have ab4:=U.cell (g:=Bn) (i:=9) cX rfl;have DI:=U.cell (g:=Bn) (i:=10) cX rfl;go_wp2_with fail;go_ret;exact⟨rfl,U.all⟩):G:=h
theorem H3(w0:World)(ZJ:Option Addr)(XF:Nat):
 Calls prog 124 #[.agg ([.int .i64 0,.int .u8 2,.int .u8 0,.int .u8 0,.int .u8 0,.int .i64 64,.int .i64 0,.int .i64 0,.int .i64 0,.int .i64 0,.int .i64 0,.int .i64 0,.int .i64 1,.slice ZJ 0 XF]:List Value).toArray] w0 λe w'=>e= .returned (.bool true)/\Below w0.heap.size w0 w':=by
 have U:=aah.a0 w0;go_enter func124,ntmps124;exact pG
theorem Km(w0:World)(ZJ:Option Addr)(XF:Nat):
 Calls prog 125 #[.agg ([.int .i64 0,.int .u8 2,.int .u8 0,.int .u8 0,.int .u8 0,.int .i64 64,.int .i64 0,.int .i64 0,.int .i64 0,.int .i64 0,.int .i64 0,.int .i64 0,.int .i64 1,.slice ZJ 0 XF]:List Value).toArray] w0 λe w'=>e= .returned (.bool false)/\Below w0.heap.size w0 w':=by
 have U:=aah.a0 w0;go_enter func125,ntmps125;exact pG
theorem Ep(w0:World)(bs os cs:Nat)(ZJ:Option Addr)(XF:Nat)(Wy: ∀(j:Nat) (v:Value),([.int .i64 0,.int .u8 2,.int .u8 0,.int .u8 0,.int .u8 0,.int .i64 64,.int .i64 0,.int .i64 0,.int .i64 0,.int .i64 0,.int .i64 0,.int .i64 0,.int .i64 1,.slice ZJ 0 XF]:List Value)[j]? =some v->w0.cell? ⟨bs,os+j,none⟩=some v)(xT:bs<w0.heap.size):
 Calls prog 69 #[.agg ([.int .i64 2,.int .i64 1,.int .i64 0,.int .i64 64]:List Value).toArray,.slice (some ⟨bs,os,none⟩) 1 cs] w0 λe w'=>e= .returned (.int .i64 0)/\Below w0.heap.size w0 w':=by
 have U:=aah.a0 w0;have VN:=I Wy;clear Wy;go_enter func69,ntmps69;go_upto_region 1 with(refine Ws U 27 ?_;clear U;intro hk w U VW)
 go_upto_region 3 with(first|(go_at_call 77;refine a6 U (kJ 2 1 0 64 _ am) ?_;clear U;intro aaM U)|(refine aq ?_))
 go_upto_region 4 with(refine Ka U ?_;clear U;intro acW w U lH dP _ _)
 have Ld:=(Array.getElem?_eq_some_iff.1 lH).1;go_upto_region 5 with(refine Ka U ?_;clear U;intro abT w U nc qS kd be)
 have bo:acW≠abT:=J;replace lH:=(be.block acW Ld).trans lH;clear be Ld kd;have yT:=I lH;have vj:=I nc;clear lH nc;go_wp2_with fail;refine wp_loop_rounds 2 ?_;rw[rounds_succ];have aaH:=U;replace U:=aaH.base;have ZP:=I (fun(j:Nat) (v:Value) (aeD:([.int .i64 0,.int .u8 2,.int .u8 0,.int .u8 0,.int .u8 0,.int .i64 64,.int .i64 0,.int .i64 0,.int .i64 0,.int .i64 0,.int .i64 0,.int .i64 0,.int .i64 1,.slice ZJ 0 XF]:List Value)[j]? =some v)=>((aaH.all.cell (p:=⟨bs,os+j,none⟩) xT).trans (VN.out j v aeD)));go_upto_region 8 with(first|(refine adD ZP.out ?_ rfl)|fail)
 replace U:=U.new 46 [.int .i64 0,.int .u8 2,.int .u8 0,.int .u8 0,.int .u8 0,.int .i64 64,.int .i64 0,.int .i64 0,.int .i64 0,.int .i64 0,.int .i64 0,.int .i64 0,.int .i64 1,.slice ZJ 0 XF];generalize w.alloc (.cells ([.int .i64 0,.int .u8 2,.int .u8 0,.int .u8 0,.int .u8 0,.int .i64 64,.int .i64 0,.int .i64 0,.int .i64 0,.int .i64 0,.int .i64 0,.int .i64 0,.int .i64 1,.slice ZJ 0 XF]:List Value).toArray 46)=af1 at*;generalize w.heap.size=aaT at*;have VI:=U.cell (g:=aaT) (i:=0) cX rfl;have WJ:=U.cell (g:=hk) (i:=1) kw rfl;have adW:=I λw'=>bm 0 0 0 w' am am
 have Vv:=I λw'=>H3 w' ZJ XF
 go_upto_region 10 with(first|(go_at_call 104;refine Calls.mono (adW.out _) ?_;rintro e aaM ⟨rfl,rfl⟩;skip)|(go_at_call 124;refine a6 U (Vv.out _) ?_;clear U;intro aaM U)|(refine WG U ?_))
 have VI:=U.cell (g:=aaT) (i:=0) cX rfl;have le:=mR (P:=prog) (ok:=true) (q:=.i64) (key:=0) (z:=.agg ([.int .i64 0,.int .u8 0,.int .u8 0,.int .u8 0,.int .u8 0,.int .i64 0,.int .i64 0,.int .i64 0,.int .i64 0,.int .i64 0,.int .i64 0,.int .i64 0,.int .i64 0,.slice none 0 0]:List Value).toArray) (r:=none) (aaH.qY vj.out U) underlying231 underlying3 aM rfl rfl;go_upto_region 11 with fail
 clear le;replace U:=U.new 46 [.int .i64 0,.int .u8 0,.int .u8 0,.int .u8 0,.int .u8 0,.int .i64 0,.int .i64 0,.int .i64 0,.int .i64 0,.int .i64 0,.int .i64 0,.int .i64 0,.int .i64 0,.slice none 0 0];generalize aaM.alloc (.cells ([.int .i64 0,.int .u8 0,.int .u8 0,.int .u8 0,.int .u8 0,.int .i64 0,.int .i64 0,.int .i64 0,.int .i64 0,.int .i64 0,.int .i64 0,.int .i64 0,.int .i64 0,.slice none 0 0]:List Value).toArray 46)=age at*;generalize aaM.heap.size=aab at*;go_upto_region 13 with fail
 have H4:=I (aaH.qY yT.out U);have Le:=I (aaH.qY vj.out U);clear yT vj;have aen:=aaH.back U;clear U aaH VI WJ;have VI:=aen.cell (g:=aaT) (i:=0) kw rfl;have Wn:=I λw'=>Km w' ZJ XF
 go_upto_region 14 with(first|(refine Ww aen ?_)|(refine Kb aen Le.out (.inl qS) underlying231 underlying3 ?_;intro Vd Kn nc Yq))
 clear nc;have yT:=I ((Yq.block acW (Array.getElem?_eq_some_iff.1 H4.out).1 bo).trans H4.out);clear H4 Le aen VI Yq;have aaH:=Kn;have U:=aaH.base;clear Kn;go_upto_region 15 with(first|(refine Ww U ?_)|(go_at_call 125;refine a6 U (Wn.out _) ?_;clear U;intro aaM U))
 have XO:=U.cell (g:=aaT) (i:=9) kw rfl;have le:=mR (P:=prog) (ok:=false) (q:=.i64) (key:=0) (z:=.int .i64 0) (r:=none) (aaH.qY yT.out U) underlying230 underlying3 aM rfl rfl;go_upto_region 17 with fail
 have aen:=aaH.back U;have lH:=aaH.qY yT.out U;go_upto_region 18 with(refine Kb aen lH (.inl dP) underlying230 underlying3 ?_;intro Ve Kn _ _)
 clear lH aen le XO U aaH yT;go_wp2_with fail;rw[rounds_succ];go_wp2_with fail;go_ret;exact⟨rfl,Kn.all⟩
end
section
open Go.RowKit Tryz
section
variable(w:World)(A:Option Addr)(c:Nat)(af9:Value)
include w A c af9
theorem Ko:
 Calls prog 229 #[.slice A 1 c,.int .i64 0,.int .i64 1,af9] w λe w'=>e= .returned (.tuple #[])/\w=w':=by
 go_enter func229,ntmps229;exact ld
theorem Kp:
 Calls prog 142 #[.slice A 1 c,.int .i64 1,af9] w λe w'=>e= .returned (.tuple #[])/\w=w':=by
 go_enter func142,ntmps142;go_wp2_with fail;refine wp_loop_rounds 1 ?_;rw[rounds_succ];go_wp2_with fail;refine Calls.mono (Ko _ A c af9) ?_;rintro e aaM ⟨rfl,rfl⟩;exact ld
theorem NO:
 Calls prog 74 #[.slice A 1 c,af9] w λe w'=>e= .returned (.tuple #[])/\w=w':=by
 go_enter func74,ntmps74;go_wp2_with fail;refine Calls.mono (Kp _ A c af9) ?_;rintro e aaM ⟨rfl,rfl⟩;go_wp2_with fail;refine fY ?_;exact⟨rfl,rfl⟩
end
theorem wS(w0:World)(bs os cs:Nat)(ZJ:Option Addr)(XF:Nat)(Wy: ∀(j:Nat) (v:Value),([.int .i64 0,.int .u8 2,.int .u8 0,.int .u8 0,.int .u8 0,.int .i64 64,.int .i64 0,.int .i64 0,.int .i64 0,.int .i64 0,.int .i64 0,.int .i64 0,.int .i64 1,.slice ZJ 0 XF]:List Value)[j]? =some v->w0.cell? ⟨bs,os+j,none⟩=some v)(xT:bs<w0.heap.size):
 Calls prog 34 #[.slice (some ⟨bs,os,none⟩) 1 cs] w0 λe w'=> ∃g c,e= .returned (.slice (some ⟨g,0,none⟩) 1 c)/\w'.cell? ⟨g,0,none⟩=some (.int .i64 0)/\w0.heap.size<=g/\Below w0.heap.size w0 w':=by
 have U:=aah.a0 w0;have VN:=I Wy;clear Wy;go_enter func34,ntmps34;go_upto_region 1 with(refine Ws U 34 ?_;clear U;intro Vt w U VW)
 have ZP:=I (fun(j:Nat) (v:Value) (aeD:([.int .i64 0,.int .u8 2,.int .u8 0,.int .u8 0,.int .u8 0,.int .i64 64,.int .i64 0,.int .i64 0,.int .i64 0,.int .i64 0,.int .i64 0,.int .i64 0,.int .i64 1,.slice ZJ 0 XF]:List Value)[j]? =some v)=>((U.all.cell (p:=⟨bs,os+j,none⟩) xT).trans (VN.out j v aeD)));have VI:=U.cell (g:=Vt) (i:=0) cX rfl;go_wp2_with fail;clear VI;refine wp_loop_rounds 2 ?_;rw[rounds_succ];go_upto_region 5 with(refine adD ZP.out ?_ rfl)
 replace U:=U.new 46 [.int .i64 0,.int .u8 2,.int .u8 0,.int .u8 0,.int .u8 0,.int .i64 64,.int .i64 0,.int .i64 0,.int .i64 0,.int .i64 0,.int .i64 0,.int .i64 0,.int .i64 1,.slice ZJ 0 XF];generalize w.alloc (.cells ([.int .i64 0,.int .u8 2,.int .u8 0,.int .u8 0,.int .u8 0,.int .i64 64,.int .i64 0,.int .i64 0,.int .i64 0,.int .i64 0,.int .i64 0,.int .i64 0,.int .i64 1,.slice ZJ 0 XF]:List Value).toArray 46)=Wo at*;generalize w.heap.size=adT at*;have VI:=U.cell (g:=adT) (i:=9) cX rfl;go_upto_region 6 with fail
 go_upto_region 7 with(first|(refine dE U rfl 30 3 _ rfl _ [.int .i64 0] rfl rfl (.int .i64 0) 1 8 bg b6 rfl am am ?_;clear U;intro di w U dO;refine cN ?_)|(refine g0 U (World.ownsRow_nil _ _ _ _) (λj aeD=>by cases aeD) rfl _ _ 30 rfl (.int .i64 0) 8 bg b6 rfl am rfl ⟨di,0,none⟩ 1 1 [.int .i64 0] rfl rfl am (U.news ag) rfl am am ?_;clear U;intro g' cW aei w U e8 lm;refine cN ?_))
 go_wp2_with fail;rw[rounds_succ];go_wp2_with fail;have XJ:=U.mI λb hb e=>by cases e
 have vF:w0.heap.size<=g':=XJ.ge (g:=g') cX;have fc:=XJ.cell (g:=g') (i:=0) cX rfl;go_wp2_with fail;refine Calls.mono (NO _ _ _ _) ?_;rintro e aaM ⟨rfl,rfl⟩;go_wp2_with fail;go_ret;exact⟨g',_,rfl,fc,vF,XJ.all⟩
end
section
open Go.RowKit Tryz
theorem pH{G:Prop}(h:G:=by
 have U:=aah.a0 w0;go_enter func282,ntmps282;go_upto_region 1 with(refine Ws U 319 ?_;clear U;intro g w U VW)
 have VI:=U.cell (g:=g) (i:=0) cX rfl;go_wp2_with fail;go_ret;exact⟨rfl,U.all⟩):G:=h
theorem Er(w:World):(Instr.makeSlice 315 (.int .i64 ((2:Nat):Int)) (.int .i64 ((2:Nat):Int))).run prog w= .ok (.slice (some ⟨w.heap.size,0,none⟩) 2 2) (w.alloc (.cells ([.int .i64 0,.int .i64 0,.int .i64 0,.int .i64 0,.int .i64 0,.int .i64 0,.int .i64 0,.int .i64 0,.int .i64 0,.int .i64 0,.int .i64 0,.int .i64 0]:List Value).toArray 319)):=
 vr (z:=.agg #[.int .i64 0,.int .i64 0,.int .i64 0,.int .i64 0,.int .i64 0,.int .i64 0]) (sz:=6) (bytes:=48) underlying315 aM am am aM w
section
variable(w0:World)
include w0
theorem H5:
 Calls prog 127 #[.agg ([.int .i64 2,.int .i64 1,.int .i64 0,.int .i64 64]:List Value).toArray] w0 λe w'=> ∃gs acw aff rg,e= .returned (.tuple #[.pointer (some ⟨gs,0,none⟩),.int .i64 0])/\aah w0 (λ_=>True) w' none [⟨gs,317,[.slice (some ⟨acw,0,none⟩) 2 2,.pointer (some ⟨aff,0,none⟩)]⟩,⟨acw,319,[.int .i64 2,.int .i64 1,.int .i64 (-1),.int .i64 0,.int .i64 128,.int .i64 0,.int .i64 0,.int .i64 0,.int .i64 (-1),.int .i64 0,.int .i64 0,.int .i64 0]⟩]/\
  cY w' aff rg 128 192 [⟨128,64⟩]/\w0.heap.size<=aff/\w0.heap.size<=rg:=by
 have U:=aah.a0 w0;have aeg:=I Er;have afm:=I λw'=>BU w' 128 64 am am
 have ac5:=I λw'=>jS 2 1 0 64 w' (I am) am
 have Yl:=I λw'=>pR 2 1 0 64 w' (I am) am am
 go_enter func127,ntmps127;go_upto_region 1 with(refine Ws U 27 ?_;clear U;intro hk w U VW)
 go_upto_region 3 with(first|(go_at_call 77;refine a6 U (kJ 2 1 0 64 _ am) ?_;clear U;intro aaM U)|(refine Ww U ?_))
 go_upto_region 4 with(first|(refine aaO U ?_)|(refine NI U aeg.out ?_;clear U;intro acw w U Vf)|(refine Ws U 317 ?_;clear U;intro gs w U Tm))
 go_wp2_with(first|(refine aq ?_)|(refine ac2 U ?_;clear U;intro w U));refine wp_loop_rounds 3 ?_;rw[rounds_succ];go_wp2_with(first|(refine aq ?_)|(refine ac2 U ?_;clear U;intro w U));rw[rounds_succ];go_wp2_with(first|(refine aq ?_)|(refine ac2 U ?_;clear U;intro w U));rw[rounds_succ];go_upto_region 10 with(first|(refine aq ?_)|(refine ac2 U ?_;clear U;intro w U))
 replace U:=U.drew;refine wp_region_held_drew (S:=(c0 [⟨gs,317,[.slice (some ⟨acw,0,none⟩) 2 2,.pointer none]⟩,⟨hk,27,[.int .i64 2,.int .i64 1,.int .i64 0,.int .i64 64]⟩])) aM ?_ (λX=>?_)
 ·exact U.bG aN
 refine az [[0,1,2,3,4]] ?_;refine aF 5 λK Z7=>?_
 go_simp;go_at_call 199;refine a6 U (ac5.out _) ?_;clear U;intro aaM U;go_wp2_with fail;refine WE Z7 λX=>?_
 refine az [[6,7,8,9,10],[11]] ?_;clear U;intro w U;go_upto_region 12 with(first|(go_at_call 153;refine a6 U (Yl.out _) ?_;clear U;intro aaM U)|(refine Ww U ?_)|(refine VP U eK ?_;clear U;intro ge w U TP)|(refine ac2 U ?_;clear U;intro w U))
 go_wp2_with(first|(go_at_call 198;refine Calls.mono (afm.out _) ?_;rintro e aaM ⟨aff,rg,rfl,afj,dP,qS,ae3⟩;have ZG:=I (And.intro (U.hO dP) (U.hO qS));have aaq:=I afj;have aaH:=U.below ae3.q9;clear U afj dP qS ae3;have U:=aaH.base)|(refine aq ?_)|(refine ac2 U ?_;clear U;intro w U));go_ret2;obtain⟨⟨abX,V3⟩,aeR,Ym⟩:=ZG.out;exact⟨gs,acw,aff,rg,rfl,aah.front (L1:= [_,_]) (L2:= [_]) (aaH.back U).c6,aaq.out.Wu (U.Wu.block aff aaq.out.lt.1 V3) (U.Wu.block rg aaq.out.lt.2 Ym),abX,aeR⟩
theorem Es:Calls prog 282 #[.agg ([.int .i64 2,.int .i64 1,.int .i64 (-1),.int .i64 0,.int .i64 128,.int .i64 0]:List Value).toArray] w0 λe w'=>e= .returned (.bool false)/\Below w0.heap.size w0 w':=by
 exact pH
theorem Et:Calls prog 282 #[.agg ([.int .i64 0,.int .i64 0,.int .i64 (-1),.int .i64 0,.int .i64 0,.int .i64 0]:List Value).toArray] w0 λe w'=>e= .returned (.bool true)/\Below w0.heap.size w0 w':=by
 exact pH
theorem H6(acw:Nat)(hb:ah w0 acw 319 ([.int .i64 2,.int .i64 1,.int .i64 (-1),.int .i64 0,.int .i64 128,.int .i64 0,.int .i64 0,.int .i64 0,.int .i64 (-1),.int .i64 0,.int .i64 0,.int .i64 0]:List Value).toArray):
 Calls prog 281 #[.slice (some ⟨acw,0,none⟩) 2 2,.func (.func 282) #[] #[]] w0 λe w'=>e= .returned (.int .i64 1)/\Below w0.heap.size w0 w':=by
 have ab7: ∀args w,(callFunc 282 args).run prog w= .ok (.enter 282 args) w:=enters_of func282 aM rfl;have U:=aah.g8 hb;have aav:=I hb;clear hb;go_enter func281,ntmps281;go_wp2_with fail;refine wp_loop_rounds 2 ?_;rw[rounds_succ];go_wp2_with(refine Ww U ?_);refine(Es _).mono ?_;rintro e aaM ⟨rfl,N⟩;replace U:=U.below N;clear N;go_wp2_with fail;rw[rounds_succ];go_wp2_with(refine Ww U ?_);refine(Et _).mono ?_;rintro e aaM ⟨rfl,N⟩;replace U:=U.below N;clear N;go_wp2_with fail;go_ret;exact⟨rfl,U.ro aav.out cX⟩
theorem z1(gs acw aff rg:Nat)(YF:ah w0 gs 317 ([.slice (some ⟨acw,0,none⟩) 2 2,.pointer (some ⟨aff,0,none⟩)]:List Value).toArray)(YJ:ah w0 acw 319 ([.int .i64 2,.int .i64 1,.int .i64 (-1),.int .i64 0,.int .i64 128,.int .i64 0,.int .i64 0,.int .i64 0,.int .i64 (-1),.int .i64 0,.int .i64 0,.int .i64 0]:List Value).toArray)(afj:cY w0 aff rg 128 192 [⟨128,64⟩])(bo:acw≠gs/\aff≠gs/\rg≠gs/\aff≠acw/\rg≠acw):
 Calls prog 208 #[.pointer (some ⟨gs,0,none⟩),.int .i64 64] w0 λe w'=>e= .returned (.tuple #[.int .i64 1,.int .i64 0])/\Z1 (λb=>b≠gs/\b≠acw/\b≠aff/\b≠rg) w0 w':=by
 obtain⟨abX,V3,aeR,Ym,YP⟩:=bo;have U:aah w0 (λb=>b≠gs/\b≠acw/\b≠aff/\b≠rg) w0 none [⟨acw,319,[.int .i64 2,.int .i64 1,.int .i64 (-1),.int .i64 0,.int .i64 128,.int .i64 0,.int .i64 0,.int .i64 0,.int .i64 (-1),.int .i64 0,.int .i64 0,.int .i64 0]⟩,⟨gs,317,[.slice (some ⟨acw,0,none⟩) 2 2,.pointer (some ⟨aff,0,none⟩)]⟩]:=
  ((aah.start (A:=none) _ w0 trivial (λa e=>by cases e)).jY YF (je.nil _) (.inr λq=>q.1 rfl) (λa e=>by cases e)).jY YJ ((je.nil _).cons (λe=>abX e.symm)) (.inr λq=>q.2.1 rfl) (λa e=>by cases e)
 have aaq:=I afj;have WI:=I λw'=>bm 64 1 8192 w' am am
 have abI:=I (show∀w',Calls prog 264 #[.int .i64 64] w' λe du=>e= .returned (.tuple #[.int .i64 64,.int .i64 0])/\w'=du from λw'=>tv 64 w' am am);have ZG:=I (And.intro V3 (And.intro aeR (And.intro Ym YP)));clear YF YJ afj abX V3 aeR Ym YP;go_enter func208,ntmps208;go_wp2_with(first|(go_at_call 104;refine Calls.mono (WI.out _) ?_;rintro e aaM ⟨rfl,rfl⟩;skip)|first|(refine aq ?_)|(refine ac2 U ?_;clear U;intro w U));refine(H6 _ acw (U.b cX)).mono ?_;rintro e aaM ⟨rfl,N⟩;replace U:=U.below N;have MN:=I (aaq.out.Wu (N.block _ aaq.out.lt.1) (N.block _ aaq.out.lt.2));clear N aaq;go_wp2_with(first|(go_at_call 264;refine Calls.mono (abI.out _) ?_;rintro e aaM ⟨rfl,rfl⟩;skip)|first|(refine aq ?_)|(refine ac2 U ?_;clear U;intro w U));refine(uw _ aff rg 128 192 64 [⟨128,64⟩] am aN aN MN.out).mono ?_;rintro e WW ⟨rfl,-,ae3⟩;obtain⟨V3,aeR,Ym,YP⟩:=ZG.out;replace U:=aah.calls (S:=λb=>b≠gs/\b≠acw/\b≠aff/\b≠rg) U ae3 (λb _ h=>⟨h,h.2.2⟩) (λx Wy=>by
  simp only[ad,E,av]at Wy;rcases Wy with rfl|rfl
  ·exact⟨Ym.symm,YP.symm⟩
  ·exact⟨V3.symm,aeR.symm⟩)
 clear ae3 V3 aeR Ym YP;have aal:e4 [(⟨128,64⟩:Ext)] 64=(128,true,[]):=aM;rw[aal];clear aal;go_wp2_with(first|(refine aq ?_)|(refine ac2 U ?_;clear U;intro w U));go_ret2;exact⟨rfl,U.Wu⟩
end
end
section
open Go.RowKit Tryz
section
variable{b4 w w':World}{S:Nat->Prop}{L L' L2:List abN}{X9:Program}{o:Oper}{a:Act}{K:Act->World->Prop}{Q:Exit->Act->World->Prop}{ops:Array Oper}{rest:List Oper}
theorem lR{G:Prop}(h:G:=by
 refine WE Z7 λX=>?_
 refine az [[10],[11],[12,13]] ?_;clear U;intro Lf TQ w U;go_wp2_with fail;go_ret2;exact⟨Lf,gt,gs,acw,aff,rg,_,aa2,_,rfl,U.b ag,U.b ag,U.b ag,U.b ag,aaq.out.Wu (U.Wu.block aff aaq.out.lt.1 Q6.out.1) (U.Wu.block rg aaq.out.lt.2 Q6.out.2),(aaH.back U).all,(aaH.back U).ge (g:=Lf) ag,(aaH.back U).ge (g:=gs) ag,(aaH.back U).ge (g:=acw) ag,ZG.out.1.1,ZG.out.2.1⟩):G:=h
theorem pI{G:Prop}(h:G:=by
 refine WE Z7 λX=>?_
 refine aF 5 λK Z7=>?_
 rw[Z (by rfl)];refine xQ U afd.out ?_;clear U;intro aa2 w U NP;exact lR):G:=h
theorem pJ{G:Prop}(h:G:=by
 refine WE Z7 λX=>?_
 refine aF 8 λK Z7=>?_
 rw[Z (by rfl)];refine xQ U Y4.out ?_;clear U;intro gt w U JU;exact lR):G:=h
theorem pK{G:Prop}(h:G:=by
 refine WE Z7 λX=>?_
 refine aF 9 λK Z7=>?_
 rw[Z (by rfl)];refine Kq U ?_;clear U;intro abG w U;exact lR):G:=h
section
variable(h:aah b4 S w none L)
include h
theorem TR{f:Nat->Value}{m j g:Nat}{r:List Value}{u:Value}{t:TypeId}(aeD:j<m)(Z7: ∀w',aah b4 S w' none L'->wpList X9 ops Q rest (a.put o.dst undef) w'){Yn:TypeId}{x y:Operand}
 (afl:Region.wanted o (yielded ops a.tmps)=true:=by rfl)(ZQ:o.op= .store Yn x y:=by exact rfl)(Wy:a.eval x= .pointer (some ⟨g,j,none⟩):=by exact rfl)(hy:dt a y=some u:=by exact rfl)(hv:u.cells= [u].toArray:=by exact rfl)
 (XJ:aco L g t ((List.range m).map f++r) ((List.range m).map (put f j u)++r) L':=by exact cf)(hi:(X9.info? Yn).map (·.size)=some 1:=by kernel_rfl)(h1: [u].all (·.oneCell')=true:=by exact rfl):wpList X9 ops Q (o::rest) a w:=
 wpList_step λK k=>afA h aeD (λw' s=>k _ _ (Z7 w' s)) afl ZQ Wy hy hv XJ hi h1
theorem aah.join(k:aah w (λ_=>True) w' none L2):aah b4 S w' none (L2++L):=by
 have ae3:=h.below k.all;have ge: ∀x,x∈L2->w.heap.size<=x.g:=λx Wy=>(k.fr x Wy).resolve_right λq=>q trivial
 refine⟨λx Wy=>?_,?_,λx Wy=>?_,ae3.Wu,trivial,λa e=>by cases e⟩
 ·rcases List.mem_append.1 Wy with q|q
  ·exact k.bC x q
  ·exact ae3.bC x q
 ·rw[cP,List.nodup_append];refine⟨k.aed,h.aed,λa Xg b hb e=>?_⟩;obtain⟨x,Wy,rfl⟩:=List.mem_map.1 Xg;obtain⟨y,hy,rfl⟩:=List.mem_map.1 hb;have h1:=ge x Wy;have aaV:=(h.bC y hy).lt;omega
 ·rcases List.mem_append.1 Wy with q|q
  ·exact .inl (D h.size (ge x q))
  ·exact h.fr x q
theorem Kq(Z7: ∀b w',aah b4 S w' none L->K (a.put o.dst (.map (some b))) w'){t:TypeId}(ZQ:o.op= .makeMap t none:=by exact rfl):Oper.wp X9 o a w K Q:=by
 have aaV:=Z7 w.heap.size _ (h.below ((Below.refl w.heap.size w).alloc (ai _) (.map #[] 0)));unfold Oper.wp execOp;simp only[ZQ,Instr.makeMap];simpa [go_sem]using aaV
end
end
theorem cY.keeps{w0 w:World}{S:Nat->Prop}{L:List abN}{aff rg:Nat}{a4 aaY:Int}{l:List Ext}(h:cY w aff rg a4 aaY l)(aaH:aah w0 S w none L)(h1:(L.map abN.t).contains 363=false:=by rfl)(aaV:(L.map abN.t).contains 130=false:=by rfl):bq none L aff/\bq none L rg:=by
 obtain⟨v,hb,ZV⟩:=h.ex;have abX:=zI aaH hb h1;refine⟨⟨abX,λa e=>by cases e⟩,?_⟩;rcases ZV with⟨_,_,e,_⟩|⟨cap,rest,_,be,_⟩
 ·rw[e];exact⟨abX,λa e=>by cases e⟩
 ·exact⟨zI aaH be aaV,λa e=>by cases e⟩
theorem H7(w:World):(Instr.makeSlice 241 (.int .i64 ((2:Nat):Int)) (.int .i64 ((2:Nat):Int))).run prog w= .ok (.slice (some ⟨w.heap.size,0,none⟩) 2 2) (w.alloc (.cells ([.int .i64 0,.int .u64 0,.slice none 0 0,.int .i64 0,.int .u64 0,.slice none 0 0]:List Value).toArray 325)):=
 vr (z:=.agg #[.int .i64 0,.int .u64 0,.slice none 0 0]) (sz:=3) (bytes:=40) underlying241 aM am am aM w
theorem BD(w:World):(Instr.makeSlice 242 (.int .i64 ((1:Nat):Int)) (.int .i64 ((1:Nat):Int))).run prog w= .ok (.slice (some ⟨w.heap.size,0,none⟩) 1 1) (w.alloc (.cells ([.int .u64 0,.int .u64 0,.int .u64 0,.int .u64 0,.slice none 0 0]:List Value).toArray 248)):=
 vr (z:=.agg #[.int .u64 0,.int .u64 0,.int .u64 0,.int .u64 0,.slice none 0 0]) (sz:=5) (bytes:=56) underlying242 aM am am aM w
theorem Kr(w:World):(Instr.makeSlice 28 (.int .i64 ((8:Nat):Int)) (.int .i64 ((8:Nat):Int))).run prog w= .ok (.slice (some ⟨w.heap.size,0,none⟩) 8 8) (w.alloc (.cells ((List.range 8).map λ_=>Value.slice none 0 0).toArray 95)):=
 vr (z:=.slice none 0 0) (sz:=1) (bytes:=24) underlying28 aM am am aM w
theorem Ks(w0:World)(ado:Nat->Prop)(Y8:Value)(aeI:Nat->Value)(hF:eF w0 ado Y8 (bX aeB) aeI):
 Calls prog 71 #[.agg ([.int .i64 2,.int .i64 1,.int .i64 0,.int .i64 64]:List Value).toArray,Y8] w0 λe w'=> ∃aaD gt gs acw aff rg Zv aa2 WP,e= .returned (.tuple #[.pointer (some ⟨aaD,0,none⟩),.int .i64 0])/\ah w' aaD 245 ([.int .i64 2,.int .i64 1,.int .i64 0,.int .i64 64,Zv,.pointer (some ⟨gs,0,none⟩),.slice (some ⟨aa2,0,none⟩) 2 2,.slice (some ⟨gt,0,none⟩) 1 1,WP]:List Value).toArray/\
  ah w' gt 248 ([.int .u64 0,.int .u64 0,.int .u64 0,.int .u64 0,.slice none 0 0]:List Value).toArray/\ah w' gs 317 ([.slice (some ⟨acw,0,none⟩) 2 2,.pointer (some ⟨aff,0,none⟩)]:List Value).toArray/\ah w' acw 319 ([.int .i64 2,.int .i64 1,.int .i64 (-1),.int .i64 0,.int .i64 128,.int .i64 0,.int .i64 0,.int .i64 0,.int .i64 (-1),.int .i64 0,.int .i64 0,.int .i64 0]:List Value).toArray/\cY w' aff rg 128 192 [⟨128,64⟩]/\Below w0.heap.size w0 w'/\w0.heap.size<=aaD/\w0.heap.size<=gs/\w0.heap.size<=acw/\w0.heap.size<=aff/\w0.heap.size<=rg:=by
 obtain⟨af5,acR,rfl,q1,Xt,ada⟩:=id hF.row;rw[gd]at q1 ada⊢;have WX:=I (show eF w0 ado (.slice af5 8 acR) (bX aeB) aeI from by have h:=hF;rw[gd]at h;exact h);have afJ:=I ada;have afd:=I H7;have Y4:=I BD;have adA:=I Kr;have U:=aah.a0 w0;clear hF q1 Xt ada;go_enter func71,ntmps71;go_upto_region 1 with(refine Ws U 27 ?_;clear U;intro hk w U VW)
 go_upto_region 3 with(first|(go_at_call 77;refine a6 U (kJ 2 1 0 64 _ am) ?_;clear U;intro aaM U)|(go_at_call 70;refine a6 U (sj _ ado _ (bX aeB) aeI (WX.out.below U.all) (by rw[gd];exact ai _) (xP hW)) ?_;clear U;intro aaM U)|(refine Ww U ?_))
 go_upto_region 4 with(first|(go_at_call 127;refine Calls.mono (H5 _) ?_;rintro e aaM ⟨gs,acw,aff,rg,rfl,lO,afj,dP,qS⟩;have ZG:=I (And.intro (U.hO dP) (U.hO qS));have aaH:=U.join lO;simp only[aU,au]at aaH;have aaq:=I afj;clear U lO afj dP qS;have U:=aaH)|(refine Ww U ?_))
 have U:=aaH.base;have Q6:=I (aaq.out.keeps aaH);go_upto_region 5 with(refine NI U adA.out ?_;clear U;intro go w U Vg)
 go_wp2_with fail;have eB:=I U;clear U;go_loopw [29] (λi wr=> ∃(k:Nat) (f:Nat->Value),k<=8/\i= .int .i64 k/\aah aaM (bq none [⟨gs,317,[.slice (some ⟨acw,0,none⟩) 2 2,.pointer (some ⟨aff,0,none⟩)]⟩,⟨acw,319,[.int .i64 2,.int .i64 1,.int .i64 (-1),.int .i64 0,.int .i64 128,.int .i64 0,.int .i64 0,.int .i64 0,.int .i64 (-1),.int .i64 0,.int .i64 0,.int .i64 0]⟩,⟨hk,27,[.int .i64 2,.int .i64 1,.int .i64 0,.int .i64 64]⟩]) wr none [⟨go,95,(List.range 8).map f++ []⟩,⟨gs,317,[.slice (some ⟨acw,0,none⟩) 2 2,.pointer (some ⟨aff,0,none⟩)]⟩,⟨acw,319,[.int .i64 2,.int .i64 1,.int .i64 (-1),.int .i64 0,.int .i64 128,.int .i64 0,.int .i64 0,.int .i64 0,.int .i64 (-1),.int .i64 0,.int .i64 0,.int .i64 0]⟩,⟨hk,27,[.int .i64 2,.int .i64 1,.int .i64 0,.int .i64 64]⟩]) (λi _=>8-(intOf i).toNat)
 case atStart=>exact⟨0,λ_=>.slice none 0 0,J,rfl,by rw[br];exact eB.out⟩
 case round=>
  obtain⟨k,f,ae3,rfl,aen⟩:=hrel;clear eB;by_cases bV:k<8
  ·have aaX:(k:Int)<8:=by omega
   obtain⟨b,off,rfl,YF,fC,XP⟩:=afJ.out J;have hj:w0.cell? ⟨b,off+k,none⟩=some (aeI k):=by simpa using XP k 0 _ bV rfl
   have gq:=WX.out.each k (aeB.eI k) (by unfold bX;rw[a3,a1 bV];rfl);obtain⟨aeQ,adr,abF,-,-,-⟩:=id gq;have uG:=(hW.f k).1;have WS:=I gq;rw[abF]at hj WS;have U:=aaH.back aen;have Wy:=(U.all.cell (p:=⟨b,off+k,none⟩) fC).trans hj;obtain⟨m,hm⟩: ∃m,(aeB.eI k).length=m:=⟨_,rfl⟩
   have aey:=I hm;rw[hm]at Wy uG;clear hj XP YF fC gq abF hm;go_upto_region 8 with fail
   have Zm:=I (show∀w',Below w0.heap.size w0 w'->Calls prog 120 #[.slice aeQ m adr] w' λe du=> ∃v',e= .returned v'/\acr du (λb=>w'.heap.size<=b) v' m 3 (jQ (aeB.eI k))/\Below w'.heap.size w' du from λw' hb=>by rw[<-aey.out];exact nl w' ado _ _ _ (WS.out.below hb) (by rw[aey.out];omega) (pQ _ _));have iH:=aen.base;replace U:=iH;clear Wy;go_upto_region 9 with(first|(go_at_call 120;refine Calls.mono (Zm.out _ (aaH.back (aen.back U)).all) ?_;rintro e aaM ⟨v',rfl,hv,N⟩;obtain⟨af3,ZM,rfl,-,-,-⟩:=id hv;clear hv;replace U:=U.below N;clear N)|(refine TR U (f:=f) (m:=8) (j:=k) (r:= []) (u:=.slice af3 m ZM) bV ?_;clear U;intro w U))
   go_wp2_with fail;go_roundw
   case rel=>exact⟨k+1,_,J,by go_num,aen.back U⟩
   case measure=>simp[intOf];omega
  ·obtain rfl:k=8:=by omega
   have U:=aen;clear aen;go_upto_region 10 with fail
   replace U:=U.drew;refine wp_region_held_drew (S:=(c0 [⟨hk,27,[.int .i64 2,.int .i64 1,.int .i64 0,.int .i64 64]⟩])) aM ?_ (λX=>?_)
   ·exact U.bG aN
   refine az [[0,1,2,3,4,6,7]] ?_;refine Zj [5,8,9] ?_;refine ea (λK Z7=>?_) ?_
   ·rw[Z (by rfl)];refine xQ U afd.out ?_;clear U;intro aa2 w U NP;refine WE Z7 λX=>?_
    refine Zj [8,9] ?_;refine ea (λK Z7=>?_) ?_
    ·rw[Z (by rfl)];refine xQ U Y4.out ?_;clear U;intro gt w U JU;exact pK
    refine ei (λK Z7=>?_);rw[Z (by rfl)];refine Kq U ?_;clear U;intro abG w U;exact pJ
   refine ea (λK Z7=>?_) ?_
   ·rw[Z (by rfl)];refine xQ U Y4.out ?_;clear U;intro gt w U JU;refine WE Z7 λX=>?_
    refine Zj [5,9] ?_;refine ea (λK Z7=>?_) ?_
    ·rw[Z (by rfl)];refine xQ U afd.out ?_;clear U;intro aa2 w U NP;exact pK
    refine ei (λK Z7=>?_);rw[Z (by rfl)];refine Kq U ?_;clear U;intro abG w U;exact pI
   refine ei (λK Z7=>?_);rw[Z (by rfl)];refine Kq U ?_;clear U;intro abG w U;refine WE Z7 λX=>?_
   refine Zj [5,8] ?_;refine ea (λK Z7=>?_) ?_
   ·rw[Z (by rfl)];refine xQ U afd.out ?_;clear U;intro aa2 w U NP;exact pJ
   refine ei (λK Z7=>?_);rw[Z (by rfl)];refine xQ U Y4.out ?_;clear U;intro gt w U JU;exact pI
end
section
open Go.RowKit Tryz
theorem aah.Kt{w:World}{L:List abN}(hb: ∀x,x∈L->ah w x.g x.t x.cs.toArray)(aed:(L.map abN.t).Nodup:=by(simp only[aS,ck]);decide):aah w (bq none L) w none L:=by
 refine⟨hb,?_,λx Wy=>.inr λk=>k.1 x Wy rfl,Z1.refl _ _,trivial,λa e=>by cases e⟩;have key: ∀l:List abN,(∀x,x∈l->x∈L)->(l.map abN.t).Nodup->(l.map abN.g).Nodup:=by
  intro l;induction l with
  |nil=>intro _ _;exact List.nodup_nil
  |cons x l aes=>
   intro YF abi;rw[aS,bS]at abi⊢;refine⟨λhm=>?_,aes (λy hy=>YF y (ao _ hy)) abi.2⟩;obtain⟨y,hy,e⟩:=List.mem_map.1 hm;have Wy:=hb x (YF x a8);have jP:=hb y (YF y (ao _ hy));have bo:y.t≠x.t:=λabF=>abi.1 (List.mem_map.2 ⟨y,hy,abF⟩)
   exact ah.ne jP Wy bo e
 exact key L (λ_ h=>h) aed
theorem wT:(Tryz.prog.info? 5).map (λi=>(i.zero,i.size,i.bytes))=some (some (.int .u8 0),1,1):=aM
theorem H8(w0:World):Calls prog 140 #[.agg ([.int .u8 2,.int .u8 0,.int .u8 0,.int .u8 0,.int .i64 64,.int .i64 0,.int .i64 0]:List Value).toArray] w0 λe w'=>e= .returned (.bool true)/\Below w0.heap.size w0 w':=by
 have ab7: ∀args w,(callFunc 228 args).run prog w= .ok (.enter 228 args) w:=enters_of func228 aM rfl;have afP:=I (λw'=>wk w' (λ_=>True) (.slice none 0 0) 0 (λ_=> []) (λ_=>undef) 228 #[] (λ_=>false) ab7 (acr.nil _ _ _ _) (λi hi=>J) am (λi hi=>J));have U:=aah.a0 w0;clear ab7;go_enter func140,ntmps140;go_upto_region 1 with(refine Ws U 42 ?_;clear U;intro gb w U VW)
 go_upto_region 2 with(first|(refine Ka U ?_;clear U;intro abG w U hm NQ _ _)|(refine dE U.base rfl 22 5 _ rfl _ [.int .u8 0] rfl rfl (.int .u8 0) 1 1 underlying22 wT rfl am am ?_;intro di w Wa dO;replace hm:=U.qY hm Wa;replace U:=U.back Wa;clear Wa;refine cN ?_)|(refine kB U.base rfl 22 5 _ _ rfl (.int .u8 0) (.int .u8 0) rfl rfl rfl rfl (.int .u8 0) 1 underlying22 wT ?_;intro di w Wa dO;replace hm:=U.qY hm Wa;replace U:=U.back Wa;clear Wa;refine cN ?_)|(refine Kb U hm (.inl NQ) underlying338 underlying5 ?_;clear U hm;intro w U hm _)|(refine aaO U ?_))
 have le:=mR (P:=prog) (ok:=false) (q:=.u8) (key:=2) (z:=.slice none 0 0) (r:=none) hm underlying338 underlying5 aM (by rfl) rfl;have VI:=U.cell (g:=gb) (i:=0) ag rfl;go_wp2_with fail;refine(afP.out _).mono ?_;rintro e aaM ⟨r,rfl,abk,N⟩;replace U:=U.below N;obtain rfl:r=false:=by
  rcases abk with h|⟨_,i,h,_⟩
  ·exact h.1
  ·omega
 go_wp2_with fail;go_ret;exact⟨rfl,U.all⟩
theorem BE(w0:World)(aaD gt gs acw aff acK aa2:Nat)(Zv WP:Value)(hm:ah w0 aaD 245 ([.int .i64 2,.int .i64 1,.int .i64 0,.int .i64 64,Zv,.pointer (some ⟨gs,0,none⟩),.slice (some ⟨aa2,0,none⟩) 2 2,.slice (some ⟨gt,0,none⟩) 1 1,WP]:List Value).toArray)(YF:ah w0 gs 317 ([.slice (some ⟨acw,0,none⟩) 2 2,.pointer (some ⟨aff,0,none⟩)]:List Value).toArray)(YJ:ah w0 acw 319 ([.int .i64 2,.int .i64 1,.int .i64 (-1),.int .i64 0,.int .i64 128,.int .i64 0,.int .i64 0,.int .i64 0,.int .i64 (-1),.int .i64 0,.int .i64 0,.int .i64 0]:List Value).toArray)(afj:cY w0 aff acK 128 192 [⟨128,64⟩]):
 Calls prog 130 #[.agg ([.pointer (some ⟨aaD,0,none⟩),.pointer (some ⟨gt,0,none⟩),.int .u8 2,.int .u8 0,.int .u8 0,.int .u8 0,.int .i64 64,.int .i64 0,.int .i64 0]:List Value).toArray] w0 λe w'=>e= .returned (.agg #[.int .i64 0,.int .i64 1,.slice none 0 0])/\Z1 (λb=>bq none [⟨aaD,245,[.int .i64 2,.int .i64 1,.int .i64 0,.int .i64 64,Zv,.pointer (some ⟨gs,0,none⟩),.slice (some ⟨aa2,0,none⟩) 2 2,.slice (some ⟨gt,0,none⟩) 1 1,WP]⟩,⟨gs,317,[.slice (some ⟨acw,0,none⟩) 2 2,.pointer (some ⟨aff,0,none⟩)]⟩,⟨acw,319,[.int .i64 2,.int .i64 1,.int .i64 (-1),.int .i64 0,.int .i64 128,.int .i64 0,.int .i64 0,.int .i64 0,.int .i64 (-1),.int .i64 0,.int .i64 0,.int .i64 0]⟩] b/\b≠aff/\b≠acK) w0 w':=by
 have U:=aah.Kt (L:= [⟨aaD,245,[.int .i64 2,.int .i64 1,.int .i64 0,.int .i64 64,Zv,.pointer (some ⟨gs,0,none⟩),.slice (some ⟨aa2,0,none⟩) 2 2,.slice (some ⟨gt,0,none⟩) 1 1,WP]⟩,⟨gs,317,[.slice (some ⟨acw,0,none⟩) 2 2,.pointer (some ⟨aff,0,none⟩)]⟩,⟨acw,319,[.int .i64 2,.int .i64 1,.int .i64 (-1),.int .i64 0,.int .i64 128,.int .i64 0,.int .i64 0,.int .i64 0,.int .i64 (-1),.int .i64 0,.int .i64 0,.int .i64 0]⟩]) (λx Wy=>by
  simp only[ad,E,av]at Wy;rcases Wy with rfl|rfl|rfl
  ·exact hm
  ·exact YF
  ·exact YJ)
 have aaq:=I afj;have aav:=I U;clear hm YF YJ afj;go_enter func130,ntmps130;go_upto_region 1 with(first|(refine Ws U 250 ?_;clear U;intro Vx w U TS)|(refine VP U tW ?_;clear U;intro gr w U Bq))
 have aaR:=I (aaq.out.keeps aav.out);replace U:=U.drew;refine wp_region_held_drew (S:=c0 [⟨Vx,250,[.pointer (some ⟨aaD,0,none⟩),.pointer (some ⟨gt,0,none⟩),.int .u8 2,.int .u8 0,.int .u8 0,.int .u8 0,.int .i64 64,.int .i64 0,.int .i64 0]⟩,⟨aaD,245,[.int .i64 2,.int .i64 1,.int .i64 0,.int .i64 64,Zv,.pointer (some ⟨gs,0,none⟩),.slice (some ⟨aa2,0,none⟩) 2 2,.slice (some ⟨gt,0,none⟩) 1 1,WP]⟩]) aM (U.bG aN) (λX=>?_);refine az [[0,1,2,3,4,5,6,7]] ?_;refine Yt (λK Z7=>?_);go_simp;have q:=U.aed;simp only[aS,ck,bS,ad,E,av,not_or]at q;have qS:=aaq.out.Wu (U.Wu.block aff aaq.out.lt.1 aaR.out.1) (U.Wu.block acK aaq.out.lt.2 aaR.out.2);obtain⟨adX,acN⟩:=qS.keeps U;have acO:=I (And.intro adX acN);have acQ:=I q;refine(z1 _ gs acw aff acK (U.b ag) (U.b ag) qS ⟨λe=>q.2.2.2.1 e.symm,λe=>adX.1 _ (In.mem (g:=gs) ag) e.symm,λe=>acN.1 _ (In.mem (g:=gs) ag) e.symm,λe=>adX.1 _ (In.mem (g:=acw) ag) e.symm,λe=>acN.1 _ (In.mem (g:=acw) ag) e.symm⟩).mono ?_;clear q qS adX acN;rintro e aaM ⟨rfl,ae3⟩;have aen:=aah.calls (S:=λb=>bq none [⟨aaD,245,[.int .i64 2,.int .i64 1,.int .i64 0,.int .i64 64,Zv,.pointer (some ⟨gs,0,none⟩),.slice (some ⟨aa2,0,none⟩) 2 2,.slice (some ⟨gt,0,none⟩) 1 1,WP]⟩,⟨gs,317,[.slice (some ⟨acw,0,none⟩) 2 2,.pointer (some ⟨aff,0,none⟩)]⟩,⟨acw,319,[.int .i64 2,.int .i64 1,.int .i64 (-1),.int .i64 0,.int .i64 128,.int .i64 0,.int .i64 0,.int .i64 0,.int .i64 (-1),.int .i64 0,.int .i64 0,.int .i64 0]⟩] b/\b≠aff/\b≠acK) (aah.front (L1:= [⟨gr,44,[.int .i64 0,.int .i64 0,.slice none 0 0]⟩,⟨Vx,250,[.pointer (some ⟨aaD,0,none⟩),.pointer (some ⟨gt,0,none⟩),.int .u8 2,.int .u8 0,.int .u8 0,.int .u8 0,.int .i64 64,.int .i64 0,.int .i64 0]⟩,⟨aaD,245,[.int .i64 2,.int .i64 1,.int .i64 0,.int .i64 64,Zv,.pointer (some ⟨gs,0,none⟩),.slice (some ⟨aa2,0,none⟩) 2 2,.slice (some ⟨gt,0,none⟩) 1 1,WP]⟩]) U) ae3 (λb _ h=>⟨h.1,λe=>h.1.1 _ (In.mem (g:=gs) ag) e.symm,λe=>h.1.1 _ (In.mem (g:=acw) ag) e.symm,h.2⟩) (λx Wy=>by
  have q:=acQ.out;obtain⟨adX,acN⟩:=acO.out;simp only[ad,E,av]at Wy;rcases Wy with rfl|rfl|rfl
  ·exact⟨q.1.2.2.1,q.1.2.2.2,adX.1 _ (In.mem (g:=gr) ag),acN.1 _ (In.mem (g:=gr) ag)⟩
  ·exact⟨q.2.1.2.1,q.2.1.2.2,adX.1 _ (In.mem (g:=Vx) ag),acN.1 _ (In.mem (g:=Vx) ag)⟩
  ·exact⟨q.2.2.1.1,q.2.2.1.2,adX.1 _ (In.mem (g:=aaD) ag),acN.1 _ (In.mem (g:=aaD) ag)⟩)
 clear U ae3;have U:=aen;clear aen;go_wp2_with fail;refine WE Z7 ?_;clear Z7 K;intro X;refine az [[9,10,11,12,13]] ?_;go_wp2_with(refine ac2 U ?_;clear U;intro w U);refine cw results130 rfl rfl ⟨_,U.b (g:=gr) ag,rfl⟩ underlying44 rfl aM ?_;exact⟨rfl,U.Wu⟩
end
section
open Go.RowKit Tryz
theorem H9(w0:World)(aaD gt gs acw aff acK aa2:Nat)(Zv WP:Value)(hm:ah w0 aaD 245 ([.int .i64 2,.int .i64 1,.int .i64 0,.int .i64 64,Zv,.pointer (some ⟨gs,0,none⟩),.slice (some ⟨aa2,0,none⟩) 2 2,.slice (some ⟨gt,0,none⟩) 1 1,WP]:List Value).toArray)(YF:ah w0 gs 317 ([.slice (some ⟨acw,0,none⟩) 2 2,.pointer (some ⟨aff,0,none⟩)]:List Value).toArray)(YJ:ah w0 acw 319 ([.int .i64 2,.int .i64 1,.int .i64 (-1),.int .i64 0,.int .i64 128,.int .i64 0,.int .i64 0,.int .i64 0,.int .i64 (-1),.int .i64 0,.int .i64 0,.int .i64 0]:List Value).toArray)(afj:cY w0 aff acK 128 192 [⟨128,64⟩]):
 Calls prog 72 #[.pointer (some ⟨aaD,0,none⟩),.int .i64 0,.agg ([.int .u8 2,.int .u8 0,.int .u8 0,.int .u8 0,.int .i64 64,.int .i64 0,.int .i64 0]:List Value).toArray] w0 λe w'=>e= .returned (.tuple #[.agg #[.int .i64 0,.int .i64 1,.slice none 0 0],.int .i64 0])/\Z1 (λb=>bq none [⟨aaD,245,[.int .i64 2,.int .i64 1,.int .i64 0,.int .i64 64,Zv,.pointer (some ⟨gs,0,none⟩),.slice (some ⟨aa2,0,none⟩) 2 2,.slice (some ⟨gt,0,none⟩) 1 1,WP]⟩,⟨gs,317,[.slice (some ⟨acw,0,none⟩) 2 2,.pointer (some ⟨aff,0,none⟩)]⟩,⟨acw,319,[.int .i64 2,.int .i64 1,.int .i64 (-1),.int .i64 0,.int .i64 128,.int .i64 0,.int .i64 0,.int .i64 0,.int .i64 (-1),.int .i64 0,.int .i64 0,.int .i64 0]⟩] b/\b≠aff/\b≠acK) w0 w':=by
 have ab7: ∀args w,(callFunc 130 args).run prog w= .ok (.enter 130 args) w:=enters_of func130 aM rfl;have ae6:=I ab7;have U:=aah.Kt (L:= [⟨aaD,245,[.int .i64 2,.int .i64 1,.int .i64 0,.int .i64 64,Zv,.pointer (some ⟨gs,0,none⟩),.slice (some ⟨aa2,0,none⟩) 2 2,.slice (some ⟨gt,0,none⟩) 1 1,WP]⟩,⟨gs,317,[.slice (some ⟨acw,0,none⟩) 2 2,.pointer (some ⟨aff,0,none⟩)]⟩,⟨acw,319,[.int .i64 2,.int .i64 1,.int .i64 (-1),.int .i64 0,.int .i64 128,.int .i64 0,.int .i64 0,.int .i64 0,.int .i64 (-1),.int .i64 0,.int .i64 0,.int .i64 0]⟩]) (λx Wy=>by
  simp only[ad,E,av]at Wy;rcases Wy with rfl|rfl|rfl
  ·exact hm
  ·exact YF
  ·exact YJ)
 have aaq:=I afj;have aav:=I U;have WI:=I λw'=>bm 0 0 0 w' am am
 clear hm YF YJ afj ab7;go_enter func72,ntmps72;go_upto_region 1 with(first|(refine Ws U 42 ?_;clear U;intro gc w U Bx)|(refine VP U tW ?_;clear U;intro gr w U Bq))
 go_upto_region 3 with(first|(go_at_call 104;refine Calls.mono (WI.out _) ?_;rintro e aaM ⟨rfl,rfl⟩;skip)|(refine aaO U ?_))
 have aaR:=I (aaq.out.keeps aav.out);replace U:=U.drew;refine wp_region_held_drew (S:=c0 [⟨gc,42,[.int .u8 2,.int .u8 0,.int .u8 0,.int .u8 0,.int .i64 64,.int .i64 0,.int .i64 0]⟩,⟨aaD,245,[.int .i64 2,.int .i64 1,.int .i64 0,.int .i64 64,Zv,.pointer (some ⟨gs,0,none⟩),.slice (some ⟨aa2,0,none⟩) 2 2,.slice (some ⟨gt,0,none⟩) 1 1,WP]⟩]) aM (U.bG aN) (λX=>?_);refine az [[0,1,2,3,4,5,6,7,8]] ?_;refine Yt (λK Z7=>?_);refine kx U 250 rfl _ _ ER rfl ?_;clear U;intro Vx w U TS;refine WE Z7 ?_;clear Z7 K;intro X;refine az [[],[10]] ?_;clear U;intro w U;go_upto_region 5 with(first|(refine Ka U ?_;clear U;intro abG w U hm NQ _ _)|(refine Kb U hm (.inl NQ) underlying252 underlying5 ?_;clear U hm;intro w U hm _)|(refine Ww U ?_))
 have le:=mR (P:=prog) (ok:=true) (q:=.u8) (key:=2) (z:=.nilFunc) (r:=some (2,.func (.func 130) #[.agg ([.pointer (some ⟨aaD,0,none⟩),.pointer (some ⟨gt,0,none⟩),.int .u8 2,.int .u8 0,.int .u8 0,.int .u8 0,.int .i64 64,.int .i64 0,.int .i64 0]:List Value).toArray] #[])) hm underlying252 underlying5 aM (by rfl) rfl;have VI:=U.cell (g:=gc) (i:=0) ag rfl;go_upto_region 6 with fail
 clear le VI hm;go_upto_region 8 with(first|(go_at_call 140;refine a6 U (H8 _) ?_;clear U;intro aaM U)|(refine WG U ?_))
 have q:=U.aed;simp only[aS,ck,bS,ad,E,av,not_or]at q;have y9:=I (aaq.out.Wu (U.Wu.block aff aaq.out.lt.1 aaR.out.1) (U.Wu.block acK aaq.out.lt.2 aaR.out.2));have acO:=I (y9.out.keeps U);have acQ:=I q;have ab7:=ae6.out;clear q;go_wp2_with fail;refine(BE _ aaD gt gs acw aff acK aa2 Zv WP (U.b ag) (U.b ag) (U.b ag) y9.out).mono ?_;clear ab7;rintro e aaM ⟨rfl,ae3⟩;have aen:=aah.calls (S:=λb=>bq none [⟨aaD,245,[.int .i64 2,.int .i64 1,.int .i64 0,.int .i64 64,Zv,.pointer (some ⟨gs,0,none⟩),.slice (some ⟨aa2,0,none⟩) 2 2,.slice (some ⟨gt,0,none⟩) 1 1,WP]⟩,⟨gs,317,[.slice (some ⟨acw,0,none⟩) 2 2,.pointer (some ⟨aff,0,none⟩)]⟩,⟨acw,319,[.int .i64 2,.int .i64 1,.int .i64 (-1),.int .i64 0,.int .i64 128,.int .i64 0,.int .i64 0,.int .i64 0,.int .i64 (-1),.int .i64 0,.int .i64 0,.int .i64 0]⟩] b/\b≠aff/\b≠acK) (aah.front (L1:= [⟨Vx,250,[.pointer (some ⟨aaD,0,none⟩),.pointer (some ⟨gt,0,none⟩),.int .u8 2,.int .u8 0,.int .u8 0,.int .u8 0,.int .i64 64,.int .i64 0,.int .i64 0]⟩,⟨gr,44,[.int .i64 0,.int .i64 0,.slice none 0 0]⟩,⟨gc,42,[.int .u8 2,.int .u8 0,.int .u8 0,.int .u8 0,.int .i64 64,.int .i64 0,.int .i64 0]⟩]) U) ae3 (λb _ h=>⟨h.1,h⟩) (λx Wy=>by
  have q:=acQ.out;obtain⟨adX,acN⟩:=acO.out;simp only[ad,E,av]at Wy;have abi: ∀b,b≠aaD->b≠gs->b≠acw->bq none [⟨aaD,245,[.int .i64 2,.int .i64 1,.int .i64 0,.int .i64 64,Zv,.pointer (some ⟨gs,0,none⟩),.slice (some ⟨aa2,0,none⟩) 2 2,.slice (some ⟨gt,0,none⟩) 1 1,WP]⟩,⟨gs,317,[.slice (some ⟨acw,0,none⟩) 2 2,.pointer (some ⟨aff,0,none⟩)]⟩,⟨acw,319,[.int .i64 2,.int .i64 1,.int .i64 (-1),.int .i64 0,.int .i64 128,.int .i64 0,.int .i64 0,.int .i64 0,.int .i64 (-1),.int .i64 0,.int .i64 0,.int .i64 0]⟩] b:=λb aal abF acL=>⟨λy hy e=>by
   simp only[ad,E,av]at hy;rcases hy with rfl|rfl|rfl
   ·exact aal e.symm
   ·exact abF e.symm
   ·exact acL e.symm,λa e=>by cases e⟩
  rcases Wy with rfl|rfl|rfl
  ·exact⟨abi _ q.1.2.2.1 q.1.2.2.2.1 q.1.2.2.2.2,adX.1 _ (In.mem (g:=Vx) ag),acN.1 _ (In.mem (g:=Vx) ag)⟩
  ·exact⟨abi _ q.2.1.2.1 q.2.1.2.2.1 q.2.1.2.2.2,adX.1 _ (In.mem (g:=gr) ag),acN.1 _ (In.mem (g:=gr) ag)⟩
  ·exact⟨abi _ q.2.2.1.1 q.2.2.1.2.1 q.2.2.1.2.2,adX.1 _ (In.mem (g:=gc) ag),acN.1 _ (In.mem (g:=gc) ag)⟩)
 clear U ae3;have U:=aen;clear aen;go_wp2_with(refine ac2 U ?_;clear U;intro w U);refine aZ results72 rfl rfl ⟨_,U.b (g:=gr) ag,rfl⟩ underlying44 rfl aM ?_;exact⟨rfl,U.Wu⟩
end
section
open Go.RowKit Tryz
theorem pL{G:Prop}(h:G:=by
 refine Yt (λK Z7=>?_);refine ev U 44 _ _ rfl adn 0 _ [.int .i64 0,.int .i64 1,.slice none 0 0] rfl rfl rfl cf (by decide) (by kernel_rfl) rfl ?_;clear U;intro w U;refine WE Z7 ?_ (λj v aeD=>((U).all.cell (p:=⟨bs,os+j,none⟩) aav.out).trans (VN.out j v aeD));clear Z7 K;intro X;refine az [[17]] ?_;go_wp2_with fail;go_meet;exact⟨adn,rfl,U⟩):G:=h
theorem NR(w:World)(A B:Option Addr)(c d:Nat):Calls prog 73 #[.slice A 0 c,.slice B 0 d] w λe w'=>e= .returned (.bool true)/\w=w':=by
 go_enter func73,ntmps73;exact lc
theorem Ia{ZJ:Option Addr}{XF j:Nat}{v:Value}(h:([.int .u8 2,.int .u8 0,.int .u8 0,.int .u8 0,.int .i64 64,.int .i64 0,.int .i64 0]:List Value)[j]? =some v):([.int .i64 0,.int .u8 2,.int .u8 0,.int .u8 0,.int .u8 0,.int .i64 64,.int .i64 0,.int .i64 0,.int .i64 0,.int .i64 0,.int .i64 0,.int .i64 0,.int .i64 1,.slice ZJ 0 XF]:List Value)[1+j]? =some v:=by
 rcases j with _|_|_|_|_|_|_|j
 all_goals first|exact h|simp at h
theorem Ib{ZJ:Option Addr}{XF j:Nat}{v:Value}(h:([.int .i64 0,.int .i64 1,.slice ZJ 0 XF]:List Value)[j]? =some v):([.int .i64 0,.int .u8 2,.int .u8 0,.int .u8 0,.int .u8 0,.int .i64 64,.int .i64 0,.int .i64 0,.int .i64 0,.int .i64 0,.int .i64 0,.int .i64 0,.int .i64 1,.slice ZJ 0 XF]:List Value)[11+j]? =some v:=by
 rcases j with _|_|_|j
 all_goals first|exact h|simp at h
theorem Eu(w0:World)(ado:Nat->Prop)(Y8:Value)(aeI:Nat->Value)(hF:eF w0 ado Y8 (bX aeB) aeI)(bs os cs:Nat)(ZJ:Option Addr)(XF:Nat)(Wy: ∀(j:Nat) (v:Value),([.int .i64 0,.int .u8 2,.int .u8 0,.int .u8 0,.int .u8 0,.int .i64 64,.int .i64 0,.int .i64 0,.int .i64 0,.int .i64 0,.int .i64 0,.int .i64 0,.int .i64 1,.slice ZJ 0 XF]:List Value)[j]? =some v->w0.cell? ⟨bs,os+j,none⟩=some v)(xT:bs<w0.heap.size):
 Calls prog 33 #[.agg ([.int .i64 2,.int .i64 1,.int .i64 0,.int .i64 64]:List Value).toArray,Y8,.slice (some ⟨bs,os,none⟩) 1 cs] w0 λe w'=>e= .returned (.tuple #[.bool true,.int .i64 0])/\Below w0.heap.size w0 w':=by
 have WX:=I hF;have VN:=I Wy;have aav:=I xT;have U:=aah.a0 w0;clear Wy hF xT;go_enter func33,ntmps33;go_upto_region 1 with(refine Ws U 27 ?_;clear U;intro Q7 w U VW)
 go_upto_region 3 with(first|(go_at_call 69;refine a6 U (Ep _ bs os cs ZJ XF (λj v aeD=>(U.all.cell (p:=⟨bs,os+j,none⟩) aav.out).trans (VN.out j v aeD)) (aj aav.out U.size)) ?_;clear U;intro aaM U)|(go_at_call 70;refine a6 U (sj _ ado _ (bX aeB) aeI (WX.out.below U.all) (by rw[gd];exact ai _) (xP hW)) ?_;clear U;intro aaM U)|(refine Ww U ?_))
 go_upto_region 4 with(first|(go_at_call 71;refine Calls.mono (Ks _ ado _ aeI (WX.out.below U.all)) ?_;rintro e aaM ⟨aaD,gt,gs,acw,aff,acK,Zv,aa2,WP,rfl,hm,afq,YF,YJ,afj,N,q1,Xt,ada,ab8,ZX⟩;have aeN:=U.size;have aaH:=U.below N;have aey:=I hm;have aeO:=I YF;have WS:=I YJ;have aaq:=I afj;have kb:=I (And.intro (D aeN q1) (And.intro (D aeN Xt) (And.intro (D aeN ada) (And.intro (D aeN ab8) (D aeN ZX)))));clear U hm afq YF YJ afj N q1 Xt ada ab8 ZX aeN;have U:=aaH.base)|(refine Ww U ?_))
 go_wp2_with fail;refine(wS _ bs os cs ZJ XF (λj v aeD=>((aaH.back U).all.cell (p:=⟨bs,os+j,none⟩) aav.out).trans (VN.out j v aeD)) (aj aav.out (aaH.back U).size)).mono ?_;rintro e aaM ⟨g,c,rfl,Ae,Vh,N⟩;replace U:=U.below N;clear N;have hb:=vp aaH.bC U λ_ h=>h
 have o1:=(aaH.back U).drew;have aeq:=I (show∀w',Z1 (bq none [⟨Q7,27,[.int .i64 2,.int .i64 1,.int .i64 0,.int .i64 64]⟩]) aaM.drew w'->ah w' aaD 245 ([.int .i64 2,.int .i64 1,.int .i64 0,.int .i64 64,Zv,.pointer (some ⟨gs,0,none⟩),.slice (some ⟨aa2,0,none⟩) 2 2,.slice (some ⟨gt,0,none⟩) 1 1,WP]:List Value).toArray/\ah w' gs 317 ([.slice (some ⟨acw,0,none⟩) 2 2,.pointer (some ⟨aff,0,none⟩)]:List Value).toArray/\ah w' acw 319 ([.int .i64 2,.int .i64 1,.int .i64 (-1),.int .i64 0,.int .i64 128,.int .i64 0,.int .i64 0,.int .i64 0,.int .i64 (-1),.int .i64 0,.int .i64 0,.int .i64 0]:List Value).toArray/\cY w' aff acK 128 192 [⟨128,64⟩]from λw' k=>by
  have adL:=aey.out.below hb aey.out.lt;have Yz:=aeO.out.below hb aeO.out.lt;have acF:=WS.out.below hb WS.out.lt;have abw:=aaq.out.Wu (hb.block _ aaq.out.lt.1) (hb.block _ aaq.out.lt.2);have ZM:=abw.keeps U;have YB: ∀ {g:Nat} {t:TypeId} {cs:Array Value},ah aaM g t cs->([27].contains t)=false->ah w' g t cs:=λhb afq=>(k.block _ hb.lt ⟨zI U hb afq,λa e=>by cases e⟩).trans hb
  exact⟨YB adL rfl,YB Yz rfl,YB acF rfl,abw.Wu (k.block _ abw.lt.1 ZM.1) (k.block _ abw.lt.2 ZM.2)⟩)
 have Ev:=I o1;clear aey aeO WS aaq hb U aaH;go_wp2_with fail;refine wp_loop_rounds 2 ?_;rw[rounds_succ];go_upto_region 7 with fail
 clear Ae;go_cut [12,13]from 37 to 51 (λut Vi ZT=> ∃adn,ut= .pointer (some ⟨adn,0,none⟩)/\aah w0 (λ_=>True) ZT none [⟨adn,44,[.int .i64 0,.int .i64 1,.slice none 0 0]⟩,⟨Q7,27,[.int .i64 2,.int .i64 1,.int .i64 0,.int .i64 64]⟩])
 case first=>
  have U:=Ev.out.base;refine wp_region_held_drew (S:=(λw=> ∀(j:Nat) (v:Value),([.int .i64 0,.int .u8 2,.int .u8 0,.int .u8 0,.int .u8 0,.int .i64 64,.int .i64 0,.int .i64 0,.int .i64 0,.int .i64 0,.int .i64 0,.int .i64 0,.int .i64 1,.slice ZJ 0 XF]:List Value)[j]? =some v->w.cell? ⟨bs,os+j,none⟩=some v)) aM (λj v aeD=>((Ev.out).all.cell (p:=⟨bs,os+j,none⟩) aav.out).trans (VN.out j v aeD)) (λX=>?_);refine az [[0,1,2,3,4]] ?_;refine eE 5 rfl (bl (by rfl) 3 _ rfl bs os rfl _ (λw h=>h 0 _ rfl) underlying3 rfl) ?_;refine az [[6,7,8,9]] ?_;refine eE 10 rfl (yieldsIf_load_mid (by rfl) 42 _ rfl bs (os+1) rfl [.int .u8 2,.int .u8 0,.int .u8 0,.int .u8 0,.int .i64 64,.int .i64 0,.int .i64 0] _ (λw h j v aeD=>by rw[Nat.add_assoc];exact h (1+j) v (Ia aeD)) underlying42 rfl aM) ?_;refine Zj [11,15] ?_;refine ea (λK Z7=>?_) ?_
  ·rw[Z (by rfl)];go_simp;obtain⟨adL,Yz,acF,abw⟩:=aeq.out _ U.Wu;have aay:=aah.Kt (L:= [⟨aaD,245,[.int .i64 2,.int .i64 1,.int .i64 0,.int .i64 64,Zv,.pointer (some ⟨gs,0,none⟩),.slice (some ⟨aa2,0,none⟩) 2 2,.slice (some ⟨gt,0,none⟩) 1 1,WP]⟩,⟨gs,317,[.slice (some ⟨acw,0,none⟩) 2 2,.pointer (some ⟨aff,0,none⟩)]⟩,⟨acw,319,[.int .i64 2,.int .i64 1,.int .i64 (-1),.int .i64 0,.int .i64 128,.int .i64 0,.int .i64 0,.int .i64 0,.int .i64 (-1),.int .i64 0,.int .i64 0,.int .i64 0]⟩]) (λx Wy=>by
    simp only[ad,E,av]at Wy;rcases Wy with rfl|rfl|rfl
    ·exact adL
    ·exact Yz
    ·exact acF)
   have k:=abw.keeps U;refine(H9 _ aaD gt gs acw aff acK aa2 Zv WP adL Yz acF abw).mono ?_;rintro e aaM ⟨rfl,ae3⟩;have aen:=aah.calls (S:=λ_=>True) (Ev.out.back U) ae3 (λb hb _=>⟨trivial,by
    obtain⟨abE,Yk,adc,Zf,Y2⟩:=kb.out;refine⟨⟨λx Wy e=>?_,λa e=>by cases e⟩,λe=>J,λe=>J⟩;simp only[ad,E,av]at Wy;rcases Wy with rfl|rfl|rfl<;>simp only at e<;>omega⟩) (λx Wy=>⟨⟨zI aay (U.bC x Wy) (by
    simp only[ad,E,av]at Wy;rcases Wy with rfl<;>rfl),λa e=>by cases e⟩,λe=>k.1.1 x Wy e,λe=>k.2.1 x Wy e⟩)
   clear U ae3 adL Yz acF abw aay k;have U:=aen;clear aen;go_wp2_with fail;refine WE Z7 ?_ (λj v aeD=>((U).all.cell (p:=⟨bs,os+j,none⟩) aav.out).trans (VN.out j v aeD));clear Z7 K;intro X;refine az [[12,13,14]] ?_;refine Yt (λK Z7=>?_);refine kx U 44 rfl _ _ tW rfl ?_;clear U;intro adn w U TT;refine WE Z7 ?_ (λj v aeD=>((U).all.cell (p:=⟨bs,os+j,none⟩) aav.out).trans (VN.out j v aeD));clear Z7 K;intro X;exact pL
  refine ei (λK Z7=>?_);rw[Z (by rfl)];refine kx U 44 rfl _ _ tW rfl ?_;clear U;intro adn w U TT;refine WE Z7 ?_ (λj v aeD=>((Ev.out.back U).all.cell (p:=⟨bs,os+j,none⟩) aav.out).trans (VN.out j v aeD));clear Z7 K;intro X;refine Yt (λK Z7=>?_);go_simp;obtain⟨adL,Yz,acF,abw⟩:=aeq.out _ U.Wu;have aay:=aah.Kt (L:= [⟨aaD,245,[.int .i64 2,.int .i64 1,.int .i64 0,.int .i64 64,Zv,.pointer (some ⟨gs,0,none⟩),.slice (some ⟨aa2,0,none⟩) 2 2,.slice (some ⟨gt,0,none⟩) 1 1,WP]⟩,⟨gs,317,[.slice (some ⟨acw,0,none⟩) 2 2,.pointer (some ⟨aff,0,none⟩)]⟩,⟨acw,319,[.int .i64 2,.int .i64 1,.int .i64 (-1),.int .i64 0,.int .i64 128,.int .i64 0,.int .i64 0,.int .i64 0,.int .i64 (-1),.int .i64 0,.int .i64 0,.int .i64 0]⟩]) (λx Wy=>by
   simp only[ad,E,av]at Wy;rcases Wy with rfl|rfl|rfl
   ·exact adL
   ·exact Yz
   ·exact acF)
  have k:=abw.keeps U;refine(H9 _ aaD gt gs acw aff acK aa2 Zv WP adL Yz acF abw).mono ?_;rintro e aaM ⟨rfl,ae3⟩;have aen:=aah.calls (S:=λ_=>True) (Ev.out.back U) ae3 (λb hb _=>⟨trivial,by
   obtain⟨abE,Yk,adc,Zf,Y2⟩:=kb.out;refine⟨⟨λx Wy e=>?_,λa e=>by cases e⟩,λe=>J,λe=>J⟩;simp only[ad,E,av]at Wy;rcases Wy with rfl|rfl|rfl<;>simp only at e<;>omega⟩) (λx Wy=>⟨⟨zI aay (U.bC x Wy) (by
   simp only[ad,E,av]at Wy;rcases Wy with rfl|rfl<;>rfl),λa e=>by cases e⟩,λe=>k.1.1 x Wy e,λe=>k.2.1 x Wy e⟩)
  clear U ae3 adL Yz acF abw aay k;have U:=aen;clear aen;go_wp2_with fail;refine WE Z7 ?_ (λj v aeD=>((U).all.cell (p:=⟨bs,os+j,none⟩) aav.out).trans (VN.out j v aeD));clear Z7 K;intro X;refine az [[12,13,14]] ?_;exact pL
 case rest=>
  obtain⟨adn,rfl,U⟩:=hcut;clear Ev aeq;have Vq:=I (fun(j:Nat) (v:Value) (aeD:([.int .i64 0,.int .i64 1,.slice ZJ 0 XF]:List Value)[j]? =some v)=>(show wc.cell? ⟨bs,os+11+j,none⟩=some v by rw[Nat.add_assoc];exact(U.all.cell (p:=⟨bs,os+(11+j),none⟩) aav.out).trans (VN.out (11+j) v (Ib aeD))));go_upto_region 9 with(refine adD Vq.out ?_ rfl)
  clear Vq;have aay:=U.new 44 [.int .i64 0,.int .i64 1,.slice ZJ 0 XF];clear U;have U:=aay;clear aay;generalize wc.alloc (.cells ([.int .i64 0,.int .i64 1,.slice ZJ 0 XF]:List Value).toArray 44)=age at*;generalize wc.heap.size=Xx at*;have VI:=U.cell (g:=adn) (i:=0) kw rfl;have WJ:=U.cell (g:=adn) (i:=1) kw rfl;have adr:=U.cell (g:=adn) (i:=2) kw rfl;have d0:=U.cell (g:=Xx) (i:=0) cX rfl;have d1:=U.cell (g:=Xx) (i:=1) cX rfl;have d2:=U.cell (g:=Xx) (i:=2) cX rfl;go_wp2_with(go_at_call 73;refine Calls.mono (NR _ _ _ _ _) ?_;rintro e aaM ⟨rfl,rfl⟩;skip);rw[rounds_succ];go_wp2_with fail;go_ret2;exact⟨rfl,U.all⟩
end
section
open Go.RowKit Tryz
theorem acr.and{w:World}{S T:Nat->Prop}{v:Value}{n sz:Nat}{F:Nat->List Value}(h:acr w S v n sz F)(afq: ∀b,v.ownBlock=some b->T b):acr w (λb=>S b/\T b) v n sz F:=by
 obtain⟨A,c,rfl,h1,aaV,ZV⟩:=h;exact⟨A,c,rfl,h1,aaV,λabi=>by
  obtain⟨b,off,rfl,YF,Ya⟩:=ZV abi;exact⟨b,off,rfl,⟨YF,afq b rfl⟩,Ya⟩⟩
theorem Ku{w:World}{B:Nat}{v:abM}{s:h9}(h:a7 w B v s):eF w (λb=>B<=b/\b≠v.aff) (.slice (some ⟨v.aca,0,none⟩) 8 v.acR) (bX s) v.af9:=
 ⟨acr.and h.eF.row λb hb=>by
   have:v.aca=b:=by simpa [Value.ownBlock]using hb
   rw[<-this]
   exact h.afR.ne h.aft am,λi l YJ=>acr.and (h.eF.each i l YJ) λb hb e=>by
   obtain⟨hi,_⟩:=kT YJ
   exact dW (h.fr i hi) h.aft am (e▸hb)⟩
theorem sw{w:World}{b:Nat}{v:abM}(h:a7 w b v aeB): ∃adJ V8,v.afa= .slice adJ 0 V8:=by
 have aeJ:=h.pi;rw[show aeB.cp= [] by kernel_rfl]at aeJ;rcases aeJ.2 with⟨e,_⟩|⟨g,cap,_,e,_⟩<;>exact⟨_,_,e⟩
theorem Lg(v:abM)(adJ:Option Addr)(V8:Nat)(h:v.afa= .slice adJ 0 V8):gy aeB.p v= [.int .i64 2,.int .i64 1,.int .i64 0,.int .i64 64,.slice (some ⟨v.aca,0,none⟩) 8 v.acR,.slice (some ⟨v.aff,0,none⟩) 1 v.VY,.slice adJ 0 V8]:=by
 rw[m1];unfold gy;rw[h];rfl
theorem NS(w0:World)(aak:Value)(hb:acr w0 (λ_=>True) aak 12 1 λi=> [.int .u8 (Ej i)]):Calls prog 11 #[aak,.int .i64 9] w0 λe w'=>(∃bs os cs VS adZ ZJ XF,e= .returned (.tuple #[.agg #[.int .i64 2,.int .i64 1,.int .i64 0,.int .i64 64,.slice (some ⟨bs,os,none⟩) 1 cs,.slice (some ⟨VS,0,none⟩) 1 adZ,.int .i64 1,.int .i64 0,.bool true,.int .i64 0],.int .i64 0])/\∀(j:Nat) (v:Value),([.int .i64 0,.int .u8 2,.int .u8 0,.int .u8 0,.int .u8 0,.int .i64 64,.int .i64 0,.int .i64 0,.int .i64 0,.int .i64 0,.int .i64 0,.int .i64 0,.int .i64 1,.slice ZJ 0 XF]:List Value)[j]? =some v->w'.cell? ⟨bs,os+j,none⟩=some v)/\Below w0.heap.size w0 w':=by
 have U:=aah.a0 w0;have acH:=I (show∀w',Below w0.heap.size w0 w'->Calls prog 30 #[aak] w' λx du=> ∃v adJ V8,x= .returned (.agg ([.int .i64 2,.int .i64 1,.int .i64 0,.int .i64 64,.slice (some ⟨v.aca,0,none⟩) 8 v.acR,.slice (some ⟨v.aff,0,none⟩) 1 v.VY,.slice adJ 0 V8]:List Value).toArray)/\v.afa= .slice adJ 0 V8/\a7 du w'.heap.size v aeB/\Below w'.heap.size w' du from λw' h'=>(HE w' (λ_=>True) aak 12 Ej (hb.below h') B9 am).mono λx du ⟨v,Wy,YF,be⟩=>by
  obtain⟨adJ,V8,aeJ⟩:=sw YF;exact⟨v,adJ,V8,by rw[Wy,<-Lg v adJ V8 aeJ];rfl,aeJ,YF,be⟩)
 have Zu:=I (show∀w' b v adJ V8,v.afa= .slice adJ 0 V8->a7 w' b v aeB->Calls prog 31 #[.agg ([.int .i64 2,.int .i64 1,.int .i64 0,.int .i64 64,.slice (some ⟨v.aca,0,none⟩) 8 v.acR,.slice (some ⟨v.aff,0,none⟩) 1 v.VY,.slice adJ 0 V8]:List Value).toArray] w' _ from λw' b v adJ V8 aeJ h'=>Lg v adJ V8 aeJ▸wB w' b (e5 aeB.p) v aeB h' hW (rU hW.p));clear hb;go_enter func11,ntmps11;go_upto_region 1 with(refine VP U (z:=.agg ([.int .i64 0,.int .i64 0,.int .i64 0,.int .i64 0,.slice none 0 0,.slice none 0 0,.int .i64 0,.int .i64 0,.bool false,.int .i64 0]:List Value).toArray) aM (ds:= [.int .i64 0,.int .i64 0,.int .i64 0,.int .i64 0,.slice none 0 0,.slice none 0 0,.int .i64 0,.int .i64 0,.bool false,.int .i64 0]) ?_;clear U;intro gr w U Bq)
 go_upto_region 3 with fail
 go_wp2_with fail;have Q8:=I U.size;refine Calls.mono (acH.out _ U.all) ?_;rintro e WW ⟨v,adJ,V8,rfl,v3,lg,be⟩;have WZ:=I (U.b (g:=gr) cX).lt;replace U:=U.below be;clear be;go_upto_region 4 with fail
 replace U:=U.new 32 [.int .i64 2,.int .i64 1,.int .i64 0,.int .i64 64,.slice (some ⟨v.aca,0,none⟩) 8 v.acR,.slice (some ⟨v.aff,0,none⟩) 1 v.VY,.slice adJ 0 V8];have c5:=U.size;have fB:Below WW.heap.size WW (WW.alloc (.cells ([.int .i64 2,.int .i64 1,.int .i64 0,.int .i64 64,.slice (some ⟨v.aca,0,none⟩) 8 v.acR,.slice (some ⟨v.aff,0,none⟩) 1 v.VY,.slice adJ 0 V8]:List Value).toArray 32)):=(Below.refl _ _).alloc (ai _) _;have tj:=lg.below fB;have aaj:=I (And.intro lg.ge (And.intro lg.aft.lt lg.afR.lt));clear lg;generalize WW.alloc (.cells ([.int .i64 2,.int .i64 1,.int .i64 0,.int .i64 64,.slice (some ⟨v.aca,0,none⟩) 8 v.acR,.slice (some ⟨v.aff,0,none⟩) 1 v.VY,.slice adJ 0 V8]:List Value).toArray 32)=w3 at*;have BK:=(U.b (g:=WW.heap.size) cX).lt;generalize afj:WW.heap.size=gs at*;clear fB afj;go_wp2_with(refine Ww U ?_);refine Calls.mono (Zu.out _ _ _ _ _ v3 tj) ?_;rintro e acJ ⟨B,rfl,ae9,h3,gS⟩;have Xc:=I (((Ku tj).mono (S':=λb=>b≠v.aff/\b<w3.heap.size) λb h1 aaV=>⟨aaV.2,h1⟩).below h3);replace U:=U.below h3;have lE:=h3.size;obtain⟨abl,kj,fh,p6,rV⟩:=ae9.QE v.aff w3.heap.size (aj tj.aft.lt lE) tj.aft.lt gS;rw[<-kj];have YI:=I (And.intro p6 rV);clear ae9 gS tj p6 rV fh kj h3 Zu acH v3;go_wp2_with(refine aaO U ?_);refine Calls.mono (J9 _ abl adJ V8 YI.out.1 (λb hb=>(YI.out.2 b hb).2)) ?_;rintro e Wo ⟨Xl,rfl,Q9,Ra,ae3⟩;have ad2:=aaj.out;have Rb:=WZ.out;have tc: ∀b,b<w3.heap.size->b≠v.aff->aaJ abl aeB.p.t.toNat b:=λb h1 aaV hm=>by
  rcases(YI.out.2 b hm).1 with e|e
  ·exact aaV e
  ·omega
 have afl:=Q8.out;replace U:=aah.Ca (S:=λ_=>True) U ae3 (λb hb _=>tc b J J) (by simp only[ad,E,av];rintro x (rfl|rfl)<;>exact tc _ (by simp only;omega) (by simp only;omega));have adU:=I (Xc.out.Wu ⟨ae3.os,ae3.tape,ae3.output,ae3.size,λb hb YF=>ae3.block b hb (tc b YF.2 YF.1)⟩);rw[<-Q9];have Xe:=I Ra;have TU:=I (And.intro ad2.2.2 (And.intro BK (aj Rb ad2.1.1)));have TV:=ae3.size;clear tc ae3 Ra Q9 YI Xc ad2 Rb afl WZ aaj Q8 c5;go_wp2_with fail;refine Calls.mono (BT _ _ _ _ _ _ Xe.out (by rw[HO];decide) (by rw[HO];intro o ZQ;simp only[ad,E,av]at ZQ;subst ZQ;decide)) ?_;rintro e ae5 ⟨u,acB,rfl,hm,lK,hu,tn⟩;rw[HO]at hm;rcases acB with _|⟨⟨q,ad3⟩,acB⟩
 ·cases hm
 obtain⟨rfl,nc⟩:=List.cons.inj hm;obtain rfl:acB= []:=List.map_eq_nil_iff.1 nc;have VX:=lK _ (a8 ..);obtain⟨ZJ,XF,rfl⟩: ∃A c,ad3= .slice A 0 c:=by
  obtain⟨A,c,e,-⟩:=VX;exact⟨A,c,e⟩
 obtain⟨WY,cs,rfl,-,-,ZV⟩:=hu;obtain⟨bs,os,rfl,xT,bV,c3⟩:=ZV (by show 0<1;decide);have VN:=I (show∀(j:Nat) (v:Value),([.int .i64 0,.int .u8 2,.int .u8 0,.int .u8 0,.int .u8 0,.int .i64 64,.int .i64 0,.int .i64 0,.int .i64 0,.int .i64 0,.int .i64 0,.int .i64 0,.int .i64 1,.slice ZJ 0 XF]:List Value)[j]? =some v->ae5.cell? ⟨bs,os+j,none⟩=some v from λj v aeD=>by
  have:=c3 0 j v (by show 0<1;decide) aeD;simpa using this)
 have WS:=I (And.intro xT bV);have ac3:=I (adU.out.below tn);have Xa:=I (gB.below Xe.out tn);replace U:=U.below tn;have TW:=tn.size;clear hm nc lK VX ZV c3 xT bV adU Xe tn;go_wp2_with(first|(refine aq ?_));refine Calls.mono (Eu _ _ _ _ ac3.out bs os cs ZJ XF VN.out WS.out.2) ?_;rintro e VV ⟨rfl,v5⟩;have ZP:=I (show∀w',Below VV.heap.size VV w'->∀(j:Nat) (v:Value),([.int .i64 0,.int .u8 2,.int .u8 0,.int .u8 0,.int .u8 0,.int .i64 64,.int .i64 0,.int .i64 0,.int .i64 0,.int .i64 0,.int .i64 0,.int .i64 0,.int .i64 1,.slice ZJ 0 XF]:List Value)[j]? =some v->w'.cell? ⟨bs,os+j,none⟩=some v from λw' hb j v aeD=>((v5.trans (hb.mono v5.size)).cell (p:=⟨bs,os+j,none⟩) WS.out.2).trans (VN.out j v aeD));have Zw:=I (show∀w',Below VV.heap.size VV w'->gB w' Xl from λw' hb=>gB.below Xa.out (v5.trans (hb.mono v5.size)));have ST:=I (show∀w',Below VV.heap.size VV w'->Calls prog 23 #[.pointer (some ⟨Xl.aeh,0,none⟩)] w' λe du=>e= .returned (.int .i64 1)/\Below w'.heap.size w' du from λw' hb=>by
  have h1:=FF w' Xl _ _ _ W1 (Zw.out w' hb);rw[abX]at h1;exact h1)
 have Xd:=I (show bs≠gs/\bs≠gr by have:=WS.out;have:=TU.out;omega);have LT:=I (show∀w',Below VV.heap.size VV w'->bs<w'.heap.size from λw' hb=>aj WS.out.2 (D v5.size hb.size));replace U:=U.below v5;clear v5 VN WS ac3 Xa TW TV lE BK;go_upto_region 10 with fail
 have Yq:=I (show Below VV.heap.size VV VV.drew from(Below.refl _ _).drew);replace U:=U.drew;refine wp_region_held_drew (S:=(c0 [⟨gs,32,[.int .i64 2,.int .i64 1,.int .i64 0,.int .i64 64,.slice (some ⟨v.aca,0,none⟩) 8 v.acR,.slice (some ⟨v.aff,0,none⟩) 1 v.VY,.slice adJ 0 V8]⟩])) aM ?_ (λX=>?_)
 ·exact U.bG aN
 refine az [[0,1,2,3,5,7,8,9,10,11,14]] ?_;refine aF 4 λK Z7=>?_
 go_simp
 (go_at_call 34;refine Calls.mono (wS _ bs os cs ZJ XF (ZP.out _ Yq.out) (LT.out _ Yq.out)) ?_;rintro e aaM ⟨VS,adZ,rfl,Vj,qR,N⟩;replace Yq:=I (Yq.out.trans (N.mono Yq.out.size));replace U:=U.below N;clear N)
 go_wp2_with fail;refine WE Z7 λX=>?_
 refine aF 6 λK Z7=>?_
 go_simp
 (go_at_call 23;refine Calls.mono (ST.out _ Yq.out) ?_;rintro e aaM ⟨rfl,N⟩;replace Yq:=I (Yq.out.trans (N.mono Yq.out.size));replace U:=U.below N;clear N)
 go_wp2_with fail;refine WE Z7 λX=>?_
 refine aF 12 λK Z7=>?_
 go_simp
 (go_at_call 35;refine Calls.mono (Eo _ Xl (Zw.out _ Yq.out)) ?_;rintro e aaM ⟨rfl,N⟩;replace Yq:=I (Yq.out.trans (N.mono Yq.out.size));replace U:=U.below N;clear N;have aaH:=U;replace U:=aaH.base)
 go_wp2_with fail;refine WE Z7 λX=>?_
 refine az [[13],[15],[16]] ?_;clear U;intro w U;go_wp2_with fail;refine aZ results11 rfl rfl ⟨_,U.b (g:=gr) ag,rfl⟩ underlying37 rfl aM ?_;refine⟨⟨bs,os,cs,VS,adZ,ZJ,XF,rfl,λj v aeD=>(World.cell?_of_block (U.Wu.block bs (LT.out _ Yq.out) ⟨λx Wy e=>?_,λa e=>by cases e⟩)).trans (ZP.out _ Yq.out j v aeD)⟩,(aaH.back U).all⟩;simp only[ad,E,av]at Wy;rcases Wy with rfl|rfl
 ·exact Xd.out.1 e.symm
 ·exact Xd.out.2 e.symm
end
section
open Go.RowKit Tryz
theorem Ic(w0:World):Calls prog 8 #[] w0 λe w'=>e= .returned (.bool true)/\Below w0.heap.size w0 w':=by
 have U:=aah.a0 w0;go_enter func8,ntmps8;go_upto_region 1 with fail
 go_upto_region 2 with(first|(refine ud U rfl 22 5 12 _ rfl ((List.range 12).map (λi=>Value.int .u8 (Ej i))++ []) (.int .u8 0) 1 1 aM aM am am aM ?_;clear U;intro WC w U Vk;refine cN ?_)|(go_at_call 11;refine Calls.mono (NS _ _ ((tz (B:=0) (U.b (g:=WC) cX) (aL _) am).mono λb _ _=>trivial)) ?_;rintro e aaM ⟨⟨bs,os,cs,VS,adZ,ZJ,XF,rfl,Wy⟩,N⟩;replace U:=U.below N;clear N))
 have aaG:=Wy 12 _ rfl;replace U:=U.new 37 [.int .i64 2,.int .i64 1,.int .i64 0,.int .i64 64,.slice (some ⟨bs,os,none⟩) 1 cs,.slice (some ⟨VS,0,none⟩) 1 adZ,.int .i64 1,.int .i64 0,.bool true,.int .i64 0];have TX:=((Below.refl aaM.heap.size aaM).alloc (ai _) (.cells ([.int .i64 2,.int .i64 1,.int .i64 0,.int .i64 64,.slice (some ⟨bs,os,none⟩) 1 cs,.slice (some ⟨VS,0,none⟩) 1 adZ,.int .i64 1,.int .i64 0,.bool true,.int .i64 0]:List Value).toArray 37)).cell (p:=⟨bs,os+12,none⟩) (by
  rcases Nat.lt_or_ge bs aaM.heap.size with h|h
  ·exact h
  ·simp[World.cell?,Array.getElem?_eq_none h]at aaG)
 rw[aaG]at TX;generalize aaM.alloc (.cells ([.int .i64 2,.int .i64 1,.int .i64 0,.int .i64 64,.slice (some ⟨bs,os,none⟩) 1 cs,.slice (some ⟨VS,0,none⟩) 1 adZ,.int .i64 1,.int .i64 0,.bool true,.int .i64 0]:List Value).toArray 37)=WW at*;generalize aaM.heap.size=Y6 at*;have afw:=U.cell (g:=Y6) (i:=4) cX rfl;have afc:=U.cell (g:=Y6) (i:=8) cX rfl;have ab4:=U.cell (g:=Y6) (i:=9) cX rfl;go_wp2_with fail;go_ret;exact⟨rfl,U.all⟩
end
end Go.Proofs.YtcimojgkeoecfaaGreat
