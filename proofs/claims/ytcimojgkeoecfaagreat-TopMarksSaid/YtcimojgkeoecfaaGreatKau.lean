import Derived.Conc.LoneSelect
import Derived.Test.YtcimojgkeoecfaaGreatKas
set_option linter.all false
set_option maxHeartbeats 16000000
set_option maxRecDepth 100000
namespace Go.Proofs.YtcimojgkeoecfaaGreat
section
open Go.Conc Go.RowKit Tryz
section
variable{P:Program}{f:FuncId}{fn:Func}{R:Ending->World->Prop}{cs:List Frame}{k:List Item}{a a':Act}{w w':World}{c x y:Code}{ops:Array Oper}{i:Nat}{rest:List Nat}{o:Oper}
abbrev uP(f:FuncId):Frame:={(default:Frame)with fn:=f,kind:=.normal}
def UO(P:Program)(f:FuncId)(R:Ending->World->Prop)(cs:List Frame)(k:List Item)(a:Act)(w:World):Prop:=
 ∃v w' fr,R (.returned v) w'/\Steps P (lone ((uP f).at a k) cs w) (lone fr cs w')/\fr.fn=f/\fr.leaving P w' (.returned v)
theorem mO{args:Array Value}(d:P.funcs[f]? =some fn)(hb:fn.body=some c)(h: ∀cs,UO P f R cs [.code c] {tmps:=args++Array.replicate (fn.ntmps-args.size) undef,defers:= []} w):Calls P f args w R:=λcs=>by
 have g:Frame.enter P f args .normal=(uP f).at {tmps:=args++Array.replicate (fn.ntmps-args.size) undef,defers:= []} [.code c]:=by simp[Frame.enter,Frame.at,d,hb]
 obtain⟨v,w',fr,e,j,h1,b⟩:=h cs;exact⟨_,w',fr,e,by rw[g];exact j,h1,b⟩
theorem UO.step{k':List Item}(h':UO P f R cs k' a' w')(h:step P (lone ((uP f).at a k) cs w)= .next (lone ((uP f).at a' k') cs w')):UO P f R cs k a w:=
 let⟨v,d,fr,b,e,r⟩:=h';⟨v,d,fr,b,Steps.head h e,r⟩
def mP(P:Program)(f:FuncId)(fn:Func)(R:Ending->World->Prop)(cs:List Frame)(k:List Item):Exit->Act->World->Prop
 |.normal,a,w=>UO P f R cs k a w
 |.exit id,a,w=> ∃k',exitTo id k=some k'/\UO P f R cs k' a w
 |.ret,a,w=>bodyPost P fn R .ret a w
 |_,_,_=>False
theorem UO.wp(p:P.funcs[f]? =some fn)(h:c.wp P (mP P f fn R cs k) a w):UO P f R cs (.code c::k) a w:=by
 obtain⟨e,a',w',d,j⟩:=h (uP f) k cs;cases e with
 |normal=>obtain⟨v,m,fr,b,g,r⟩:=d;exact⟨v,m,fr,b,Steps.trans j g,r⟩
 |exit id=>obtain⟨k',q,v,m,fr,b,g,r⟩:=d;exact⟨v,m,fr,b,Steps.trans (j k' q) g,r⟩
 |ret=>obtain⟨hd,v,n,b⟩:=d;obtain⟨t,g⟩:=j;exact⟨v,w',_,b,g,rfl,rfl,hd,rfl,fn,p,n⟩
 |goto l=>exact d.elim
 |panic s=>exact d.elim
 |outgrown=>exact d.elim
theorem UO.seq(h:UO P f R cs (.code x:: .code y::k) a w):UO P f R cs (.code (.seq x y)::k) a w:=h.step step_seq
theorem UO.block{id:Nat}(h:UO P f R cs (.code c:: .inBlock id::k) a w):UO P f R cs (.code (.block id c)::k) a w:=h.step step_block
section
variable(h:UO P f R cs (.code c:: .inLoop c::k) a w)
include h
theorem UO.loop:UO P f R cs (.code (.loop c)::k) a w:=h.step step_loop
theorem UO.again:UO P f R cs (.inLoop c::k) a w:=h.step step_inLoop
end
theorem UO.out{id:Nat}(h:UO P f R cs k a w):UO P f R cs (.inBlock id::k) a w:=h.step step_inBlock
theorem UO.reg{id:Nat}{l:List Nat}(h:UO P f R cs (.inRegion ops l::k) a w)(b:List.range ops.size=l:=by rfl):UO P f R cs (.code (.region id ops false)::k) a w:=UO.step (by rw[b];exact h) step_region
theorem UO.Hy(h:UO P f R cs k a w):UO P f R cs (.inRegion ops []::k) a w:=h.step step_region_end
theorem tB(b:ops[i]? =some o)(v:Value):((uP f).at a (.inRegion ops (i::rest)::k)).finish v=(uP f).at (a.put o.dst v) (.inRegion ops rest::k):=by rw[Frame.finish_at,b];rfl
theorem UO.op{v:Value}(b:(execOp a.eval o).run P w= .ok (.value v) w')(h:UO P f R cs (.inRegion ops rest::k) a' w')(e:ops[i]? =some o:=by exact rfl)(d:Region.wanted o (yielded ops a.tmps)=true:=by rfl)
 (g:a.put o.dst v=a':=by exact fa):UO P f R cs (.inRegion ops (i::rest)::k) a w:=by
 refine h.step (step_lone_go ?_);rw[stepG_op e d,<-g,<-tB e];simp[stepG.apply,b]
theorem UO.send{b cap s r:Nat}{buf:Array Value}{v z:Value}(d:(execOp a.eval o).run P w= .ok (.comm #[scase b v z] true .send) w)(m:w.heap[b]? =some (.chan cap buf false s r false))(l:buf.size<cap)
 (h:UO P f R cs (.inRegion ops rest::k) a' (w.setChan b cap (buf.push v) false (s+1) r false))(j:ops[i]? =some o:=by exact rfl)(g:Region.wanted o (yielded ops a.tmps)=true:=by rfl)
 (n:a.put o.dst undef=a':=by exact fa):UO P f R cs (.inRegion ops (i::rest)::k) a w:=by
 refine h.step ?_;rw[<-n,<-tB j];exact step_lone_send_room (stepG_comm j g (λe=>by cases e) d) m l
theorem UO.Qr{b cap s r:Nat}{buf:Array Value}{closed:Bool}{z:Value}(d:(execOp a.eval o).run P w= .ok (.comm #[rcase b z] false .select) w)(m:w.heap[b]? =some (.chan cap buf closed s r false))(l:0<buf.size)
 (h:UO P f R cs (.inRegion ops rest::k) a' (w.setChan b cap (buf.extract 1 buf.size) closed s (r+1) false))(j:ops[i]? =some o:=by exact rfl)(g:Region.wanted o (yielded ops a.tmps)=true:=by rfl)
 (n:a.put o.dst (.tuple #[goInt 0,.bool true,buf.getD 0 undef])=a':=by exact fa):UO P f R cs (.inRegion ops (i::rest)::k) a w:=by
 refine h.step ?_;rw[<-n,<-tB j];exact step_lone_select_recv_buf (stepG_comm j g (λe=>by cases e) d) m l
theorem UO.Qs{b cap s r:Nat}{z:Value}(d:(execOp a.eval o).run P w= .ok (.comm #[rcase b z] false .select) w)(l:w.heap[b]? =some (.chan cap #[] true s r false))
 (h:UO P f R cs (.inRegion ops rest::k) a' w)(j:ops[i]? =some o:=by exact rfl)(g:Region.wanted o (yielded ops a.tmps)=true:=by rfl)
 (m:a.put o.dst (.tuple #[goInt 0,.bool false,z])=a':=by exact fa):UO P f R cs (.inRegion ops (i::rest)::k) a w:=by
 refine h.step ?_;rw[<-m,<-tB j];exact step_lone_select_recv_shut (stepG_comm j g (λe=>by cases e) d) l
end
section
variable{w0 w w':World}{S:Nat->Prop}{L:List PL}{P:Program}{o:Oper}{a a':Act}{Q:Exit->Act->World->Prop}{ops:Array Oper}{rest:List Oper}
theorem Bx.Qt{T:Nat->Prop}{A:Option XS}(h:Bx w0 S w A L)(d: ∀b,b<w0.heap.size->T b->S b)(f: ∀x,x∈L->w0.heap.size<=x.g:=by simp)(c:A=none:=by rfl):Bx w0 T w A L:=by
 subst c;exact⟨h.bC,h.UH,λx i=>.inl (f x i),h.Wu.mono λb hb q=>d b hb q,trivial,λa e=>by cases e⟩
section
variable(h:Bx w0 S w none L)
include h
theorem Bx.tC{c cap s r:Nat}{buf:Array Value}{f:Bool}(b:w.heap[c]? =some (.chan cap buf f s r false)):bq none L c:=by
 refine⟨λx d e=>?_,λa e=>by cases e⟩;have h1:=h.bC x d;rw[e]at h1;rw[show w.heap[c]? =_ from h1]at b;cases b
theorem Bx.Hz{c cap s r:Nat}{buf:Array Value}{m:Bool}(l:w.heap[c]? =some (.chan cap buf m s r false))(i:w0.heap.size<=c\/¬S c)(d:Obj):Bx w0 S {w with heap:=w.heap.setIfInBounds c d} none L:=by
 have f:=(h.tC l).1;refine⟨λx j=>?_,h.UH,h.fr,⟨h.Wu.os,h.Wu.tape,h.Wu.output,by simpa using h.Wu.size,λb hb k=>?_⟩,trivial,λa e=>by cases e⟩
 ·show(w.heap.setIfInBounds c d)[x.g]? =_;rw[bk (λe=>f x j e.symm)];exact h.bC x j
 ·show(w.heap.setIfInBounds c d)[b]? =_;rw[bk (λe=>by subst e;rcases i with q|q;omega;exact q k)];exact h.Wu.block b hb k
theorem aaB{t:TypeId}{x:Operand}{n:Nat}(hm: ∀w,(Instr.makeChan t (.int .i64 n)).run P w= .ok (.chan (some w.heap.size)) (w.alloc (.chan n #[] false 0 0 false)))
 (e: ∀c w',Bx w0 S w' none L->w'.heap[c]? =some (.chan n #[] false 0 0 false)->w0.heap.size<=c->wpList P ops Q rest (a.put o.dst (.chan (some c))) w')(g:o.guard=none:=by exact rfl)(f:o.op= .makeChan t x:=by exact rfl)(d:a.eval x= .int .i64 n:=by exact rfl):wpList P ops Q (o::rest) a w:=by
 refine wpList_plain g λK k=>?_
 have b:=k _ _ (e w.heap.size (w.alloc (.chan n #[] false 0 0 false)) (h.below ((Below.refl _ _).alloc (ai _) _)) (dL _ _) h.size);unfold Oper.wp execOp;simp only[f,d];simpa [go_sem,hm]using b
end
end
theorem Nr(w:World):(Instr.makeChan 224 (.int .i64 ((1:Nat):Int))).run prog w= .ok (.chan (some w.heap.size)) (w.alloc (.chan 1 #[] false 0 0 false)):=by
 obtain⟨i,hi,hb⟩:=Option.map_eq_some_iff.1 (show(Tryz.prog.info? 3).map (·.bytes)=some 8 by kernel_rfl);exact run_makeChan underlying224 hi .i64 1 am (by rw[hb];decide)
theorem zP{w:World}{S:Nat->Prop}{v:Value}{x:Int}(h:cF w S v [x]): ∃b off c,v= .slice (some ⟨b,off,none⟩) 1 c/\w.cell? ⟨b,off,none⟩=some (.int .i64 x)/\S b/\b<w.heap.size:=by
 obtain⟨A,a,rfl,h1,i,g⟩:=id h;obtain⟨b,off,rfl,e,f,d⟩:=g aN;exact⟨b,off,a,rfl,d 0 0 _ aN rfl,e,f⟩
theorem Ea(w0:World)(B:WB)(p:PO)(F:b1)(n:Nat)(W:Wd)(h:df w0 B p F n W)(o:a9 p)(s: ∀i,i<p.t.toNat->(W.XT i).calls.length<=65536)(S:ec W p.t.toNat= [0]):
 Calls prog 122 #[.pointer (some ⟨B.O3,0,none⟩)] w0 λe w'=> ∃c,e= .returned (.agg #[.chan (some c)])/\w'.heap[c]? =some (.chan 1 #[.int .i64 0] true 1 0 false)/\w0.heap.size<=c/\Below w0.heap.size w0 w':=by
 have f:=I (show∀w',Below w0.heap.size w0 w'->_ from λw' hb=>tx w' B p F n W (h.below hb) o s);rw[S]at f;have U:=Bx.a0 w0;clear h o s S;refine mO func122 rfl (λcs=>?_);simp only[ntmps122,List.size_toArray,aI,bR,Nat.reduceAdd,Nat.reduceSub,Array.replicate_succ,Array.replicate_zero,List.push_toArray,List.append_toArray,au,aU];have Q:=I Nr;refine .seq (.wp func122 ?_);go_wp2_with fail;dsimp only[mP];replace U:=U.new 226 [.chan none];refine .seq (.wp func122 ?_);go_wp2_with fail;refine Calls.mono (f.out _ U.all) ?_;rintro e EH ⟨v,rfl,hv,N⟩;obtain⟨M,L,WJ,rfl,R,-,X⟩:=zP hv;replace U:=U.below N;have a:=U;replace U:=a.base;clear hv N;go_wp2_with fail;dsimp only[mP];refine .seq (.wp func122 ?_);go_wp2_with(first|(refine aaB U Q.out ?_;clear U;intro c w U y wZ)|first|(refine aq ?_)|(refine aT ?_;clear U;intro X8 w U K));dsimp only[mP];have N:=vp a.bC U λ_ h=>h
 have V:=a.back U;have T:=(Array.getElem?_eq_some_iff.1 y).1;have j:=V.new 226 [.chan (some c)];have A:Below w.heap.size w (w.alloc (.cells #[.chan (some c)] 226)):=(Below.refl _ _).alloc (ai _) _;have r:=(A.block c T).trans y;have jb:=((N.trans (A.mono N.size)).cell (p:=⟨M,L,none⟩) X).trans R;have m:w0.heap.size<=c:=D a.size wZ;clear U y R a V wZ N A T X f;generalize w.alloc (.cells #[.chan (some c)] 226)=d at*;generalize w.heap.size=x at*;refine .seq (.seq (.wp func122 ?_));go_wp2_with fail;dsimp only[mP];refine .block (.loop (.seq (.wp func122 ?_)));go_wp2_with fail;dsimp only[mP];refine .seq (.wp func122 ?_);go_wp2_with fail;dsimp only[mP];refine .seq (.block (.seq (.wp func122 ?_)));go_wp2_with fail;dsimp only[mP];have H:=j.cell (g:=x) (i:=0) cX rfl;refine .reg (l:= [0,1,2,3]) ?_;refine .op (v:=.pointer (some ⟨x,0,none⟩)) (w':=d) ?_ ?_
 ·go_simp
 refine .op (v:=.chan (some c)) (w':=d) ?_ ?_
 ·go_simp
 refine .op (v:=.int .i64 0) (w':=d) ?_ ?_
 ·go_simp
 refine .send (z:=.tuple #[]) (v:=.int .i64 0) ?_ r am ?_
 ·go_simp;rfl
 refine .Hy (.out ?_);have C:Bx w0 (λ_=>True) (d.setChan c 1 #[.int .i64 0] false 1 0 false) none _:=j.Hz r (.inl m) _;have q:=heap_setChan d c 1 #[.int .i64 0] false 1 0 false (Array.getElem?_eq_some_iff.1 r).1;show UO _ _ _ _ _ _ (d.setChan c 1 #[.int .i64 0] false 1 0 false);clear j r jb H;generalize d.setChan c 1 #[.int .i64 0] false 1 0 false=w3 at*;refine .wp func122 ?_;go_wp2_with fail;dsimp only[mP];refine .again (.seq (.wp func122 ?_));go_wp2_with fail;dsimp only[mP];refine .seq (.wp func122 ?_);go_wp2_with fail;dsimp only[mP];refine⟨_,rfl,?_⟩;refine .seq (.wp func122 ?_);have H:=C.cell (g:=x) (i:=0) cX rfl;have s:=λaaF aaX=>run_close_open (P:=prog) (w:=w3) aaF aaX q
 go_wp2_with fail;dsimp only[mP];have u:=C.Hz q (.inl m) (.chan 1 #[.int .i64 0] true 1 0 false);have G:({w3 with heap:=w3.heap.setIfInBounds c (.chan 1 #[.int .i64 0] true 1 0 false)}:World).heap[c]? =some (.chan 1 #[.int .i64 0] true 1 0 false):=heap_setChan w3 c 1 #[.int .i64 0] true 1 0 false (Array.getElem?_eq_some_iff.1 q).1;clear s H C q;generalize({w3 with heap:=w3.heap.setIfInBounds c (.chan 1 #[.int .i64 0] true 1 0 false)}:World)=iH at*;have U:=u.base;have O:=u.tC G;refine .wp func122 ?_;go_wp2_with(first|(refine aq ?_)|(refine aT ?_;clear U;intro X8 w U K));dsimp only[mP];refine cw results122 rfl rfl ⟨_,U.b kw,rfl⟩ underlying226 rfl aM ?_;exact⟨c,rfl,(U.Wu.block c (Array.getElem?_eq_some_iff.1 G).1 O).trans G,m,(u.back U).all⟩
theorem HA(w0:World)(c:Nat)(a:w0.heap[c]? =some (.chan 1 #[.int .i64 0] true 1 0 false)):
 Calls prog 123 #[.agg #[.chan (some c)]] w0 λe w'=>e= .returned (.tuple #[.int .i64 0,.bool true])/\w'.heap[c]? =some (.chan 1 #[] true 1 1 false)/\Z1 (λb=>b≠c) w0 w':=by
 have U:=(Bx.a0 w0).new 226 [.chan (some c)];have f:=(Array.getElem?_eq_some_iff.1 a).1;have hb:Below w0.heap.size w0 (w0.alloc (.cells #[.chan (some c)] 226)):=(Below.refl _ _).alloc (ai _) _;have d:=(hb.block c f).trans a;refine mO func123 rfl (λcs=>?_);simp only[ntmps123,List.size_toArray,aI,bR,Nat.reduceAdd,Nat.reduceSub,Array.replicate_succ,Array.replicate_zero,List.push_toArray,List.append_toArray,au,aU];clear f hb a;refine .seq (.wp func123 ?_);go_wp2_with fail;dsimp only[mP];generalize w0.alloc (.cells #[.chan (some c)] 226)=w at*;have k:=U.cell (g:=w0.heap.size) (i:=0) cX rfl;refine .seq (.wp func123 ?_);go_wp2_with fail;dsimp only[mP];refine .seq (.reg (l:= [0,1,2]) ?_);refine .Qr (z:=.int .i64 0) ?_ d am ?_
 ·go_simp;rfl
 have h:=heap_setChan w c 1 #[] true 1 1 false (Array.getElem?_eq_some_iff.1 d).1;have j:Bx w0 (λb=>b≠c) (w.setChan c 1 #[] true 1 1 false) none _:=(U.Qt λ_ _ _=>trivial).Hz d (.inr λq=>q rfl) _;show UO _ _ _ _ _ _ (w.setChan c 1 #[] true 1 1 false);generalize w.setChan c 1 #[] true 1 1 false=w3 at*;refine .op (v:=.int .i64 0) (w':=w3) ?_ ?_
 ·go_simp
 refine .op (v:=.bool true) (w':=w3) ?_ ?_
 ·go_simp
 refine .Hy (.wp func123 ?_);go_wp2_with fail;dsimp only[mP];go_ret2;exact⟨rfl,h,j.Wu⟩
theorem HB(w0:World)(c:Nat)(a:w0.heap[c]? =some (.chan 1 #[] true 1 1 false)):
 Calls prog 123 #[.agg #[.chan (some c)]] w0 λe w'=>e= .returned (.tuple #[.int .i64 0,.bool false])/\Below w0.heap.size w0 w':=by
 have U:=(Bx.a0 w0).new 226 [.chan (some c)];have b:=(Array.getElem?_eq_some_iff.1 a).1;have hb:Below w0.heap.size w0 (w0.alloc (.cells #[.chan (some c)] 226)):=(Below.refl _ _).alloc (ai _) _;have d:=(hb.block c b).trans a;refine mO func123 rfl (λcs=>?_);simp only[ntmps123,List.size_toArray,aI,bR,Nat.reduceAdd,Nat.reduceSub,Array.replicate_succ,Array.replicate_zero,List.push_toArray,List.append_toArray,au,aU];clear b hb a;refine .seq (.wp func123 ?_);go_wp2_with fail;dsimp only[mP];generalize w0.alloc (.cells #[.chan (some c)] 226)=w at*;have f:=U.cell (g:=w0.heap.size) (i:=0) cX rfl;refine .seq (.wp func123 ?_);go_wp2_with fail;dsimp only[mP];refine .seq (.reg (l:= [0,1,2]) ?_);refine .Qs (z:=.int .i64 0) ?_ d ?_
 ·go_simp;rfl
 refine .op (v:=.int .i64 0) (w':=w) ?_ ?_
 ·go_simp
 refine .op (v:=.bool true) (w':=w) ?_ ?_
 ·go_simp
 refine .Hy (.wp func123 ?_);go_wp2_with fail;dsimp only[mP];go_ret2;exact⟨rfl,U.all⟩
end
section
open Go.Conc Go.RowKit Tryz
def Ej:Nat->Int:=λi=>([1,0,0,8,0,0,2,0,64,0,0,0]:List Int).getD i 0
def RV:h9:=j9 Ej 12
def W0:Wd:=l2 RV.p RV.bj
def W1:Wd:=bI RV.p (bX RV) (e5 RV.p) W0 0
theorem m1:RV.p=⟨2,1,0,64⟩:=aM
theorem B9:e0 Ej:=λi=>by
 unfold Ej;rcases Nat.lt_or_ge i 12 with h|h
 ·have: ∀j,j<12->0<=([1,0,0,8,0,0,2,0,64,0,0,0]:List Int).getD j 0/\([1,0,0,8,0,0,2,0,64,0,0,0]:List Int).getD j 0<=255:=by decide
  exact this i h
 ·rw[ae,aV (by simpa using h)];decide
theorem hW:hV RV:=sN B9 12
theorem HM:RV.p.t=1:=by rw[m1]
theorem HN:ec W0 RV.p.t.toNat= [0]:=aM
theorem NH:ec W1 RV.p.t.toNat= []:=aM
theorem HO:W1.ops= [⟨0,⟨2,0,0,0,64,0,0⟩,0,0,0,⟨0,1,[]⟩⟩]:=aM
theorem QY:W1.fr= []:=aM
theorem U7:W1.n=1:=aM
theorem tD(i:Nat):(W0.XT i).calls.length<=65536:=by
 show(RV.bj i).length<=_;have:=(hW.c i).1;omega
theorem J8(i:Nat):(W1.XT i).calls.length<=65536:=D rW (tD i)
theorem HP:Inv RV.p (bX RV) (e5 RV.p) W0 (λ_=> []) (λ_=>none):=Inv.init hW.p (zT hW) (rU hW.p) λt _ c a=>(hW.c t).2 c a
theorem HQ:(W0.XT 0).ended=false:=aM
theorem Lc:dx (bd RV.p (W0.XT 0) W0.ops.length).run/\(bd RV.p (W0.XT 0) W0.ops.length).run.n<=65536:=⟨⟨by decide+kernel,by decide+kernel,by decide+kernel⟩,by decide+kernel⟩
theorem Bx.Ca{w0 w w':World}{L:List PL}{S T:Nat->Prop}(h:Bx w0 (λ_=>True) w none L)(k:Z1 T w w')(c: ∀b,b<w0.heap.size->S b->T b)(d: ∀x,x∈L->T x.g):Bx w0 S w' none L:=
 ⟨λx hm=>(k.block x.g (h.bC x hm).lt (d x hm)).trans (h.bC x hm),h.UH,λx hm=>.inl ((h.fr x hm).resolve_right λq=>q trivial),⟨k.os.trans h.Wu.os,k.tape.trans h.Wu.tape,k.output.trans h.Wu.output,D h.Wu.size k.size,λb hb f=>(k.block b (aj hb h.Wu.size) (c b hb f)).trans (h.Wu.block b hb trivial)⟩,trivial,λa e=>by cases e⟩
theorem HR(w0:World)(B:WB)(h:df w0 B RV.p (bX RV) (e5 RV.p) W0)(G: ∀b,Ur B RV.p.t.toNat b->b<w0.heap.size):
 Calls prog 68 #[.pointer (some ⟨B.O3,0,none⟩),.int .i64 9] w0 λe w'=> ∃B':WB,e= .returned (.tuple #[.int .i64 1,.int .i64 0])/\B'.O3=B.O3/\df w' B' RV.p (bX RV) (e5 RV.p) W1/\Z1 (ZB B RV.p.t.toNat) w0 w':=by
 have H:=I h;have o:=I G;have U:=Bx.a0 w0;clear h G;go_enter func68,ntmps68;go_wp2_with fail;refine wp_loop_rounds 2 ?_;rw[rounds_succ];go_wp2_with fail;refine Calls.mono (tx _ _ _ _ _ _ (H.out.below U.all) hW.p λi _=>tD i) ?_;rintro e R ⟨v,rfl,hv,N⟩;rw[HN]at hv;obtain⟨T,S,WJ,rfl,f,-,Q⟩:=zP hv;replace U:=U.below N;clear hv N f Q;go_wp2_with fail;refine Calls.mono (Ea _ _ _ _ _ _ (H.out.below U.all) hW.p (λi _=>tD i) HN) ?_;rintro e P ⟨c,rfl,r,M,F⟩;have a:=U.below F;have X:=D U.size M;have U:=a.base;clear F M;go_upto_region 6 with fail
 replace U:=U.new 226 [.chan (some c)];generalize P.alloc (.cells #[.chan (some c)] 226)=Wo at U⊢;have y:=(U.Wu.block c (Array.getElem?_eq_some_iff.1 r).1 (a.tC r)).trans r;have j:=a.back U;clear U a r;have U:=j;go_wp2_with(first|(refine aq ?_));refine Calls.mono (HA _ c y) ?_;rintro e w3 ⟨rfl,w,C⟩;have m:=(j.tC y).1;have l:=j.after C (λb hb e=>J) (λx f=>⟨(C.block x.g (j.bC x f).lt λe=>m x f e).trans (j.bC x f),by
  rcases j.fr x f with q|q
  ·exact q
  ·exact absurd trivial q⟩) j.UH
 clear U j y C m;have U:=l;go_wp2_with fail;refine wp_loop_rounds 2 ?_;rw[rounds_succ];go_wp2_with fail;refine Calls.mono (zF w3 {B with Yi:=λ_=>True} _ _ _ _ _ _ ((H.out.fr _ λ_ _ _=>trivial).below l.all) HP vK.init 0 (by rw[HM];decide) HQ Lc.1 Lc.2 (tD 0) am λ_ _=>trivial) ?_;rintro e n ⟨B',rfl,s,-,d,z,-⟩;have K:Bx w0 (ZB B RV.p.t.toNat) n none _:=l.Ca z (λb hb hm=>hm) λx f hm=>by
  have:=o.out _ hm;rcases l.fr x f with q|q
  ·omega
  ·exact q trivial
 have O:=(z.block c (Array.getElem?_eq_some_iff.1 w).1 λhm=>by have:=o.out _ hm;omega).trans w;clear U l z w;have U:=K.base;replace d:Hid (df n B' RV.p (bX RV) (e5 RV.p) W1):=I d;replace s:=I s;go_wp2_with(first|(refine aq ?_));refine Calls.mono (HB _ c O) ?_;rintro e W ⟨rfl,u⟩;replace U:=U.below u;go_wp2_with fail;rw[rounds_succ];go_wp2_with fail;rw[rounds_succ];go_wp2_with fail;rw[show B.O3=B'.O3 from s.out.symm];refine Calls.mono (tx _ B' _ _ _ _ (d.out.below u) hW.p λi _=>J8 i) ?_;rintro e afM ⟨v,rfl,hv,L⟩;rw[NH]at hv;obtain⟨A,V,rfl,-,-,-⟩:=id hv;replace U:=U.below L;go_wp2_with fail;go_ret2;exact⟨B',rfl,s.out,d.out.below (u.trans (L.mono u.size)),(K.back U).Wu⟩
theorem J9(w0:World)(B:WB)(A:Option Addr)(c:Nat)(h:df w0 B RV.p (bX RV) (e5 RV.p) W0)(g: ∀b,Ur B RV.p.t.toNat b->b<w0.heap.size):
 Calls prog 32 #[.pointer (some ⟨B.O3,0,none⟩),.slice A 0 c,.int .i64 9] w0 λe w'=> ∃B':WB,e= .returned (.tuple #[.int .i64 0,.int .i64 0])/\B'.O3=B.O3/\df w' B' RV.p (bX RV) (e5 RV.p) W1/\Z1 (ZB B RV.p.t.toNat) w0 w':=by
 have j:=I (HR w0 B h g);clear h g;go_enter func32,ntmps32;go_wp2_with fail;refine wp_loop_rounds 1 ?_;rw[rounds_succ];go_wp2_with fail;refine Calls.mono j.out ?_;rintro e k ⟨B',rfl,i,d,a⟩;have f:=I i;clear i;go_wp2_with fail;go_ret2;exact⟨B',rfl,f.out,d,a⟩
end
section
open Go.RowKit
variable{w0 w w':World}{S:Nat->Prop}{L:List PL}{P:Program}{o:Oper}{a a':Act}{Q:Exit->Act->World->Prop}{ops:Array Oper}{rest:List Oper}{b c:Nat}{d:Array MapEntry}
theorem lc{G:Prop}(h:G:=by
 go_wp2_with fail;refine wp_loop_rounds 1 ?_;rw[rounds_succ];go_wp2_with fail;go_ret;exact⟨rfl,rfl⟩):G:=h
theorem ld{G:Prop}(h:G:=by
 go_wp2_with fail;refine wp_loop_rounds 1 ?_;rw[rounds_succ];go_wp2_with fail;refine fY ?_;exact⟨rfl,rfl⟩):G:=h
theorem Bx.HS(h:Bx w0 S w none L)(hm:w.heap[b]? =some (.map d c)):bq none L b:=by
 refine⟨λx f e=>?_,λa e=>by cases e⟩;have h1:=h.bC x f;rw[e]at h1;rw[show w.heap[b]? =_ from h1]at hm;cases hm
theorem Bx.qY{L2:List PL}(h:Bx w0 S w none L)(hm:w.heap[b]? =some (.map d c))(k:Bx w (bq none L) w' none L2):w'.heap[b]? =some (.map d c):=
 (k.Wu.block b (Array.getElem?_eq_some_iff.1 hm).1 (h.HS hm)).trans hm
theorem Bx.QZ(h:Bx w0 S w none L)(hm:w.heap[b]? =some (.map d c))(k:w0.heap.size<=b\/¬S b)(f:Obj):Bx w0 S {w with heap:=w.heap.setIfInBounds b f} none L:=by
 have i:=(h.HS hm).1;refine⟨λx l=>?_,h.UH,h.fr,⟨h.Wu.os,h.Wu.tape,h.Wu.output,by simpa using h.Wu.size,λj hb m=>?_⟩,trivial,λa e=>by cases e⟩
 ·show(w.heap.setIfInBounds b f)[x.g]? =_;rw[bk (λe=>i x l e.symm)];exact h.bC x l
 ·show(w.heap.setIfInBounds b f)[j]? =_;rw[bk (λe=>by subst e;rcases k with q|q;omega;exact q m)];exact h.Wu.block j hb m
theorem Bx.calls{l T:Nat->Prop}(h:Bx w0 l w none L)(k:Z1 T w w')(f: ∀b,b<w0.heap.size->S b->l b/\T b)(j: ∀x,x∈L->T x.g):Bx w0 S w' none L:=
 ⟨λx hm=>(k.block x.g (h.bC x hm).lt (j x hm)).trans (h.bC x hm),h.UH,λx hm=>by
   rcases Nat.lt_or_ge x.g w0.heap.size with q|q
   ·exact .inr λi=>by
     rcases h.fr x hm with z|z
     ·omega
     ·exact z (f _ q i).1
   ·exact .inl q,⟨k.os.trans h.Wu.os,k.tape.trans h.Wu.tape,k.output.trans h.Wu.output,D h.Wu.size k.size,λb hb i=>(k.block b (aj hb h.Wu.size) (f b hb i).2).trans (h.Wu.block b hb (f b hb i).1)⟩,trivial,λa e=>by cases e⟩
theorem Bx.front{A:Option XS}{L1 L2:List PL}(h:Bx w0 S w A (L1++L2)):Bx w0 S w A L1:=h.drop (λx e=>cB _ e) (by have:=h.UH;rw[cP,List.nodup_append]at this;exact this.1)
theorem Ka(h:Bx w0 S w none L)(Z7: ∀b w',Bx w0 S w' none L->w'.heap[b]? =some (.map #[] 0)->w0.heap.size<=b->w.heap.size<=b->Below w.heap.size w w'->wpList P ops Q rest (a.put o.dst (.map (some b))) w'){t:TypeId}(dj:o.guard=none:=by exact rfl)(ZQ:o.op= .makeMap t none:=by exact rfl):wpList P ops Q (o::rest) a w:=by
 have hb:Below w.heap.size w (w.alloc (.map #[] 0)):=(Below.refl _ _).alloc (ai _) _;have Tw:=Z7 w.heap.size _ (h.below hb) (dL _ _) h.size (ai _) hb;exact nE
theorem Kb(h:Bx w0 S w none L)(hm:w.heap[b]? =some (.map d c))(l:w0.heap.size<=b\/¬S b){t k e:TypeId}{q:IntKind}{key:Int}{val:Value}{m x v:Operand}(n:P.underlying t=some (.map k e))(f:P.underlying k=some (.int q))
 (y: ∀w',Bx w0 S w' none L->w'.heap[b]? =some (.map (d.push {key:=.int q key,val:=val,born:=c}) (c+1))->ce w.heap.size b w w'->wpList P ops Q rest (a.put o.dst undef) w')
 (A:o.guard=none:=by exact rfl)(hop:o.op= .mapUpdate t m x v\/o.op= .insert t m x v:=by first|exact .inl rfl|exact .inr rfl)
 (r:a.eval m= .map (some b):=by exact rfl)(s:a.eval x= .int q key:=by exact rfl)(hv:dt a v=some val:=by exact rfl)(j:Instr.findNow (.int q) (.int q key) d.toList 0=some none:=by rfl):wpList P ops Q (o::rest) a w:=by
 refine wpList_plain A λK' p=>?_
 have hv:=gF hv;have u:(Instr.checkKey false 10000 k (.int q key)).run P w= .ok () w:=MapKept.run_checkKey (k:=.int q key) f (by simp[MapKept.IsKey]) false 9999;have B:(Instr.mapUpdate t (.map (some b)) (.int q key) val).run P w= .ok () {w with heap:=w.heap.setIfInBounds b (.map (d.push {key:=.int q key,val:=val,born:=c}) (c+1))}:=by
  simp[Instr.mapUpdate,run_underlying n,MapKept.run_getObj_map hm,u,MapKept.run_findKey f j,MapKept.run_setObj_map _ hm,Result.andThen]
 have z:=(Array.getElem?_eq_some_iff.1 hm).1;have C:=p _ _ (y {w with heap:=w.heap.setIfInBounds b (.map (d.push {key:=.int q key,val:=val,born:=c}) (c+1))} (h.QZ hm l _) (by show(w.heap.setIfInBounds b _)[b]? =_;rw[cr z]) ⟨rfl,rfl,rfl,aN,λi hi g=>by show(w.heap.setIfInBounds b _)[i]? =_;rw[bk (Ne.symm g)]⟩);unfold Oper.wp;rcases hop with hop|hop<;>(simp[execOp,hop,r,s,hv,B,Result.andThen];exact C)
theorem mR{t k e:TypeId}{q:IntKind}{key:Int}{ok:Bool}{z v:Value}{r:Option (Nat×Value)}(hm:w.heap[b]? =some (.map d c))(h:P.underlying t=some (.map k e))(f:P.underlying k=some (.int q))(l:(P.info? e).bind (·.zero)=some z)
 (g:Instr.findNow (.int q) (.int q key) d.toList 0=some r)(hv:(match r with|some (_,v)=>(if ok then Value.tuple #[v,.bool true]else v)|none=>(if ok then Value.tuple #[z,.bool false]else z))=v):(Instr.lookup t (.map (some b)) (.int q key) ok).run P w= .ok v w:=by
 subst hv;have m: ∀j,(Instr.checkKey j 10000 k (.int q key)).run P w= .ok () w:=λj=>MapKept.run_checkKey (k:=.int q key) f (by simp[MapKept.IsKey]) j 9999
 obtain⟨i,hi,n⟩:=Option.bind_eq_some_iff.1 l;cases r with
 |none=>simp[Instr.lookup,run_underlying h,MapKept.run_getObj_map hm,m,MapKept.run_findKey f g,Result.andThen,zeroValue,typeInfo,go_sem,hi,n]
 |some p=>obtain⟨i,v⟩:=p;simp[Instr.lookup,run_underlying h,MapKept.run_getObj_map hm,m,MapKept.run_findKey f g,Result.andThen]
theorem vr{t e:TypeId}{z:Value}{sz bytes n:Nat}{ds:List Value}(h:P.underlying t=some (.slice e))(j:(P.info? e).map (λi=>(i.zero,i.size,i.bytes))=some (some z,sz,bytes))(hb:bytes*n<=281474976710656)(k:n<=1000000)(hd:madeCells z.cells (n*sz)=ds.toArray)(w:World):
 (Instr.makeSlice t (.int .i64 n) (.int .i64 n)).run P w= .ok (.slice (some ⟨w.heap.size,0,none⟩) n n) (w.alloc (.cells ds.toArray e)):=by
 obtain⟨i,hi,f⟩:=Option.map_eq_some_iff.1 j;simp only[Prod.mk.injEq]at f;have g:=run_make (P:=P) (w:=w) t e i _ h hi f.1 .i64 .i64 n n J (Int.le_refl _) (by rw[f.2.2];omega) J;rw[f.2.1,bL,hd]at g;exact g
theorem xQ{K:Act->World->Prop}(h:Bx w0 S w none L){t e:TypeId}{n:Nat}{ds:List Value}(i: ∀w,(Instr.makeSlice t (.int .i64 n) (.int .i64 n)).run P w= .ok (.slice (some ⟨w.heap.size,0,none⟩) n n) (w.alloc (.cells ds.toArray e)))
 (k: ∀g w',Bx w0 S w' none (⟨g,e,ds⟩::L)->w0.heap.size<=g->K (a.put o.dst (.slice (some ⟨g,0,none⟩) n n)) w'){x y:Operand}(l:o.op= .makeSlice t x y:=by exact rfl)(j:a.eval x= .int .i64 n:=by exact rfl)(hy:a.eval y= .int .i64 n:=by exact rfl):Oper.wp P o a w K Q:=by
 have f:=k _ _ (h.new e ds) h.size;unfold Oper.wp execOp;simp only[l,j,hy,Sem.run_bind,i];simpa [go_sem]using f
theorem NI(h:Bx w0 S w none L){t e:TypeId}{n:Nat}{ds:List Value}(f: ∀w,(Instr.makeSlice t (.int .i64 n) (.int .i64 n)).run P w= .ok (.slice (some ⟨w.heap.size,0,none⟩) n n) (w.alloc (.cells ds.toArray e)))
 (l: ∀g w',Bx w0 S w' none (⟨g,e,ds⟩::L)->w0.heap.size<=g->wpList P ops Q rest (a.put o.dst (.slice (some ⟨g,0,none⟩) n n)) w')(p:o.guard=none:=by exact rfl){x y:Operand}(m:o.op= .makeSlice t x y:=by exact rfl)(j:a.eval x= .int .i64 n:=by exact rfl)(hy:a.eval y= .int .i64 n:=by exact rfl):wpList P ops Q (o::rest) a w:=
 wpList_plain p λK k=>xQ h f (λg w' s i=>k _ _ (l g w' s i)) m j hy
end
section
open Go.RowKit Tryz
section
variable(w:World)
include w
theorem HT:Calls prog 311 #[.int .u64 1] w λe w'=>e= .returned (.int .i64 1)/\w=w':=by
 go_enter func311,ntmps311;go_upto_region 10 with fail
 generalize a:(Operand.const (Value.string _))=V;have e: ∃afu,V= .const afu/\∀w,(Instr.index 9 afu (.int .u8 1)).run prog w= .ok (.int .u8 1) w:=⟨_,a.symm,λw=>aM⟩
 clear a;obtain⟨afu,rfl,e⟩:=e;go_wp2_with fail;go_ret;exact⟨rfl,rfl⟩
theorem NJ:Calls prog 238 #[.int .u64 1] w λe w'=>e= .returned (.int .i64 1)/\w=w':=by
 go_enter func238,ntmps238;go_wp2_with fail;refine Calls.mono (HT _) ?_;rintro e a ⟨rfl,rfl⟩;go_wp2_with fail;go_ret;exact⟨rfl,rfl⟩
section
variable(A:Option Addr)(c:Nat)(U5:Value)
include A c U5
theorem Kc:Calls prog 302 #[.slice A 1 c,.int .i64 0,.int .i64 1,U5] w λe w'=>e= .returned (.tuple #[])/\w=w':=by
 go_enter func302,ntmps302;exact ld
theorem Kd:Calls prog 237 #[.slice A 1 c,.int .i64 0,.int .i64 1,.int .i64 1,U5] w λe w'=>e= .returned (.tuple #[])/\w=w':=by
 go_enter func237,ntmps237;go_wp2_with fail;refine wp_loop_rounds 1 ?_;rw[rounds_succ];go_wp2_with fail;refine Calls.mono (Kc _ A c U5) ?_;rintro e a ⟨rfl,rfl⟩;go_wp2_with fail;refine fY ?_;exact⟨rfl,rfl⟩
theorem HU:Calls prog 151 #[.slice A 1 c,U5] w λe w'=>e= .returned (.tuple #[])/\w=w':=by
 go_enter func151,ntmps151;go_wp2_with fail;refine Calls.mono (NJ _) ?_;rintro e a ⟨rfl,rfl⟩;go_wp2_with fail;refine Calls.mono (Kd _ A c U5) ?_;rintro e a ⟨rfl,rfl⟩;go_wp2_with fail;refine fY ?_;exact⟨rfl,rfl⟩
theorem Ke:Calls prog 301 #[.slice A 0 c,U5] w λe w'=>e= .returned (.int .i64 (-1))/\w=w':=by
 go_enter func301,ntmps301;exact lc
theorem HV:Calls prog 235 #[.slice A 0 c,U5] w λe w'=>e= .returned (.bool false)/\w=w':=by
 go_enter func235,ntmps235;go_wp2_with fail;refine Calls.mono (Ke _ A c U5) ?_;rintro e a ⟨rfl,rfl⟩;go_wp2_with fail;go_ret;exact⟨rfl,rfl⟩
theorem Kf:Calls prog 148 #[.slice A 0 c,U5] w λe w'=>e= .returned (.bool true)/\Below w.heap.size w w':=by
 go_enter func148,ntmps148;have U:=Bx.a0 w;go_upto_region 1 with(refine Ws U 258 ?_;clear U;intro b w U d)
 go_wp2_with fail;refine Calls.mono (HV _ A c _) ?_;rintro e a ⟨rfl,rfl⟩;go_wp2_with fail;go_ret;exact⟨rfl,U.all⟩
end
end
end
section
open Go.RowKit Tryz
def gB(w:World)(B:WB):Prop:=df w B RV.p (bX RV) (e5 RV.p) W1
theorem gB.below{w w':World}{B:WB}(h:gB w B)(k:Below w.heap.size w w'):gB w' B:=df.below h k
theorem NK:e5 RV.p=24:=aM
theorem HW:(W1.XT 0).aD= []:=aM
theorem t1:RV.p.t.toNat=1:=by rw[m1];rfl
variable(w0:World)(B:WB)(h:gB w0 B)
theorem Kg(ap:Nat):Calls prog 154 #[.agg ([.int .i64 2,.int .i64 1,.int .i64 0,.int .i64 64]:List Value).toArray,.pointer (some ⟨ap,0,none⟩),.int .i64 (-1)] w0 λe w'=>e= .returned (.tuple #[.agg #[.int .i64 0,.int .i64 0,.int .i64 0,.int .i64 0],.int .i64 11])/\Below w0.heap.size w0 w':=by
 have U:=Bx.a0 w0;have AT:=I λw'=>OZ 2 1 0 64 0 (-1) w' (I am) am am am
 go_enter func154,ntmps154;go_upto_region 1 with(first|(refine Ws U 27 ?_;clear U;intro c w U f)|(refine VP U ny ?_;clear U;intro gc w U d))
 go_wp2_with(first|(go_at_call 155;refine a6 U (AT.out _) ?_;clear U;intro a U)|(refine aq ?_)|(refine Po U ?_;clear U;intro w U));refine aZ results154 rfl rfl ⟨_,U.b (g:=gc) ag,rfl⟩ underlying56 rfl aM ?_;exact⟨rfl,U.all⟩
include h
theorem Cb:Calls prog 80 #[.pointer (some ⟨B.O3,0,none⟩),.int .i64 (-1)] w0 λe w'=>e= .returned (.tuple #[.agg #[.int .i64 0,.int .i64 0,.int .i64 0,.int .i64 0],.int .i64 11])/\Below w0.heap.size w0 w':=by
 have hb:ah w0 B.O3 142 _:=h.wd;rw[m1]at hb;have UL:=I hb;have U:=Bx.g8 hb;clear h hb;go_enter func80,ntmps80;go_wp2_with(first|(refine aq ?_)|(refine aT ?_;clear U;intro X8 w U T7));replace U:=U.drew;refine wp_region_held_drew aM U.l0 (λX=>?_);refine az [[0,1,2,3,4,5,6,7,8]] ?_;refine aF 9 λK Z7=>?_
 go_simp;go_at_call 154;refine a6 U (Kg _ _) ?_;clear U;intro a U;exact n8
theorem tE:Calls prog 80 #[.pointer (some ⟨B.O3,0,none⟩),.int .i64 0] w0 λe w'=>e= .returned (.tuple #[.agg ([.int .i64 2,.int .i64 1,.int .i64 (-1),.int .i64 0]:List Value).toArray,.int .i64 0])/\Below w0.heap.size w0 w':=by
 obtain⟨O',b,a⟩:=HP.bI (t:=0) (by rw[HM];decide) HQ;exact xq w0 B _ _ _ _ h hW.p (by rw[NK,m1];decide) 0 (by rw[m1];decide) (a.inv.Zt 0 (by rw[m1];decide)).ft
theorem xR:Calls prog 80 #[.pointer (some ⟨B.O3,0,none⟩),.int .i64 1] w0 λe w'=>e= .returned (.tuple #[.agg ([.int .i64 1,.int .i64 0,.int .i64 (-1),.int .i64 0]:List Value).toArray,.int .i64 0])/\Below w0.heap.size w0 w':=by
 obtain⟨O',b,a⟩:=HP.bI (t:=0) (by rw[HM];decide) HQ;exact xq w0 B _ _ _ _ h hW.p (by rw[NK,m1];decide) 1 (by rw[m1];decide) (a.inv.Zt 1 (by rw[m1];decide)).ft
theorem zV(k:Nat)(a:k<24):Calls prog 156 #[.agg ([.int .i64 2,.int .i64 1,.int .i64 0,.int .i64 64,.pointer (some ⟨B.O3,0,none⟩)]:List Value).toArray,.int .i64 (8*(k:Int))] w0 λe w'=>e= .returned (.int .u64 (W1.V k))/\Below w0.heap.size w0 w':=by
 have H:=I h;have U:=Bx.a0 w0;clear h;have b:=I a;clear a;go_enter func156,ntmps156;go_upto_region 1 with(first|(refine Ws U 165 ?_;clear U;intro gk w U d))
 go_wp2_with(first|(go_at_call 100;refine a6 U (FG _ _ _ _ _ _ (H.out.below U.all) _ k rfl (by rw[NK];exact b.out)) ?_;clear U;intro c U)|(refine aq ?_)|(refine Po U ?_;clear U;intro w U)|(refine WG U ?_));go_ret;exact⟨rfl,U.all⟩
theorem ib(q s k:Nat)(f:q<=4)(i:s<2)(c:8*s+q=k):Calls prog 81 #[.agg ([.int .i64 2,.int .i64 1,.int .i64 0,.int .i64 64,.pointer (some ⟨B.O3,0,none⟩)]:List Value).toArray,.int .i64 (q:Int),.int .i64 (s:Int)] w0 λe w'=>e= .returned (.int .u64 (W1.V k))/\Below w0.heap.size w0 w':=by
 have H:=I h;have AT:=I (show∀w',Calls prog 155 #[.agg ([.int .i64 2,.int .i64 1,.int .i64 0,.int .i64 64]:List Value).toArray,.int .i64 (q:Int),.int .i64 (s:Int)] w' λe j=>e= .returned (.tuple #[.int .i64 (8*(k:Int)),.int .i64 0])/\Below w'.heap.size w' j from λw'=>by
  have h1:=KI 2 1 0 64 q s w' (I am) am J J;rwa[show(s:Int)*64+q*8=8*(k:Int) by omega]at h1)
 have d:k<24:=J;have b:=I d;have U:=Bx.a0 w0;clear h f i c d;go_enter func81,ntmps81;go_upto_region 1 with(first|(refine Ws U 165 ?_;clear U;intro gk w U l))
 go_wp2_with(first|(go_at_call 155;refine a6 U (AT.out _) ?_;clear U;intro a U)|(go_at_call 156;refine a6 U (zV _ B (H.out.below U.all) k b.out) ?_;clear U;intro a U)|(refine aq ?_)|(refine Po U ?_;clear U;intro w U)|(refine WG U ?_));go_ret;exact⟨rfl,U.all⟩
theorem Kh:Calls prog 103 #[.pointer (some ⟨B.O3,0,none⟩),.int .i64 0] w0 λe w'=> ∃A c,e= .returned (.slice A 0 c)/\Below w0.heap.size w0 w':=
 (sX w0 B _ _ _ _ h hW.p 0 (by rw[m1];decide) (by rw[HW];decide)).mono λe w' b=>by
   obtain⟨v,rfl,hv,hb⟩:=b
   obtain⟨A,c,a,-,-,-⟩:=id hv
   rw[HW]at a
   exact⟨A,c,by rw[a];rfl,hb⟩
theorem xS(i:Int)(hi:1<=i/\i<=3):Calls prog 103 #[.pointer (some ⟨B.O3,0,none⟩),.int .i64 i] w0 λe w'=>e= .returned (.slice none 0 0)/\Below w0.heap.size w0 w':=by
 have hb:ah w0 B.O3 142 _:=h.wd;obtain⟨A,c,e,-,-,-⟩:=id h.Wl;rw[e,m1]at hb;have a:=I hb;have WI:=I λw'=>fq i 0 0 w' (.inr J)
 have U:=Bx.g8 hb;clear h hb e hi;go_enter func103,ntmps103;go_wp2_with(first|(go_at_call 104;refine Calls.mono (WI.out _) ?_;rintro e b ⟨rfl,rfl⟩;skip)|(refine UQ U ?_));go_ret;exact⟨rfl,U.ro a.out ag⟩
theorem By:Calls prog 234 #[.agg ([.int .i64 2,.int .i64 1,.int .i64 0,.int .i64 64,.pointer (some ⟨B.O3,0,none⟩)]:List Value).toArray,.int .i64 1] w0 λe w'=>e= .returned (.int .i64 0)/\Below w0.heap.size w0 w':=by
 have H:=I h;have U:=Bx.a0 w0;clear h;go_enter func234,ntmps234;go_upto_region 1 with(first|(refine Ws U 165 ?_;clear U;intro gk w U b))
 go_wp2_with fail;refine wp_loop_rounds 5 ?_;rw[rounds_succ];go_wp2_with(first|(refine aq ?_)|(refine Po U ?_;clear U;intro w U)|(refine WG U ?_));refine(Kh _ B (H.out.below U.all)).mono ?_;rintro e a ⟨A,c,rfl,N⟩;replace U:=U.below N;clear N;go_wp2_with fail;refine wp_loop_rounds 1 ?_;rw[rounds_succ];go_wp2_with fail;rw[rounds_succ];go_wp2_with(first|(refine aq ?_)|(refine Po U ?_;clear U;intro w U)|(refine WG U ?_));refine(xS _ B (H.out.below U.all) 1 am).mono ?_;rintro e a ⟨rfl,N⟩;replace U:=U.below N;clear N;go_wp2_with fail;refine wp_loop_rounds 1 ?_;rw[rounds_succ];go_wp2_with fail;rw[rounds_succ];go_wp2_with(first|(refine aq ?_)|(refine Po U ?_;clear U;intro w U)|(refine WG U ?_));refine(xS _ B (H.out.below U.all) 2 am).mono ?_;rintro e a ⟨rfl,N⟩;replace U:=U.below N;clear N;go_wp2_with fail;refine wp_loop_rounds 1 ?_;rw[rounds_succ];go_wp2_with fail;rw[rounds_succ];go_wp2_with(first|(refine aq ?_)|(refine Po U ?_;clear U;intro w U)|(refine WG U ?_));refine(xS _ B (H.out.below U.all) 3 am).mono ?_;rintro e a ⟨rfl,N⟩;replace U:=U.below N;clear N;go_wp2_with fail;refine wp_loop_rounds 1 ?_;rw[rounds_succ];go_wp2_with fail;rw[rounds_succ];go_wp2_with fail;go_ret;exact⟨rfl,U.all⟩
end
section
open Go.RowKit Tryz
theorem pD{G:Prop}(h:G:=by
 refine WE Z7 λX=>?_
 refine aF 4 λK Z7=>?_
 go_simp
 (go_at_call 145;refine a6 U (Ki _ B (H.out.below U.all) Y9 WS.out) ?_;clear U;intro EH U)
 go_wp2_with fail;refine WE Z7 λX=>?_
 refine aF 5 λK Z7=>?_
 go_simp
 (go_at_call 144;refine Calls.mono (zW _) ?_;rintro e EH ⟨rfl,rfl⟩;skip)
 go_wp2_with fail;refine WE Z7 λX=>?_
 refine Xh 6 ?_;refine UF ?_;go_wp2_with fail;go_ret;exact⟨rfl,U.all⟩):G:=h
theorem zW(w:World):Calls prog 144 #[.bool true] w λe w'=>e= .returned (.int .i64 0)/\w=w':=by
 go_enter func144,ntmps144;go_wp2_with fail;go_ret;exact⟨rfl,rfl⟩
variable(w0:World)(B:WB)(h:gB w0 B)
include h
theorem Ek:Calls prog 147 #[.agg ([.int .i64 2,.int .i64 1,.int .i64 0,.int .i64 64,.pointer (some ⟨B.O3,0,none⟩)]:List Value).toArray,.int .i64 0] w0 λe w'=>e= .returned (.bool true)/\Below w0.heap.size w0 w':=by
 have H:=I h;have U:=Bx.a0 w0;clear h;have c:=I λw'=>km (⟨2,1,-1,0⟩) w' ⟨am,am,am,am⟩
 go_enter func147,ntmps147;go_upto_region 1 with(first|(refine Ws U 165 ?_;clear U;intro gk w U f))
 go_upto_region 2 with(first|(go_at_call 80;refine a6 U (tE _ B (H.out.below U.all)) ?_;clear U;intro a U)|(refine VP U ny ?_;clear U;intro gc w U b)|(refine aq ?_)|(refine Po U ?_;clear U;intro w U))
 go_upto_region 3 with(first|(go_at_call 80;refine a6 U (Cb _ B (H.out.below U.all)) ?_;clear U;intro a U)|(refine VP U ny ?_;clear U;intro d w U b)|(refine aq ?_)|(refine Po U ?_;clear U;intro w U))
 go_upto_region 5 with(first|(go_at_call 233;refine a6 U (c.out _) ?_;clear U;intro a U)|(refine WG U ?_))
 go_wp2_with(first|(refine Ww U ?_));go_ret;exact⟨rfl,U.all⟩
theorem El:Calls prog 147 #[.agg ([.int .i64 2,.int .i64 1,.int .i64 0,.int .i64 64,.pointer (some ⟨B.O3,0,none⟩)]:List Value).toArray,.int .i64 1] w0 λe w'=>e= .returned (.bool true)/\Below w0.heap.size w0 w':=by
 have H:=I h;have U:=Bx.a0 w0;clear h;have c:=I λw'=>km (⟨1,0,-1,0⟩) w' ⟨am,am,am,am⟩
 go_enter func147,ntmps147;go_upto_region 1 with(first|(refine Ws U 165 ?_;clear U;intro gk w U l))
 go_upto_region 2 with(first|(go_at_call 80;refine a6 U (xR _ B (H.out.below U.all)) ?_;clear U;intro a U)|(refine VP U ny ?_;clear U;intro gc w U b)|(refine aq ?_)|(refine Po U ?_;clear U;intro w U))
 go_upto_region 3 with(first|(go_at_call 80;refine a6 U (Cb _ B (H.out.below U.all)) ?_;clear U;intro a U)|(refine VP U ny ?_;clear U;intro j w U b)|(refine aq ?_)|(refine Po U ?_;clear U;intro w U))
 go_upto_region 5 with(first|(go_at_call 233;refine a6 U (c.out _) ?_;clear U;intro a U)|(refine WG U ?_))
 have d:=U.cell (g:=gc) (i:=2) kw rfl;have f:=U.cell (g:=gc) (i:=0) kw rfl;go_wp2_with(first|(go_at_call 234;refine a6 U (By _ B (H.out.below U.all)) ?_;clear U;intro a U)|(refine Ww U ?_));go_ret;exact⟨rfl,U.all⟩
omit h in
theorem HX(w:World):(Instr.makeSlice 30 (.int .i64 ((2:Nat):Int)) (.int .i64 ((2:Nat):Int))).run prog w= .ok (.slice (some ⟨w.heap.size,0,none⟩) 2 2) (w.alloc (.cells ([.int .i64 0,.int .i64 0]:List Value).toArray 3)):=
 vr (z:=.int .i64 0) (sz:=1) (bytes:=8) underlying30 aM am am aM w
omit h in
set_option maxHeartbeats 8000000 in
set_option maxRecDepth 100000 in
theorem zX:Calls prog 146 #[.agg ([.int .i64 2,.int .i64 1,.int .i64 0,.int .i64 64,.pointer (some ⟨B.O3,0,none⟩)]:List Value).toArray] w0 λe w'=> ∃g,e= .returned (.slice (some ⟨g,0,none⟩) 2 2)/\ah w' g 3 ([.int .i64 0,.int .i64 1]:List Value).toArray/\Below w0.heap.size w0 w':=by
 have a:=I HX;have U:=Bx.a0 w0;go_enter func146,ntmps146;go_upto_region 1 with(first|(refine Ws U 165 ?_;clear U;intro gk w U d))
 go_upto_region 2 with(first|(refine NI U a.out ?_;clear U;intro g w U c)|(refine UQ U ?_))
 go_wp2_with fail;refine wp_loop_rounds 3 ?_;rw[rounds_succ];go_wp2_with(refine Po U ?_;clear U;intro w U);rw[rounds_succ];go_wp2_with(refine Po U ?_;clear U;intro w U);rw[rounds_succ];go_wp2_with fail;go_ret;exact⟨g,rfl,U.b (g:=g) cX,U.all⟩
section
variable(a:Nat)(b:w0.cell? ⟨a,0,none⟩=some (.func (.func 147) #[.agg ([.int .i64 2,.int .i64 1,.int .i64 0,.int .i64 64,.pointer (some ⟨B.O3,0,none⟩)]:List Value).toArray] #[]))
include a b
theorem HY:Calls prog 232 #[.int .i64 0,.pointer (some ⟨a,0,none⟩)] w0 λe w'=>e= .returned (.bool false)/\Below w0.heap.size w0 w':=by
 have d: ∀args w,(callFunc 147 args).run prog w= .ok (.enter 147 args) w:=enters_of func147 aM rfl;have H:=I h;clear h;go_enter func232,ntmps232;go_wp2_with fail;refine(Ek _ B H.out).mono ?_;rintro e c ⟨rfl,N⟩;go_wp2_with fail;go_ret;exact⟨rfl,N⟩
theorem HZ:Calls prog 232 #[.int .i64 1,.pointer (some ⟨a,0,none⟩)] w0 λe w'=>e= .returned (.bool false)/\Below w0.heap.size w0 w':=by
 have d: ∀args w,(callFunc 147 args).run prog w= .ok (.enter 147 args) w:=enters_of func147 aM rfl;have H:=I h;clear h;go_enter func232,ntmps232;go_wp2_with fail;refine(El _ B H.out).mono ?_;rintro e c ⟨rfl,N⟩;go_wp2_with fail;go_ret;exact⟨rfl,N⟩
end
theorem Ki(g:Nat)(hb:ah w0 g 3 ([.int .i64 0,.int .i64 1]:List Value).toArray):Calls prog 145 #[.slice (some ⟨g,0,none⟩) 2 2,(.func (.func 147) #[.agg ([.int .i64 2,.int .i64 1,.int .i64 0,.int .i64 64,.pointer (some ⟨B.O3,0,none⟩)]:List Value).toArray] #[])] w0 λe w'=>e= .returned (.bool true)/\Below w0.heap.size w0 w':=by
 have j: ∀args w,(callFunc 232 args).run prog w= .ok (.enter 232 args) w:=enters_of func232 aM rfl;have l:=I j;have H:=I h;have d:=I hb;have U:=Bx.a0 w0;clear j h hb;go_enter func145,ntmps145;go_upto_region 1 with(refine Ws U 144 ?_;clear U;intro a w U s)
 go_wp2_with fail;have o:=d.out.below U.all d.out.lt;refine(uq _ (λb=>0<=b) _ 2 (λi=> [.int .i64 i]) (λi=>.int .i64 i) 232 #[.pointer (some ⟨a,0,none⟩)] (λ_=>false) l.out (tz (f:=λi=>.int .i64 i) (r:= []) o (aL _) am) (λi hi=>rfl) am (λi hi w' n=>?_)).mono ?_
 ·have m:=(n.cell (p:=⟨a,0,none⟩) (U.b (g:=a) cX).lt).trans (U.cell (g:=a) (i:=0) cX rfl);have k:gB w' B:=gB.below H.out (U.all.trans (n.mono U.size))
  ·rcases i with _|_|i
   ·exact HY w' B k a m
   ·exact HZ w' B k a m
   ·omega
 rintro e q ⟨r,rfl,c,N⟩;replace U:=U.below N;obtain rfl:r=false:=by
  rcases c with c|⟨_,i,_,c⟩
  ·exact c.1
  ·cases c
 go_wp2_with fail;go_ret;exact⟨rfl,U.all⟩
theorem Bz:Calls prog 78 #[.agg ([.int .i64 2,.int .i64 1,.int .i64 0,.int .i64 64]:List Value).toArray,.pointer (some ⟨B.O3,0,none⟩)] w0 λe w'=>e= .returned (.int .i64 0)/\Below w0.heap.size w0 w':=by
 have H:=I h;have U:=Bx.a0 w0;clear h;go_enter func78,ntmps78;go_upto_region 1 with(refine Ws U 27 ?_;clear U;intro b w U c)
 go_upto_region 2 with(first|(refine VP U xc ?_;clear U;intro gk w U d)|(refine aq ?_)|(refine Po U ?_;clear U;intro w U))
 replace U:=U.drew;refine wp_region_held_drew (S:=(c0 [⟨gk,165,[.int .i64 2,.int .i64 1,.int .i64 0,.int .i64 64,.pointer (some ⟨B.O3,0,none⟩)]⟩])) aM ?_ (λX=>?_)
 ·exact U.bG aN
 refine az [[0,2]] ?_;refine Zj [1,3] ?_;refine ea (λK Z7=>?_) ?_
 ·go_simp
  (go_at_call 146;refine Calls.mono (zX _ B) ?_;rintro e EH ⟨Y9,rfl,a,N⟩;replace U:=U.below N;clear N;have WS:=I a;have WL:=I U;clear a)
  go_wp2_with fail;refine WE Z7 λX=>?_
  refine aF 3 λK Z7=>?_
  go_simp;exact pD
 refine ei (λK Z7=>?_);go_simp;refine WE Z7 λX=>?_
 refine aF 1 λK Z7=>?_
 go_simp
 (go_at_call 146;refine Calls.mono (zX _ B) ?_;rintro e EH ⟨Y9,rfl,a,N⟩;replace U:=U.below N;clear N;have WS:=I a;have WL:=I U;clear a)
 go_wp2_with fail;exact pD
end
section
open Go.RowKit Tryz
theorem pE{G:Prop}(h:G:=by
 replace U:=U.drew;refine wp_region_held_drew (S:=(c0 [⟨gk,165,[.int .i64 2,.int .i64 1,.int .i64 0,.int .i64 64,.pointer (some ⟨B.O3,0,none⟩)]⟩])) (by kernel_rfl) ?_ (λX=>?_)
 ·exact U.bG (by simp)
 refine az [[0,1,3,4,6,7]] ?_;refine Zj [2,10] ?_;refine ea (λK Z7=>?_) ?_
 ·go_simp
  (go_at_call 81;refine a6 U (vS.out _ U.all) ?_;clear U;intro EH U)
  go_wp2_with fail;refine WE Z7 λX=>?_
  refine Zj [5,10] ?_;refine ea (λK Z7=>?_) ?_
  ·go_simp
   (go_at_call 81;refine a6 U (ZK.out _ U.all) ?_;clear U;intro EH U)
   go_wp2_with fail;refine WE Z7 λX=>?_
   refine Zj [8,10] ?_;refine ea (λK Z7=>?_) ?_
   ·go_simp
    (go_at_call 81;refine a6 U (W6.out _ U.all) ?_;clear U;intro EH U)
    go_wp2_with fail;refine WE Z7 λX=>?_
    refine Xh 9 ?_;refine aF 10 λK Z7=>?_
    refine ZZ U tX ?_;clear U;intro VR w U NL;refine WE Z7 λX=>?_
    refine az [[],[11]] ?_;clear U;intro w U;go_wp2_with fail;go_meet;exact⟨VR,rfl,U⟩
   refine ei (λK Z7=>?_);refine ZZ U tX ?_;clear U;intro VR w U NL;refine WE Z7 λX=>?_
   refine aF 8 λK Z7=>?_
   go_simp
   (go_at_call 81;refine a6 U (W6.out _ U.all) ?_;clear U;intro EH U)
   go_wp2_with fail;refine WE Z7 λX=>?_
   refine az [[9],[11]] ?_;clear U;intro w U;go_wp2_with fail;go_meet;exact⟨VR,rfl,U⟩
  refine ei (λK Z7=>?_);refine ZZ U tX ?_;clear U;intro VR w U NL;refine WE Z7 λX=>?_
  refine aF 5 λK Z7=>?_
  go_simp
  (go_at_call 81;refine a6 U (ZK.out _ U.all) ?_;clear U;intro EH U)
  go_wp2_with fail;refine WE Z7 λX=>?_
  refine aF 8 λK Z7=>?_
  go_simp
  (go_at_call 81;refine a6 U (W6.out _ U.all) ?_;clear U;intro EH U)
  go_wp2_with fail;refine WE Z7 λX=>?_
  refine az [[9],[11]] ?_;clear U;intro w U;go_wp2_with fail;go_meet;exact⟨VR,rfl,U⟩
 refine ei (λK Z7=>?_);refine ZZ U tX ?_;clear U;intro VR w U NL;refine WE Z7 λX=>?_
 refine aF 2 λK Z7=>?_
 go_simp
 (go_at_call 81;refine a6 U (vS.out _ U.all) ?_;clear U;intro EH U)
 go_wp2_with fail;refine WE Z7 λX=>?_
 refine aF 5 λK Z7=>?_
 go_simp
 (go_at_call 81;refine a6 U (ZK.out _ U.all) ?_;clear U;intro EH U)
 go_wp2_with fail;refine WE Z7 λX=>?_
 refine aF 8 λK Z7=>?_
 go_simp
 (go_at_call 81;refine a6 U (W6.out _ U.all) ?_;clear U;intro EH U)
 go_wp2_with fail;refine WE Z7 λX=>?_
 refine az [[9],[11]] ?_;clear U;intro w U;go_wp2_with fail;go_meet;exact⟨VR,rfl,U⟩):G:=h
theorem pF{G:Prop}(h:G:=by
 refine az [[0,1,2,3,4,5,6,7,8,9,10,11,12,13,14,15]] ?_;refine aF 16 λK Z7=>?_
 go_simp
 (first|(go_at_call 149;refine a6 U (ZE.out _ U.all) ?_;clear U;intro EH U)|skip)
 (try go_wp2_with fail)
 refine WE Z7 λX=>?_
 refine az [[17],[18],[19]] ?_;clear U;intro w U;go_wp2_with fail;refine aZ results150 rfl rfl ⟨_,U.b (g:=gr) ag,rfl⟩ underlying130 rfl (by kernel_rfl) ?_;exact⟨rfl,U.all⟩):G:=h
theorem Em:(Tryz.prog.info? 59).map (·.size)=some 1:=aM
theorem kp(cs:Array Value)(i:Nat)(v:Value)(w:World)(hi:i<3)(hv:cs[i]? =some v):(Instr.index 344 (.agg cs) (.int .i64 i)).run prog w= .ok v w:=by
 obtain⟨z,b,d⟩:=Option.map_eq_some_iff.1 Em;have a:(i:Int)<3:=J;have c:(0:Int)<=i:=J;simp[Instr.index,asIntOf,Sem.run_bind,run_underlying underlying344,run_underlying underlying59,part,isAgg,sizeOf,typeInfo,b,d,a,c,hv,go_sem];intro h;omega
variable(w0:World)(B:WB)(h:gB w0 B)
include h
omit h in
set_option maxHeartbeats 8000000 in
set_option maxRecDepth 100000 in
theorem H0(b a m:Nat)(hm:a<=m/\m<=24)(z':Int)(d:8*(a:Int)+z'=8*(m:Int))(wd: ∀k,a<=k->k<m->∀w',Below w0.heap.size w0 w'->Calls prog 156 #[.agg ([.int .i64 2,.int .i64 1,.int .i64 0,.int .i64 64,.pointer (some ⟨b,0,none⟩)]:List Value).toArray,.int .i64 (8*(k:Int))] w' λe p=>e= .returned (.int .u64 0)/\Below w'.heap.size w' p):
 Calls prog 149 #[.agg ([.int .i64 2,.int .i64 1,.int .i64 0,.int .i64 64,.pointer (some ⟨b,0,none⟩)]:List Value).toArray,.agg #[.int .i64 (8*(a:Int)),.int .i64 z']] w0 λe w'=>e= .returned (.bool true)/\Below w0.heap.size w0 w':=by
 have WD:=I wd;have t:IntKind.i64.wrap (8*(a:Int)+z')=8*(m:Int):=by rw[IntKind.wrap_i64];omega
 have u:wrap64 (8*(a:Int)+z')=8*(m:Int):=by unfold wrap64;omega
 have l:=I hm;have U:=Bx.a0 w0;clear wd hm d;go_enter func149,ntmps149;go_upto_region 1 with(first|(refine Ws U 165 ?_;clear U;intro gk w U x)|(refine Ws U 130 ?_;clear U;intro f w U s))
 go_wp2_with(refine UQ U ?_);have j:=I U;clear U;go_loopw [5] (λi wr=> ∃k:Nat,a<=k/\k<=m/\i= .int .i64 (8*(k:Int))/\Bx w0 (λ_=>True) wr none [⟨f,130,[.int .i64 (8*(a:Int)),.int .i64 z']⟩,⟨gk,165,[.int .i64 2,.int .i64 1,.int .i64 0,.int .i64 64,.pointer (some ⟨b,0,none⟩)]⟩]) (λi _=>8*m-(intOf i).toNat)
 case atStart=>exact⟨a,ai _,l.out.1,rfl,j.out⟩
 case round=>
  obtain⟨k,n,r,rfl,U⟩:=hrel;clear j;by_cases o:k<m
  ·have c:8*(k:Int)<8*(m:Int):=by omega
   have v:k<24:=by have:=l.out;omega
   go_wp2_with(first|(go_at_call 156;refine a6 U (WD.out k n o _ U.all) ?_;clear U;intro q U)|(refine aq ?_));go_roundw
   case rel=>exact⟨k+1,J,J,by go_num,U⟩
   case measure=>simp[intOf];omega
  ·obtain rfl:m=k:=by omega
   have c: ¬8*(m:Int)<8*(m:Int):=J;go_wp2_with(refine UQ U ?_);go_ret;exact⟨rfl,U.all⟩
theorem zY(a m:Nat)(hm:a<=m/\m<=24)(z':Int)(b:8*(a:Int)+z'=8*(m:Int))(d: ∀k,a<=k->k<m->W1.V k=0):Calls prog 149 #[.agg ([.int .i64 2,.int .i64 1,.int .i64 0,.int .i64 64,.pointer (some ⟨B.O3,0,none⟩)]:List Value).toArray,.agg #[.int .i64 (8*(a:Int)),.int .i64 z']] w0 λe w'=>e= .returned (.bool true)/\Below w0.heap.size w0 w':=
 H0 w0 B.O3 a m hm z' b λk f c w' hb=>by
  have h1:=zV w' B (gB.below h hb) k J
  rw[d k f c]at h1
  exact h1
theorem BA:Calls prog 150 #[.agg ([.int .i64 2,.int .i64 1,.int .i64 0,.int .i64 64,.pointer (some ⟨B.O3,0,none⟩)]:List Value).toArray,.int .i64 0] w0 λe w'=>e= .returned (.tuple #[.agg #[.int .i64 128,.int .i64 0],.bool true])/\Below w0.heap.size w0 w':=by
 have H:=I h;have U:=Bx.a0 w0;clear h;have vS:=I (show∀w',Below w0.heap.size w0 w'->Calls prog 81 #[.agg ([.int .i64 2,.int .i64 1,.int .i64 0,.int .i64 64,.pointer (some ⟨B.O3,0,none⟩)]:List Value).toArray,.int .i64 1,.int .i64 0] w' λe a=>e= .returned (.int .u64 128)/\Below w'.heap.size w' a from λw' hb=>by
  have h1:=ib w' B (gB.below H.out hb) 1 0 1 am am rfl;rw[show W1.V 1=128 by kernel_rfl]at h1;exact h1)
 have ZK:=I (show∀w',Below w0.heap.size w0 w'->Calls prog 81 #[.agg ([.int .i64 2,.int .i64 1,.int .i64 0,.int .i64 64,.pointer (some ⟨B.O3,0,none⟩)]:List Value).toArray,.int .i64 2,.int .i64 0] w' λe a=>e= .returned (.int .u64 0)/\Below w'.heap.size w' a from λw' hb=>by
  have h1:=ib w' B (gB.below H.out hb) 2 0 2 am am rfl;rw[show W1.V 2=0 by kernel_rfl]at h1;exact h1)
 have W6:=I (show∀w',Below w0.heap.size w0 w'->Calls prog 81 #[.agg ([.int .i64 2,.int .i64 1,.int .i64 0,.int .i64 64,.pointer (some ⟨B.O3,0,none⟩)]:List Value).toArray,.int .i64 3,.int .i64 0] w' λe a=>e= .returned (.int .u64 0)/\Below w'.heap.size w' a from λw' hb=>by
  have h1:=ib w' B (gB.below H.out hb) 3 0 3 am am rfl;rw[show W1.V 3=0 by kernel_rfl]at h1;exact h1)
 have n:=I λw'=>jS 2 1 0 64 w' (I am) am
 have x:=I λw'=>pR 2 1 0 64 w' (I am) am am
 have ZE:=I (show∀w',Below w0.heap.size w0 w'->Calls prog 149 #[.agg ([.int .i64 2,.int .i64 1,.int .i64 0,.int .i64 64,.pointer (some ⟨B.O3,0,none⟩)]:List Value).toArray,.agg #[.int .i64 128,.int .i64 0]] w' λe a=>e= .returned (.bool true)/\Below w'.heap.size w' a from λw' hb=>zY w' B (gB.below H.out hb) 16 16 am 0 am (λk h1 z=>J));go_enter func150,ntmps150;go_upto_region 1 with(first|(refine Ws U 165 ?_;clear U;intro gk w U L)|(refine VP U eK ?_;clear U;intro gr w U A))
 go_upto_region 2 with(first|(go_at_call 80;refine a6 U (tE _ B (H.out.below U.all)) ?_;clear U;intro EH U)|(refine VP U ny ?_;clear U;intro gc w U C)|(refine aq ?_)|(refine Po U ?_;clear U;intro w U))
 go_cut [8]from 23 to 33 (λm y=> ∃VR,m= .pointer (some ⟨VR,0,none⟩)/\Bx w0 (λ_=>True) y none [⟨VR,344,[.int .u64 128,.int .u64 0,.int .u64 0]⟩,⟨gc,56,[.int .i64 2,.int .i64 1,.int .i64 (-1),.int .i64 0]⟩,⟨gr,130,[.int .i64 0,.int .i64 0]⟩,⟨gk,165,[.int .i64 2,.int .i64 1,.int .i64 0,.int .i64 64,.pointer (some ⟨B.O3,0,none⟩)]⟩])
 case first=>
  exact pE
 case rest=>
 obtain⟨VR,rfl,U⟩:=hcut;clear vS ZK W6;have r:=U.cell (g:=VR) (i:=0) ag rfl;have v:=U.cell (g:=VR) (i:=1) ag rfl;have s:=U.cell (g:=VR) (i:=2) ag rfl;go_wp2_with(refine UQ U ?_);clear r v s;have q:=(show∀w,(Instr.index 344 (.agg #[.int .u64 128,.int .u64 0,.int .u64 0]) (.int .i64 0)).run prog w= .ok (.int .u64 128) w from λw=>kp _ 0 _ w am rfl)
 have j:=(show∀w,(Instr.index 344 (.agg #[.int .u64 128,.int .u64 0,.int .u64 0]) (.int .i64 1)).run prog w= .ok (.int .u64 0) w from λw=>kp _ 1 _ w am rfl)
 have l:=(show∀w,(Instr.index 344 (.agg #[.int .u64 128,.int .u64 0,.int .u64 0]) (.int .i64 2)).run prog w= .ok (.int .u64 0) w from λw=>kp _ 2 _ w am rfl)
 refine wp_loop_rounds 4 ?_;rw[rounds_succ];go_wp2_with fail;rw[rounds_succ];go_wp2_with fail;rw[rounds_succ];go_wp2_with fail;rw[rounds_succ];go_upto_region 11 with fail
 replace U:=U.drew;refine wp_region_held_drew (S:=(c0 [⟨VR,344,[.int .u64 128,.int .u64 0,.int .u64 0]⟩])) aM ?_ (λX=>?_)
 ·exact U.bG aN
 refine az [[0,1,2,3,4,5,6,7,8,9]] ?_;refine aF 10 λK Z7=>?_
 refine ZZ U eK ?_;clear U;intro c w U F;refine WE Z7 λX=>?_
 refine az [[],[11],[12]] ?_;clear U;intro w U;simp only[show IntKind.i64.wrap 128=128 by decide,show IntKind.i64.wrap 64=64 by decide,show IntKind.i64.wrap 0=0 by decide]at U;clear q j l;go_upto_region 13 with(first|(go_at_call 153;refine a6 U (x.out _) ?_;clear U;intro EH U)|(refine VP U eK ?_;clear U;intro d w U G)|(refine aq ?_)|(refine Po U ?_;clear U;intro w U))
 go_upto_region 15 with(first|(go_at_call 199;refine a6 U (n.out _) ?_;clear U;intro EH U)|(refine aq ?_)|(refine Po U ?_;clear U;intro w U))
 have p:=U.cell (g:=c) (i:=0) ag rfl;have f:=U.cell (g:=c) (i:=1) ag rfl;have u:=U.cell (g:=d) (i:=0) ag rfl;have h1:=U.cell (g:=d) (i:=1) ag rfl;have o:=U.cell (g:=gc) (i:=0) ag rfl;go_upto_region 17 with(refine WG U ?_)
 clear p f u h1 o;replace U:=U.drew;refine wp_region_held_drew (S:=(c0 [⟨c,130,[.int .i64 128,.int .i64 0]⟩,⟨gk,165,[.int .i64 2,.int .i64 1,.int .i64 0,.int .i64 64,.pointer (some ⟨B.O3,0,none⟩)]⟩])) aM ?_ (λX=>?_)
 ·exact U.bG aN
 exact pF
theorem BB:Calls prog 150 #[.agg ([.int .i64 2,.int .i64 1,.int .i64 0,.int .i64 64,.pointer (some ⟨B.O3,0,none⟩)]:List Value).toArray,.int .i64 1] w0 λe w'=>e= .returned (.tuple #[.agg #[.int .i64 128,.int .i64 64],.bool true])/\Below w0.heap.size w0 w':=by
 have H:=I h;have U:=Bx.a0 w0;clear h;have vS:=I (show∀w',Below w0.heap.size w0 w'->Calls prog 81 #[.agg ([.int .i64 2,.int .i64 1,.int .i64 0,.int .i64 64,.pointer (some ⟨B.O3,0,none⟩)]:List Value).toArray,.int .i64 1,.int .i64 1] w' λe a=>e= .returned (.int .u64 128)/\Below w'.heap.size w' a from λw' hb=>by
  have h1:=ib w' B (gB.below H.out hb) 1 1 9 am am rfl;rw[show W1.V 9=128 by kernel_rfl]at h1;exact h1)
 have ZK:=I (show∀w',Below w0.heap.size w0 w'->Calls prog 81 #[.agg ([.int .i64 2,.int .i64 1,.int .i64 0,.int .i64 64,.pointer (some ⟨B.O3,0,none⟩)]:List Value).toArray,.int .i64 2,.int .i64 1] w' λe a=>e= .returned (.int .u64 64)/\Below w'.heap.size w' a from λw' hb=>by
  have h1:=ib w' B (gB.below H.out hb) 2 1 10 am am rfl;rw[show W1.V 10=64 by kernel_rfl]at h1;exact h1)
 have W6:=I (show∀w',Below w0.heap.size w0 w'->Calls prog 81 #[.agg ([.int .i64 2,.int .i64 1,.int .i64 0,.int .i64 64,.pointer (some ⟨B.O3,0,none⟩)]:List Value).toArray,.int .i64 3,.int .i64 1] w' λe a=>e= .returned (.int .u64 0)/\Below w'.heap.size w' a from λw' hb=>by
  have h1:=ib w' B (gB.below H.out hb) 3 1 11 am am rfl;rw[show W1.V 11=0 by kernel_rfl]at h1;exact h1)
 have o:=I λw'=>jS 2 1 0 64 w' (I am) am
 have z:=I λw'=>pR 2 1 0 64 w' (I am) am am
 have ZE:=I (show∀w',Below w0.heap.size w0 w'->Calls prog 149 #[.agg ([.int .i64 2,.int .i64 1,.int .i64 0,.int .i64 64,.pointer (some ⟨B.O3,0,none⟩)]:List Value).toArray,.agg #[.int .i64 128,.int .i64 64]] w' λe a=>e= .returned (.bool true)/\Below w'.heap.size w' a from λw' hb=>zY w' B (gB.below H.out hb) 16 24 am 64 am (λk h1 C=>by have r: ∀j,j<8->W1.V (16+j)=0:=(by decide+kernel);have:=r (k-16) J;rwa[show 16+(k-16)=k by omega]at this));go_enter func150,ntmps150;go_upto_region 1 with(first|(refine Ws U 165 ?_;clear U;intro gk w U N)|(refine VP U eK ?_;clear U;intro gr w U F))
 go_upto_region 2 with(first|(go_at_call 80;refine a6 U (xR _ B (H.out.below U.all)) ?_;clear U;intro EH U)|(refine VP U ny ?_;clear U;intro gc w U G)|(refine aq ?_)|(refine Po U ?_;clear U;intro w U))
 go_cut [8]from 23 to 33 (λn A=> ∃VR,n= .pointer (some ⟨VR,0,none⟩)/\Bx w0 (λ_=>True) A none [⟨VR,344,[.int .u64 128,.int .u64 64,.int .u64 0]⟩,⟨gc,56,[.int .i64 1,.int .i64 0,.int .i64 (-1),.int .i64 0]⟩,⟨gr,130,[.int .i64 0,.int .i64 0]⟩,⟨gk,165,[.int .i64 2,.int .i64 1,.int .i64 0,.int .i64 64,.pointer (some ⟨B.O3,0,none⟩)]⟩])
 case first=>
  exact pE
 case rest=>
 obtain⟨VR,rfl,U⟩:=hcut;clear vS ZK W6;have u:=U.cell (g:=VR) (i:=0) ag rfl;have y:=U.cell (g:=VR) (i:=1) ag rfl;have v:=U.cell (g:=VR) (i:=2) ag rfl;go_wp2_with(refine UQ U ?_);clear u y v;have s:=(show∀w,(Instr.index 344 (.agg #[.int .u64 128,.int .u64 64,.int .u64 0]) (.int .i64 0)).run prog w= .ok (.int .u64 128) w from λw=>kp _ 0 _ w am rfl)
 have l:=(show∀w,(Instr.index 344 (.agg #[.int .u64 128,.int .u64 64,.int .u64 0]) (.int .i64 1)).run prog w= .ok (.int .u64 64) w from λw=>kp _ 1 _ w am rfl)
 have m:=(show∀w,(Instr.index 344 (.agg #[.int .u64 128,.int .u64 64,.int .u64 0]) (.int .i64 2)).run prog w= .ok (.int .u64 0) w from λw=>kp _ 2 _ w am rfl)
 refine wp_loop_rounds 4 ?_;rw[rounds_succ];go_wp2_with fail;rw[rounds_succ];go_wp2_with fail;rw[rounds_succ];go_wp2_with fail;rw[rounds_succ];go_upto_region 11 with fail
 replace U:=U.drew;refine wp_region_held_drew (S:=(c0 [⟨VR,344,[.int .u64 128,.int .u64 64,.int .u64 0]⟩])) aM ?_ (λX=>?_)
 ·exact U.bG aN
 refine az [[0,1,2,3,4,5,6,7,8,9]] ?_;refine aF 10 λK Z7=>?_
 refine ZZ U eK ?_;clear U;intro c w U L;refine WE Z7 λX=>?_
 refine az [[],[11],[12]] ?_;clear U;intro w U;simp only[show IntKind.i64.wrap 128=128 by decide,show IntKind.i64.wrap 64=64 by decide,show IntKind.i64.wrap 0=0 by decide]at U;clear s l m;go_upto_region 13 with(first|(go_at_call 153;refine a6 U (z.out _) ?_;clear U;intro EH U)|(refine VP U eK ?_;clear U;intro d w U M)|(refine aq ?_)|(refine Po U ?_;clear U;intro w U))
 go_upto_region 15 with(first|(go_at_call 199;refine a6 U (o.out _) ?_;clear U;intro EH U)|(refine aq ?_)|(refine Po U ?_;clear U;intro w U))
 have q:=U.cell (g:=c) (i:=0) ag rfl;have f:=U.cell (g:=c) (i:=1) ag rfl;have x:=U.cell (g:=d) (i:=0) ag rfl;have h1:=U.cell (g:=d) (i:=1) ag rfl;have p:=U.cell (g:=gc) (i:=0) ag rfl;go_upto_region 17 with(refine WG U ?_)
 clear q f x h1 p;replace U:=U.drew;refine wp_region_held_drew (S:=(c0 [⟨c,130,[.int .i64 128,.int .i64 64]⟩,⟨gk,165,[.int .i64 2,.int .i64 1,.int .i64 0,.int .i64 64,.pointer (some ⟨B.O3,0,none⟩)]⟩])) aM ?_ (λX=>?_)
 ·exact U.bG aN
 exact pF
end
section
open Go.RowKit Tryz
theorem mS{w:World}{b c:Nat}{e:TypeId}{sz:Nat}{v:Value}{n:Nat}{xs:List Value}(h:w.ownsRow b e sz v n xs)(hb:c<=b):w.ownsRow c e sz v n xs:=
 ⟨h.1,h.2.imp id fun⟨g,cap,f,h1,a,d⟩=>⟨g,cap,f,h1,D hb a,d⟩⟩
theorem abu(w:World)(S:Nat->Prop)(v:Value)(n:Nat)(F:Nat->List Value)(h:KC w S v n 2 F)(a:n<=65536)(hF:hl n 2 F):
 Calls prog 254 #[v] w λe w'=> ∃v',e= .returned v'/\w'.ownsRow w.heap.size 130 2 v' n (bx n 2 F)/\Below w.heap.size w w':=by
 obtain⟨o,p,q,r,s⟩:=info_parts cj;have m:=λi hi=>(hF i hi).1
 have k:=hF.flat (by decide:0<2);obtain⟨A,c,rfl,h1,d,g⟩:=id h;have l:n<=maxLen:=by unfold maxLen;omega
 cases A with
 |none=>
  have u:n=0:=by
   rcases aQ n with h|h
   ·exact h
   ·obtain⟨b,off,e,_⟩:=g h;cases e
  subst u;clear h g hF m k a h1 d l p q r s;have y:=λw=>Lib.run_eql_slice_nil (P:=prog) w _ _ none 0 c 0 0 bw
  go_enter func254,ntmps254;go_wp2_with fail;go_ret;exact⟨_,rfl,World.ownsRow_nil _ _ _ _,by
   exact a2⟩
 |some f=>
  have H:=I h;have x:=I m;have z:=I k;have t:=I a;have B:=I l;clear h g hF m k a h1 d l;have y:=λw=>Lib.run_eql_slice_nil (P:=prog) w _ _ (some f) n c 0 0 bw
  have C:=I (H.out.news x.out am);go_enter func254,ntmps254;go_wp2_with(at_builtin;refine wpList_append_own _ rfl _ _ 58 rfl w.heap.size 130 o (.agg #[.int .i64 0,.int .i64 0]) 2 16 bw p q r s rfl am _ _ _ rfl (World.ownsRow_made w #[] 0 (ai _) (aL _) rfl) f n c (bx n 2 F) rfl (cv _ _ _) (C.out _ (World.dY _ _)) z.out (by rw[ax];exact B.out) (by have:=t.out;omega) aN ?_;intro v' w' ZQ UW _;rw[au,ax]at ZQ);exact kL
theorem Kj(w0:World)(b rg:Nat)(g c:Int)(l:List Ext)(h:l.length<=65536)(UW:cY w0 b rg g c l):
 Calls prog 177 #[.pointer (some ⟨b,0,none⟩)] w0 λe w'=> ∃v',e= .returned v'/\w'.ownsRow w0.heap.size 130 2 v' l.length (bx l.length 2 (eP l))/\Below w0.heap.size w0 w':=by
 have key: ∃S v,ah w0 b 363 ([.int .i64 g,.int .i64 c,v]:List Value).toArray/\KC w0 S v l.length 2 (eP l):=by
  exact nZ
 obtain⟨S,v,hb,f⟩:=key;have d:=I f;have i:=I h;have a:=I hb;have U:=Bx.g8 hb;clear f h UW hb;go_enter func177,ntmps177;go_wp2_with(first|(go_at_call 254;have j:=U.ro a.out (by with_reducible first|exact cX|exact kw|exact r3);refine Calls.mono (abu _ S _ _ _ (d.out.below (U.ro a.out (by with_reducible first|exact cX|exact kw|exact r3))) i.out (kn _ _)) ?_;rintro e m ⟨n,rfl,k,N⟩;replace U:=U.below N)|(refine UQ U ?_));go_ret;exact⟨_,rfl,mS k j.size,U.ro a.out (by exact cX)⟩
theorem H1{w0:World}{B:WB}{p:PO}{F:b1}{n:Nat}{W:Wd}(h:df w0 B p F n W)(d:W.fr.length<=65536):
 Calls prog 101 #[.pointer (some ⟨B.O3,0,none⟩)] w0 λe w'=> ∃v,e= .returned v/\w'.ownsRow w0.heap.size 130 2 v W.fr.length (bx W.fr.length 2 (eP W.fr))/\Below w0.heap.size w0 w':=by
 have hb:=h.wd;have b:=I hb;have a:=I h.gr;have U:=Bx.g8 hb;clear h hb;go_enter func101,ntmps101;go_wp2_with(first|(go_at_call 177;have c:=U.ro b.out ag;refine Calls.mono (Kj _ _ _ _ _ W.fr d (a.out.Wu (c.block _ a.out.lt.1) (c.block _ a.out.lt.2))) ?_;rintro e f ⟨v',rfl,hv,N⟩;replace U:=U.below N)|(refine UQ U ?_));go_ret;exact⟨_,rfl,mS hv c.size,U.ro b.out ag⟩
variable(w0:World)(B:WB)(h:gB w0 B)
include h
theorem adL:Calls prog 79 #[.agg ([.int .i64 2,.int .i64 1,.int .i64 0,.int .i64 64]:List Value).toArray,.pointer (some ⟨B.O3,0,none⟩)] w0 λe w'=>e= .returned (.int .i64 0)/\Below w0.heap.size w0 w':=by
 have H:=I h;have U:=Bx.a0 w0;clear h;have W:=I (show∀w',Calls prog 153 #[.agg #[.int .i64 2,.int .i64 1,.int .i64 0,.int .i64 64]] w' λx du=>x= .returned (.tuple #[.agg #[.int .i64 128,.int .i64 64],.int .i64 0])/\Below w'.heap.size w' du from λw'=>pR 2 1 0 64 w' (I am) am am);go_enter func79,ntmps79;go_upto_region 1 with(refine Ws U 27 ?_;clear U;intro q w U Hr)
 go_upto_region 2 with(first|(refine VP U xc ?_;clear U;intro gk w U agd)|(refine aq ?_)|(refine Po U ?_;clear U;intro w U))
 go_upto_region 3 with(first|(go_at_call 101;refine Calls.mono (H1 (H.out.below U.all) (by rw[QY];decide)) ?_;rintro e d ⟨v,rfl,hv,N⟩;have C:=I U.size;have R:=(U.b (g:=gk) (by with_reducible first|exact cX|exact kw)).lt;have V:=(U.b (g:=q) (by with_reducible first|exact cX|exact kw)).lt;replace U:=U.below N;clear N;rw[QY]at hv;obtain⟨A,c,rfl⟩: ∃A c,v= .slice A 0 c:=(by rcases hv.2 with⟨rfl,_⟩|⟨g,cap,_,rfl,_⟩<;>exact⟨_,_,rfl⟩))|(refine aq ?_)|(refine Po U ?_;clear U;intro w U))
 have p:=I (show∀j,(Value.slice A 0 c).ownBlock=some j->bq none [⟨gk,165,[.int .i64 2,.int .i64 1,.int .i64 0,.int .i64 64,.pointer (some ⟨B.O3,0,none⟩)]⟩,⟨q,27,[.int .i64 2,.int .i64 1,.int .i64 0,.int .i64 64]⟩] j from λj f=>⟨λx F e=>by have:=(hv.lt j f).1;simp only[ad,E,av]at F;rcases F with rfl|rfl<;>(simp only at e;omega),λa e=>by cases e⟩);have s:=I (show∀j,(Value.slice A 0 c).ownBlock=some j->w0.heap.size<=j from λj f=>D C.out (hv.lt j f).1);have o:=I (show d.ownsRow 0 130 2 (.slice A 0 c) 0 []from mS hv (aL _));have m:=U;replace U:=m.base;clear hv R V C;go_upto_region 4 with(first|(go_at_call 148;refine a6 U (Kf _ A c _) ?_;clear U;intro d U)|(refine aq ?_)|(refine Po U ?_;clear U;intro w U))
 go_upto_region 6 with(first|(refine aq ?_)|(refine Po U ?_;clear U;intro w U))
 refine wp_loop_rounds 3 ?_;rw[rounds_succ];go_upto_region 8 with fail
 go_upto_region 9 with(first|(go_at_call 150;refine a6 U (BA _ B (H.out.below (m.back U).all)) ?_;clear U;intro d U)|(refine aq ?_)|(refine Po U ?_;clear U;intro w U))
 have L:=U.size;replace U:=U.new 130 [.int .i64 128,.int .i64 0];generalize d.alloc (.cells ([.int .i64 128,.int .i64 0]:List Value).toArray 130)=aeG at*;generalize d.heap.size=y at*;have l:=U.cell (g:=y) (i:=1) cX rfl;go_wp2_with fail;clear l;rw[rounds_succ];go_upto_region 8 with fail
 go_upto_region 9 with(first|(go_at_call 150;refine a6 U (BB _ B (H.out.below (m.back U).all)) ?_;clear U;intro d U)|(refine aq ?_)|(refine Po U ?_;clear U;intro w U))
 have M:=U.size;replace U:=U.new 130 [.int .i64 128,.int .i64 64];generalize d.alloc (.cells ([.int .i64 128,.int .i64 64]:List Value).toArray 130)=aeH at*;generalize d.heap.size=t at*;have l:=U.cell (g:=t) (i:=1) cX rfl;go_upto_region 12 with fail
 clear l;go_upto_region 13 with(first|(refine dE U rfl 58 130 _ rfl _ [.int .i64 128,.int .i64 64] rfl rfl (.agg #[.int .i64 0,.int .i64 0]) 2 16 bw cj rfl am am ?_;clear U;intro di w U X;refine cN ?_)|(refine g0 U o.out (λj f=>p.out j f) rfl _ _ 58 rfl (.agg #[.int .i64 0,.int .i64 0]) 16 bw cj rfl am rfl ⟨di,0,none⟩ 1 1 [.int .i64 128,.int .i64 64] rfl rfl am (U.news ag) rfl am am ?_;have z:=U.size;clear U;intro g' cW lL w U n lm;refine cN ?_)|(refine aq ?_)|(refine Po U ?_;clear U;intro w U))
 have G:=m.size;have Q:w0.heap.size<=g':=by
  rcases n with n|n
  ·exact s.out _ n
  ·exact D G (D z n)
 replace U:=Bx.Qt (T:=λ_=>True) (m.j5 U) (λb hb _=>⟨trivial,λe=>by have:=s.out b e;omega⟩) (by simp only[ad,E,av];rintro x (rfl|rfl|rfl|rfl|rfl|rfl)<;>(simp only;omega));simp only[au,aU]at U;clear o p s m n lm X L M G Q z;go_wp2_with fail;rw[rounds_succ];go_upto_region 15 with(first|(go_at_call 151;refine Calls.mono (HU _ _ _ _) ?_;rintro e d ⟨rfl,rfl⟩;skip)|(refine aq ?_)|(refine Po U ?_;clear U;intro w U))
 go_upto_region 16 with(first|(go_at_call 153;refine a6 U (W.out _) ?_;clear U;intro d U)|(refine aq ?_)|(refine Po U ?_;clear U;intro w U))
 have O:=U.size;replace U:=U.new 130 [.int .i64 128,.int .i64 64];generalize d.alloc (.cells ([.int .i64 128,.int .i64 64]:List Value).toArray 130)=r at*;generalize d.heap.size=u at*;have l:=U.cell (g:=u) (i:=1) cX rfl;go_upto_region 17 with(first|(refine aq ?_)|(refine Po U ?_;clear U;intro w U))
 clear l O;go_wp2_with fail;refine wp_loop_rounds 2 ?_;rw[rounds_succ];have K:=I (show∀(j:Nat) (v:Value),([.int .i64 128,.int .i64 64]:List Value)[j]? =some v->r.cell? ⟨g',0+j,none⟩=some v from λj v f=>by
  rcases j with _|_|j
  ·cases f;exact U.cell (g:=g') (i:=0) ag rfl
  ·cases f;exact U.cell (g:=g') (i:=1) ag rfl
  ·simp at f)
 go_upto_region 20 with(refine tI K.out ?_ rfl)
 clear K;have P:=U.size;replace U:=U.new 130 [.int .i64 128,.int .i64 64];generalize r.alloc (.cells ([.int .i64 128,.int .i64 64]:List Value).toArray 130)=aeJ at*;generalize r.heap.size=S at*;have l:=U.cell (g:=S) (i:=1) cX rfl;clear l P;go_wp2_with(refine UQ U ?_);rw[rounds_succ];go_wp2_with(first|(go_at_call 144;refine Calls.mono (zW _) ?_;rintro e d ⟨rfl,rfl⟩;skip)|(refine UQ U ?_));go_ret;exact⟨rfl,U.all⟩
end
section
open Go.RowKit Tryz
section
variable(w:World)(A:Option Addr)(c:Nat)(U5:Value)
include w A c U5
theorem Kk:Calls prog 243 #[.slice A 0 c,U5] w λe w'=>e= .returned (.int .i64 (-1))/\w=w':=by
 go_enter func243,ntmps243;exact lc
theorem H2:Calls prog 162 #[.slice A 0 c,U5] w λe w'=>e= .returned (.bool false)/\w=w':=by
 go_enter func162,ntmps162;go_wp2_with fail;refine Calls.mono (Kk _ A c U5) ?_;rintro e a ⟨rfl,rfl⟩;go_wp2_with fail;go_ret;exact⟨rfl,rfl⟩
theorem Kl:Calls prog 85 #[.slice A 0 c,U5] w λe w'=>e= .returned (.bool true)/\Below w.heap.size w w':=by
 go_enter func85,ntmps85;have U:=Bx.a0 w;go_upto_region 1 with(refine Ws U 177 ?_;clear U;intro b w U d)
 go_wp2_with fail;refine Calls.mono (H2 _ A c _) ?_;rintro e a ⟨rfl,rfl⟩;go_wp2_with fail;go_ret;exact⟨rfl,U.all⟩
end
variable(w0:World)(B:WB)(h:gB w0 B)
include h
theorem ad6:Calls prog 84 #[.agg ([.int .i64 2,.int .i64 1,.int .i64 0,.int .i64 64,.pointer (some ⟨B.O3,0,none⟩)]:List Value).toArray,.int .i64 0] w0 λe w'=>e= .returned (.tuple #[.slice none 0 0,.int .i64 0])/\Below w0.heap.size w0 w':=by
 have H:=I h;have U:=Bx.a0 w0;clear h;have j:=I (show∀w',Below w0.heap.size w0 w'->Calls prog 81 #[.agg ([.int .i64 2,.int .i64 1,.int .i64 0,.int .i64 64,.pointer (some ⟨B.O3,0,none⟩)]:List Value).toArray,.int .i64 1,.int .i64 0] w' λe c=>e= .returned (.int .u64 128)/\Below w'.heap.size w' c from λw' hb=>by
  have h1:=ib w' B (gB.below H.out hb) 1 0 1 am am rfl;rw[show W1.V 1=128 by kernel_rfl]at h1;exact h1)
 have m:=I (show∀w',Below w0.heap.size w0 w'->Calls prog 81 #[.agg ([.int .i64 2,.int .i64 1,.int .i64 0,.int .i64 64,.pointer (some ⟨B.O3,0,none⟩)]:List Value).toArray,.int .i64 3,.int .i64 0] w' λe c=>e= .returned (.int .u64 0)/\Below w'.heap.size w' c from λw' hb=>by
  have h1:=ib w' B (gB.below H.out hb) 3 0 3 am am rfl;rw[show W1.V 3=0 by kernel_rfl]at h1;exact h1)
 have f:=I λw'=>bm 0 0 1 w' am am
 go_enter func84,ntmps84;go_upto_region 1 with(refine Ws U 165 ?_;clear U;intro gk w U n)
 go_upto_region 2 with(first|(go_at_call 80;refine a6 U (tE _ B (H.out.below U.all)) ?_;clear U;intro a U)|(refine aq ?_)|(refine Po U ?_;clear U;intro w U))
 replace U:=U.new 56 [.int .i64 2,.int .i64 1,.int .i64 (-1),.int .i64 0];generalize a.alloc (.cells ([.int .i64 2,.int .i64 1,.int .i64 (-1),.int .i64 0]:List Value).toArray 56)=T6 at*;generalize a.heap.size=gc at*;have l:=U.cell (g:=gc) (i:=0) cX rfl;have d:=U.cell (g:=gk) (i:=0) kw rfl;go_upto_region 4 with(first|(go_at_call 104;refine Calls.mono (f.out _) ?_;rintro e a ⟨rfl,rfl⟩;skip)|fail)
 clear l d;replace U:=U.drew;refine wp_region_held_drew (S:=(c0 [⟨gk,165,[.int .i64 2,.int .i64 1,.int .i64 0,.int .i64 64,.pointer (some ⟨B.O3,0,none⟩)]⟩])) aM ?_ (λX=>?_)
 ·exact U.bG aN
 refine az [[0,1,4,5]] ?_;refine aF 2 λK b=>?_
 go_simp
 (go_at_call 81;refine a6 U (j.out _ U.all) ?_;clear U;intro a U)
 go_wp2_with fail;refine WE b λX=>?_
 refine Xh 3 ?_;refine aF 6 λK b=>?_
 go_simp
 (go_at_call 81;refine a6 U (m.out _ U.all) ?_;clear U;intro a U)
 go_wp2_with fail;refine WE b λX=>?_
 refine az [[7,8,9]] ?_;go_wp2_with fail;refine wp_loop_rounds 1 ?_;rw[rounds_succ];go_wp2_with fail;go_ret2;exact⟨rfl,U.all⟩
theorem En:Calls prog 83 #[.agg ([.int .i64 2,.int .i64 1,.int .i64 0,.int .i64 64]:List Value).toArray,.pointer (some ⟨B.O3,0,none⟩),.int .u64 0,.int .i64 0] w0 λe w'=>e= .returned (.bool true)/\Below w0.heap.size w0 w':=by
 have H:=I h;have U:=Bx.a0 w0;clear h;go_enter func83,ntmps83;go_upto_region 1 with(refine Ws U 27 ?_;clear U;intro a w U b)
 go_wp2_with fail;go_ret;exact⟨rfl,U.all⟩
theorem BC(b c gs:Nat)(a:ah w0 b 27 ([.int .i64 2,.int .i64 1,.int .i64 0,.int .i64 64]:List Value).toArray)(i:w0.cell? ⟨c,0,none⟩=some (.pointer (some ⟨B.O3,0,none⟩)))(k:w0.cell? ⟨gs,0,none⟩=some (.int .i64 0)):Calls prog 82 #[.int .u64 0,.pointer (some ⟨b,0,none⟩),.pointer (some ⟨c,0,none⟩),.pointer (some ⟨gs,0,none⟩)] w0 λe w'=>e= .returned (.bool true)/\Below w0.heap.size w0 w':=by
 have H:=I h;have d:=I (fun(j:Nat) (v:Value) (f:([.int .i64 2,.int .i64 1,.int .i64 0,.int .i64 64]:List Value)[j]? =some v)=>(show w0.cell? ⟨b,0+j,none⟩=some v by
  unfold ah at a;simp only[World.cell?,ax,a];simpa using f))
 clear h a;go_enter func82,ntmps82;go_wp2_with(refine tI d.out ?_ rfl);refine(En _ B H.out).mono ?_;rintro e g ⟨rfl,N⟩;go_wp2_with fail;go_ret;exact⟨rfl,N⟩
end
section
open Go.RowKit Tryz
variable(w0:World)(B:WB)(h:gB w0 B)
include h
theorem Eo:Calls prog 35 #[.agg ([.int .i64 2,.int .i64 1,.int .i64 0,.int .i64 64]:List Value).toArray,.pointer (some ⟨B.O3,0,none⟩)] w0 λe w'=>e= .returned (.int .i64 0)/\Below w0.heap.size w0 w':=by
 have H:=I h;have U:=Bx.a0 w0;clear h;have n:=I λw'=>kJ 2 1 0 64 w' am
 have o: ∀args w,(callFunc 82 args).run prog w= .ok (.enter 82 args) w:=enters_of func82 aM rfl;have l:=I (show∀w',Below w0.heap.size w0 w'->Calls prog 81 #[.agg ([.int .i64 2,.int .i64 1,.int .i64 0,.int .i64 64,.pointer (some ⟨B.O3,0,none⟩)]:List Value).toArray,.int .i64 4,.int .i64 0] w' λe f=>e= .returned (.int .u64 0)/\Below w'.heap.size w' f from λw' hb=>by
  have h1:=ib w' B (gB.below H.out hb) 4 0 4 am am rfl;rw[show W1.V 4=0 by kernel_rfl]at h1;exact h1)
 have m:=I (show∀w',Below w0.heap.size w0 w'->Calls prog 81 #[.agg ([.int .i64 2,.int .i64 1,.int .i64 0,.int .i64 64,.pointer (some ⟨B.O3,0,none⟩)]:List Value).toArray,.int .i64 4,.int .i64 1] w' λe f=>e= .returned (.int .u64 0)/\Below w'.heap.size w' f from λw' hb=>by
  have h1:=ib w' B (gB.below H.out hb) 4 1 12 am am rfl;rw[show W1.V 12=0 by kernel_rfl]at h1;exact h1)
 go_enter func35,ntmps35;go_upto_region 1 with(first|(refine Ws U 27 ?_;clear U;intro c w U q)|(refine Ws U 50 ?_;clear U;intro d w U r))
 go_upto_region 3 with(first|(go_at_call 77;refine a6 U (n.out _) ?_;clear U;intro a U)|(refine aq ?_)|(refine Po U ?_;clear U;intro w U))
 go_upto_region 4 with(first|(refine VP U xc ?_;clear U;intro gk w U C)|(refine aq ?_)|(refine Po U ?_;clear U;intro w U))
 go_upto_region 5 with(first|(go_at_call 78;refine a6 U (Bz _ B (H.out.below U.all)) ?_;clear U;intro a U)|(refine aq ?_)|(refine Po U ?_;clear U;intro w U))
 go_upto_region 7 with fail
 go_upto_region 8 with(first|(go_at_call 79;refine a6 U (adL _ B (H.out.below U.all)) ?_;clear U;intro a U)|(refine aq ?_)|(refine Po U ?_;clear U;intro w U))
 go_upto_region 10 with fail
 have j:=U.cell (g:=c) (i:=0) ag rfl;go_upto_region 11 with fail
 clear j;refine wp_loop_rounds 3 ?_;rw[rounds_succ];go_upto_region 13 with fail
 replace U:=U.new 3 [.int .i64 0];generalize a.alloc (.cells ([.int .i64 0]:List Value).toArray 3)=t at*;generalize a.heap.size=gs at*;go_upto_region 14 with(first|(go_at_call 80;refine a6 U (tE _ B (H.out.below U.all)) ?_;clear U;intro a U)|(refine aq ?_)|(refine Po U ?_;clear U;intro w U))
 replace U:=U.new 56 [.int .i64 2,.int .i64 1,.int .i64 (-1),.int .i64 0];generalize a.alloc (.cells ([.int .i64 2,.int .i64 1,.int .i64 (-1),.int .i64 0]:List Value).toArray 56)=u at*;generalize a.heap.size=gc at*;go_upto_region 15 with(first|(go_at_call 81;refine a6 U (l.out _ U.all) ?_;clear U;intro a U)|(refine aq ?_)|(refine Po U ?_;clear U;intro w U))
 go_upto_region 16 with(first|(refine VP U (z:=.nilFunc) aM (ds:= [.nilFunc]) ?_;clear U;intro p w U v)|(refine aq ?_)|(refine Po U ?_;clear U;intro w U))
 go_upto_region 21 with(refine UQ U ?_)
 go_upto_region 24 with(first|(go_at_call 84;refine a6 U (ad6 _ B (H.out.below U.all)) ?_;clear U;intro a U)|(refine aq ?_)|(refine Po U ?_;clear U;intro w U))
 go_wp2_with(first|(go_at_call 82;refine a6 U (BC _ B (H.out.below U.all) c d gs (U.b (g:=c) ag) (U.cell (g:=d) (i:=0) ag rfl) (U.cell (g:=gs) (i:=0) ag rfl)) ?_;clear U;intro a U)|(go_at_call 85;refine a6 U (Kl _ _ _ _) ?_;clear U;intro a U)|(refine UQ U ?_));rw[rounds_succ];go_upto_region 13 with fail
 replace U:=U.new 3 [.int .i64 1];generalize a.alloc (.cells ([.int .i64 1]:List Value).toArray 3)=x at*;generalize a.heap.size=gt at*;go_upto_region 14 with(first|(go_at_call 80;refine a6 U (xR _ B (H.out.below U.all)) ?_;clear U;intro a U)|(refine aq ?_)|(refine Po U ?_;clear U;intro w U))
 replace U:=U.new 56 [.int .i64 1,.int .i64 0,.int .i64 (-1),.int .i64 0];generalize a.alloc (.cells ([.int .i64 1,.int .i64 0,.int .i64 (-1),.int .i64 0]:List Value).toArray 56)=y at*;generalize a.heap.size=A at*;go_upto_region 15 with(first|(go_at_call 81;refine a6 U (m.out _ U.all) ?_;clear U;intro a U)|(refine aq ?_)|(refine Po U ?_;clear U;intro w U))
 go_upto_region 16 with(first|(refine VP U (z:=.nilFunc) aM (ds:= [.nilFunc]) ?_;clear U;intro ge w U s)|(refine aq ?_)|(refine Po U ?_;clear U;intro w U))
 go_wp2_with(refine UQ U ?_);rw[rounds_succ];go_wp2_with fail;go_ret;exact⟨rfl,U.all⟩
end
section
open Go.RowKit Tryz
theorem pG{G:Prop}(h:G:=by
 go_upto_region 1 with(refine Ws U 46 ?_;clear U;intro Bn w U VW)
 have afc:=U.cell (g:=Bn) (i:=8) cX rfl;have yQ:=U.cell (g:=Bn) (i:=9) cX rfl;have ada:=U.cell (g:=Bn) (i:=10) cX rfl;go_wp2_with fail;go_ret;exact⟨rfl,U.all⟩):G:=h
theorem H3(w0:World)(b:Option Addr)(a:Nat):
 Calls prog 124 #[.agg ([.int .i64 0,.int .u8 2,.int .u8 0,.int .u8 0,.int .u8 0,.int .i64 64,.int .i64 0,.int .i64 0,.int .i64 0,.int .i64 0,.int .i64 0,.int .i64 0,.int .i64 1,.slice b 0 a]:List Value).toArray] w0 λe w'=>e= .returned (.bool true)/\Below w0.heap.size w0 w':=by
 have U:=Bx.a0 w0;go_enter func124,ntmps124;exact pG
theorem Km(w0:World)(b:Option Addr)(a:Nat):
 Calls prog 125 #[.agg ([.int .i64 0,.int .u8 2,.int .u8 0,.int .u8 0,.int .u8 0,.int .i64 64,.int .i64 0,.int .i64 0,.int .i64 0,.int .i64 0,.int .i64 0,.int .i64 0,.int .i64 1,.slice b 0 a]:List Value).toArray] w0 λe w'=>e= .returned (.bool false)/\Below w0.heap.size w0 w':=by
 have U:=Bx.a0 w0;go_enter func125,ntmps125;exact pG
theorem Ep(w0:World)(bs os cs:Nat)(m:Option Addr)(l:Nat)(G: ∀(j:Nat) (v:Value),([.int .i64 0,.int .u8 2,.int .u8 0,.int .u8 0,.int .u8 0,.int .i64 64,.int .i64 0,.int .i64 0,.int .i64 0,.int .i64 0,.int .i64 0,.int .i64 0,.int .i64 1,.slice m 0 l]:List Value)[j]? =some v->w0.cell? ⟨bs,os+j,none⟩=some v)(xT:bs<w0.heap.size):
 Calls prog 69 #[.agg ([.int .i64 2,.int .i64 1,.int .i64 0,.int .i64 64]:List Value).toArray,.slice (some ⟨bs,os,none⟩) 1 cs] w0 λe w'=>e= .returned (.int .i64 0)/\Below w0.heap.size w0 w':=by
 have U:=Bx.a0 w0;have L:=I G;clear G;go_enter func69,ntmps69;go_upto_region 1 with(refine Ws U 27 ?_;clear U;intro V w U VW)
 go_upto_region 3 with(first|(go_at_call 77;refine a6 U (kJ 2 1 0 64 _ am) ?_;clear U;intro c U)|(refine aq ?_))
 go_upto_region 4 with(refine Ka U ?_;clear U;intro h w U f T _ _)
 have C:=(Array.getElem?_eq_some_iff.1 f).1;go_upto_region 5 with(refine Ka U ?_;clear U;intro y w U t X W K)
 have S:h≠y:=J;replace f:=(K.block h C).trans f;clear K C W;have n:=I f;have x:=I t;clear f t;go_wp2_with fail;refine wp_loop_rounds 2 ?_;rw[rounds_succ];have a:=U;replace U:=a.base;have R:=I (fun(j:Nat) (v:Value) (B:([.int .i64 0,.int .u8 2,.int .u8 0,.int .u8 0,.int .u8 0,.int .i64 64,.int .i64 0,.int .i64 0,.int .i64 0,.int .i64 0,.int .i64 0,.int .i64 0,.int .i64 1,.slice m 0 l]:List Value)[j]? =some v)=>((a.all.cell (p:=⟨bs,os+j,none⟩) xT).trans (L.out j v B)));go_upto_region 8 with(first|(refine tI R.out ?_ rfl)|fail)
 replace U:=U.new 46 [.int .i64 0,.int .u8 2,.int .u8 0,.int .u8 0,.int .u8 0,.int .i64 64,.int .i64 0,.int .i64 0,.int .i64 0,.int .i64 0,.int .i64 0,.int .i64 0,.int .i64 1,.slice m 0 l];generalize w.alloc (.cells ([.int .i64 0,.int .u8 2,.int .u8 0,.int .u8 0,.int .u8 0,.int .i64 64,.int .i64 0,.int .i64 0,.int .i64 0,.int .i64 0,.int .i64 0,.int .i64 0,.int .i64 1,.slice m 0 l]:List Value).toArray 46)=af1 at*;generalize w.heap.size=d at*;have s:=U.cell (g:=d) (i:=0) cX rfl;have N:=U.cell (g:=V) (i:=1) kw rfl;have A:=I λw'=>bm 0 0 0 w' am am
 have M:=I λw'=>H3 w' m l
 go_upto_region 10 with(first|(go_at_call 104;refine Calls.mono (A.out _) ?_;rintro e c ⟨rfl,rfl⟩;skip)|(go_at_call 124;refine a6 U (M.out _) ?_;clear U;intro c U)|(refine WG U ?_))
 have s:=U.cell (g:=d) (i:=0) cX rfl;have le:=mR (P:=prog) (ok:=true) (q:=.i64) (key:=0) (z:=.agg ([.int .i64 0,.int .u8 0,.int .u8 0,.int .u8 0,.int .u8 0,.int .i64 0,.int .i64 0,.int .i64 0,.int .i64 0,.int .i64 0,.int .i64 0,.int .i64 0,.int .i64 0,.slice none 0 0]:List Value).toArray) (r:=none) (a.qY x.out U) underlying231 underlying3 aM rfl rfl;go_upto_region 11 with fail
 clear le;replace U:=U.new 46 [.int .i64 0,.int .u8 0,.int .u8 0,.int .u8 0,.int .u8 0,.int .i64 0,.int .i64 0,.int .i64 0,.int .i64 0,.int .i64 0,.int .i64 0,.int .i64 0,.int .i64 0,.slice none 0 0];generalize c.alloc (.cells ([.int .i64 0,.int .u8 0,.int .u8 0,.int .u8 0,.int .u8 0,.int .i64 0,.int .i64 0,.int .i64 0,.int .i64 0,.int .i64 0,.int .i64 0,.int .i64 0,.int .i64 0,.slice none 0 0]:List Value).toArray 46)=age at*;generalize c.heap.size=aab at*;go_upto_region 13 with fail
 have u:=I (a.qY n.out U);have F:=I (a.qY x.out U);clear n x;have b:=a.back U;clear U a s N;have s:=b.cell (g:=d) (i:=0) kw rfl;have O:=I λw'=>Km w' m l
 go_upto_region 14 with(first|(refine Ww b ?_)|(refine Kb b F.out (.inl X) underlying231 underlying3 ?_;intro afQ o t H))
 clear t;have n:=I ((H.block h (Array.getElem?_eq_some_iff.1 u.out).1 S).trans u.out);clear u F b s H;have a:=o;have U:=a.base;clear o;go_upto_region 15 with(first|(refine Ww U ?_)|(go_at_call 125;refine a6 U (O.out _) ?_;clear U;intro c U))
 have Q:=U.cell (g:=d) (i:=9) kw rfl;have le:=mR (P:=prog) (ok:=false) (q:=.i64) (key:=0) (z:=.int .i64 0) (r:=none) (a.qY n.out U) underlying230 underlying3 aM rfl rfl;go_upto_region 17 with fail
 have b:=a.back U;have f:=a.qY n.out U;go_upto_region 18 with(refine Kb b f (.inl T) underlying230 underlying3 ?_;intro afR o _ _)
 clear f b le Q U a n;go_wp2_with fail;rw[rounds_succ];go_wp2_with fail;go_ret;exact⟨rfl,o.all⟩
end
section
open Go.RowKit Tryz
section
variable(w:World)(A:Option Addr)(c:Nat)(U5:Value)
include w A c U5
theorem Ko:
 Calls prog 229 #[.slice A 1 c,.int .i64 0,.int .i64 1,U5] w λe w'=>e= .returned (.tuple #[])/\w=w':=by
 go_enter func229,ntmps229;exact ld
theorem Kp:
 Calls prog 142 #[.slice A 1 c,.int .i64 1,U5] w λe w'=>e= .returned (.tuple #[])/\w=w':=by
 go_enter func142,ntmps142;go_wp2_with fail;refine wp_loop_rounds 1 ?_;rw[rounds_succ];go_wp2_with fail;refine Calls.mono (Ko _ A c U5) ?_;rintro e a ⟨rfl,rfl⟩;exact ld
theorem NO:
 Calls prog 74 #[.slice A 1 c,U5] w λe w'=>e= .returned (.tuple #[])/\w=w':=by
 go_enter func74,ntmps74;go_wp2_with fail;refine Calls.mono (Kp _ A c U5) ?_;rintro e a ⟨rfl,rfl⟩;go_wp2_with fail;refine fY ?_;exact⟨rfl,rfl⟩
end
theorem wS(w0:World)(bs os cs:Nat)(f:Option Addr)(d:Nat)(n: ∀(j:Nat) (v:Value),([.int .i64 0,.int .u8 2,.int .u8 0,.int .u8 0,.int .u8 0,.int .i64 64,.int .i64 0,.int .i64 0,.int .i64 0,.int .i64 0,.int .i64 0,.int .i64 0,.int .i64 1,.slice f 0 d]:List Value)[j]? =some v->w0.cell? ⟨bs,os+j,none⟩=some v)(x:bs<w0.heap.size):
 Calls prog 34 #[.slice (some ⟨bs,os,none⟩) 1 cs] w0 λe w'=> ∃g c,e= .returned (.slice (some ⟨g,0,none⟩) 1 c)/\w'.cell? ⟨g,0,none⟩=some (.int .i64 0)/\w0.heap.size<=g/\Below w0.heap.size w0 w':=by
 have U:=Bx.a0 w0;have o:=I n;clear n;go_enter func34,ntmps34;go_upto_region 1 with(refine Ws U 34 ?_;clear U;intro q w U A)
 have r:=I (fun(j:Nat) (v:Value) (a:([.int .i64 0,.int .u8 2,.int .u8 0,.int .u8 0,.int .u8 0,.int .i64 64,.int .i64 0,.int .i64 0,.int .i64 0,.int .i64 0,.int .i64 0,.int .i64 0,.int .i64 1,.slice f 0 d]:List Value)[j]? =some v)=>((U.all.cell (p:=⟨bs,os+j,none⟩) x).trans (o.out j v a)));have m:=U.cell (g:=q) (i:=0) cX rfl;go_wp2_with fail;clear m;refine wp_loop_rounds 2 ?_;rw[rounds_succ];go_upto_region 5 with(refine tI r.out ?_ rfl)
 replace U:=U.new 46 [.int .i64 0,.int .u8 2,.int .u8 0,.int .u8 0,.int .u8 0,.int .i64 64,.int .i64 0,.int .i64 0,.int .i64 0,.int .i64 0,.int .i64 0,.int .i64 0,.int .i64 1,.slice f 0 d];generalize w.alloc (.cells ([.int .i64 0,.int .u8 2,.int .u8 0,.int .u8 0,.int .u8 0,.int .i64 64,.int .i64 0,.int .i64 0,.int .i64 0,.int .i64 0,.int .i64 0,.int .i64 0,.int .i64 1,.slice f 0 d]:List Value).toArray 46)=B at*;generalize w.heap.size=l at*;have m:=U.cell (g:=l) (i:=9) cX rfl;go_upto_region 6 with fail
 go_upto_region 7 with(first|(refine dE U rfl 30 3 _ rfl _ [.int .i64 0] rfl rfl (.int .i64 0) 1 8 bg b6 rfl am am ?_;clear U;intro s w U F;refine cN ?_)|(refine g0 U (World.ownsRow_nil _ _ _ _) (λj a=>by cases a) rfl _ _ 30 rfl (.int .i64 0) 8 bg b6 rfl am rfl ⟨s,0,none⟩ 1 1 [.int .i64 0] rfl rfl am (U.news ag) rfl am am ?_;clear U;intro g' C z w U G H;refine cN ?_))
 go_wp2_with fail;rw[rounds_succ];go_wp2_with fail;have h:=U.mI λb hb e=>by cases e
 have u:w0.heap.size<=g':=h.ge (g:=g') cX;have t:=h.cell (g:=g') (i:=0) cX rfl;go_wp2_with fail;refine Calls.mono (NO _ _ _ _) ?_;rintro e y ⟨rfl,rfl⟩;go_wp2_with fail;go_ret;exact⟨g',_,rfl,t,u,h.all⟩
end
section
open Go.RowKit Tryz
theorem pH{G:Prop}(h:G:=by
 have U:=Bx.a0 w0;go_enter func282,ntmps282;go_upto_region 1 with(refine Ws U 319 ?_;clear U;intro g w U VW)
 have VI:=U.cell (g:=g) (i:=0) cX rfl;go_wp2_with fail;go_ret;exact⟨rfl,U.all⟩):G:=h
theorem Er(w:World):(Instr.makeSlice 315 (.int .i64 ((2:Nat):Int)) (.int .i64 ((2:Nat):Int))).run prog w= .ok (.slice (some ⟨w.heap.size,0,none⟩) 2 2) (w.alloc (.cells ([.int .i64 0,.int .i64 0,.int .i64 0,.int .i64 0,.int .i64 0,.int .i64 0,.int .i64 0,.int .i64 0,.int .i64 0,.int .i64 0,.int .i64 0,.int .i64 0]:List Value).toArray 319)):=
 vr (z:=.agg #[.int .i64 0,.int .i64 0,.int .i64 0,.int .i64 0,.int .i64 0,.int .i64 0]) (sz:=6) (bytes:=48) underlying315 aM am am aM w
section
variable(w0:World)
include w0
theorem H5:
 Calls prog 127 #[.agg ([.int .i64 2,.int .i64 1,.int .i64 0,.int .i64 64]:List Value).toArray] w0 λe w'=> ∃gs b a rg,e= .returned (.tuple #[.pointer (some ⟨gs,0,none⟩),.int .i64 0])/\Bx w0 (λ_=>True) w' none [⟨gs,317,[.slice (some ⟨b,0,none⟩) 2 2,.pointer (some ⟨a,0,none⟩)]⟩,⟨b,319,[.int .i64 2,.int .i64 1,.int .i64 (-1),.int .i64 0,.int .i64 128,.int .i64 0,.int .i64 0,.int .i64 0,.int .i64 (-1),.int .i64 0,.int .i64 0,.int .i64 0]⟩]/\
  cY w' a rg 128 192 [⟨128,64⟩]/\w0.heap.size<=a/\w0.heap.size<=rg:=by
 have U:=Bx.a0 w0;have n:=I Er;have o:=I λw'=>BU w' 128 64 am am
 have l:=I λw'=>jS 2 1 0 64 w' (I am) am
 have s:=I λw'=>pR 2 1 0 64 w' (I am) am am
 go_enter func127,ntmps127;go_upto_region 1 with(refine Ws U 27 ?_;clear U;intro y w U VW)
 go_upto_region 3 with(first|(go_at_call 77;refine a6 U (kJ 2 1 0 64 _ am) ?_;clear U;intro c U)|(refine Ww U ?_))
 go_upto_region 4 with(first|(refine UQ U ?_)|(refine NI U n.out ?_;clear U;intro b w U B)|(refine Ws U 317 ?_;clear U;intro gs w U A))
 go_wp2_with(first|(refine aq ?_)|(refine Po U ?_;clear U;intro w U));refine wp_loop_rounds 3 ?_;rw[rounds_succ];go_wp2_with(first|(refine aq ?_)|(refine Po U ?_;clear U;intro w U));rw[rounds_succ];go_wp2_with(first|(refine aq ?_)|(refine Po U ?_;clear U;intro w U));rw[rounds_succ];go_upto_region 10 with(first|(refine aq ?_)|(refine Po U ?_;clear U;intro w U))
 replace U:=U.drew;refine wp_region_held_drew (S:=(c0 [⟨gs,317,[.slice (some ⟨b,0,none⟩) 2 2,.pointer none]⟩,⟨y,27,[.int .i64 2,.int .i64 1,.int .i64 0,.int .i64 64]⟩])) aM ?_ (λX=>?_)
 ·exact U.bG aN
 refine az [[0,1,2,3,4]] ?_;refine aF 5 λK v=>?_
 go_simp;go_at_call 199;refine a6 U (l.out _) ?_;clear U;intro c U;go_wp2_with fail;refine WE v λX=>?_
 refine az [[6,7,8,9,10],[11]] ?_;clear U;intro w U;go_upto_region 12 with(first|(go_at_call 153;refine a6 U (s.out _) ?_;clear U;intro c U)|(refine Ww U ?_)|(refine VP U eK ?_;clear U;intro ge w U z)|(refine Po U ?_;clear U;intro w U))
 go_wp2_with(first|(go_at_call 198;refine Calls.mono (o.out _) ?_;rintro e c ⟨a,rg,rfl,j,p,q,i⟩;have x:=I (And.intro (U.hO p) (U.hO q));have d:=I j;have f:=U.below i.q9;clear U j p q i;have U:=f.base)|(refine aq ?_)|(refine Po U ?_;clear U;intro w U));go_ret2;obtain⟨⟨U7,r⟩,m,u⟩:=x.out;exact⟨gs,b,a,rg,rfl,Bx.front (L1:= [_,_]) (L2:= [_]) (f.back U).c6,d.out.Wu (U.Wu.block a d.out.lt.1 r) (U.Wu.block rg d.out.lt.2 u),U7,m⟩
theorem Es:Calls prog 282 #[.agg ([.int .i64 2,.int .i64 1,.int .i64 (-1),.int .i64 0,.int .i64 128,.int .i64 0]:List Value).toArray] w0 λe w'=>e= .returned (.bool false)/\Below w0.heap.size w0 w':=by
 exact pH
theorem Et:Calls prog 282 #[.agg ([.int .i64 0,.int .i64 0,.int .i64 (-1),.int .i64 0,.int .i64 0,.int .i64 0]:List Value).toArray] w0 λe w'=>e= .returned (.bool true)/\Below w0.heap.size w0 w':=by
 exact pH
theorem H6(a:Nat)(hb:ah w0 a 319 ([.int .i64 2,.int .i64 1,.int .i64 (-1),.int .i64 0,.int .i64 128,.int .i64 0,.int .i64 0,.int .i64 0,.int .i64 (-1),.int .i64 0,.int .i64 0,.int .i64 0]:List Value).toArray):
 Calls prog 281 #[.slice (some ⟨a,0,none⟩) 2 2,.func (.func 282) #[] #[]] w0 λe w'=>e= .returned (.int .i64 1)/\Below w0.heap.size w0 w':=by
 have d: ∀args w,(callFunc 282 args).run prog w= .ok (.enter 282 args) w:=enters_of func282 aM rfl;have U:=Bx.g8 hb;have c:=I hb;clear hb;go_enter func281,ntmps281;go_wp2_with fail;refine wp_loop_rounds 2 ?_;rw[rounds_succ];go_wp2_with(refine Ww U ?_);refine(Es _).mono ?_;rintro e b ⟨rfl,N⟩;replace U:=U.below N;clear N;go_wp2_with fail;rw[rounds_succ];go_wp2_with(refine Ww U ?_);refine(Et _).mono ?_;rintro e b ⟨rfl,N⟩;replace U:=U.below N;clear N;go_wp2_with fail;go_ret;exact⟨rfl,U.ro c.out cX⟩
theorem ad7(gs c d rg:Nat)(t:ah w0 gs 317 ([.slice (some ⟨c,0,none⟩) 2 2,.pointer (some ⟨d,0,none⟩)]:List Value).toArray)(u:ah w0 c 319 ([.int .i64 2,.int .i64 1,.int .i64 (-1),.int .i64 0,.int .i64 128,.int .i64 0,.int .i64 0,.int .i64 0,.int .i64 (-1),.int .i64 0,.int .i64 0,.int .i64 0]:List Value).toArray)(p:cY w0 d rg 128 192 [⟨128,64⟩])(z:c≠gs/\d≠gs/\rg≠gs/\d≠c/\rg≠c):
 Calls prog 208 #[.pointer (some ⟨gs,0,none⟩),.int .i64 64] w0 λe w'=>e= .returned (.tuple #[.int .i64 1,.int .i64 0])/\Z1 (λb=>b≠gs/\b≠c/\b≠d/\b≠rg) w0 w':=by
 obtain⟨U7,i,f,l,j⟩:=z;have U:Bx w0 (λb=>b≠gs/\b≠c/\b≠d/\b≠rg) w0 none [⟨c,319,[.int .i64 2,.int .i64 1,.int .i64 (-1),.int .i64 0,.int .i64 128,.int .i64 0,.int .i64 0,.int .i64 0,.int .i64 (-1),.int .i64 0,.int .i64 0,.int .i64 0]⟩,⟨gs,317,[.slice (some ⟨c,0,none⟩) 2 2,.pointer (some ⟨d,0,none⟩)]⟩]:=
  ((Bx.start (A:=none) _ w0 trivial (λa e=>by cases e)).jY t (je.nil _) (.inr λq=>q.1 rfl) (λa e=>by cases e)).jY u ((je.nil _).cons (λe=>U7 e.symm)) (.inr λq=>q.2.1 rfl) (λa e=>by cases e)
 have g:=I p;have WI:=I λw'=>bm 64 1 8192 w' am am
 have r:=I (show∀w',Calls prog 264 #[.int .i64 64] w' λe B=>e= .returned (.tuple #[.int .i64 64,.int .i64 0])/\w'=B from λw'=>tv 64 w' am am);have y:=I (And.intro i (And.intro f (And.intro l j)));clear t u p U7 i f l j;go_enter func208,ntmps208;go_wp2_with(first|(go_at_call 104;refine Calls.mono (WI.out _) ?_;rintro e m ⟨rfl,rfl⟩;skip)|first|(refine aq ?_)|(refine Po U ?_;clear U;intro w U));refine(H6 _ c (U.b cX)).mono ?_;rintro e m ⟨rfl,N⟩;replace U:=U.below N;have v:=I (g.out.Wu (N.block _ g.out.lt.1) (N.block _ g.out.lt.2));clear N g;go_wp2_with(first|(go_at_call 264;refine Calls.mono (r.out _) ?_;rintro e m ⟨rfl,rfl⟩;skip)|first|(refine aq ?_)|(refine Po U ?_;clear U;intro w U));refine(uw _ d rg 128 192 64 [⟨128,64⟩] am aN aN v.out).mono ?_;rintro e C ⟨rfl,-,o⟩;obtain⟨i,f,l,j⟩:=y.out;replace U:=Bx.calls (S:=λb=>b≠gs/\b≠c/\b≠d/\b≠rg) U o (λb _ h=>⟨h,h.2.2⟩) (λx s=>by
  simp only[ad,E,av]at s;rcases s with rfl|rfl
  ·exact⟨l.symm,j.symm⟩
  ·exact⟨i.symm,f.symm⟩)
 clear o i f l j;have n:e4 [(⟨128,64⟩:Ext)] 64=(128,true,[]):=aM;rw[n];clear n;go_wp2_with(first|(refine aq ?_)|(refine Po U ?_;clear U;intro w U));go_ret2;exact⟨rfl,U.Wu⟩
end
end
section
open Go.RowKit Tryz
section
variable{d w w':World}{S:Nat->Prop}{L L' L2:List PL}{c:Program}{o:Oper}{a:Act}{K:Act->World->Prop}{Q:Exit->Act->World->Prop}{ops:Array Oper}{rest:List Oper}
theorem lR{G:Prop}(h:G:=by
 refine WE Z7 λX=>?_
 refine az [[10],[11],[12,13]] ?_;clear U;intro Lf ae3 w U;go_wp2_with fail;go_ret2;exact⟨Lf,gt,gs,Y9,L8,rg,_,uc,_,rfl,U.b ag,U.b ag,U.b ag,U.b ag,r2.out.Wu (U.Wu.block L8 r2.out.lt.1 Q6.out.1) (U.Wu.block rg r2.out.lt.2 Q6.out.2),(DI.back U).all,(DI.back U).ge (g:=Lf) ag,(DI.back U).ge (g:=gs) ag,(DI.back U).ge (g:=Y9) ag,ZG.out.1.1,ZG.out.2.1⟩):G:=h
theorem pI{G:Prop}(h:G:=by
 refine WE Z7 λX=>?_
 refine aF 5 λK Z7=>?_
 rw[Z (by rfl)];refine xQ U xB.out ?_;clear U;intro uc w U NP;exact lR):G:=h
theorem pJ{G:Prop}(h:G:=by
 refine WE Z7 λX=>?_
 refine aF 8 λK Z7=>?_
 rw[Z (by rfl)];refine xQ U Y4.out ?_;clear U;intro gt w U JU;exact lR):G:=h
theorem pK{G:Prop}(h:G:=by
 refine WE Z7 λX=>?_
 refine aF 9 λK Z7=>?_
 rw[Z (by rfl)];refine Kq U ?_;clear U;intro vx w U;exact lR):G:=h
section
variable(h:Bx d S w none L)
include h
theorem TR{f:Nat->Value}{m j g:Nat}{r:List Value}{u:Value}{t:TypeId}(b:j<m)(p: ∀w',Bx d S w' none L'->wpList c ops Q rest (a.put o.dst undef) w'){i:TypeId}{x y:Operand}
 (e:Region.wanted o (yielded ops a.tmps)=true:=by rfl)(q:o.op= .store i x y:=by exact rfl)(l:a.eval x= .pointer (some ⟨g,j,none⟩):=by exact rfl)(hy:dt a y=some u:=by exact rfl)(hv:u.cells= [u].toArray:=by exact rfl)
 (n:Tr L g t ((List.range m).map f++r) ((List.range m).map (put f j u)++r) L':=by exact cf)(hi:(c.info? i).map (·.size)=some 1:=by kernel_rfl)(h1: [u].all (·.oneCell')=true:=by exact rfl):wpList c ops Q (o::rest) a w:=
 wpList_step λK k=>vY h b (λw' s=>k _ _ (p w' s)) e q l hy hv n hi h1
theorem Bx.join(k:Bx w (λ_=>True) w' none L2):Bx d S w' none (L2++L):=by
 have i:=h.below k.all;have ge: ∀x,x∈L2->w.heap.size<=x.g:=λx f=>(k.fr x f).resolve_right λq=>q trivial
 refine⟨λx f=>?_,?_,λx f=>?_,i.Wu,trivial,λa e=>by cases e⟩
 ·rcases List.mem_append.1 f with q|q
  ·exact k.bC x q
  ·exact i.bC x q
 ·rw[cP,List.nodup_append];refine⟨k.UH,h.UH,λa j b hb e=>?_⟩;obtain⟨x,f,rfl⟩:=List.mem_map.1 j;obtain⟨y,hy,rfl⟩:=List.mem_map.1 hb;have h1:=ge x f;have l:=(h.bC y hy).lt;omega
 ·rcases List.mem_append.1 f with q|q
  ·exact .inl (D h.size (ge x q))
  ·exact h.fr x q
theorem Kq(f: ∀b w',Bx d S w' none L->K (a.put o.dst (.map (some b))) w'){t:TypeId}(g:o.op= .makeMap t none:=by exact rfl):Oper.wp c o a w K Q:=by
 have e:=f w.heap.size _ (h.below ((Below.refl w.heap.size w).alloc (ai _) (.map #[] 0)));unfold Oper.wp execOp;simp only[g,Instr.makeMap];simpa [go_sem]using e
end
end
theorem cY.keeps{w0 w:World}{S:Nat->Prop}{L:List PL}{c rg:Nat}{i f:Int}{l:List Ext}(h:cY w c rg i f l)(b:Bx w0 S w none L)(h1:(L.map PL.t).contains 363=false:=by rfl)(d:(L.map PL.t).contains 130=false:=by rfl):bq none L c/\bq none L rg:=by
 obtain⟨v,hb,g⟩:=h.ex;have U7:=zI b hb h1;refine⟨⟨U7,λa e=>by cases e⟩,?_⟩;rcases g with⟨_,_,e,_⟩|⟨cap,rest,_,j,_⟩
 ·rw[e];exact⟨U7,λa e=>by cases e⟩
 ·exact⟨zI b j d,λa e=>by cases e⟩
theorem H7(w:World):(Instr.makeSlice 241 (.int .i64 ((2:Nat):Int)) (.int .i64 ((2:Nat):Int))).run prog w= .ok (.slice (some ⟨w.heap.size,0,none⟩) 2 2) (w.alloc (.cells ([.int .i64 0,.int .u64 0,.slice none 0 0,.int .i64 0,.int .u64 0,.slice none 0 0]:List Value).toArray 325)):=
 vr (z:=.agg #[.int .i64 0,.int .u64 0,.slice none 0 0]) (sz:=3) (bytes:=40) underlying241 aM am am aM w
theorem BD(w:World):(Instr.makeSlice 242 (.int .i64 ((1:Nat):Int)) (.int .i64 ((1:Nat):Int))).run prog w= .ok (.slice (some ⟨w.heap.size,0,none⟩) 1 1) (w.alloc (.cells ([.int .u64 0,.int .u64 0,.int .u64 0,.int .u64 0,.slice none 0 0]:List Value).toArray 248)):=
 vr (z:=.agg #[.int .u64 0,.int .u64 0,.int .u64 0,.int .u64 0,.slice none 0 0]) (sz:=5) (bytes:=56) underlying242 aM am am aM w
theorem Kr(w:World):(Instr.makeSlice 28 (.int .i64 ((8:Nat):Int)) (.int .i64 ((8:Nat):Int))).run prog w= .ok (.slice (some ⟨w.heap.size,0,none⟩) 8 8) (w.alloc (.cells ((List.range 8).map λ_=>Value.slice none 0 0).toArray 95)):=
 vr (z:=.slice none 0 0) (sz:=1) (bytes:=24) underlying28 aM am am aM w
theorem Ks(w0:World)(d:Nat->Prop)(T:Value)(l:Nat->Value)(hF:eF w0 d T (bX RV) l):
 Calls prog 71 #[.agg ([.int .i64 2,.int .i64 1,.int .i64 0,.int .i64 64]:List Value).toArray,T] w0 λe w'=> ∃n gt gs Y9 L8 rg Zv uc WP,e= .returned (.tuple #[.pointer (some ⟨n,0,none⟩),.int .i64 0])/\ah w' n 245 ([.int .i64 2,.int .i64 1,.int .i64 0,.int .i64 64,Zv,.pointer (some ⟨gs,0,none⟩),.slice (some ⟨uc,0,none⟩) 2 2,.slice (some ⟨gt,0,none⟩) 1 1,WP]:List Value).toArray/\
  ah w' gt 248 ([.int .u64 0,.int .u64 0,.int .u64 0,.int .u64 0,.slice none 0 0]:List Value).toArray/\ah w' gs 317 ([.slice (some ⟨Y9,0,none⟩) 2 2,.pointer (some ⟨L8,0,none⟩)]:List Value).toArray/\ah w' Y9 319 ([.int .i64 2,.int .i64 1,.int .i64 (-1),.int .i64 0,.int .i64 128,.int .i64 0,.int .i64 0,.int .i64 0,.int .i64 (-1),.int .i64 0,.int .i64 0,.int .i64 0]:List Value).toArray/\cY w' L8 rg 128 192 [⟨128,64⟩]/\Below w0.heap.size w0 w'/\w0.heap.size<=n/\w0.heap.size<=gs/\w0.heap.size<=Y9/\w0.heap.size<=L8/\w0.heap.size<=rg:=by
 obtain⟨L,B,rfl,q1,Xt,o⟩:=id hF.row;rw[gd]at q1 o⊢;have P:=I (show eF w0 d (.slice L 8 B) (bX RV) l from by have h:=hF;rw[gd]at h;exact h);have M:=I o;have xB:=I H7;have Y4:=I BD;have C:=I Kr;have U:=Bx.a0 w0;clear hF q1 Xt o;go_enter func71,ntmps71;go_upto_region 1 with(refine Ws U 27 ?_;clear U;intro A w U VW)
 go_upto_region 3 with(first|(go_at_call 77;refine a6 U (kJ 2 1 0 64 _ am) ?_;clear U;intro c U)|(go_at_call 70;refine a6 U (sj _ d _ (bX RV) l (P.out.below U.all) (by rw[gd];exact ai _) (xP hW)) ?_;clear U;intro c U)|(refine Ww U ?_))
 go_upto_region 4 with(first|(go_at_call 127;refine Calls.mono (H5 _) ?_;rintro e c ⟨gs,Y9,L8,rg,rfl,lO,v,V,qS⟩;have ZG:=I (And.intro (U.hO V) (U.hO qS));have DI:=U.join lO;simp only[aU,au]at DI;have r2:=I v;clear U lO v V qS;have U:=DI)|(refine Ww U ?_))
 have U:=DI.base;have Q6:=I (r2.out.keeps DI);go_upto_region 5 with(refine NI U C.out ?_;clear U;intro go w U afT)
 go_wp2_with fail;have eB:=I U;clear U;go_loopw [29] (λi wr=> ∃(k:Nat) (f:Nat->Value),k<=8/\i= .int .i64 k/\Bx c (bq none [⟨gs,317,[.slice (some ⟨Y9,0,none⟩) 2 2,.pointer (some ⟨L8,0,none⟩)]⟩,⟨Y9,319,[.int .i64 2,.int .i64 1,.int .i64 (-1),.int .i64 0,.int .i64 128,.int .i64 0,.int .i64 0,.int .i64 0,.int .i64 (-1),.int .i64 0,.int .i64 0,.int .i64 0]⟩,⟨A,27,[.int .i64 2,.int .i64 1,.int .i64 0,.int .i64 64]⟩]) wr none [⟨go,95,(List.range 8).map f++ []⟩,⟨gs,317,[.slice (some ⟨Y9,0,none⟩) 2 2,.pointer (some ⟨L8,0,none⟩)]⟩,⟨Y9,319,[.int .i64 2,.int .i64 1,.int .i64 (-1),.int .i64 0,.int .i64 128,.int .i64 0,.int .i64 0,.int .i64 0,.int .i64 (-1),.int .i64 0,.int .i64 0,.int .i64 0]⟩,⟨A,27,[.int .i64 2,.int .i64 1,.int .i64 0,.int .i64 64]⟩]) (λi _=>8-(intOf i).toNat)
 case atStart=>exact⟨0,λ_=>.slice none 0 0,J,rfl,by rw[br];exact eB.out⟩
 case round=>
  obtain⟨k,f,TS,rfl,a⟩:=hrel;clear eB;by_cases x:k<8
  ·have WU:(k:Int)<8:=by omega
   obtain⟨b,off,rfl,YF,fC,R⟩:=M.out J;have z:w0.cell? ⟨b,off+k,none⟩=some (l k):=by simpa using R k 0 _ x rfl
   have y:=P.out.each k (RV.eI k) (by unfold bX;rw[a3,a1 x];rfl);obtain⟨G,F,q,-,-,-⟩:=id y;have uG:=(hW.f k).1;have O:=I y;rw[q]at z O;have U:=DI.back a;have Q:=(U.all.cell (p:=⟨b,off+k,none⟩) fC).trans z;obtain⟨m,hm⟩: ∃m,(RV.eI k).length=m:=⟨_,rfl⟩
   have s:=I hm;rw[hm]at Q uG;clear z R YF fC y q hm;go_upto_region 8 with fail
   have aaq:=I (show∀w',Below w0.heap.size w0 w'->Calls prog 120 #[.slice G m F] w' λe W=> ∃v',e= .returned v'/\KC W (λb=>w'.heap.size<=b) v' m 3 (jQ (RV.eI k))/\Below w'.heap.size w' W from λw' hb=>by rw[<-s.out];exact nl w' d _ _ _ (O.out.below hb) (by rw[s.out];omega) (pQ _ _));have aau:=a.base;replace U:=aau;clear Q;go_upto_region 9 with(first|(go_at_call 120;refine Calls.mono (aaq.out _ (DI.back (a.back U)).all) ?_;rintro e c ⟨v',rfl,hv,N⟩;obtain⟨H,ZM,rfl,-,-,-⟩:=id hv;clear hv;replace U:=U.below N;clear N)|(refine TR U (f:=f) (m:=8) (j:=k) (r:= []) (u:=.slice H m ZM) x ?_;clear U;intro w U))
   go_wp2_with fail;go_roundw
   case rel=>exact⟨k+1,_,J,by go_num,a.back U⟩
   case measure=>simp[intOf];omega
  ·obtain rfl:k=8:=by omega
   have U:=a;clear a;go_upto_region 10 with fail
   replace U:=U.drew;refine wp_region_held_drew (S:=(c0 [⟨A,27,[.int .i64 2,.int .i64 1,.int .i64 0,.int .i64 64]⟩])) aM ?_ (λX=>?_)
   ·exact U.bG aN
   refine az [[0,1,2,3,4,6,7]] ?_;refine Zj [5,8,9] ?_;refine ea (λK Z7=>?_) ?_
   ·rw[Z (by rfl)];refine xQ U xB.out ?_;clear U;intro uc w U NP;refine WE Z7 λX=>?_
    refine Zj [8,9] ?_;refine ea (λK Z7=>?_) ?_
    ·rw[Z (by rfl)];refine xQ U Y4.out ?_;clear U;intro gt w U JU;exact pK
    refine ei (λK Z7=>?_);rw[Z (by rfl)];refine Kq U ?_;clear U;intro vx w U;exact pJ
   refine ea (λK Z7=>?_) ?_
   ·rw[Z (by rfl)];refine xQ U Y4.out ?_;clear U;intro gt w U JU;refine WE Z7 λX=>?_
    refine Zj [5,9] ?_;refine ea (λK Z7=>?_) ?_
    ·rw[Z (by rfl)];refine xQ U xB.out ?_;clear U;intro uc w U NP;exact pK
    refine ei (λK Z7=>?_);rw[Z (by rfl)];refine Kq U ?_;clear U;intro vx w U;exact pI
   refine ei (λK Z7=>?_);rw[Z (by rfl)];refine Kq U ?_;clear U;intro vx w U;refine WE Z7 λX=>?_
   refine Zj [5,8] ?_;refine ea (λK Z7=>?_) ?_
   ·rw[Z (by rfl)];refine xQ U xB.out ?_;clear U;intro uc w U NP;exact pJ
   refine ei (λK Z7=>?_);rw[Z (by rfl)];refine xQ U Y4.out ?_;clear U;intro gt w U JU;exact pI
end
section
open Go.RowKit Tryz
theorem Bx.Kt{w:World}{L:List PL}(hb: ∀x,x∈L->ah w x.g x.t x.cs.toArray)(i:(L.map PL.t).Nodup:=by(simp only[aS,ck]);decide):Bx w (bq none L) w none L:=by
 refine⟨hb,?_,λx c=>.inr λk=>k.1 x c rfl,Z1.refl _ _,trivial,λa e=>by cases e⟩;have key: ∀l:List PL,(∀x,x∈l->x∈L)->(l.map PL.t).Nodup->(l.map PL.g).Nodup:=by
  intro l;induction l with
  |nil=>intro _ _;exact List.nodup_nil
  |cons x l j=>
   intro d b;rw[aS,bS]at b⊢;refine⟨λhm=>?_,j (λy hy=>d y (ao _ hy)) b.2⟩;obtain⟨y,hy,e⟩:=List.mem_map.1 hm;have c:=hb x (d x a8);have n:=hb y (d y (ao _ hy));have m:y.t≠x.t:=λf=>b.1 (List.mem_map.2 ⟨y,hy,f⟩)
   exact ah.ne n c m e
 exact key L (λ_ h=>h) i
theorem wT:(Tryz.prog.info? 5).map (λi=>(i.zero,i.size,i.bytes))=some (some (.int .u8 0),1,1):=aM
theorem H8(w0:World):Calls prog 140 #[.agg ([.int .u8 2,.int .u8 0,.int .u8 0,.int .u8 0,.int .i64 64,.int .i64 0,.int .i64 0]:List Value).toArray] w0 λe w'=>e= .returned (.bool true)/\Below w0.heap.size w0 w':=by
 have b: ∀args w,(callFunc 228 args).run prog w= .ok (.enter 228 args) w:=enters_of func228 aM rfl;have d:=I (λw'=>wk w' (λ_=>True) (.slice none 0 0) 0 (λ_=> []) (λ_=>undef) 228 #[] (λ_=>false) b (KC.nil _ _ _ _) (λi hi=>J) am (λi hi=>J));have U:=Bx.a0 w0;clear b;go_enter func140,ntmps140;go_upto_region 1 with(refine Ws U 42 ?_;clear U;intro m w U s)
 go_upto_region 2 with(first|(refine Ka U ?_;clear U;intro o w U hm f _ _)|(refine dE U.base rfl 22 5 _ rfl _ [.int .u8 0] rfl rfl (.int .u8 0) 1 1 underlying22 wT rfl am am ?_;intro l w a j;replace hm:=U.qY hm a;replace U:=U.back a;clear a;refine cN ?_)|(refine kB U.base rfl 22 5 _ _ rfl (.int .u8 0) (.int .u8 0) rfl rfl rfl rfl (.int .u8 0) 1 underlying22 wT ?_;intro l w a j;replace hm:=U.qY hm a;replace U:=U.back a;clear a;refine cN ?_)|(refine Kb U hm (.inl f) underlying338 underlying5 ?_;clear U hm;intro w U hm _)|(refine UQ U ?_))
 have le:=mR (P:=prog) (ok:=false) (q:=.u8) (key:=2) (z:=.slice none 0 0) (r:=none) hm underlying338 underlying5 aM (by rfl) rfl;have p:=U.cell (g:=m) (i:=0) ag rfl;go_wp2_with fail;refine(d.out _).mono ?_;rintro e n ⟨r,rfl,c,N⟩;replace U:=U.below N;obtain rfl:r=false:=by
  rcases c with h|⟨_,i,h,_⟩
  ·exact h.1
  ·omega
 go_wp2_with fail;go_ret;exact⟨rfl,U.all⟩
theorem BE(w0:World)(c gt gs a d l j:Nat)(o n:Value)(hm:ah w0 c 245 ([.int .i64 2,.int .i64 1,.int .i64 0,.int .i64 64,o,.pointer (some ⟨gs,0,none⟩),.slice (some ⟨j,0,none⟩) 2 2,.slice (some ⟨gt,0,none⟩) 1 1,n]:List Value).toArray)(F:ah w0 gs 317 ([.slice (some ⟨a,0,none⟩) 2 2,.pointer (some ⟨d,0,none⟩)]:List Value).toArray)(G:ah w0 a 319 ([.int .i64 2,.int .i64 1,.int .i64 (-1),.int .i64 0,.int .i64 128,.int .i64 0,.int .i64 0,.int .i64 0,.int .i64 (-1),.int .i64 0,.int .i64 0,.int .i64 0]:List Value).toArray)(v:cY w0 d l 128 192 [⟨128,64⟩]):
 Calls prog 130 #[.agg ([.pointer (some ⟨c,0,none⟩),.pointer (some ⟨gt,0,none⟩),.int .u8 2,.int .u8 0,.int .u8 0,.int .u8 0,.int .i64 64,.int .i64 0,.int .i64 0]:List Value).toArray] w0 λe w'=>e= .returned (.agg #[.int .i64 0,.int .i64 1,.slice none 0 0])/\Z1 (λb=>bq none [⟨c,245,[.int .i64 2,.int .i64 1,.int .i64 0,.int .i64 64,o,.pointer (some ⟨gs,0,none⟩),.slice (some ⟨j,0,none⟩) 2 2,.slice (some ⟨gt,0,none⟩) 1 1,n]⟩,⟨gs,317,[.slice (some ⟨a,0,none⟩) 2 2,.pointer (some ⟨d,0,none⟩)]⟩,⟨a,319,[.int .i64 2,.int .i64 1,.int .i64 (-1),.int .i64 0,.int .i64 128,.int .i64 0,.int .i64 0,.int .i64 0,.int .i64 (-1),.int .i64 0,.int .i64 0,.int .i64 0]⟩] b/\b≠d/\b≠l) w0 w':=by
 have U:=Bx.Kt (L:= [⟨c,245,[.int .i64 2,.int .i64 1,.int .i64 0,.int .i64 64,o,.pointer (some ⟨gs,0,none⟩),.slice (some ⟨j,0,none⟩) 2 2,.slice (some ⟨gt,0,none⟩) 1 1,n]⟩,⟨gs,317,[.slice (some ⟨a,0,none⟩) 2 2,.pointer (some ⟨d,0,none⟩)]⟩,⟨a,319,[.int .i64 2,.int .i64 1,.int .i64 (-1),.int .i64 0,.int .i64 128,.int .i64 0,.int .i64 0,.int .i64 0,.int .i64 (-1),.int .i64 0,.int .i64 0,.int .i64 0]⟩]) (λx p=>by
  simp only[ad,E,av]at p;rcases p with rfl|rfl|rfl
  ·exact hm
  ·exact F
  ·exact G)
 have m:=I v;have A:=I U;clear hm F G v;go_enter func130,ntmps130;go_upto_region 1 with(first|(refine Ws U 250 ?_;clear U;intro y w U O)|(refine VP U tW ?_;clear U;intro gr w U N))
 have r:=I (m.out.keeps A.out);replace U:=U.drew;refine wp_region_held_drew (S:=c0 [⟨y,250,[.pointer (some ⟨c,0,none⟩),.pointer (some ⟨gt,0,none⟩),.int .u8 2,.int .u8 0,.int .u8 0,.int .u8 0,.int .i64 64,.int .i64 0,.int .i64 0]⟩,⟨c,245,[.int .i64 2,.int .i64 1,.int .i64 0,.int .i64 64,o,.pointer (some ⟨gs,0,none⟩),.slice (some ⟨j,0,none⟩) 2 2,.slice (some ⟨gt,0,none⟩) 1 1,n]⟩]) aM (U.bG aN) (λX=>?_);refine az [[0,1,2,3,4,5,6,7]] ?_;refine Yt (λK H=>?_);go_simp;have q:=U.UH;simp only[aS,ck,bS,ad,E,av,not_or]at q;have z:=m.out.Wu (U.Wu.block d m.out.lt.1 r.out.1) (U.Wu.block l m.out.lt.2 r.out.2);obtain⟨i,f⟩:=z.keeps U;have B:=I (And.intro i f);have C:=I q;refine(ad7 _ gs a d l (U.b ag) (U.b ag) z ⟨λe=>q.2.2.2.1 e.symm,λe=>i.1 _ (In.mem (g:=gs) ag) e.symm,λe=>f.1 _ (In.mem (g:=gs) ag) e.symm,λe=>i.1 _ (In.mem (g:=a) ag) e.symm,λe=>f.1 _ (In.mem (g:=a) ag) e.symm⟩).mono ?_;clear q z i f;rintro e M ⟨rfl,s⟩;have u:=Bx.calls (S:=λb=>bq none [⟨c,245,[.int .i64 2,.int .i64 1,.int .i64 0,.int .i64 64,o,.pointer (some ⟨gs,0,none⟩),.slice (some ⟨j,0,none⟩) 2 2,.slice (some ⟨gt,0,none⟩) 1 1,n]⟩,⟨gs,317,[.slice (some ⟨a,0,none⟩) 2 2,.pointer (some ⟨d,0,none⟩)]⟩,⟨a,319,[.int .i64 2,.int .i64 1,.int .i64 (-1),.int .i64 0,.int .i64 128,.int .i64 0,.int .i64 0,.int .i64 0,.int .i64 (-1),.int .i64 0,.int .i64 0,.int .i64 0]⟩] b/\b≠d/\b≠l) (Bx.front (L1:= [⟨gr,44,[.int .i64 0,.int .i64 0,.slice none 0 0]⟩,⟨y,250,[.pointer (some ⟨c,0,none⟩),.pointer (some ⟨gt,0,none⟩),.int .u8 2,.int .u8 0,.int .u8 0,.int .u8 0,.int .i64 64,.int .i64 0,.int .i64 0]⟩,⟨c,245,[.int .i64 2,.int .i64 1,.int .i64 0,.int .i64 64,o,.pointer (some ⟨gs,0,none⟩),.slice (some ⟨j,0,none⟩) 2 2,.slice (some ⟨gt,0,none⟩) 1 1,n]⟩]) U) s (λb _ h=>⟨h.1,λe=>h.1.1 _ (In.mem (g:=gs) ag) e.symm,λe=>h.1.1 _ (In.mem (g:=a) ag) e.symm,h.2⟩) (λx p=>by
  have q:=C.out;obtain⟨i,f⟩:=B.out;simp only[ad,E,av]at p;rcases p with rfl|rfl|rfl
  ·exact⟨q.1.2.2.1,q.1.2.2.2,i.1 _ (In.mem (g:=gr) ag),f.1 _ (In.mem (g:=gr) ag)⟩
  ·exact⟨q.2.1.2.1,q.2.1.2.2,i.1 _ (In.mem (g:=y) ag),f.1 _ (In.mem (g:=y) ag)⟩
  ·exact⟨q.2.2.1.1,q.2.2.1.2,i.1 _ (In.mem (g:=c) ag),f.1 _ (In.mem (g:=c) ag)⟩)
 clear U s;have U:=u;clear u;go_wp2_with fail;refine WE H ?_;clear H K;intro X;refine az [[9,10,11,12,13]] ?_;go_wp2_with(refine Po U ?_;clear U;intro w U);refine cw results130 rfl rfl ⟨_,U.b (g:=gr) ag,rfl⟩ underlying44 rfl aM ?_;exact⟨rfl,U.Wu⟩
end
section
open Go.RowKit Tryz
theorem H9(w0:World)(d gt gs c f l j:Nat)(p o:Value)(hm:ah w0 d 245 ([.int .i64 2,.int .i64 1,.int .i64 0,.int .i64 64,p,.pointer (some ⟨gs,0,none⟩),.slice (some ⟨j,0,none⟩) 2 2,.slice (some ⟨gt,0,none⟩) 1 1,o]:List Value).toArray)(YF:ah w0 gs 317 ([.slice (some ⟨c,0,none⟩) 2 2,.pointer (some ⟨f,0,none⟩)]:List Value).toArray)(YJ:ah w0 c 319 ([.int .i64 2,.int .i64 1,.int .i64 (-1),.int .i64 0,.int .i64 128,.int .i64 0,.int .i64 0,.int .i64 0,.int .i64 (-1),.int .i64 0,.int .i64 0,.int .i64 0]:List Value).toArray)(H:cY w0 f l 128 192 [⟨128,64⟩]):
 Calls prog 72 #[.pointer (some ⟨d,0,none⟩),.int .i64 0,.agg ([.int .u8 2,.int .u8 0,.int .u8 0,.int .u8 0,.int .i64 64,.int .i64 0,.int .i64 0]:List Value).toArray] w0 λe w'=>e= .returned (.tuple #[.agg #[.int .i64 0,.int .i64 1,.slice none 0 0],.int .i64 0])/\Z1 (λb=>bq none [⟨d,245,[.int .i64 2,.int .i64 1,.int .i64 0,.int .i64 64,p,.pointer (some ⟨gs,0,none⟩),.slice (some ⟨j,0,none⟩) 2 2,.slice (some ⟨gt,0,none⟩) 1 1,o]⟩,⟨gs,317,[.slice (some ⟨c,0,none⟩) 2 2,.pointer (some ⟨f,0,none⟩)]⟩,⟨c,319,[.int .i64 2,.int .i64 1,.int .i64 (-1),.int .i64 0,.int .i64 128,.int .i64 0,.int .i64 0,.int .i64 0,.int .i64 (-1),.int .i64 0,.int .i64 0,.int .i64 0]⟩] b/\b≠f/\b≠l) w0 w':=by
 have n: ∀args w,(callFunc 130 args).run prog w= .ok (.enter 130 args) w:=enters_of func130 aM rfl;have W:=I n;have U:=Bx.Kt (L:= [⟨d,245,[.int .i64 2,.int .i64 1,.int .i64 0,.int .i64 64,p,.pointer (some ⟨gs,0,none⟩),.slice (some ⟨j,0,none⟩) 2 2,.slice (some ⟨gt,0,none⟩) 1 1,o]⟩,⟨gs,317,[.slice (some ⟨c,0,none⟩) 2 2,.pointer (some ⟨f,0,none⟩)]⟩,⟨c,319,[.int .i64 2,.int .i64 1,.int .i64 (-1),.int .i64 0,.int .i64 128,.int .i64 0,.int .i64 0,.int .i64 0,.int .i64 (-1),.int .i64 0,.int .i64 0,.int .i64 0]⟩]) (λx A=>by
  simp only[ad,E,av]at A;rcases A with rfl|rfl|rfl
  ·exact hm
  ·exact YF
  ·exact YJ)
 have m:=I H;have O:=I U;have WI:=I λw'=>bm 0 0 0 w' am am
 clear hm YF YJ H n;go_enter func72,ntmps72;go_upto_region 1 with(first|(refine Ws U 42 ?_;clear U;intro gc w U adZ)|(refine VP U tW ?_;clear U;intro gr w U Bq))
 go_upto_region 3 with(first|(go_at_call 104;refine Calls.mono (WI.out _) ?_;rintro e B ⟨rfl,rfl⟩;skip)|(refine UQ U ?_))
 have C:=I (m.out.keeps O.out);replace U:=U.drew;refine wp_region_held_drew (S:=c0 [⟨gc,42,[.int .u8 2,.int .u8 0,.int .u8 0,.int .u8 0,.int .i64 64,.int .i64 0,.int .i64 0]⟩,⟨d,245,[.int .i64 2,.int .i64 1,.int .i64 0,.int .i64 64,p,.pointer (some ⟨gs,0,none⟩),.slice (some ⟨j,0,none⟩) 2 2,.slice (some ⟨gt,0,none⟩) 1 1,o]⟩]) aM (U.bG aN) (λX=>?_);refine az [[0,1,2,3,4,5,6,7,8]] ?_;refine Yt (λK Z7=>?_);refine kx U 250 rfl _ _ ER rfl ?_;clear U;intro M w U ae4;refine WE Z7 ?_;clear Z7 K;intro X;refine az [[],[10]] ?_;clear U;intro w U;go_upto_region 5 with(first|(refine Ka U ?_;clear U;intro vx w U hm NQ _ _)|(refine Kb U hm (.inl NQ) underlying252 underlying5 ?_;clear U hm;intro w U hm _)|(refine Ww U ?_))
 have le:=mR (P:=prog) (ok:=true) (q:=.u8) (key:=2) (z:=.nilFunc) (r:=some (2,.func (.func 130) #[.agg ([.pointer (some ⟨d,0,none⟩),.pointer (some ⟨gt,0,none⟩),.int .u8 2,.int .u8 0,.int .u8 0,.int .u8 0,.int .i64 64,.int .i64 0,.int .i64 0]:List Value).toArray] #[])) hm underlying252 underlying5 aM (by rfl) rfl;have VI:=U.cell (g:=gc) (i:=0) ag rfl;go_upto_region 6 with fail
 clear le VI hm;go_upto_region 8 with(first|(go_at_call 140;refine a6 U (H8 _) ?_;clear U;intro B U)|(refine WG U ?_))
 have q:=U.UH;simp only[aS,ck,bS,ad,E,av,not_or]at q;have y9:=I (m.out.Wu (U.Wu.block f m.out.lt.1 C.out.1) (U.Wu.block l m.out.lt.2 C.out.2));have T:=I (y9.out.keeps U);have V:=I q;have n:=W.out;clear q;go_wp2_with fail;refine(BE _ d gt gs c f l j p o (U.b ag) (U.b ag) (U.b ag) y9.out).mono ?_;clear n;rintro e B ⟨rfl,F⟩;have G:=Bx.calls (S:=λb=>bq none [⟨d,245,[.int .i64 2,.int .i64 1,.int .i64 0,.int .i64 64,p,.pointer (some ⟨gs,0,none⟩),.slice (some ⟨j,0,none⟩) 2 2,.slice (some ⟨gt,0,none⟩) 1 1,o]⟩,⟨gs,317,[.slice (some ⟨c,0,none⟩) 2 2,.pointer (some ⟨f,0,none⟩)]⟩,⟨c,319,[.int .i64 2,.int .i64 1,.int .i64 (-1),.int .i64 0,.int .i64 128,.int .i64 0,.int .i64 0,.int .i64 0,.int .i64 (-1),.int .i64 0,.int .i64 0,.int .i64 0]⟩] b/\b≠f/\b≠l) (Bx.front (L1:= [⟨M,250,[.pointer (some ⟨d,0,none⟩),.pointer (some ⟨gt,0,none⟩),.int .u8 2,.int .u8 0,.int .u8 0,.int .u8 0,.int .i64 64,.int .i64 0,.int .i64 0]⟩,⟨gr,44,[.int .i64 0,.int .i64 0,.slice none 0 0]⟩,⟨gc,42,[.int .u8 2,.int .u8 0,.int .u8 0,.int .u8 0,.int .i64 64,.int .i64 0,.int .i64 0]⟩]) U) F (λb _ h=>⟨h.1,h⟩) (λx A=>by
  have q:=V.out;obtain⟨v,u⟩:=T.out;simp only[ad,E,av]at A;have s: ∀b,b≠d->b≠gs->b≠c->bq none [⟨d,245,[.int .i64 2,.int .i64 1,.int .i64 0,.int .i64 64,p,.pointer (some ⟨gs,0,none⟩),.slice (some ⟨j,0,none⟩) 2 2,.slice (some ⟨gt,0,none⟩) 1 1,o]⟩,⟨gs,317,[.slice (some ⟨c,0,none⟩) 2 2,.pointer (some ⟨f,0,none⟩)]⟩,⟨c,319,[.int .i64 2,.int .i64 1,.int .i64 (-1),.int .i64 0,.int .i64 128,.int .i64 0,.int .i64 0,.int .i64 0,.int .i64 (-1),.int .i64 0,.int .i64 0,.int .i64 0]⟩] b:=λb N Q R=>⟨λy hy e=>by
   simp only[ad,E,av]at hy;rcases hy with rfl|rfl|rfl
   ·exact N e.symm
   ·exact Q e.symm
   ·exact R e.symm,λa e=>by cases e⟩
  rcases A with rfl|rfl|rfl
  ·exact⟨s _ q.1.2.2.1 q.1.2.2.2.1 q.1.2.2.2.2,v.1 _ (In.mem (g:=M) ag),u.1 _ (In.mem (g:=M) ag)⟩
  ·exact⟨s _ q.2.1.2.1 q.2.1.2.2.1 q.2.1.2.2.2,v.1 _ (In.mem (g:=gr) ag),u.1 _ (In.mem (g:=gr) ag)⟩
  ·exact⟨s _ q.2.2.1.1 q.2.2.1.2.1 q.2.2.1.2.2,v.1 _ (In.mem (g:=gc) ag),u.1 _ (In.mem (g:=gc) ag)⟩)
 clear U F;have U:=G;clear G;go_wp2_with(refine Po U ?_;clear U;intro w U);refine aZ results72 rfl rfl ⟨_,U.b (g:=gr) ag,rfl⟩ underlying44 rfl aM ?_;exact⟨rfl,U.Wu⟩
end
section
open Go.RowKit Tryz
theorem pL{G:Prop}(h:G:=by
 refine Yt (λK Z7=>?_);refine ev U 44 _ _ rfl Zx 0 _ [.int .i64 0,.int .i64 1,.slice none 0 0] rfl rfl rfl cf (by decide) (by kernel_rfl) rfl ?_;clear U;intro w U;refine WE Z7 ?_ (λj v OV=>((U).all.cell (p:=⟨bs,os+j,none⟩) UL.out).trans (VN.out j v OV));clear Z7 K;intro X;refine az [[17]] ?_;go_wp2_with fail;go_meet;exact⟨Zx,rfl,U⟩):G:=h
theorem NR(w:World)(A B:Option Addr)(c d:Nat):Calls prog 73 #[.slice A 0 c,.slice B 0 d] w λe w'=>e= .returned (.bool true)/\w=w':=by
 go_enter func73,ntmps73;exact lc
theorem Ia{b:Option Addr}{a j:Nat}{v:Value}(h:([.int .u8 2,.int .u8 0,.int .u8 0,.int .u8 0,.int .i64 64,.int .i64 0,.int .i64 0]:List Value)[j]? =some v):([.int .i64 0,.int .u8 2,.int .u8 0,.int .u8 0,.int .u8 0,.int .i64 64,.int .i64 0,.int .i64 0,.int .i64 0,.int .i64 0,.int .i64 0,.int .i64 0,.int .i64 1,.slice b 0 a]:List Value)[1+j]? =some v:=by
 rcases j with _|_|_|_|_|_|_|j
 all_goals first|exact h|simp at h
theorem Ib{b:Option Addr}{a j:Nat}{v:Value}(h:([.int .i64 0,.int .i64 1,.slice b 0 a]:List Value)[j]? =some v):([.int .i64 0,.int .u8 2,.int .u8 0,.int .u8 0,.int .u8 0,.int .i64 64,.int .i64 0,.int .i64 0,.int .i64 0,.int .i64 0,.int .i64 0,.int .i64 0,.int .i64 1,.slice b 0 a]:List Value)[11+j]? =some v:=by
 rcases j with _|_|_|j
 all_goals first|exact h|simp at h
theorem Eu(w0:World)(O:Nat->Prop)(Y8:Value)(P:Nat->Value)(hF:eF w0 O Y8 (bX RV) P)(bs os cs:Nat)(H:Option Addr)(G:Nat)(d: ∀(j:Nat) (v:Value),([.int .i64 0,.int .u8 2,.int .u8 0,.int .u8 0,.int .u8 0,.int .i64 64,.int .i64 0,.int .i64 0,.int .i64 0,.int .i64 0,.int .i64 0,.int .i64 0,.int .i64 1,.slice H 0 G]:List Value)[j]? =some v->w0.cell? ⟨bs,os+j,none⟩=some v)(xT:bs<w0.heap.size):
 Calls prog 33 #[.agg ([.int .i64 2,.int .i64 1,.int .i64 0,.int .i64 64]:List Value).toArray,Y8,.slice (some ⟨bs,os,none⟩) 1 cs] w0 λe w'=>e= .returned (.tuple #[.bool true,.int .i64 0])/\Below w0.heap.size w0 w':=by
 have WX:=I hF;have VN:=I d;have UL:=I xT;have U:=Bx.a0 w0;clear d hF xT;go_enter func33,ntmps33;go_upto_region 1 with(refine Ws U 27 ?_;clear U;intro Q7 w U VW)
 go_upto_region 3 with(first|(go_at_call 69;refine a6 U (Ep _ bs os cs H G (λj v OV=>(U.all.cell (p:=⟨bs,os+j,none⟩) UL.out).trans (VN.out j v OV)) (aj UL.out U.size)) ?_;clear U;intro n U)|(go_at_call 70;refine a6 U (sj _ O _ (bX RV) P (WX.out.below U.all) (by rw[gd];exact ai _) (xP hW)) ?_;clear U;intro n U)|(refine Ww U ?_))
 go_upto_region 4 with(first|(go_at_call 71;refine Calls.mono (Ks _ O _ P (WX.out.below U.all)) ?_;rintro e n ⟨z,gt,gs,q,u,M,Zv,y,WP,rfl,hm,V,YF,YJ,UW,N,q1,Xt,lj,th,ZX⟩;have s:=U.size;have r:=U.below N;have T:=I hm;have Q:=I YF;have WS:=I YJ;have F:=I UW;have kb:=I (And.intro (D s q1) (And.intro (D s Xt) (And.intro (D s lj) (And.intro (D s th) (D s ZX)))));clear U hm V YF YJ UW N q1 Xt lj th ZX s;have U:=r.base)|(refine Ww U ?_))
 go_wp2_with fail;refine(wS _ bs os cs H G (λj v OV=>((r.back U).all.cell (p:=⟨bs,os+j,none⟩) UL.out).trans (VN.out j v OV)) (aj UL.out (r.back U).size)).mono ?_;rintro e n ⟨g,c,rfl,Ae,afW,N⟩;replace U:=U.below N;clear N;have hb:=vp r.bC U λ_ h=>h
 have o1:=(r.back U).drew;have R:=I (show∀w',Z1 (bq none [⟨Q7,27,[.int .i64 2,.int .i64 1,.int .i64 0,.int .i64 64]⟩]) n.drew w'->ah w' z 245 ([.int .i64 2,.int .i64 1,.int .i64 0,.int .i64 64,Zv,.pointer (some ⟨gs,0,none⟩),.slice (some ⟨y,0,none⟩) 2 2,.slice (some ⟨gt,0,none⟩) 1 1,WP]:List Value).toArray/\ah w' gs 317 ([.slice (some ⟨q,0,none⟩) 2 2,.pointer (some ⟨u,0,none⟩)]:List Value).toArray/\ah w' q 319 ([.int .i64 2,.int .i64 1,.int .i64 (-1),.int .i64 0,.int .i64 128,.int .i64 0,.int .i64 0,.int .i64 0,.int .i64 (-1),.int .i64 0,.int .i64 0,.int .i64 0]:List Value).toArray/\cY w' u M 128 192 [⟨128,64⟩]from λw' k=>by
  have m:=T.out.below hb T.out.lt;have C:=Q.out.below hb Q.out.lt;have l:=WS.out.below hb WS.out.lt;have f:=F.out.Wu (hb.block _ F.out.lt.1) (hb.block _ F.out.lt.2);have ZM:=f.keeps U;have YB: ∀ {g:Nat} {t:TypeId} {cs:Array Value},ah n g t cs->([27].contains t)=false->ah w' g t cs:=λhb V=>(k.block _ hb.lt ⟨zI U hb V,λa e=>by cases e⟩).trans hb
  exact⟨YB m rfl,YB C rfl,YB l rfl,f.Wu (k.block _ f.lt.1 ZM.1) (k.block _ f.lt.2 ZM.2)⟩)
 have W:=I o1;clear T Q WS F hb U r;go_wp2_with fail;refine wp_loop_rounds 2 ?_;rw[rounds_succ];go_upto_region 7 with fail
 clear Ae;go_cut [12,13]from 37 to 51 (λut afY ZT=> ∃Zx,ut= .pointer (some ⟨Zx,0,none⟩)/\Bx w0 (λ_=>True) ZT none [⟨Zx,44,[.int .i64 0,.int .i64 1,.slice none 0 0]⟩,⟨Q7,27,[.int .i64 2,.int .i64 1,.int .i64 0,.int .i64 64]⟩])
 case first=>
  have U:=W.out.base;refine wp_region_held_drew (S:=(λw=> ∀(j:Nat) (v:Value),([.int .i64 0,.int .u8 2,.int .u8 0,.int .u8 0,.int .u8 0,.int .i64 64,.int .i64 0,.int .i64 0,.int .i64 0,.int .i64 0,.int .i64 0,.int .i64 0,.int .i64 1,.slice H 0 G]:List Value)[j]? =some v->w.cell? ⟨bs,os+j,none⟩=some v)) aM (λj v OV=>((W.out).all.cell (p:=⟨bs,os+j,none⟩) UL.out).trans (VN.out j v OV)) (λX=>?_);refine az [[0,1,2,3,4]] ?_;refine eE 5 rfl (bl (by rfl) 3 _ rfl bs os rfl _ (λw h=>h 0 _ rfl) underlying3 rfl) ?_;refine az [[6,7,8,9]] ?_;refine eE 10 rfl (yieldsIf_load_mid (by rfl) 42 _ rfl bs (os+1) rfl [.int .u8 2,.int .u8 0,.int .u8 0,.int .u8 0,.int .i64 64,.int .i64 0,.int .i64 0] _ (λw h j v OV=>by rw[Nat.add_assoc];exact h (1+j) v (Ia OV)) underlying42 rfl aM) ?_;refine Zj [11,15] ?_;refine ea (λK Z7=>?_) ?_
  ·rw[Z (by rfl)];go_simp;obtain⟨m,C,l,f⟩:=R.out _ U.Wu;have o:=Bx.Kt (L:= [⟨z,245,[.int .i64 2,.int .i64 1,.int .i64 0,.int .i64 64,Zv,.pointer (some ⟨gs,0,none⟩),.slice (some ⟨y,0,none⟩) 2 2,.slice (some ⟨gt,0,none⟩) 1 1,WP]⟩,⟨gs,317,[.slice (some ⟨q,0,none⟩) 2 2,.pointer (some ⟨u,0,none⟩)]⟩,⟨q,319,[.int .i64 2,.int .i64 1,.int .i64 (-1),.int .i64 0,.int .i64 128,.int .i64 0,.int .i64 0,.int .i64 0,.int .i64 (-1),.int .i64 0,.int .i64 0,.int .i64 0]⟩]) (λx d=>by
    simp only[ad,E,av]at d;rcases d with rfl|rfl|rfl
    ·exact m
    ·exact C
    ·exact l)
   have k:=f.keeps U;refine(H9 _ z gt gs q u M y Zv WP m C l f).mono ?_;rintro e n ⟨rfl,A⟩;have B:=Bx.calls (S:=λ_=>True) (W.out.back U) A (λb hb _=>⟨trivial,by
    obtain⟨xF,Yk,xj,Zf,Y2⟩:=kb.out;refine⟨⟨λx d e=>?_,λa e=>by cases e⟩,λe=>J,λe=>J⟩;simp only[ad,E,av]at d;rcases d with rfl|rfl|rfl<;>simp only at e<;>omega⟩) (λx d=>⟨⟨zI o (U.bC x d) (by
    simp only[ad,E,av]at d;rcases d with rfl<;>rfl),λa e=>by cases e⟩,λe=>k.1.1 x d e,λe=>k.2.1 x d e⟩)
   clear U A m C l f o k;have U:=B;clear B;go_wp2_with fail;refine WE Z7 ?_ (λj v OV=>((U).all.cell (p:=⟨bs,os+j,none⟩) UL.out).trans (VN.out j v OV));clear Z7 K;intro X;refine az [[12,13,14]] ?_;refine Yt (λK Z7=>?_);refine kx U 44 rfl _ _ tW rfl ?_;clear U;intro Zx w U TT;refine WE Z7 ?_ (λj v OV=>((U).all.cell (p:=⟨bs,os+j,none⟩) UL.out).trans (VN.out j v OV));clear Z7 K;intro X;exact pL
  refine ei (λK Z7=>?_);rw[Z (by rfl)];refine kx U 44 rfl _ _ tW rfl ?_;clear U;intro Zx w U TT;refine WE Z7 ?_ (λj v OV=>((W.out.back U).all.cell (p:=⟨bs,os+j,none⟩) UL.out).trans (VN.out j v OV));clear Z7 K;intro X;refine Yt (λK Z7=>?_);go_simp;obtain⟨m,C,l,f⟩:=R.out _ U.Wu;have o:=Bx.Kt (L:= [⟨z,245,[.int .i64 2,.int .i64 1,.int .i64 0,.int .i64 64,Zv,.pointer (some ⟨gs,0,none⟩),.slice (some ⟨y,0,none⟩) 2 2,.slice (some ⟨gt,0,none⟩) 1 1,WP]⟩,⟨gs,317,[.slice (some ⟨q,0,none⟩) 2 2,.pointer (some ⟨u,0,none⟩)]⟩,⟨q,319,[.int .i64 2,.int .i64 1,.int .i64 (-1),.int .i64 0,.int .i64 128,.int .i64 0,.int .i64 0,.int .i64 0,.int .i64 (-1),.int .i64 0,.int .i64 0,.int .i64 0]⟩]) (λx d=>by
   simp only[ad,E,av]at d;rcases d with rfl|rfl|rfl
   ·exact m
   ·exact C
   ·exact l)
  have k:=f.keeps U;refine(H9 _ z gt gs q u M y Zv WP m C l f).mono ?_;rintro e n ⟨rfl,A⟩;have B:=Bx.calls (S:=λ_=>True) (W.out.back U) A (λb hb _=>⟨trivial,by
   obtain⟨xF,Yk,xj,Zf,Y2⟩:=kb.out;refine⟨⟨λx d e=>?_,λa e=>by cases e⟩,λe=>J,λe=>J⟩;simp only[ad,E,av]at d;rcases d with rfl|rfl|rfl<;>simp only at e<;>omega⟩) (λx d=>⟨⟨zI o (U.bC x d) (by
   simp only[ad,E,av]at d;rcases d with rfl|rfl<;>rfl),λa e=>by cases e⟩,λe=>k.1.1 x d e,λe=>k.2.1 x d e⟩)
  clear U A m C l f o k;have U:=B;clear B;go_wp2_with fail;refine WE Z7 ?_ (λj v OV=>((U).all.cell (p:=⟨bs,os+j,none⟩) UL.out).trans (VN.out j v OV));clear Z7 K;intro X;refine az [[12,13,14]] ?_;exact pL
 case rest=>
  obtain⟨Zx,rfl,U⟩:=hcut;clear W R;have Vq:=I (fun(j:Nat) (v:Value) (OV:([.int .i64 0,.int .i64 1,.slice H 0 G]:List Value)[j]? =some v)=>(show wc.cell? ⟨bs,os+11+j,none⟩=some v by rw[Nat.add_assoc];exact(U.all.cell (p:=⟨bs,os+(11+j),none⟩) UL.out).trans (VN.out (11+j) v (Ib OV))));go_upto_region 9 with(refine tI Vq.out ?_ rfl)
  clear Vq;have o:=U.new 44 [.int .i64 0,.int .i64 1,.slice H 0 G];clear U;have U:=o;clear o;generalize wc.alloc (.cells ([.int .i64 0,.int .i64 1,.slice H 0 G]:List Value).toArray 44)=age at*;generalize wc.heap.size=Xx at*;have VI:=U.cell (g:=Zx) (i:=0) kw rfl;have WJ:=U.cell (g:=Zx) (i:=1) kw rfl;have tM:=U.cell (g:=Zx) (i:=2) kw rfl;have d0:=U.cell (g:=Xx) (i:=0) cX rfl;have d1:=U.cell (g:=Xx) (i:=1) cX rfl;have d2:=U.cell (g:=Xx) (i:=2) cX rfl;go_wp2_with(go_at_call 73;refine Calls.mono (NR _ _ _ _ _) ?_;rintro e n ⟨rfl,rfl⟩;skip);rw[rounds_succ];go_wp2_with fail;go_ret2;exact⟨rfl,U.all⟩
end
section
open Go.RowKit Tryz
theorem KC.and{w:World}{S T:Nat->Prop}{v:Value}{n sz:Nat}{F:Nat->List Value}(h:KC w S v n sz F)(e: ∀b,v.ownBlock=some b->T b):KC w (λb=>S b/\T b) v n sz F:=by
 obtain⟨A,c,rfl,h1,a,i⟩:=h;exact⟨A,c,rfl,h1,a,λd=>by
  obtain⟨b,off,rfl,f,g⟩:=i d;exact⟨b,off,rfl,⟨f,e b rfl⟩,g⟩⟩
theorem Ku{w:World}{B:Nat}{v:VV}{s:h9}(h:a7 w B v s):eF w (λb=>B<=b/\b≠v.L8) (.slice (some ⟨v.U1,0,none⟩) 8 v.U6) (bX s) v.U5:=
 ⟨KC.and h.eF.row λb hb=>by
   have:v.U1=b:=by simpa [Value.ownBlock]using hb
   rw[<-this]
   exact h.Uw.ne h.Us am,λi l a=>KC.and (h.eF.each i l a) λb hb e=>by
   obtain⟨hi,_⟩:=kT a
   exact dW (h.fr i hi) h.Us am (e▸hb)⟩
theorem sw{w:World}{b:Nat}{v:VV}(h:a7 w b v RV): ∃c d,v.TK= .slice c 0 d:=by
 have a:=h.pi;rw[show RV.cp= [] by kernel_rfl]at a;rcases a.2 with⟨e,_⟩|⟨g,cap,_,e,_⟩<;>exact⟨_,_,e⟩
theorem Lg(v:VV)(a:Option Addr)(b:Nat)(h:v.TK= .slice a 0 b):gy RV.p v= [.int .i64 2,.int .i64 1,.int .i64 0,.int .i64 64,.slice (some ⟨v.U1,0,none⟩) 8 v.U6,.slice (some ⟨v.L8,0,none⟩) 1 v.VY,.slice a 0 b]:=by
 rw[m1];unfold gy;rw[h];rfl
theorem NS(w0:World)(s:Value)(hb:KC w0 (λ_=>True) s 12 1 λi=> [.int .u8 (Ej i)]):Calls prog 11 #[s,.int .i64 9] w0 λe w'=>(∃bs os cs VS O F C,e= .returned (.tuple #[.agg #[.int .i64 2,.int .i64 1,.int .i64 0,.int .i64 64,.slice (some ⟨bs,os,none⟩) 1 cs,.slice (some ⟨VS,0,none⟩) 1 O,.int .i64 1,.int .i64 0,.bool true,.int .i64 0],.int .i64 0])/\∀(j:Nat) (v:Value),([.int .i64 0,.int .u8 2,.int .u8 0,.int .u8 0,.int .u8 0,.int .i64 64,.int .i64 0,.int .i64 0,.int .i64 0,.int .i64 0,.int .i64 0,.int .i64 0,.int .i64 1,.slice F 0 C]:List Value)[j]? =some v->w'.cell? ⟨bs,os+j,none⟩=some v)/\Below w0.heap.size w0 w':=by
 have U:=Bx.a0 w0;have yv:=I (show∀w',Below w0.heap.size w0 w'->Calls prog 30 #[s] w' λx V=> ∃v d l,x= .returned (.agg ([.int .i64 2,.int .i64 1,.int .i64 0,.int .i64 64,.slice (some ⟨v.U1,0,none⟩) 8 v.U6,.slice (some ⟨v.L8,0,none⟩) 1 v.VY,.slice d 0 l]:List Value).toArray)/\v.TK= .slice d 0 l/\a7 V w'.heap.size v RV/\Below w'.heap.size w' V from λw' h'=>(HE w' (λ_=>True) s 12 Ej (hb.below h') B9 am).mono λx V ⟨v,Wy,R,be⟩=>by
  obtain⟨d,l,y⟩:=sw R;exact⟨v,d,l,by rw[Wy,<-Lg v d l y];rfl,y,R,be⟩)
 have Zu:=I (show∀w' b v d l,v.TK= .slice d 0 l->a7 w' b v RV->Calls prog 31 #[.agg ([.int .i64 2,.int .i64 1,.int .i64 0,.int .i64 64,.slice (some ⟨v.U1,0,none⟩) 8 v.U6,.slice (some ⟨v.L8,0,none⟩) 1 v.VY,.slice d 0 l]:List Value).toArray] w' _ from λw' b v d l y h'=>Lg v d l y▸wB w' b (e5 RV.p) v RV h' hW (rU hW.p));clear hb;go_enter func11,ntmps11;go_upto_region 1 with(refine VP U (z:=.agg ([.int .i64 0,.int .i64 0,.int .i64 0,.int .i64 0,.slice none 0 0,.slice none 0 0,.int .i64 0,.int .i64 0,.bool false,.int .i64 0]:List Value).toArray) aM (ds:= [.int .i64 0,.int .i64 0,.int .i64 0,.int .i64 0,.slice none 0 0,.slice none 0 0,.int .i64 0,.int .i64 0,.bool false,.int .i64 0]) ?_;clear U;intro gr w U Bq)
 go_upto_region 3 with fail
 go_wp2_with fail;have Q8:=I U.size;refine Calls.mono (yv.out _ U.all) ?_;rintro e P ⟨v,d,l,rfl,v3,W,be⟩;have WZ:=I (U.b (g:=gr) cX).lt;replace U:=U.below be;clear be;go_upto_region 4 with fail
 replace U:=U.new 32 [.int .i64 2,.int .i64 1,.int .i64 0,.int .i64 64,.slice (some ⟨v.U1,0,none⟩) 8 v.U6,.slice (some ⟨v.L8,0,none⟩) 1 v.VY,.slice d 0 l];have c5:=U.size;have fB:Below P.heap.size P (P.alloc (.cells ([.int .i64 2,.int .i64 1,.int .i64 0,.int .i64 64,.slice (some ⟨v.U1,0,none⟩) 8 v.U6,.slice (some ⟨v.L8,0,none⟩) 1 v.VY,.slice d 0 l]:List Value).toArray 32)):=(Below.refl _ _).alloc (ai _) _;have tj:=W.below fB;have yM:=I (And.intro W.ge (And.intro W.Us.lt W.Uw.lt));clear W;generalize P.alloc (.cells ([.int .i64 2,.int .i64 1,.int .i64 0,.int .i64 64,.slice (some ⟨v.U1,0,none⟩) 8 v.U6,.slice (some ⟨v.L8,0,none⟩) 1 v.VY,.slice d 0 l]:List Value).toArray 32)=w3 at*;have BK:=(U.b (g:=P.heap.size) cX).lt;generalize UW:P.heap.size=gs at*;clear fB UW;go_wp2_with(refine Ww U ?_);refine Calls.mono (Zu.out _ _ _ _ _ v3 tj) ?_;rintro e iH ⟨B,rfl,vR,h3,gS⟩;have Xc:=I (((Ku tj).mono (S':=λb=>b≠v.L8/\b<w3.heap.size) λb h1 H=>⟨H.2,h1⟩).below h3);replace U:=U.below h3;have lE:=h3.size;obtain⟨UM,kj,fh,p6,rV⟩:=vR.QE v.L8 w3.heap.size (aj tj.Us.lt lE) tj.Us.lt gS;rw[<-kj];have YI:=I (And.intro p6 rV);clear vR gS tj p6 rV fh kj h3 Zu yv v3;go_wp2_with(refine UQ U ?_);refine Calls.mono (J9 _ UM d l YI.out.1 (λb hb=>(YI.out.2 b hb).2)) ?_;rintro e Wo ⟨Xl,rfl,Q9,Ra,f⟩;have M:=yM.out;have Rb:=WZ.out;have tc: ∀b,b<w3.heap.size->b≠v.L8->ZB UM RV.p.t.toNat b:=λb h1 H hm=>by
  rcases(YI.out.2 b hm).1 with e|e
  ·exact H e
  ·omega
 have Vu:=Q8.out;replace U:=Bx.Ca (S:=λ_=>True) U f (λb hb _=>tc b J J) (by simp only[ad,E,av];rintro x (rfl|rfl)<;>exact tc _ (by simp only;omega) (by simp only;omega));have z7:=I (Xc.out.Wu ⟨f.os,f.tape,f.output,f.size,λb hb R=>f.block b hb (tc b R.2 R.1)⟩);rw[<-Q9];have Xe:=I Ra;have TU:=I (And.intro M.2.2 (And.intro BK (aj Rb M.1.1)));have TV:=f.size;clear tc f Ra Q9 YI Xc M Rb Vu WZ yM Q8 c5;go_wp2_with fail;refine Calls.mono (BT _ _ _ _ _ _ Xe.out (by rw[HO];decide) (by rw[HO];intro o ZQ;simp only[ad,E,av]at ZQ;subst ZQ;decide)) ?_;rintro e z9 ⟨u,L,rfl,hm,lK,hu,tn⟩;rw[HO]at hm;rcases L with _|⟨⟨q,ad3⟩,L⟩
 ·cases hm
 obtain⟨rfl,nc⟩:=List.cons.inj hm;obtain rfl:L= []:=List.map_eq_nil_iff.1 nc;have VX:=lK _ (a8 ..);obtain⟨F,C,rfl⟩: ∃A c,ad3= .slice A 0 c:=by
  obtain⟨A,c,e,-⟩:=VX;exact⟨A,c,e⟩
 obtain⟨WY,cs,rfl,-,-,ZV⟩:=hu;obtain⟨bs,os,rfl,xT,bV,c3⟩:=ZV (by show 0<1;decide);have VN:=I (show∀(j:Nat) (v:Value),([.int .i64 0,.int .u8 2,.int .u8 0,.int .u8 0,.int .u8 0,.int .i64 64,.int .i64 0,.int .i64 0,.int .i64 0,.int .i64 0,.int .i64 0,.int .i64 0,.int .i64 1,.slice F 0 C]:List Value)[j]? =some v->z9.cell? ⟨bs,os+j,none⟩=some v from λj v r=>by
  have:=c3 0 j v (by show 0<1;decide) r;simpa using this)
 have Q:=I (And.intro xT bV);have yp:=I (z7.out.below tn);have Xa:=I (gB.below Xe.out tn);replace U:=U.below tn;have TW:=tn.size;clear hm nc lK VX ZV c3 xT bV z7 Xe tn;go_wp2_with(first|(refine aq ?_));refine Calls.mono (Eu _ _ _ _ yp.out bs os cs F C VN.out Q.out.2) ?_;rintro e n ⟨rfl,G⟩;have ZP:=I (show∀w',Below n.heap.size n w'->∀(j:Nat) (v:Value),([.int .i64 0,.int .u8 2,.int .u8 0,.int .u8 0,.int .u8 0,.int .i64 64,.int .i64 0,.int .i64 0,.int .i64 0,.int .i64 0,.int .i64 0,.int .i64 0,.int .i64 1,.slice F 0 C]:List Value)[j]? =some v->w'.cell? ⟨bs,os+j,none⟩=some v from λw' hb j v r=>((G.trans (hb.mono G.size)).cell (p:=⟨bs,os+j,none⟩) Q.out.2).trans (VN.out j v r));have Zw:=I (show∀w',Below n.heap.size n w'->gB w' Xl from λw' hb=>gB.below Xa.out (G.trans (hb.mono G.size)));have ST:=I (show∀w',Below n.heap.size n w'->Calls prog 23 #[.pointer (some ⟨Xl.O3,0,none⟩)] w' λe V=>e= .returned (.int .i64 1)/\Below w'.heap.size w' V from λw' hb=>by
  have h1:=FF w' Xl _ _ _ W1 (Zw.out w' hb);rw[U7]at h1;exact h1)
 have Xd:=I (show bs≠gs/\bs≠gr by have:=Q.out;have:=TU.out;omega);have LT:=I (show∀w',Below n.heap.size n w'->bs<w'.heap.size from λw' hb=>aj Q.out.2 (D G.size hb.size));replace U:=U.below G;clear G VN Q yp Xa TW TV lE BK;go_upto_region 10 with fail
 have m:=I (show Below n.heap.size n n.drew from(Below.refl _ _).drew);replace U:=U.drew;refine wp_region_held_drew (S:=(c0 [⟨gs,32,[.int .i64 2,.int .i64 1,.int .i64 0,.int .i64 64,.slice (some ⟨v.U1,0,none⟩) 8 v.U6,.slice (some ⟨v.L8,0,none⟩) 1 v.VY,.slice d 0 l]⟩])) aM ?_ (λX=>?_)
 ·exact U.bG aN
 refine az [[0,1,2,3,5,7,8,9,10,11,14]] ?_;refine aF 4 λK T=>?_
 go_simp
 (go_at_call 34;refine Calls.mono (wS _ bs os cs F C (ZP.out _ m.out) (LT.out _ m.out)) ?_;rintro e EH ⟨VS,O,rfl,afa,qR,N⟩;replace m:=I (m.out.trans (N.mono m.out.size));replace U:=U.below N;clear N)
 go_wp2_with fail;refine WE T λX=>?_
 refine aF 6 λK T=>?_
 go_simp
 (go_at_call 23;refine Calls.mono (ST.out _ m.out) ?_;rintro e EH ⟨rfl,N⟩;replace m:=I (m.out.trans (N.mono m.out.size));replace U:=U.below N;clear N)
 go_wp2_with fail;refine WE T λX=>?_
 refine aF 12 λK T=>?_
 go_simp
 (go_at_call 35;refine Calls.mono (Eo _ Xl (Zw.out _ m.out)) ?_;rintro e EH ⟨rfl,N⟩;replace m:=I (m.out.trans (N.mono m.out.size));replace U:=U.below N;clear N;have DI:=U;replace U:=DI.base)
 go_wp2_with fail;refine WE T λX=>?_
 refine az [[13],[15],[16]] ?_;clear U;intro w U;go_wp2_with fail;refine aZ results11 rfl rfl ⟨_,U.b (g:=gr) ag,rfl⟩ underlying37 rfl aM ?_;refine⟨⟨bs,os,cs,VS,O,F,C,rfl,λj v r=>(World.cell?_of_block (U.Wu.block bs (LT.out _ m.out) ⟨λx Wy e=>?_,λa e=>by cases e⟩)).trans (ZP.out _ m.out j v r)⟩,(DI.back U).all⟩;simp only[ad,E,av]at Wy;rcases Wy with rfl|rfl
 ·exact Xd.out.1 e.symm
 ·exact Xd.out.2 e.symm
end
section
open Go.RowKit Tryz
theorem Ic(w0:World):Calls prog 8 #[] w0 λe w'=>e= .returned (.bool true)/\Below w0.heap.size w0 w':=by
 have U:=Bx.a0 w0;go_enter func8,ntmps8;go_upto_region 1 with fail
 go_upto_region 2 with(first|(refine abR U rfl 22 5 12 _ rfl ((List.range 12).map (λi=>Value.int .u8 (Ej i))++ []) (.int .u8 0) 1 1 aM aM am am aM ?_;clear U;intro l w U r;refine cN ?_)|(go_at_call 11;refine Calls.mono (NS _ _ ((tz (B:=0) (U.b (g:=l) cX) (aL _) am).mono λb _ _=>trivial)) ?_;rintro e a ⟨⟨bs,os,cs,VS,c,u,t,rfl,m⟩,N⟩;replace U:=U.below N;clear N))
 have d:=m 12 _ rfl;replace U:=U.new 37 [.int .i64 2,.int .i64 1,.int .i64 0,.int .i64 64,.slice (some ⟨bs,os,none⟩) 1 cs,.slice (some ⟨VS,0,none⟩) 1 c,.int .i64 1,.int .i64 0,.bool true,.int .i64 0];have j:=((Below.refl a.heap.size a).alloc (ai _) (.cells ([.int .i64 2,.int .i64 1,.int .i64 0,.int .i64 64,.slice (some ⟨bs,os,none⟩) 1 cs,.slice (some ⟨VS,0,none⟩) 1 c,.int .i64 1,.int .i64 0,.bool true,.int .i64 0]:List Value).toArray 37)).cell (p:=⟨bs,os+12,none⟩) (by
  rcases Nat.lt_or_ge bs a.heap.size with h|h
  ·exact h
  ·simp[World.cell?,Array.getElem?_eq_none h]at d)
 rw[d]at j;generalize a.alloc (.cells ([.int .i64 2,.int .i64 1,.int .i64 0,.int .i64 64,.slice (some ⟨bs,os,none⟩) 1 cs,.slice (some ⟨VS,0,none⟩) 1 c,.int .i64 1,.int .i64 0,.bool true,.int .i64 0]:List Value).toArray 37)=s at*;generalize a.heap.size=f at*;have q:=U.cell (g:=f) (i:=4) cX rfl;have o:=U.cell (g:=f) (i:=8) cX rfl;have n:=U.cell (g:=f) (i:=9) cX rfl;go_wp2_with fail;go_ret;exact⟨rfl,U.all⟩
end
end Go.Proofs.YtcimojgkeoecfaaGreat
