import Derived.Test.YtcimojgkeoecfaaGreatXbu
set_option linter.all false
set_option maxHeartbeats 16000000
set_option maxRecDepth 100000
namespace Go.Proofs.YtcimojgkeoecfaaGreat
section
open Go.RowKit
variable{w0 w w':World}{S:Nat->Prop}{L:List abN}{P:Program}{o:Oper}{a a':Act}{Q:Exit->Act->World->Prop}{ops:Array Oper}{rest:List Oper}{b c:Nat}{ae1:Array MapEntry}
theorem lc{G:Prop}(h:G:=by
 go_wp2_with fail;refine wp_loop_rounds 1 ?_;rw[rounds_succ];go_wp2_with fail;go_ret;exact⟨rfl,rfl⟩):G:=h
theorem ld{G:Prop}(h:G:=by
 go_wp2_with fail;refine wp_loop_rounds 1 ?_;rw[rounds_succ];go_wp2_with fail;refine fY ?_;exact⟨rfl,rfl⟩):G:=h
theorem aah.HS(h:aah w0 S w none L)(hm:w.heap[b]? =some (.map ae1 c)):bq none L b:=by
 refine⟨fun x Wy e=>?_,fun a e=>by cases e⟩;have h1:=h.bC x Wy;rw[e]at h1;rw[show w.heap[b]? =_ from h1]at hm;cases hm
theorem aah.qY{L2:List abN}(h:aah w0 S w none L)(hm:w.heap[b]? =some (.map ae1 c))(k:aah w (bq none L) w' none L2):w'.heap[b]? =some (.map ae1 c):=
 (k.Wu.block b (Array.getElem?_eq_some_iff.1 hm).1 (h.HS hm)).trans hm
theorem aah.QZ(h:aah w0 S w none L)(hm:w.heap[b]? =some (.map ae1 c))(afj:w0.heap.size<=b\/¬S b)(acP:Obj):aah w0 S {w with heap:=w.heap.setIfInBounds b acP} none L:=by
 have abi:=(h.HS hm).1;refine⟨fun x Wy=>?_,h.aed,h.fr,⟨h.Wu.os,h.Wu.tape,h.Wu.output,by simpa using h.Wu.size,fun j hb YF=>?_⟩,trivial,fun a e=>by cases e⟩
 ·show(w.heap.setIfInBounds b acP)[x.g]? =_;rw[bk (fun e=>abi x Wy e.symm)];exact h.bC x Wy
 ·show(w.heap.setIfInBounds b acP)[j]? =_;rw[bk (fun e=>by subst e;rcases afj with q|q;omega;exact q YF)];exact h.Wu.block j hb YF
theorem aah.calls{Yo T:Nat->Prop}(h:aah w0 Yo w none L)(k:Z1 T w w')(aen: ∀b,b<w0.heap.size->S b->Yo b/\T b)(acY: ∀x,x∈L->T x.g):aah w0 S w' none L:=
 ⟨fun x hm=>(k.block x.g (h.bC x hm).lt (acY x hm)).trans (h.bC x hm),h.aed,fun x hm=>by
   rcases Nat.lt_or_ge x.g w0.heap.size with q|q
   ·exact .inr fun YF=>by
     rcases h.fr x hm with z|z
     ·omega
     ·exact z (aen _ q YF).1
   ·exact .inl q,⟨k.os.trans h.Wu.os,k.tape.trans h.Wu.tape,k.output.trans h.Wu.output,D h.Wu.size k.size,fun b hb YF=>(k.block b (aj hb h.Wu.size) (aen b hb YF).2).trans (h.Wu.block b hb (aen b hb YF).1)⟩,trivial,fun a e=>by cases e⟩
theorem aah.front{A:Option XS}{L1 L2:List abN}(h:aah w0 S w A (L1++L2)):aah w0 S w A L1:=h.drop (fun x Wy=>cB _ Wy) (by have:=h.aed;rw[cP,List.nodup_append]at this;exact this.1)
theorem Ka(h:aah w0 S w none L)(Z7: ∀b w',aah w0 S w' none L->w'.heap[b]? =some (.map #[] 0)->w0.heap.size<=b->w.heap.size<=b->Below w.heap.size w w'->wpList P ops Q rest (a.put o.dst (.map (some b))) w'){t:TypeId}(dj:o.guard=none:=by exact rfl)(ZQ:o.op= .makeMap t none:=by exact rfl):wpList P ops Q (o::rest) a w:=by
 have hb:Below w.heap.size w (w.alloc (.map #[] 0)):=(Below.refl _ _).alloc (ai _) _;have aaV:=Z7 w.heap.size _ (h.below hb) (dL _ _) h.size (ai _) hb;exact nE
theorem Kb(h:aah w0 S w none L)(hm:w.heap[b]? =some (.map ae1 c))(afj:w0.heap.size<=b\/¬S b){t k e:TypeId}{q:IntKind}{key:Int}{val:Value}{m x v:Operand}(afq:P.underlying t=some (.map k e))(ae3:P.underlying k=some (.int q))
 (Z7: ∀w',aah w0 S w' none L->w'.heap[b]? =some (.map (ae1.push {key:=.int q key,val:=val,born:=c}) (c+1))->ce w.heap.size b w w'->wpList P ops Q rest (a.put o.dst undef) w')
 (dj:o.guard=none:=by exact rfl)(hop:o.op= .mapUpdate t m x v\/o.op= .insert t m x v:=by first|exact .inl rfl|exact .inr rfl)
 (TM:a.eval m= .map (some b):=by exact rfl)(Wy:a.eval x= .int q key:=by exact rfl)(hv:dt a v=some val:=by exact rfl)(acA:Instr.findNow (.int q) (.int q key) ae1.toList 0=some none:=by rfl):wpList P ops Q (o::rest) a w:=by
 refine wpList_plain dj fun K' Lu=>?_;have hv:=gF hv;have XP:(Instr.checkKey false 10000 k (.int q key)).run P w= .ok () w:=MapKept.run_checkKey (k:=.int q key) ae3 (by simp[MapKept.IsKey]) false 9999;have nC:(Instr.mapUpdate t (.map (some b)) (.int q key) val).run P w= .ok () {w with heap:=w.heap.setIfInBounds b (.map (ae1.push {key:=.int q key,val:=val,born:=c}) (c+1))}:=by
  simp[Instr.mapUpdate,run_underlying afq,MapKept.run_getObj_map hm,XP,MapKept.run_findKey ae3 acA,MapKept.run_setObj_map _ hm,Result.andThen]
 have bV:=(Array.getElem?_eq_some_iff.1 hm).1;have zU:=Lu _ _ (Z7 {w with heap:=w.heap.setIfInBounds b (.map (ae1.push {key:=.int q key,val:=val,born:=c}) (c+1))} (h.QZ hm afj _) (by show(w.heap.setIfInBounds b _)[b]? =_;rw[cr bV]) ⟨rfl,rfl,rfl,aN,fun i hi abi=>by show(w.heap.setIfInBounds b _)[i]? =_;rw[bk (Ne.symm abi)]⟩);unfold Oper.wp;rcases hop with hop|hop<;>(simp[execOp,hop,TM,Wy,hv,nC,Result.andThen];exact zU)
theorem mR{t k e:TypeId}{q:IntKind}{key:Int}{ok:Bool}{z v:Value}{r:Option (Nat×Value)}(hm:w.heap[b]? =some (.map ae1 c))(afq:P.underlying t=some (.map k e))(ae3:P.underlying k=some (.int q))(aeN:(P.info? e).bind (·.zero)=some z)
 (acA:Instr.findNow (.int q) (.int q key) ae1.toList 0=some r)(hv:(match r with|some (_,v)=>(if ok then Value.tuple #[v,.bool true]else v)|none=>(if ok then Value.tuple #[z,.bool false]else z))=v):(Instr.lookup t (.map (some b)) (.int q key) ok).run P w= .ok v w:=by
 subst hv;have XP: ∀j,(Instr.checkKey j 10000 k (.int q key)).run P w= .ok () w:=fun j=>MapKept.run_checkKey (k:=.int q key) ae3 (by simp[MapKept.IsKey]) j 9999;obtain⟨i,hi,Nk⟩:=Option.bind_eq_some_iff.1 aeN;cases r with
 |none=>simp[Instr.lookup,run_underlying afq,MapKept.run_getObj_map hm,XP,MapKept.run_findKey ae3 acA,Result.andThen,zeroValue,typeInfo,go_sem,hi,Nk]
 |some p=>obtain⟨i,v⟩:=p;simp[Instr.lookup,run_underlying afq,MapKept.run_getObj_map hm,XP,MapKept.run_findKey ae3 acA,Result.andThen]
theorem vr{t e:TypeId}{z:Value}{sz bytes n:Nat}{ds:List Value}(afq:P.underlying t=some (.slice e))(cC:(P.info? e).map (fun i=>(i.zero,i.size,i.bytes))=some (some z,sz,bytes))(hb:bytes*n<=281474976710656)(abi:n<=1000000)(hd:madeCells z.cells (n*sz)=ds.toArray)(w:World):
 (Instr.makeSlice t (.int .i64 n) (.int .i64 n)).run P w= .ok (.slice (some ⟨w.heap.size,0,none⟩) n n) (w.alloc (.cells ds.toArray e)):=by
 obtain⟨i,hi,aeN⟩:=Option.map_eq_some_iff.1 cC;simp only[Prod.mk.injEq]at aeN;have abk:=run_make (P:=P) (w:=w) t e i _ afq hi aeN.1 .i64 .i64 n n J (Int.le_refl _) (by rw[aeN.2.2];omega) J;rw[aeN.2.1,bL,hd]at abk;exact abk
theorem xQ{K:Act->World->Prop}(h:aah w0 S w none L){t e:TypeId}{n:Nat}{ds:List Value}(abk: ∀w,(Instr.makeSlice t (.int .i64 n) (.int .i64 n)).run P w= .ok (.slice (some ⟨w.heap.size,0,none⟩) n n) (w.alloc (.cells ds.toArray e)))
 (Z7: ∀g w',aah w0 S w' none (⟨g,e,ds⟩::L)->w0.heap.size<=g->K (a.put o.dst (.slice (some ⟨g,0,none⟩) n n)) w'){x y:Operand}(ZQ:o.op= .makeSlice t x y:=by exact rfl)(Wy:a.eval x= .int .i64 n:=by exact rfl)(hy:a.eval y= .int .i64 n:=by exact rfl):Oper.wp P o a w K Q:=by
 have aaV:=Z7 _ _ (h.new e ds) h.size;unfold Oper.wp execOp;simp only[ZQ,Wy,hy,Sem.run_bind,abk];simpa [go_sem]using aaV
theorem NI(h:aah w0 S w none L){t e:TypeId}{n:Nat}{ds:List Value}(abk: ∀w,(Instr.makeSlice t (.int .i64 n) (.int .i64 n)).run P w= .ok (.slice (some ⟨w.heap.size,0,none⟩) n n) (w.alloc (.cells ds.toArray e)))
 (Z7: ∀g w',aah w0 S w' none (⟨g,e,ds⟩::L)->w0.heap.size<=g->wpList P ops Q rest (a.put o.dst (.slice (some ⟨g,0,none⟩) n n)) w')(dj:o.guard=none:=by exact rfl){x y:Operand}(ZQ:o.op= .makeSlice t x y:=by exact rfl)(Wy:a.eval x= .int .i64 n:=by exact rfl)(hy:a.eval y= .int .i64 n:=by exact rfl):wpList P ops Q (o::rest) a w:=
 wpList_plain dj fun K k=>xQ h abk (fun g w' s afj=>k _ _ (Z7 g w' s afj)) ZQ Wy hy
end
section
open Go.RowKit Tryz
section
variable(w:World)
include w
theorem HT:Calls prog 311 #[.int .u64 1] w fun e w'=>e= .returned (.int .i64 1)/\w=w':=by
 go_enter func311,ntmps311;go_upto_region 10 with fail
 generalize Yg:(Operand.const (Value.string _))=V;have e: ∃dw,V= .const dw/\∀w,(Instr.index 9 dw (.int .u8 1)).run prog w= .ok (.int .u8 1) w:=⟨_,Yg.symm,fun w=>aM⟩
 clear Yg;obtain⟨dw,rfl,e⟩:=e;go_wp2_with fail;go_ret;exact⟨rfl,rfl⟩
theorem NJ:Calls prog 238 #[.int .u64 1] w fun e w'=>e= .returned (.int .i64 1)/\w=w':=by
 go_enter func238,ntmps238;go_wp2_with fail;refine Calls.mono (HT _) ?_;rintro e aaM ⟨rfl,rfl⟩;go_wp2_with fail;go_ret;exact⟨rfl,rfl⟩
section
variable(A:Option Addr)(c:Nat)(af9:Value)
include A c af9
theorem Kc:Calls prog 302 #[.slice A 1 c,.int .i64 0,.int .i64 1,af9] w fun e w'=>e= .returned (.tuple #[])/\w=w':=by
 go_enter func302,ntmps302;exact ld
theorem Kd:Calls prog 237 #[.slice A 1 c,.int .i64 0,.int .i64 1,.int .i64 1,af9] w fun e w'=>e= .returned (.tuple #[])/\w=w':=by
 go_enter func237,ntmps237;go_wp2_with fail;refine wp_loop_rounds 1 ?_;rw[rounds_succ];go_wp2_with fail;refine Calls.mono (Kc _ A c af9) ?_;rintro e aaM ⟨rfl,rfl⟩;go_wp2_with fail;refine fY ?_;exact⟨rfl,rfl⟩
theorem HU:Calls prog 151 #[.slice A 1 c,af9] w fun e w'=>e= .returned (.tuple #[])/\w=w':=by
 go_enter func151,ntmps151;go_wp2_with fail;refine Calls.mono (NJ _) ?_;rintro e aaM ⟨rfl,rfl⟩;go_wp2_with fail;refine Calls.mono (Kd _ A c af9) ?_;rintro e aaM ⟨rfl,rfl⟩;go_wp2_with fail;refine fY ?_;exact⟨rfl,rfl⟩
theorem Ke:Calls prog 301 #[.slice A 0 c,af9] w fun e w'=>e= .returned (.int .i64 (-1))/\w=w':=by
 go_enter func301,ntmps301;exact lc
theorem HV:Calls prog 235 #[.slice A 0 c,af9] w fun e w'=>e= .returned (.bool false)/\w=w':=by
 go_enter func235,ntmps235;go_wp2_with fail;refine Calls.mono (Ke _ A c af9) ?_;rintro e aaM ⟨rfl,rfl⟩;go_wp2_with fail;go_ret;exact⟨rfl,rfl⟩
theorem Kf:Calls prog 148 #[.slice A 0 c,af9] w fun e w'=>e= .returned (.bool true)/\Below w.heap.size w w':=by
 go_enter func148,ntmps148;have U:=aah.a0 w;go_upto_region 1 with(refine Ws U 258 ?_;clear U;intro aca w U VW)
 go_wp2_with fail;refine Calls.mono (HV _ A c _) ?_;rintro e aaM ⟨rfl,rfl⟩;go_wp2_with fail;go_ret;exact⟨rfl,U.all⟩
end
end
end
section
open Go.RowKit Tryz
theorem pD{G:Prop}(h:G:=by
 refine WE Z7 fun X=>?_;refine aF 4 fun K Z7=>?_;go_simp
 (go_at_call 145;refine a6 U (Ki _ B (H.out.below U.all) acw WS.out) ?_;clear U;intro aaM U)
 go_wp2_with fail;refine WE Z7 fun X=>?_;refine aF 5 fun K Z7=>?_;go_simp
 (go_at_call 144;refine Calls.mono (zW _) ?_;rintro e aaM ⟨rfl,rfl⟩;skip)
 go_wp2_with fail;refine WE Z7 fun X=>?_;refine Xh 6 ?_;refine adB ?_;go_wp2_with fail;go_ret;exact⟨rfl,U.all⟩):G:=h
theorem zW(w:World):Calls prog 144 #[.bool true] w fun e w'=>e= .returned (.int .i64 0)/\w=w':=by
 go_enter func144,ntmps144;go_wp2_with fail;go_ret;exact⟨rfl,rfl⟩
variable(w0:World)(B:WB)(h:gB w0 B)
include h
theorem Ek:Calls prog 147 #[.agg ([.int .i64 2,.int .i64 1,.int .i64 0,.int .i64 64,.pointer (some ⟨B.aeh,0,none⟩)]:List Value).toArray,.int .i64 0] w0 fun e w'=>e= .returned (.bool true)/\Below w0.heap.size w0 w':=by
 have H:=I h;have U:=aah.a0 w0;clear h;have X5:=I fun w'=>km (⟨2,1,-1,0⟩) w' ⟨am,am,am,am⟩;go_enter func147,ntmps147;go_upto_region 1 with(first|(refine Ws U 165 ?_;clear U;intro gk w U tt))
 go_upto_region 2 with(first|(go_at_call 80;refine a6 U (tE _ B (H.out.below U.all)) ?_;clear U;intro aaM U)|(refine VP U ny ?_;clear U;intro gc w U Bx)|(refine aq ?_)|(refine ac2 U ?_;clear U;intro w U))
 go_upto_region 3 with(first|(go_at_call 80;refine a6 U (Cb _ B (H.out.below U.all)) ?_;clear U;intro aaM U)|(refine VP U ny ?_;clear U;intro Wp w U Bx)|(refine aq ?_)|(refine ac2 U ?_;clear U;intro w U))
 go_upto_region 5 with(first|(go_at_call 233;refine a6 U (X5.out _) ?_;clear U;intro aaM U)|(refine WG U ?_))
 go_wp2_with(first|(refine Ww U ?_));go_ret;exact⟨rfl,U.all⟩
theorem El:Calls prog 147 #[.agg ([.int .i64 2,.int .i64 1,.int .i64 0,.int .i64 64,.pointer (some ⟨B.aeh,0,none⟩)]:List Value).toArray,.int .i64 1] w0 fun e w'=>e= .returned (.bool true)/\Below w0.heap.size w0 w':=by
 have H:=I h;have U:=aah.a0 w0;clear h;have X5:=I fun w'=>km (⟨1,0,-1,0⟩) w' ⟨am,am,am,am⟩;go_enter func147,ntmps147;go_upto_region 1 with(first|(refine Ws U 165 ?_;clear U;intro gk w U tt))
 go_upto_region 2 with(first|(go_at_call 80;refine a6 U (xR _ B (H.out.below U.all)) ?_;clear U;intro aaM U)|(refine VP U ny ?_;clear U;intro gc w U Bx)|(refine aq ?_)|(refine ac2 U ?_;clear U;intro w U))
 go_upto_region 3 with(first|(go_at_call 80;refine a6 U (Cb _ B (H.out.below U.all)) ?_;clear U;intro aaM U)|(refine VP U ny ?_;clear U;intro Wp w U Bx)|(refine aq ?_)|(refine ac2 U ?_;clear U;intro w U))
 go_upto_region 5 with(first|(go_at_call 233;refine a6 U (X5.out _) ?_;clear U;intro aaM U)|(refine WG U ?_))
 have acN:=U.cell (g:=gc) (i:=2) kw rfl;have acZ:=U.cell (g:=gc) (i:=0) kw rfl;go_wp2_with(first|(go_at_call 234;refine a6 U (By _ B (H.out.below U.all)) ?_;clear U;intro aaM U)|(refine Ww U ?_));go_ret;exact⟨rfl,U.all⟩
omit h in
theorem HX(w:World):(Instr.makeSlice 30 (.int .i64 ((2:Nat):Int)) (.int .i64 ((2:Nat):Int))).run prog w= .ok (.slice (some ⟨w.heap.size,0,none⟩) 2 2) (w.alloc (.cells ([.int .i64 0,.int .i64 0]:List Value).toArray 3)):=
 vr (z:=.int .i64 0) (sz:=1) (bytes:=8) underlying30 aM am am aM w
omit h in
set_option maxHeartbeats 8000000 in
set_option maxRecDepth 100000 in
theorem zX:Calls prog 146 #[.agg ([.int .i64 2,.int .i64 1,.int .i64 0,.int .i64 64,.pointer (some ⟨B.aeh,0,none⟩)]:List Value).toArray] w0 fun e w'=> ∃g,e= .returned (.slice (some ⟨g,0,none⟩) 2 2)/\ah w' g 3 ([.int .i64 0,.int .i64 1]:List Value).toArray/\Below w0.heap.size w0 w':=by
 have aeg:=I HX;have U:=aah.a0 w0;go_enter func146,ntmps146;go_upto_region 1 with(first|(refine Ws U 165 ?_;clear U;intro gk w U tt))
 go_upto_region 2 with(first|(refine NI U aeg.out ?_;clear U;intro g w U VW)|(refine aaO U ?_))
 go_wp2_with fail;refine wp_loop_rounds 3 ?_;rw[rounds_succ];go_wp2_with(refine ac2 U ?_;clear U;intro w U);rw[rounds_succ];go_wp2_with(refine ac2 U ?_;clear U;intro w U);rw[rounds_succ];go_wp2_with fail;go_ret;exact⟨g,rfl,U.b (g:=g) cX,U.all⟩
section
variable(aca:Nat)(acA:w0.cell? ⟨aca,0,none⟩=some (.func (.func 147) #[.agg ([.int .i64 2,.int .i64 1,.int .i64 0,.int .i64 64,.pointer (some ⟨B.aeh,0,none⟩)]:List Value).toArray] #[]))
include aca acA
theorem HY:Calls prog 232 #[.int .i64 0,.pointer (some ⟨aca,0,none⟩)] w0 fun e w'=>e= .returned (.bool false)/\Below w0.heap.size w0 w':=by
 have ab7: ∀args w,(callFunc 147 args).run prog w= .ok (.enter 147 args) w:=enters_of func147 aM rfl;have H:=I h;clear h;go_enter func232,ntmps232;go_wp2_with fail;refine(Ek _ B H.out).mono ?_;rintro e aaM ⟨rfl,N⟩;go_wp2_with fail;go_ret;exact⟨rfl,N⟩
theorem HZ:Calls prog 232 #[.int .i64 1,.pointer (some ⟨aca,0,none⟩)] w0 fun e w'=>e= .returned (.bool false)/\Below w0.heap.size w0 w':=by
 have ab7: ∀args w,(callFunc 147 args).run prog w= .ok (.enter 147 args) w:=enters_of func147 aM rfl;have H:=I h;clear h;go_enter func232,ntmps232;go_wp2_with fail;refine(El _ B H.out).mono ?_;rintro e aaM ⟨rfl,N⟩;go_wp2_with fail;go_ret;exact⟨rfl,N⟩
end
theorem Ki(g:Nat)(hb:ah w0 g 3 ([.int .i64 0,.int .i64 1]:List Value).toArray):Calls prog 145 #[.slice (some ⟨g,0,none⟩) 2 2,(.func (.func 147) #[.agg ([.int .i64 2,.int .i64 1,.int .i64 0,.int .i64 64,.pointer (some ⟨B.aeh,0,none⟩)]:List Value).toArray] #[])] w0 fun e w'=>e= .returned (.bool true)/\Below w0.heap.size w0 w':=by
 have ab7: ∀args w,(callFunc 232 args).run prog w= .ok (.enter 232 args) w:=enters_of func232 aM rfl;have ae6:=I ab7;have H:=I h;have aav:=I hb;have U:=aah.a0 w0;clear ab7 h hb;go_enter func145,ntmps145;go_upto_region 1 with(refine Ws U 144 ?_;clear U;intro aca w U VW)
 go_wp2_with fail;have fC:=aav.out.below U.all aav.out.lt;refine(uq _ (fun b=>0<=b) _ 2 (fun i=> [.int .i64 i]) (fun i=>.int .i64 i) 232 #[.pointer (some ⟨aca,0,none⟩)] (fun _=>false) ae6.out (tz (f:=fun i=>.int .i64 i) (r:= []) fC (aL _) am) (fun i hi=>rfl) am (fun i hi w' kr=>?_)).mono ?_
 ·have XP:=(kr.cell (p:=⟨aca,0,none⟩) (U.b (g:=aca) cX).lt).trans (U.cell (g:=aca) (i:=0) cX rfl);have afl:gB w' B:=gB.below H.out (U.all.trans (kr.mono U.size))
  ·rcases i with _|_|i
   ·exact HY w' B afl aca XP
   ·exact HZ w' B afl aca XP
   ·omega
 rintro e aaM ⟨r,rfl,abk,N⟩;replace U:=U.below N;obtain rfl:r=false:=by
  rcases abk with abk|⟨_,i,_,abk⟩
  ·exact abk.1
  ·cases abk
 go_wp2_with fail;go_ret;exact⟨rfl,U.all⟩
theorem Bz:Calls prog 78 #[.agg ([.int .i64 2,.int .i64 1,.int .i64 0,.int .i64 64]:List Value).toArray,.pointer (some ⟨B.aeh,0,none⟩)] w0 fun e w'=>e= .returned (.int .i64 0)/\Below w0.heap.size w0 w':=by
 have H:=I h;have U:=aah.a0 w0;clear h;go_enter func78,ntmps78;go_upto_region 1 with(refine Ws U 27 ?_;clear U;intro aff w U Hr)
 go_upto_region 2 with(first|(refine VP U xc ?_;clear U;intro gk w U tt)|(refine aq ?_)|(refine ac2 U ?_;clear U;intro w U))
 replace U:=U.drew;refine wp_region_held_drew (S:=(c0 [⟨gk,165,[.int .i64 2,.int .i64 1,.int .i64 0,.int .i64 64,.pointer (some ⟨B.aeh,0,none⟩)]⟩])) aM ?_ (fun X=>?_)
 ·exact U.bG aN
 refine az [[0,2]] ?_;refine Zj [1,3] ?_;refine ea (fun K Z7=>?_) ?_
 ·go_simp
  (go_at_call 146;refine Calls.mono (zX _ B) ?_;rintro e aaM ⟨acw,rfl,YJ,N⟩;replace U:=U.below N;clear N;have WS:=I YJ;have WL:=I U;clear YJ)
  go_wp2_with fail;refine WE Z7 fun X=>?_;refine aF 3 fun K Z7=>?_;go_simp;exact pD
 refine ei (fun K Z7=>?_);go_simp;refine WE Z7 fun X=>?_;refine aF 1 fun K Z7=>?_;go_simp
 (go_at_call 146;refine Calls.mono (zX _ B) ?_;rintro e aaM ⟨acw,rfl,YJ,N⟩;replace U:=U.below N;clear N;have WS:=I YJ;have WL:=I U;clear YJ)
 go_wp2_with fail;exact pD
end
section
open Go.RowKit Tryz
theorem pE{G:Prop}(h:G:=by
 replace U:=U.drew;refine wp_region_held_drew (S:=(c0 [⟨gk,165,[.int .i64 2,.int .i64 1,.int .i64 0,.int .i64 64,.pointer (some ⟨B.aeh,0,none⟩)]⟩])) (by kernel_rfl) ?_ (fun X=>?_)
 ·exact U.bG (by simp)
 refine az [[0,1,3,4,6,7]] ?_;refine Zj [2,10] ?_;refine ea (fun K Z7=>?_) ?_
 ·go_simp
  (go_at_call 81;refine a6 U (aeF.out _ U.all) ?_;clear U;intro aaM U)
  go_wp2_with fail;refine WE Z7 fun X=>?_;refine Zj [5,10] ?_;refine ea (fun K Z7=>?_) ?_
  ·go_simp
   (go_at_call 81;refine a6 U (ZK.out _ U.all) ?_;clear U;intro aaM U)
   go_wp2_with fail;refine WE Z7 fun X=>?_;refine Zj [8,10] ?_;refine ea (fun K Z7=>?_) ?_
   ·go_simp
    (go_at_call 81;refine a6 U (W6.out _ U.all) ?_;clear U;intro aaM U)
    go_wp2_with fail;refine WE Z7 fun X=>?_;refine Xh 9 ?_;refine aF 10 fun K Z7=>?_;refine ZZ U tX ?_;clear U;intro aaT w U NL;refine WE Z7 fun X=>?_;refine az [[],[11]] ?_;clear U;intro w U;go_wp2_with fail;go_meet;exact⟨aaT,rfl,U⟩
   refine ei (fun K Z7=>?_);refine ZZ U tX ?_;clear U;intro aaT w U NL;refine WE Z7 fun X=>?_;refine aF 8 fun K Z7=>?_;go_simp
   (go_at_call 81;refine a6 U (W6.out _ U.all) ?_;clear U;intro aaM U)
   go_wp2_with fail;refine WE Z7 fun X=>?_;refine az [[9],[11]] ?_;clear U;intro w U;go_wp2_with fail;go_meet;exact⟨aaT,rfl,U⟩
  refine ei (fun K Z7=>?_);refine ZZ U tX ?_;clear U;intro aaT w U NL;refine WE Z7 fun X=>?_;refine aF 5 fun K Z7=>?_;go_simp
  (go_at_call 81;refine a6 U (ZK.out _ U.all) ?_;clear U;intro aaM U)
  go_wp2_with fail;refine WE Z7 fun X=>?_;refine aF 8 fun K Z7=>?_;go_simp
  (go_at_call 81;refine a6 U (W6.out _ U.all) ?_;clear U;intro aaM U)
  go_wp2_with fail;refine WE Z7 fun X=>?_;refine az [[9],[11]] ?_;clear U;intro w U;go_wp2_with fail;go_meet;exact⟨aaT,rfl,U⟩
 refine ei (fun K Z7=>?_);refine ZZ U tX ?_;clear U;intro aaT w U NL;refine WE Z7 fun X=>?_;refine aF 2 fun K Z7=>?_;go_simp
 (go_at_call 81;refine a6 U (aeF.out _ U.all) ?_;clear U;intro aaM U)
 go_wp2_with fail;refine WE Z7 fun X=>?_;refine aF 5 fun K Z7=>?_;go_simp
 (go_at_call 81;refine a6 U (ZK.out _ U.all) ?_;clear U;intro aaM U)
 go_wp2_with fail;refine WE Z7 fun X=>?_;refine aF 8 fun K Z7=>?_;go_simp
 (go_at_call 81;refine a6 U (W6.out _ U.all) ?_;clear U;intro aaM U)
 go_wp2_with fail;refine WE Z7 fun X=>?_;refine az [[9],[11]] ?_;clear U;intro w U;go_wp2_with fail;go_meet;exact⟨aaT,rfl,U⟩):G:=h
theorem pF{G:Prop}(h:G:=by
 refine az [[0,1,2,3,4,5,6,7,8,9,10,11,12,13,14,15]] ?_;refine aF 16 fun K Z7=>?_;go_simp
 (first|(go_at_call 149;refine a6 U (ZE.out _ U.all) ?_;clear U;intro aaM U)|skip)
 (try go_wp2_with fail)
 refine WE Z7 fun X=>?_;refine az [[17],[18],[19]] ?_;clear U;intro w U;go_wp2_with fail;refine aZ results150 rfl rfl ⟨_,U.b (g:=gr) ag,rfl⟩ underlying130 rfl (by kernel_rfl) ?_;exact⟨rfl,U.all⟩):G:=h
theorem Em:(Tryz.prog.info? 59).map (·.size)=some 1:=aM
theorem kp(cs:Array Value)(i:Nat)(v:Value)(w:World)(hi:i<3)(hv:cs[i]? =some v):(Instr.index 344 (.agg cs) (.int .i64 i)).run prog w= .ok v w:=by
 obtain⟨z,aeN,bz⟩:=Option.map_eq_some_iff.1 Em;have aaV:(i:Int)<3:=J;have ZV:(0:Int)<=i:=J;simp[Instr.index,asIntOf,Sem.run_bind,run_underlying underlying344,run_underlying underlying59,part,isAgg,sizeOf,typeInfo,aeN,bz,aaV,ZV,hv,go_sem];intro h;omega
variable(w0:World)(B:WB)(h:gB w0 B)
include h
omit h in
set_option maxHeartbeats 8000000 in
set_option maxRecDepth 100000 in
theorem H0(aeh a m:Nat)(hm:a<=m/\m<=24)(z':Int)(acb:8*(a:Int)+z'=8*(m:Int))(wd: ∀k,a<=k->k<m->∀w',Below w0.heap.size w0 w'->Calls prog 156 #[.agg ([.int .i64 2,.int .i64 1,.int .i64 0,.int .i64 64,.pointer (some ⟨aeh,0,none⟩)]:List Value).toArray,.int .i64 (8*(k:Int))] w' fun e du=>e= .returned (.int .u64 0)/\Below w'.heap.size w' du):
 Calls prog 149 #[.agg ([.int .i64 2,.int .i64 1,.int .i64 0,.int .i64 64,.pointer (some ⟨aeh,0,none⟩)]:List Value).toArray,.agg #[.int .i64 (8*(a:Int)),.int .i64 z']] w0 fun e w'=>e= .returned (.bool true)/\Below w0.heap.size w0 w':=by
 have WD:=I wd;have TJ:IntKind.i64.wrap (8*(a:Int)+z')=8*(m:Int):=by rw[IntKind.wrap_i64];omega
 have TK:wrap64 (8*(a:Int)+z')=8*(m:Int):=by unfold wrap64;omega
 have w2:=I hm;have U:=aah.a0 w0;clear wd hm acb;go_enter func149,ntmps149;go_upto_region 1 with(first|(refine Ws U 165 ?_;clear U;intro gk w U tt)|(refine Ws U 130 ?_;clear U;intro afL w U Q0))
 go_wp2_with(refine aaO U ?_);have eB:=I U;clear U;go_loopw [5] (fun i wr=> ∃k:Nat,a<=k/\k<=m/\i= .int .i64 (8*(k:Int))/\aah w0 (fun _=>True) wr none [⟨afL,130,[.int .i64 (8*(a:Int)),.int .i64 z']⟩,⟨gk,165,[.int .i64 2,.int .i64 1,.int .i64 0,.int .i64 64,.pointer (some ⟨aeh,0,none⟩)]⟩]) (fun i _=>8*m-(intOf i).toNat)
 case atStart=>exact⟨a,ai _,w2.out.1,rfl,eB.out⟩
 case round=>
  obtain⟨k,An,ae3,rfl,U⟩:=hrel;clear eB;by_cases bV:k<m
  ·have aaX:8*(k:Int)<8*(m:Int):=by omega
   have Ue:k<24:=by have:=w2.out;omega
   go_wp2_with(first|(go_at_call 156;refine a6 U (WD.out k An bV _ U.all) ?_;clear U;intro aaM U)|(refine aq ?_));go_roundw
   case rel=>exact⟨k+1,J,J,by go_num,U⟩
   case measure=>simp[intOf];omega
  ·obtain rfl:m=k:=by omega
   have aaX: ¬8*(m:Int)<8*(m:Int):=J;go_wp2_with(refine aaO U ?_);go_ret;exact⟨rfl,U.all⟩
theorem zY(a m:Nat)(hm:a<=m/\m<=24)(z':Int)(acb:8*(a:Int)+z'=8*(m:Int))(aeN: ∀k,a<=k->k<m->W1.V k=0):Calls prog 149 #[.agg ([.int .i64 2,.int .i64 1,.int .i64 0,.int .i64 64,.pointer (some ⟨B.aeh,0,none⟩)]:List Value).toArray,.agg #[.int .i64 (8*(a:Int)),.int .i64 z']] w0 fun e w'=>e= .returned (.bool true)/\Below w0.heap.size w0 w':=
 H0 w0 B.aeh a m hm z' acb fun k An ae3 w' hb=>by
  have h1:=zV w' B (gB.below h hb) k J
  rw[aeN k An ae3]at h1
  exact h1
theorem BA:Calls prog 150 #[.agg ([.int .i64 2,.int .i64 1,.int .i64 0,.int .i64 64,.pointer (some ⟨B.aeh,0,none⟩)]:List Value).toArray,.int .i64 0] w0 fun e w'=>e= .returned (.tuple #[.agg #[.int .i64 128,.int .i64 0],.bool true])/\Below w0.heap.size w0 w':=by
 have H:=I h;have U:=aah.a0 w0;clear h;have aeF:=I (show∀w',Below w0.heap.size w0 w'->Calls prog 81 #[.agg ([.int .i64 2,.int .i64 1,.int .i64 0,.int .i64 64,.pointer (some ⟨B.aeh,0,none⟩)]:List Value).toArray,.int .i64 1,.int .i64 0] w' fun e du=>e= .returned (.int .u64 128)/\Below w'.heap.size w' du from fun w' hb=>by
  have h1:=ib w' B (gB.below H.out hb) 1 0 1 am am rfl;rw[show W1.V 1=128 by kernel_rfl]at h1;exact h1)
 have ZK:=I (show∀w',Below w0.heap.size w0 w'->Calls prog 81 #[.agg ([.int .i64 2,.int .i64 1,.int .i64 0,.int .i64 64,.pointer (some ⟨B.aeh,0,none⟩)]:List Value).toArray,.int .i64 2,.int .i64 0] w' fun e du=>e= .returned (.int .u64 0)/\Below w'.heap.size w' du from fun w' hb=>by
  have h1:=ib w' B (gB.below H.out hb) 2 0 2 am am rfl;rw[show W1.V 2=0 by kernel_rfl]at h1;exact h1)
 have W6:=I (show∀w',Below w0.heap.size w0 w'->Calls prog 81 #[.agg ([.int .i64 2,.int .i64 1,.int .i64 0,.int .i64 64,.pointer (some ⟨B.aeh,0,none⟩)]:List Value).toArray,.int .i64 3,.int .i64 0] w' fun e du=>e= .returned (.int .u64 0)/\Below w'.heap.size w' du from fun w' hb=>by
  have h1:=ib w' B (gB.below H.out hb) 3 0 3 am am rfl;rw[show W1.V 3=0 by kernel_rfl]at h1;exact h1)
 have ac5:=I fun w'=>jS 2 1 0 64 w' (I am) am;have Yl:=I fun w'=>pR 2 1 0 64 w' (I am) am am;have ZE:=I (show∀w',Below w0.heap.size w0 w'->Calls prog 149 #[.agg ([.int .i64 2,.int .i64 1,.int .i64 0,.int .i64 64,.pointer (some ⟨B.aeh,0,none⟩)]:List Value).toArray,.agg #[.int .i64 128,.int .i64 0]] w' fun e du=>e= .returned (.bool true)/\Below w'.heap.size w' du from fun w' hb=>zY w' B (gB.below H.out hb) 16 16 am 0 am (fun k h1 aaV=>J));go_enter func150,ntmps150;go_upto_region 1 with(first|(refine Ws U 165 ?_;clear U;intro gk w U tt)|(refine VP U eK ?_;clear U;intro gr w U Bq))
 go_upto_region 2 with(first|(go_at_call 80;refine a6 U (tE _ B (H.out.below U.all)) ?_;clear U;intro aaM U)|(refine VP U ny ?_;clear U;intro gc w U Bx)|(refine aq ?_)|(refine ac2 U ?_;clear U;intro w U))
 go_cut [8]from 23 to 33 (fun aba ZT=> ∃aaT,aba= .pointer (some ⟨aaT,0,none⟩)/\aah w0 (fun _=>True) ZT none [⟨aaT,344,[.int .u64 128,.int .u64 0,.int .u64 0]⟩,⟨gc,56,[.int .i64 2,.int .i64 1,.int .i64 (-1),.int .i64 0]⟩,⟨gr,130,[.int .i64 0,.int .i64 0]⟩,⟨gk,165,[.int .i64 2,.int .i64 1,.int .i64 0,.int .i64 64,.pointer (some ⟨B.aeh,0,none⟩)]⟩])
 case first=>
  exact pE
 case rest=>
 obtain⟨aaT,rfl,U⟩:=hcut;clear aeF ZK W6;have X0:=U.cell (g:=aaT) (i:=0) ag rfl;have YN:=U.cell (g:=aaT) (i:=1) ag rfl;have XW:=U.cell (g:=aaT) (i:=2) ag rfl;go_wp2_with(refine aaO U ?_);clear X0 YN XW;have Wx:=(show∀w,(Instr.index 344 (.agg #[.int .u64 128,.int .u64 0,.int .u64 0]) (.int .i64 0)).run prog w= .ok (.int .u64 128) w from fun w=>kp _ 0 _ w am rfl)
 have aal:=(show∀w,(Instr.index 344 (.agg #[.int .u64 128,.int .u64 0,.int .u64 0]) (.int .i64 1)).run prog w= .ok (.int .u64 0) w from fun w=>kp _ 1 _ w am rfl)
 have abF:=(show∀w,(Instr.index 344 (.agg #[.int .u64 128,.int .u64 0,.int .u64 0]) (.int .i64 2)).run prog w= .ok (.int .u64 0) w from fun w=>kp _ 2 _ w am rfl)
 refine wp_loop_rounds 4 ?_;rw[rounds_succ];go_wp2_with fail;rw[rounds_succ];go_wp2_with fail;rw[rounds_succ];go_wp2_with fail;rw[rounds_succ];go_upto_region 11 with fail
 replace U:=U.drew;refine wp_region_held_drew (S:=(c0 [⟨aaT,344,[.int .u64 128,.int .u64 0,.int .u64 0]⟩])) aM ?_ (fun X=>?_)
 ·exact U.bG aN
 refine az [[0,1,2,3,4,5,6,7,8,9]] ?_;refine aF 10 fun K Z7=>?_;refine ZZ U eK ?_;clear U;intro afL w U Q0;refine WE Z7 fun X=>?_;refine az [[],[11],[12]] ?_;clear U;intro w U;simp only[show IntKind.i64.wrap 128=128 by decide,show IntKind.i64.wrap 64=64 by decide,show IntKind.i64.wrap 0=0 by decide]at U;clear Wx aal abF;go_upto_region 13 with(first|(go_at_call 153;refine a6 U (Yl.out _) ?_;clear U;intro aaM U)|(refine VP U eK ?_;clear U;intro adE w U TN)|(refine aq ?_)|(refine ac2 U ?_;clear U;intro w U))
 go_upto_region 15 with(first|(go_at_call 199;refine a6 U (ac5.out _) ?_;clear U;intro aaM U)|(refine aq ?_)|(refine ac2 U ?_;clear U;intro w U))
 have adC:=U.cell (g:=afL) (i:=0) ag rfl;have aaK:=U.cell (g:=afL) (i:=1) ag rfl;have YM:=U.cell (g:=adE) (i:=0) ag rfl;have h1:=U.cell (g:=adE) (i:=1) ag rfl;have acZ:=U.cell (g:=gc) (i:=0) ag rfl;go_upto_region 17 with(refine WG U ?_)
 clear adC aaK YM h1 acZ;replace U:=U.drew;refine wp_region_held_drew (S:=(c0 [⟨afL,130,[.int .i64 128,.int .i64 0]⟩,⟨gk,165,[.int .i64 2,.int .i64 1,.int .i64 0,.int .i64 64,.pointer (some ⟨B.aeh,0,none⟩)]⟩])) aM ?_ (fun X=>?_)
 ·exact U.bG aN
 exact pF
theorem BB:Calls prog 150 #[.agg ([.int .i64 2,.int .i64 1,.int .i64 0,.int .i64 64,.pointer (some ⟨B.aeh,0,none⟩)]:List Value).toArray,.int .i64 1] w0 fun e w'=>e= .returned (.tuple #[.agg #[.int .i64 128,.int .i64 64],.bool true])/\Below w0.heap.size w0 w':=by
 have H:=I h;have U:=aah.a0 w0;clear h;have aeF:=I (show∀w',Below w0.heap.size w0 w'->Calls prog 81 #[.agg ([.int .i64 2,.int .i64 1,.int .i64 0,.int .i64 64,.pointer (some ⟨B.aeh,0,none⟩)]:List Value).toArray,.int .i64 1,.int .i64 1] w' fun e du=>e= .returned (.int .u64 128)/\Below w'.heap.size w' du from fun w' hb=>by
  have h1:=ib w' B (gB.below H.out hb) 1 1 9 am am rfl;rw[show W1.V 9=128 by kernel_rfl]at h1;exact h1)
 have ZK:=I (show∀w',Below w0.heap.size w0 w'->Calls prog 81 #[.agg ([.int .i64 2,.int .i64 1,.int .i64 0,.int .i64 64,.pointer (some ⟨B.aeh,0,none⟩)]:List Value).toArray,.int .i64 2,.int .i64 1] w' fun e du=>e= .returned (.int .u64 64)/\Below w'.heap.size w' du from fun w' hb=>by
  have h1:=ib w' B (gB.below H.out hb) 2 1 10 am am rfl;rw[show W1.V 10=64 by kernel_rfl]at h1;exact h1)
 have W6:=I (show∀w',Below w0.heap.size w0 w'->Calls prog 81 #[.agg ([.int .i64 2,.int .i64 1,.int .i64 0,.int .i64 64,.pointer (some ⟨B.aeh,0,none⟩)]:List Value).toArray,.int .i64 3,.int .i64 1] w' fun e du=>e= .returned (.int .u64 0)/\Below w'.heap.size w' du from fun w' hb=>by
  have h1:=ib w' B (gB.below H.out hb) 3 1 11 am am rfl;rw[show W1.V 11=0 by kernel_rfl]at h1;exact h1)
 have ac5:=I fun w'=>jS 2 1 0 64 w' (I am) am;have Yl:=I fun w'=>pR 2 1 0 64 w' (I am) am am;have ZE:=I (show∀w',Below w0.heap.size w0 w'->Calls prog 149 #[.agg ([.int .i64 2,.int .i64 1,.int .i64 0,.int .i64 64,.pointer (some ⟨B.aeh,0,none⟩)]:List Value).toArray,.agg #[.int .i64 128,.int .i64 64]] w' fun e du=>e= .returned (.bool true)/\Below w'.heap.size w' du from fun w' hb=>zY w' B (gB.below H.out hb) 16 24 am 64 am (fun k h1 aaV=>by have aeD: ∀j,j<8->W1.V (16+j)=0:=(by decide+kernel);have:=aeD (k-16) J;rwa[show 16+(k-16)=k by omega]at this));go_enter func150,ntmps150;go_upto_region 1 with(first|(refine Ws U 165 ?_;clear U;intro gk w U tt)|(refine VP U eK ?_;clear U;intro gr w U Bq))
 go_upto_region 2 with(first|(go_at_call 80;refine a6 U (xR _ B (H.out.below U.all)) ?_;clear U;intro aaM U)|(refine VP U ny ?_;clear U;intro gc w U Bx)|(refine aq ?_)|(refine ac2 U ?_;clear U;intro w U))
 go_cut [8]from 23 to 33 (fun aba ZT=> ∃aaT,aba= .pointer (some ⟨aaT,0,none⟩)/\aah w0 (fun _=>True) ZT none [⟨aaT,344,[.int .u64 128,.int .u64 64,.int .u64 0]⟩,⟨gc,56,[.int .i64 1,.int .i64 0,.int .i64 (-1),.int .i64 0]⟩,⟨gr,130,[.int .i64 0,.int .i64 0]⟩,⟨gk,165,[.int .i64 2,.int .i64 1,.int .i64 0,.int .i64 64,.pointer (some ⟨B.aeh,0,none⟩)]⟩])
 case first=>
  exact pE
 case rest=>
 obtain⟨aaT,rfl,U⟩:=hcut;clear aeF ZK W6;have X0:=U.cell (g:=aaT) (i:=0) ag rfl;have YN:=U.cell (g:=aaT) (i:=1) ag rfl;have XW:=U.cell (g:=aaT) (i:=2) ag rfl;go_wp2_with(refine aaO U ?_);clear X0 YN XW;have Wx:=(show∀w,(Instr.index 344 (.agg #[.int .u64 128,.int .u64 64,.int .u64 0]) (.int .i64 0)).run prog w= .ok (.int .u64 128) w from fun w=>kp _ 0 _ w am rfl)
 have aal:=(show∀w,(Instr.index 344 (.agg #[.int .u64 128,.int .u64 64,.int .u64 0]) (.int .i64 1)).run prog w= .ok (.int .u64 64) w from fun w=>kp _ 1 _ w am rfl)
 have abF:=(show∀w,(Instr.index 344 (.agg #[.int .u64 128,.int .u64 64,.int .u64 0]) (.int .i64 2)).run prog w= .ok (.int .u64 0) w from fun w=>kp _ 2 _ w am rfl)
 refine wp_loop_rounds 4 ?_;rw[rounds_succ];go_wp2_with fail;rw[rounds_succ];go_wp2_with fail;rw[rounds_succ];go_wp2_with fail;rw[rounds_succ];go_upto_region 11 with fail
 replace U:=U.drew;refine wp_region_held_drew (S:=(c0 [⟨aaT,344,[.int .u64 128,.int .u64 64,.int .u64 0]⟩])) aM ?_ (fun X=>?_)
 ·exact U.bG aN
 refine az [[0,1,2,3,4,5,6,7,8,9]] ?_;refine aF 10 fun K Z7=>?_;refine ZZ U eK ?_;clear U;intro afL w U Q0;refine WE Z7 fun X=>?_;refine az [[],[11],[12]] ?_;clear U;intro w U;simp only[show IntKind.i64.wrap 128=128 by decide,show IntKind.i64.wrap 64=64 by decide,show IntKind.i64.wrap 0=0 by decide]at U;clear Wx aal abF;go_upto_region 13 with(first|(go_at_call 153;refine a6 U (Yl.out _) ?_;clear U;intro aaM U)|(refine VP U eK ?_;clear U;intro adE w U TN)|(refine aq ?_)|(refine ac2 U ?_;clear U;intro w U))
 go_upto_region 15 with(first|(go_at_call 199;refine a6 U (ac5.out _) ?_;clear U;intro aaM U)|(refine aq ?_)|(refine ac2 U ?_;clear U;intro w U))
 have adC:=U.cell (g:=afL) (i:=0) ag rfl;have aaK:=U.cell (g:=afL) (i:=1) ag rfl;have YM:=U.cell (g:=adE) (i:=0) ag rfl;have h1:=U.cell (g:=adE) (i:=1) ag rfl;have acZ:=U.cell (g:=gc) (i:=0) ag rfl;go_upto_region 17 with(refine WG U ?_)
 clear adC aaK YM h1 acZ;replace U:=U.drew;refine wp_region_held_drew (S:=(c0 [⟨afL,130,[.int .i64 128,.int .i64 64]⟩,⟨gk,165,[.int .i64 2,.int .i64 1,.int .i64 0,.int .i64 64,.pointer (some ⟨B.aeh,0,none⟩)]⟩])) aM ?_ (fun X=>?_)
 ·exact U.bG aN
 exact pF
end
section
open Go.RowKit Tryz
theorem pG{G:Prop}(h:G:=by
 go_upto_region 1 with(refine Ws U 46 ?_;clear U;intro Bn w U VW)
 have afc:=U.cell (g:=Bn) (i:=8) cX rfl;have ab4:=U.cell (g:=Bn) (i:=9) cX rfl;have DI:=U.cell (g:=Bn) (i:=10) cX rfl;go_wp2_with fail;go_ret;exact⟨rfl,U.all⟩):G:=h
theorem H3(w0:World)(ZJ:Option Addr)(XF:Nat):
 Calls prog 124 #[.agg ([.int .i64 0,.int .u8 2,.int .u8 0,.int .u8 0,.int .u8 0,.int .i64 64,.int .i64 0,.int .i64 0,.int .i64 0,.int .i64 0,.int .i64 0,.int .i64 0,.int .i64 1,.slice ZJ 0 XF]:List Value).toArray] w0 fun e w'=>e= .returned (.bool true)/\Below w0.heap.size w0 w':=by
 have U:=aah.a0 w0;go_enter func124,ntmps124;exact pG
theorem Km(w0:World)(ZJ:Option Addr)(XF:Nat):
 Calls prog 125 #[.agg ([.int .i64 0,.int .u8 2,.int .u8 0,.int .u8 0,.int .u8 0,.int .i64 64,.int .i64 0,.int .i64 0,.int .i64 0,.int .i64 0,.int .i64 0,.int .i64 0,.int .i64 1,.slice ZJ 0 XF]:List Value).toArray] w0 fun e w'=>e= .returned (.bool false)/\Below w0.heap.size w0 w':=by
 have U:=aah.a0 w0;go_enter func125,ntmps125;exact pG
theorem Ep(w0:World)(bs os cs:Nat)(ZJ:Option Addr)(XF:Nat)(Wy: ∀(j:Nat) (v:Value),([.int .i64 0,.int .u8 2,.int .u8 0,.int .u8 0,.int .u8 0,.int .i64 64,.int .i64 0,.int .i64 0,.int .i64 0,.int .i64 0,.int .i64 0,.int .i64 0,.int .i64 1,.slice ZJ 0 XF]:List Value)[j]? =some v->w0.cell? ⟨bs,os+j,none⟩=some v)(xT:bs<w0.heap.size):
 Calls prog 69 #[.agg ([.int .i64 2,.int .i64 1,.int .i64 0,.int .i64 64]:List Value).toArray,.slice (some ⟨bs,os,none⟩) 1 cs] w0 fun e w'=>e= .returned (.int .i64 0)/\Below w0.heap.size w0 w':=by
 have U:=aah.a0 w0;have VN:=I Wy;clear Wy;go_enter func69,ntmps69;go_upto_region 1 with(refine Ws U 27 ?_;clear U;intro hk w U VW)
 go_upto_region 3 with(first|(go_at_call 77;refine a6 U (kJ 2 1 0 64 _ am) ?_;clear U;intro aaM U)|(refine aq ?_))
 go_upto_region 4 with(refine Ka U ?_;clear U;intro acW w U lH dP _ _)
 have Ld:=(Array.getElem?_eq_some_iff.1 lH).1;go_upto_region 5 with(refine Ka U ?_;clear U;intro abT w U nc qS kd be)
 have bo:acW≠abT:=J;replace lH:=(be.block acW Ld).trans lH;clear be Ld kd;have yT:=I lH;have vj:=I nc;clear lH nc;go_wp2_with fail;refine wp_loop_rounds 2 ?_;rw[rounds_succ];have aaH:=U;replace U:=aaH.base;have ZP:=I (fun(j:Nat) (v:Value) (aeD:([.int .i64 0,.int .u8 2,.int .u8 0,.int .u8 0,.int .u8 0,.int .i64 64,.int .i64 0,.int .i64 0,.int .i64 0,.int .i64 0,.int .i64 0,.int .i64 0,.int .i64 1,.slice ZJ 0 XF]:List Value)[j]? =some v)=>((aaH.all.cell (p:=⟨bs,os+j,none⟩) xT).trans (VN.out j v aeD)));go_upto_region 8 with(first|(refine adD ZP.out ?_ rfl)|fail)
 replace U:=U.new 46 [.int .i64 0,.int .u8 2,.int .u8 0,.int .u8 0,.int .u8 0,.int .i64 64,.int .i64 0,.int .i64 0,.int .i64 0,.int .i64 0,.int .i64 0,.int .i64 0,.int .i64 1,.slice ZJ 0 XF];generalize w.alloc (.cells ([.int .i64 0,.int .u8 2,.int .u8 0,.int .u8 0,.int .u8 0,.int .i64 64,.int .i64 0,.int .i64 0,.int .i64 0,.int .i64 0,.int .i64 0,.int .i64 0,.int .i64 1,.slice ZJ 0 XF]:List Value).toArray 46)=af1 at*;generalize w.heap.size=aaT at*;have VI:=U.cell (g:=aaT) (i:=0) cX rfl;have WJ:=U.cell (g:=hk) (i:=1) kw rfl;have adW:=I fun w'=>bm 0 0 0 w' am am;have Vv:=I fun w'=>H3 w' ZJ XF;go_upto_region 10 with(first|(go_at_call 104;refine Calls.mono (adW.out _) ?_;rintro e aaM ⟨rfl,rfl⟩;skip)|(go_at_call 124;refine a6 U (Vv.out _) ?_;clear U;intro aaM U)|(refine WG U ?_))
 have VI:=U.cell (g:=aaT) (i:=0) cX rfl;have le:=mR (P:=prog) (ok:=true) (q:=.i64) (key:=0) (z:=.agg ([.int .i64 0,.int .u8 0,.int .u8 0,.int .u8 0,.int .u8 0,.int .i64 0,.int .i64 0,.int .i64 0,.int .i64 0,.int .i64 0,.int .i64 0,.int .i64 0,.int .i64 0,.slice none 0 0]:List Value).toArray) (r:=none) (aaH.qY vj.out U) underlying231 underlying3 aM rfl rfl;go_upto_region 11 with fail
 clear le;replace U:=U.new 46 [.int .i64 0,.int .u8 0,.int .u8 0,.int .u8 0,.int .u8 0,.int .i64 0,.int .i64 0,.int .i64 0,.int .i64 0,.int .i64 0,.int .i64 0,.int .i64 0,.int .i64 0,.slice none 0 0];generalize aaM.alloc (.cells ([.int .i64 0,.int .u8 0,.int .u8 0,.int .u8 0,.int .u8 0,.int .i64 0,.int .i64 0,.int .i64 0,.int .i64 0,.int .i64 0,.int .i64 0,.int .i64 0,.int .i64 0,.slice none 0 0]:List Value).toArray 46)=age at*;generalize aaM.heap.size=aab at*;go_upto_region 13 with fail
 have H4:=I (aaH.qY yT.out U);have Le:=I (aaH.qY vj.out U);clear yT vj;have aen:=aaH.back U;clear U aaH VI WJ;have VI:=aen.cell (g:=aaT) (i:=0) kw rfl;have Wn:=I fun w'=>Km w' ZJ XF;go_upto_region 14 with(first|(refine Ww aen ?_)|(refine Kb aen Le.out (.inl qS) underlying231 underlying3 ?_;intro Vd Kn nc Yq))
 clear nc;have yT:=I ((Yq.block acW (Array.getElem?_eq_some_iff.1 H4.out).1 bo).trans H4.out);clear H4 Le aen VI Yq;have aaH:=Kn;have U:=aaH.base;clear Kn;go_upto_region 15 with(first|(refine Ww U ?_)|(go_at_call 125;refine a6 U (Wn.out _) ?_;clear U;intro aaM U))
 have XO:=U.cell (g:=aaT) (i:=9) kw rfl;have le:=mR (P:=prog) (ok:=false) (q:=.i64) (key:=0) (z:=.int .i64 0) (r:=none) (aaH.qY yT.out U) underlying230 underlying3 aM rfl rfl;go_upto_region 17 with fail
 have aen:=aaH.back U;have lH:=aaH.qY yT.out U;go_upto_region 18 with(refine Kb aen lH (.inl dP) underlying230 underlying3 ?_;intro Ve Kn _ _)
 clear lH aen le XO U aaH yT;go_wp2_with fail;rw[rounds_succ];go_wp2_with fail;go_ret;exact⟨rfl,Kn.all⟩
end
section
open Go.RowKit Tryz
section
variable(w:World)(A:Option Addr)(c:Nat)(af9:Value)
include w A c af9
theorem Ko:
 Calls prog 229 #[.slice A 1 c,.int .i64 0,.int .i64 1,af9] w fun e w'=>e= .returned (.tuple #[])/\w=w':=by
 go_enter func229,ntmps229;exact ld
theorem Kp:
 Calls prog 142 #[.slice A 1 c,.int .i64 1,af9] w fun e w'=>e= .returned (.tuple #[])/\w=w':=by
 go_enter func142,ntmps142;go_wp2_with fail;refine wp_loop_rounds 1 ?_;rw[rounds_succ];go_wp2_with fail;refine Calls.mono (Ko _ A c af9) ?_;rintro e aaM ⟨rfl,rfl⟩;exact ld
theorem NO:
 Calls prog 74 #[.slice A 1 c,af9] w fun e w'=>e= .returned (.tuple #[])/\w=w':=by
 go_enter func74,ntmps74;go_wp2_with fail;refine Calls.mono (Kp _ A c af9) ?_;rintro e aaM ⟨rfl,rfl⟩;go_wp2_with fail;refine fY ?_;exact⟨rfl,rfl⟩
end
theorem wS(w0:World)(bs os cs:Nat)(ZJ:Option Addr)(XF:Nat)(Wy: ∀(j:Nat) (v:Value),([.int .i64 0,.int .u8 2,.int .u8 0,.int .u8 0,.int .u8 0,.int .i64 64,.int .i64 0,.int .i64 0,.int .i64 0,.int .i64 0,.int .i64 0,.int .i64 0,.int .i64 1,.slice ZJ 0 XF]:List Value)[j]? =some v->w0.cell? ⟨bs,os+j,none⟩=some v)(xT:bs<w0.heap.size):
 Calls prog 34 #[.slice (some ⟨bs,os,none⟩) 1 cs] w0 fun e w'=> ∃g c,e= .returned (.slice (some ⟨g,0,none⟩) 1 c)/\w'.cell? ⟨g,0,none⟩=some (.int .i64 0)/\w0.heap.size<=g/\Below w0.heap.size w0 w':=by
 have U:=aah.a0 w0;have VN:=I Wy;clear Wy;go_enter func34,ntmps34;go_upto_region 1 with(refine Ws U 34 ?_;clear U;intro Vt w U VW)
 have ZP:=I (fun(j:Nat) (v:Value) (aeD:([.int .i64 0,.int .u8 2,.int .u8 0,.int .u8 0,.int .u8 0,.int .i64 64,.int .i64 0,.int .i64 0,.int .i64 0,.int .i64 0,.int .i64 0,.int .i64 0,.int .i64 1,.slice ZJ 0 XF]:List Value)[j]? =some v)=>((U.all.cell (p:=⟨bs,os+j,none⟩) xT).trans (VN.out j v aeD)));have VI:=U.cell (g:=Vt) (i:=0) cX rfl;go_wp2_with fail;clear VI;refine wp_loop_rounds 2 ?_;rw[rounds_succ];go_upto_region 5 with(refine adD ZP.out ?_ rfl)
 replace U:=U.new 46 [.int .i64 0,.int .u8 2,.int .u8 0,.int .u8 0,.int .u8 0,.int .i64 64,.int .i64 0,.int .i64 0,.int .i64 0,.int .i64 0,.int .i64 0,.int .i64 0,.int .i64 1,.slice ZJ 0 XF];generalize w.alloc (.cells ([.int .i64 0,.int .u8 2,.int .u8 0,.int .u8 0,.int .u8 0,.int .i64 64,.int .i64 0,.int .i64 0,.int .i64 0,.int .i64 0,.int .i64 0,.int .i64 0,.int .i64 1,.slice ZJ 0 XF]:List Value).toArray 46)=Wo at*;generalize w.heap.size=adT at*;have VI:=U.cell (g:=adT) (i:=9) cX rfl;go_upto_region 6 with fail
 go_upto_region 7 with(first|(refine dE U rfl 30 3 _ rfl _ [.int .i64 0] rfl rfl (.int .i64 0) 1 8 bg b6 rfl am am ?_;clear U;intro di w U dO;refine cN ?_)|(refine g0 U (World.ownsRow_nil _ _ _ _) (fun j aeD=>by cases aeD) rfl _ _ 30 rfl (.int .i64 0) 8 bg b6 rfl am rfl ⟨di,0,none⟩ 1 1 [.int .i64 0] rfl rfl am (U.news ag) rfl am am ?_;clear U;intro g' cW aei w U e8 lm;refine cN ?_))
 go_wp2_with fail;rw[rounds_succ];go_wp2_with fail;have XJ:=U.mI fun b hb e=>by cases e
 have vF:w0.heap.size<=g':=XJ.ge (g:=g') cX;have fc:=XJ.cell (g:=g') (i:=0) cX rfl;go_wp2_with fail;refine Calls.mono (NO _ _ _ _) ?_;rintro e aaM ⟨rfl,rfl⟩;go_wp2_with fail;go_ret;exact⟨g',_,rfl,fc,vF,XJ.all⟩
end
end Go.Proofs.YtcimojgkeoecfaaGreat
