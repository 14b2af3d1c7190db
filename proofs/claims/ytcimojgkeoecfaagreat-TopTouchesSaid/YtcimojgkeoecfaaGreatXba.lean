import Derived.Test.YtcimojgkeoecfaaGreatXay
import Derived.Test.YtcimojgkeoecfaaGreatXaz
set_option linter.all false
set_option maxHeartbeats 16000000
set_option maxRecDepth 100000
namespace Go.Proofs.YtcimojgkeoecfaaGreat
section
open Go.RowKit Tryz
theorem xt(w0:World)(S:Nat->Prop)(aaF YS:Nat)(aa3 VZ:Value)(x:Yr)(t:eD)(h:fp w0 S aaF YS aa3 VZ x t)(hb:t.busy=true)(hS: ∀b,S b->b<w0.heap.size/\b≠aaF/\b≠YS)
 (ok:cG t.run.call)(aeJ:t.run.aC.code=0->t.run.call.op=4\/t.run.call.op=6->t.aD.length<6)(VX:t.run.aC.code=0->t.run.call.op=5->t.aD≠ [])(YJ:t.aD.length<=6)
 (abi:aR t.run.aC.n\/ -9223372036854775808<=t.run.aC.n/\t.run.aC.n<9223372036854775808):
 Calls prog 108 #[.pointer (some ⟨aaF,0,none⟩)] w0 fun e w'=> ∃ob,e= .returned (.tuple #[])/\fp w' (fun b=>(S b\/w0.heap.size<=b)/\b≠aaF/\b≠YS) aaF YS aa3 ob x (bH t)/\Z1 (fun b=>b≠aaF/\b≠YS) w0 w':=by
 obtain⟨af3,ZM,acS,-,-,-⟩:=id h.run.Y1;obtain⟨ads,ls,Wh,Y1⟩:=x;simp only at acS;subst acS;have afl: ∀y:Int,IntKind.u64.wrap y=af8 y:=fun y=>by rw[IntKind.wrap_u64];rfl
 have keep: ∀w':World,Z1 (fun b=>b≠aaF/\b≠YS) w0 w'->vO w' (fun b=>(S b\/w0.heap.size<=b)/\b≠aaF/\b≠YS) aa3 t.calls/\de w' (fun b=>(S b\/w0.heap.size<=b)/\b≠aaF/\b≠YS) VZ t.aD/\aW w' (fun b=>(S b\/w0.heap.size<=b)/\b≠aaF/\b≠YS) t.run ⟨ads,ls,Wh,.slice af3 t.run.aC.said.length ZM⟩:=fun w' k=>
  ⟨(h.sq.mono fun b _ YF=>⟨.inl YF,(hS b YF).2⟩).Wu (k.mono fun b _ h=>h.2),(h.m6.mono fun b _ YF=>⟨.inl YF,(hS b YF).2⟩).Wu (k.mono fun b _ h=>h.2),(h.run.mono fun b _ YF=>⟨.inl YF,(hS b YF).2⟩).Wu (k.mono fun b _ h=>h.2)⟩
 have AQ:=h.bC.lt;have ss:=h.reg.lt;have abk:=ok.r;by_cases XP:t.run.aC.code=0
 case neg=>
  have Wx:bH t= {t with busy:=false}:=by unfold bH;rw[Z XP]
  rw[Wx];refine(IZ w0 aaF YS aa3 VZ t.run ads ls Wh af3 _ ZM t.busy t.at_ t.regs h.bC h.reg XP).mono fun e w' ⟨V1,h1,aaV,k⟩=>⟨VZ,V1,⟨h1,aaV,(keep w' k).1,(keep w' k).2.1,(keep w' k).2.2⟩,k⟩
 by_cases adO:t.run.call.op=1
 ·have Wx:bH t= {t with busy:=false,regs:=put t.regs t.run.call.r.toNat (af8 t.run.call.a)}:=by unfold bH;rw[Y (by simpa using XP),Z adO]
  rw[Wx];refine(I2 w0 aaF YS aa3 VZ t.run ads ls Wh af3 _ ZM t.busy t.at_ t.regs h.bC h.reg (afl _) abk.1 J XP adO).mono fun e w' ⟨V1,h1,aaV,k⟩=>⟨VZ,V1,⟨h1,aaV,(keep w' k).1,(keep w' k).2.1,(keep w' k).2.2⟩,k⟩
 by_cases acm:t.run.call.op=7\/t.run.call.op=8\/t.run.call.op=10
 ·have Wx:bH t= {t with busy:=false,regs:=put t.regs t.run.call.r.toNat (af8 t.run.aC.n)}:=by unfold bH;rw[Y (by simpa using XP),Y adO,Z acm]
  rw[Wx];rcases acm with o|o|o
  ·refine(I3 w0 aaF YS aa3 VZ t.run ads ls Wh af3 _ ZM t.busy t.at_ t.regs h.bC h.reg (afl _) abk.1 J XP o).mono fun e w' ⟨V1,h1,aaV,k⟩=>⟨VZ,V1,⟨h1,aaV,(keep w' k).1,(keep w' k).2.1,(keep w' k).2.2⟩,k⟩
  ·refine(I4 w0 aaF YS aa3 VZ t.run ads ls Wh af3 _ ZM t.busy t.at_ t.regs h.bC h.reg (afl _) abk.1 J XP o).mono fun e w' ⟨V1,h1,aaV,k⟩=>⟨VZ,V1,⟨h1,aaV,(keep w' k).1,(keep w' k).2.1,(keep w' k).2.2⟩,k⟩
  ·refine(FN w0 aaF YS aa3 VZ t.run ads ls Wh af3 _ ZM t.busy t.at_ t.regs h.bC h.reg (afl _) abk.1 J XP o).mono fun e w' ⟨V1,h1,aaV,k⟩=>⟨VZ,V1,⟨h1,aaV,(keep w' k).1,(keep w' k).2.1,(keep w' k).2.2⟩,k⟩
 have fresh: ∀(w':World) (v:Value) (l:List bO),de w' (fun b=>w0.heap.size<=b) v l->de w' (fun b=>(S b\/w0.heap.size<=b)/\b≠aaF/\b≠YS) v l:=fun w' v l h=>h.mono fun b _ hb=>⟨.inr hb,J,J⟩
 by_cases adl:t.run.call.op=4
 ·have Wx:bH t= {t with busy:=false,aD:=t.aD++ [⟨t.run.call.a,true⟩]}:=by unfold bH;rw[Y (by simpa using XP),Y adO,Y acm,Z adl]
  rw[Wx];refine(I5 w0 aaF YS aa3 VZ t.run ads ls Wh af3 _ ZM t.busy t.at_ t.regs h.bC h.reg S t.aD h.m6 (aeJ XP (.inl adl)) hS XP adl).mono fun e w' ⟨A,k',V1,h1,aaV,hv,k⟩=>⟨_,V1,⟨h1,aaV,(keep w' k).1,fresh w' _ _ hv,(keep w' k).2.2⟩,k⟩
 by_cases Zg:t.run.call.op=6
 ·have Wx:bH t= {t with busy:=false,aD:=t.aD++ [⟨t.run.call.a,false⟩]}:=by unfold bH;rw[Y (by simpa using XP),Y adO,Y acm,Y adl,Z Zg]
  rw[Wx];refine(I6 w0 aaF YS aa3 VZ t.run ads ls Wh af3 _ ZM t.busy t.at_ t.regs h.bC h.reg S t.aD h.m6 (aeJ XP (.inr Zg)) hS XP Zg).mono fun e w' ⟨A,k',V1,h1,aaV,hv,k⟩=>⟨_,V1,⟨h1,aaV,(keep w' k).1,fresh w' _ _ hv,(keep w' k).2.2⟩,k⟩
 by_cases YZ:t.run.call.op=5
 ·have Wx:bH t= {t with busy:=false,aD:=t.aD.dropLast}:=by unfold bH;rw[Y (by simpa using XP),Y adO,Y acm,Y adl,Y Zg,Z YZ]
  rw[Wx];rcases kh t.aD with YM|⟨l,⟨aeY,d0⟩,YM⟩
  ·exact absurd YM (VX XP YZ)
  ·have hd:t.aD.dropLast=l:=by rw[YM];simp
   rw[hd];refine(I7 w0 aaF YS aa3 VZ t.run ads ls Wh af3 _ ZM t.busy t.at_ t.regs h.bC h.reg S l aeY d0 (YM▸h.m6) (by rw[YM]at YJ;simp at YJ;omega) hS XP YZ).mono fun e w' ⟨A,k',V1,h1,aaV,hv,k⟩=>⟨_,V1,⟨h1,aaV,(keep w' k).1,fresh w' _ _ hv,(keep w' k).2.2⟩,k⟩
 have Wx:bH t= {t with busy:=false}:=by unfold bH;rw[Y (by simpa using XP),Y adO,Y acm,Y adl,Y Zg,Y YZ]
 rw[Wx];refine(I0 w0 aaF YS aa3 VZ t.run ads ls Wh af3 _ ZM t.busy t.at_ t.regs h.bC h.reg XP ⟨adO,fun h=>acm (.inl h),fun h=>acm (.inr (.inl h)),fun h=>acm (.inr (.inr h)),adl,Zg,YZ⟩).mono fun e w' ⟨V1,h1,aaV,k⟩=>⟨VZ,V1,⟨h1,aaV,(keep w' k).1,(keep w' k).2.1,(keep w' k).2.2⟩,k⟩
end
section
open Go.RowKit
variable{w0 w aaM:World}{S T:Nat->Prop}{A:Option XS}{L L':List abN}
theorem aah.of(w:World)(S:Nat->Prop)(L:List abN)(h: ∀x,x∈L->ah w x.g x.t x.cs.toArray)(aed:(L.map abN.g).Nodup)(hS: ∀x,x∈L->¬S x.g):aah w S w none L:=
 ⟨h,aed,fun x Wy=>.inr (hS x Wy),Z1.refl _ _,trivial,fun a e=>by cases e⟩
theorem aah.less(h:aah w0 S w none L)(k:Z1 T w aaM)(acY: ∀x,x∈L->T x.g):aah w0 (fun b=>S b/\T b) aaM none L:=
 ⟨fun x Wy=>(k.block x.g (h.bC x Wy).lt (acY x Wy)).trans (h.bC x Wy),h.aed,fun x Wy=>by
   rcases h.fr x Wy with c|c
   ·exact .inl c
   ·exact .inr fun YF=>c YF.1,⟨k.os.trans h.Wu.os,k.tape.trans h.Wu.tape,k.output.trans h.Wu.output,D h.Wu.size k.size,fun b hb YF=>(k.block b (aj hb h.Wu.size) YF.2).trans (h.Wu.block b hb YF.1)⟩,trivial,fun a e=>by cases e⟩
theorem aah.AR(h:aah w0 S w none L){g Y6:Nat}{t:TypeId}{cs cs':List Value}(XJ:aco L g t cs cs' L')(hb:ah aaM g t cs'.toArray)(k:Z1 (fun b=>b≠g/\b≠Y6) w aaM)(acY: ∀x,x∈L->x.g≠Y6):aah w0 (fun b=>S b/\b≠Y6) aaM none L':=by
 have hm: ∀x,x∈L'->x=⟨g,t,cs'⟩\/x∈L/\x.g≠g:=by
  have aed:=h.aed;clear h acY hb k;induction XJ with
  |here g t cs cs' L=>
   intro x Wy;rw[aS,bS]at aed;rcases List.mem_cons.1 Wy with rfl|Wy
   ·exact .inl rfl
   ·exact .inr ⟨ao _ Wy,fun e=>aed.1 (List.mem_map.2 ⟨x,Wy,e⟩)⟩
  |there b g t cs cs' L L' XJ aes=>
   intro x Wy;rw[aS,bS]at aed;rcases List.mem_cons.1 Wy with rfl|Wy
   ·exact .inr ⟨a8,fun e=>aed.1 (List.mem_map.2 ⟨_,XJ.aB.mem,e.symm⟩)⟩
   ·rcases aes aed.2 x Wy with h|h
    ·exact .inl h
    ·exact .inr ⟨ao _ h.1,h.2⟩
 have afj:L'.map abN.g=L.map abN.g:=by
  clear h acY hb k hm;induction XJ with
  |here=>rfl
  |there b g t cs cs' L L' XJ aes=>rw[aS,aS,aes]
 have fZ:=XJ.aB;refine⟨fun x Wy=>?_,by rw[afj];exact h.aed,fun x Wy=>?_,⟨k.os.trans h.Wu.os,k.tape.trans h.Wu.tape,k.output.trans h.Wu.output,D h.Wu.size k.size,fun b be YF=>?_⟩,trivial,fun a e=>by cases e⟩
 ·rcases hm x Wy with rfl|⟨h1,aaV⟩
  ·exact hb
  ·exact(k.block x.g (h.bC x h1).lt ⟨aaV,acY x h1⟩).trans (h.bC x h1)
 ·rcases hm x Wy with rfl|⟨h1,aaV⟩
  ·rcases h.fr _ fZ.mem with c|c
   ·exact .inl c
   ·exact .inr fun YF=>c YF.1
  ·rcases h.fr x h1 with c|c
   ·exact .inl c
   ·exact .inr fun YF=>c YF.1
 ·refine(k.block b (aj be h.Wu.size) ⟨fun e=>?_,YF.2⟩).trans (h.Wu.block b be YF.1);subst e;rcases h.fr _ fZ.mem with c|c
  ·simp only at c;omega
  ·exact c YF.1
theorem FO{P T:List Value}{o:db}{v:Value}{k j:Nat}{W7:List Value}(h:P.length=k*14)(aeD:j+W7.length<=14):er (P++(dN o v++T)) (k*14+j) W7=P++(er (dN o v) j W7++T):=by
 unfold er;have YJ:(dN o v).length=14:=rfl;rw[List.take_append,cm J,h,show k*14+j-k*14=j from J,cJ J,List.drop_append,cl J,h,show k*14+j+W7.length-k*14=j+W7.length from J,List.drop_append_of_le_length J];simp
theorem fp.mono{w:World}{S S':Nat->Prop}{aaF YS:Nat}{aa3 VZ:Value}{x:Yr}{t:eD}(h:fp w S aaF YS aa3 VZ x t)(hS: ∀b,b<w.heap.size->S b->S' b):fp w S' aaF YS aa3 VZ x t:=
 ⟨h.bC,h.reg,h.sq.mono hS,h.m6.mono hS,h.run.mono hS⟩
theorem xu(t:eD):(bH t).run=t.run:=by unfold bH;(repeat' split)<;>rfl
theorem oe(t:eD):(bH t).calls=t.calls:=by unfold bH;(repeat' split)<;>rfl
theorem Pl{w0 w:World}{a b c:Nat}{ae2 aaF ZH:TypeId}{YG aea aeX:List Value}{L:List abN}(h:aah w0 (fun x=>x≠a/\x≠b/\x≠c/\True) w none L)(Xg:ah w0 a ae2 YG.toArray)(hb:ah w0 b aaF aea.toArray)(XP:ah w0 c ZH aeX.toArray)(We:In L a ae2 YG)(Yp:In L b aaF aea)(aeE:In L c ZH aeX):Below w0.heap.size w0 w:=
 (((h.Wu.sZ Xg (h.b We)).sZ hb (h.b Yp)).sZ XP (h.b aeE)).q9
theorem rC{rg aO n b:Nat}(h:aO=rg\/n<=aO)(hb:b<n)(abi:b≠rg):b≠aO:=by
 rcases h with h|h
 ·rw[h];exact abi
 ·omega
theorem fp.Pm{w w':World}{S T:Nat->Prop}{aaF YS:Nat}{aa3 VZ:Value}{x:Yr}{t:eD}(h:fp w S aaF YS aa3 VZ x t)(k:Z1 T w w')(hS: ∀b,b<w.heap.size->S b->T b)(h1:ah w' aaF 200 (fI aa3 (.slice (some ⟨YS,0,none⟩) 4 4) VZ t.run x t.busy t.at_).toArray)(aaV:T YS):fp w' S aaF YS aa3 VZ x t:=
 have m: ∀ {v:Value} {n sz:Nat} {F:Nat->List Value},acr w S v n sz F->acr w' S v n sz F:=fun h=>((h.mono (S':=fun b=>S b/\T b) fun b hb YF=>⟨YF,hS b hb YF⟩).Wu (k.mono fun b _ h=>h.2)).mono fun b _ h=>h.1
 ⟨h1,(k.block _ h.reg.lt aaV).trans h.reg,m h.sq,m h.m6,⟨m h.run.ads,m h.run.ls,m h.run.Wh,m h.run.Y1⟩⟩
variable{X9:Program}{Wv:Oper}{a a':Act}{K:Act->World->Prop}{Q:Exit->Act->World->Prop}{ops:Array Oper}{aei:List Oper}
theorem FP{P T:List Value}{o:db}{v:Value}{k j:Nat}{W7:List Value}(h:P.length=k*14)(aeD:j+W7.length<=14):k*14+j+W7.length<=(P++(dN o v++T)).length:=by
 have YJ:(dN o v).length=14:=rfl;rw[ak,ak,h,YJ];omega
section
variable(h:aah w0 S w A L){P T':List Value}{o:db}{v:Value}{k:Nat}(XG:P.length=k*14)(j:Nat)(o':db)(v':Value){Yn:TypeId}{x y:Operand}{g:Nat}{t:TypeId}{u:Value}{W7:List Value}
include h P T' o v k XG j o' v' Yn x y g t u W7
theorem afz(Z7: ∀w',aah w0 S w' A L'->wpList X9 ops Q aei a' w')
 (dj:Wv.guard=none:=by exact rfl)(ZQ:Wv.op= .store Yn x y:=by exact rfl)(Wy:a.eval x= .pointer (some ⟨g,k*14+j,none⟩):=by exact rfl)(hy:dt a y=some u:=by exact rfl)(hv:u.cells=W7.toArray:=by exact rfl)
 (aeJ:er (dN o v) j W7=dN o' v':=by exact rfl)(XJ:aco L g t (P++(dN o v++T')) (P++(dN o' v'++T')) L':=by exact cf)(aeD:j+W7.length<=14:=by exact bQ rfl)(hi:(X9.info? Yn).map (·.size)=some W7.length:=by kernel_rfl)(h1:W7.all (·.oneCell')=true:=by exact rfl)
 (Xg:a.put Wv.dst undef=a':=by exact fa):wpList X9 ops Q (Wv::aei) a w:=
 hp h dj Yn x y ZQ g (k*14+j) u W7 Wy hy hv (by rw[FO XG aeD,aeJ];exact XJ) (FP XG aeD) hi h1 fun w' s=>by rw[Xg];exact Z7 w' s
theorem Wt(Z7: ∀w',aah w0 S w' A L'->K (a.put Wv.dst undef) w')
 (afl:Region.wanted Wv (yielded ops a.tmps)=true:=by rfl)(ZQ:Wv.op= .store Yn x y:=by exact rfl)(Wy:a.eval x= .pointer (some ⟨g,k*14+j,none⟩):=by exact rfl)(hy:dt a y=some u:=by exact rfl)(hv:u.cells=W7.toArray:=by exact rfl)
 (aeJ:er (dN o v) j W7=dN o' v':=by exact rfl)(XJ:aco L g t (P++(dN o v++T')) (P++(dN o' v'++T')) L':=by exact cf)(aeD:j+W7.length<=14:=by exact bQ rfl)(hi:(X9.info? Yn).map (·.size)=some W7.length:=by kernel_rfl)(h1:W7.all (·.oneCell')=true:=by exact rfl):
 if Region.wanted Wv (yielded ops a.tmps)=true then Oper.wp X9 Wv a w K Q else K (a.put Wv.dst undef) w:=by
 rw[Z afl];exact ev h Yn x y ZQ g (k*14+j) u W7 Wy hy hv (by rw[FO XG aeD,aeJ];exact XJ) (FP XG aeD) hi h1 Z7
end
end
section
open Go.RowKit
theorem aah.AS{b4 w0 w:World}{S:Nat->Prop}{L:List abN}(h:aah w0 S w none L)(Yq:Below b4.heap.size b4 w0)(YF: ∀b,b<b4.heap.size->S b):Below b4.heap.size b4 w:=
 ⟨h.Wu.os.trans Yq.os,h.Wu.tape.trans Yq.tape,h.Wu.output.trans Yq.output,D Yq.size h.Wu.size,fun k ae3=>(h.Wu.block k (aj ae3 Yq.size) (YF k ae3)).trans (Yq.block k ae3)⟩
theorem aah.mI{w0 w:World}{S T:Nat->Prop}{L:List abN}(h:aah w0 (fun b=>S b/\T b) w none L)(aen: ∀b,b<w0.heap.size->T b):aah w0 S w none L:=
 ⟨h.bC,h.aed,fun x Wy=>by
   rcases h.fr x Wy with q|q
   ·exact .inl q
   ·by_cases c:x.g<w0.heap.size
    ·exact .inr fun YF=>q ⟨YF,aen _ c⟩
    ·exact .inl J,h.Wu.mono fun b hb YF=>⟨YF,aen b hb⟩,trivial,fun a e=>by cases e⟩
theorem jz{w:World}{e:TypeId}{sz n cap g:Nat}{xs news rest:List Value}(hb:ah w g e ((xs++news)++rest).toArray)(YJ:(xs++news).length=n*sz)(XP:n<=cap/\cap<=maxLen/\((xs++news)++rest).length=cap*sz):w.ownsRow 0 e sz (.slice (some ⟨g,0,none⟩) n cap) n (xs++news):=
 ⟨YJ,.inr ⟨g,cap,_,rfl,aL _,hb,XP.1,XP.2.1,by simpa using XP.2.2,by rw[List.toList_toArray,<-YJ];exact List.take_left' rfl⟩⟩
structure rD(aam w:World)(e:TypeId)(sz k:Nat)(v:Value)(Vs:Nat->Value)(len:Nat->Nat)(ae0:Nat->Nat->List Value):Prop where
 own:w.ownsRow 0 e 1 v k ((List.range k).map Vs)
 new: ∀j,v.ownBlock=some j->aam.heap.size<=j
 each: ∀j,j<k->acr w (fun b=>aam.heap.size<=b/\v.ownBlock≠some b) (Vs j) (len j) sz (ae0 j)
variable{aam w w':World}{e:TypeId}{sz k:Nat}{v:Value}{Vs:Nat->Value}{len:Nat->Nat}{ae0:Nat->Nat->List Value}
theorem rD.nil(aam w:World)(e:TypeId)(sz:Nat)(Vs:Nat->Value)(len:Nat->Nat)(ae0:Nat->Nat->List Value):rD aam w e sz 0 (.slice none 0 0) Vs len ae0:=
 ⟨World.ownsRow_nil _ _ _ _,fun j h=>(by cases h),fun j h=>J⟩
theorem rD.below(h:rD aam w e sz k v Vs len ae0)(hb:Below w.heap.size w w'):rD aam w' e sz k v Vs len ae0:=
 ⟨fT h.own fun j aeD=>hb.block j (h.own.lt j aeD).2,h.new,fun j aeD=>(h.each j aeD).below hb⟩
theorem rD.drew(h:rD aam w e sz k v Vs len ae0):rD aam w.drew e sz k v Vs len ae0:=⟨h.own,h.new,h.each⟩
theorem y5{α:Type}(f:Nat->α)(k:Nat)(u:α):(List.range (k+1)).map (put f k u)=(List.range k).map f++ [u]:=by
 rw[List.range_succ,cP];congr 1
 ·apply List.map_congr_left;intro j aeD;exact aw _ _ (by have:=List.mem_range.1 aeD;omega)
 ·simp[aP]
theorem rD.app{L L':List abN}{g cap:Nat}{u:Value}{rest:List Value}(h:rD aam w e sz k v Vs len ae0)(U:aah w (fun b=>bq none L b/\v.ownBlock≠some b) w' none L')(hi:In L' g e (((List.range k).map Vs++ [u])++rest))(acY: ∀x,x∈L->x.g<aam.heap.size)(afj:v.ownBlock=some g\/w.heap.size<=g)
 (XP:k+1<=cap/\cap<=maxLen/\(((List.range k).map Vs++ [u])++rest).length=cap*1)(hu:acr w (fun b=>aam.heap.size<=b/\v.ownBlock≠some b) u (len k) sz (ae0 k))(aeN:aam.heap.size<=w.heap.size):
 rD aam w' e sz (k+1) (.slice (some ⟨g,0,none⟩) (k+1) cap) (put Vs k u) len ae0:=by
 have Wl: ∀ {x:Value} {m:Nat} {G:Nat->List Value},acr w (fun b=>aam.heap.size<=b/\v.ownBlock≠some b) x m sz G->acr w' (fun b=>aam.heap.size<=b/\(Value.slice (some ⟨g,0,none⟩) (k+1) cap).ownBlock≠some b) x m sz G:=fun Wy=>
  ((Wy.mono (S':=fun b=>b<w.heap.size/\aam.heap.size<=b/\v.ownBlock≠some b) fun b hb YF=>⟨hb,YF⟩).Wu (U.Wu.mono fun b _ YF=>⟨⟨fun x Wy e=>by have:=acY x Wy;omega,fun a e=>by cases e⟩,YF.2.2⟩)).mono fun b _ YF=>⟨YF.2.1,fun e=>by
    have e:g=b:=by simpa [Value.ownBlock]using e
    subst e;rcases afj with q|q
    ·exact YF.2.2 q
    ·omega⟩
 refine⟨?_,fun j aeD=>?_,fun j aeD=>?_⟩
 ·rw[y5];exact jz (U.b hi) aN XP
 ·have e:g=j:=by simpa [Value.ownBlock]using aeD
  subst e;rcases afj with q|q
  ·exact h.new _ q
  ·omega
 ·by_cases c:j=k
  ·subst c;rw[aP];exact Wl hu
  ·rw[aw _ _ c];exact Wl (h.each j J)
abbrev FQ:Yr:=⟨.slice none 0 0,.slice none 0 0,.slice none 0 0,.slice none 0 0⟩
abbrev Pn(l:List dM):eD:=⟨l,fun _=>0,[],Ff,false,0⟩
structure y6(aeL w:World)(k:Nat)(v:Value)(aaF YS:Nat->Nat)(aa3:Nat->Value)(bj:Nat->List dM):Prop where
 own:w.ownsRow 0 196 1 v k ((List.range k).map fun j=>Value.pointer (some ⟨aaF j,0,none⟩))
 new: ∀j,v.ownBlock=some j->aeL.heap.size<=j
 XT: ∀j,j<k->fp w (fun b=>aeL.heap.size<=b/\v.ownBlock≠some b/\∀i,i<k->b≠aaF i/\b≠YS i) (aaF j) (YS j) (aa3 j) (.slice none 0 0) FQ (Pn (bj j))
 ge: ∀j,j<k->aeL.heap.size<=aaF j/\aeL.heap.size<=YS j
 ne: ∀i j,i<k->j<k->i≠j->aaF i≠aaF j/\YS i≠YS j
theorem y6.nil(aeL w:World)(aaF YS:Nat->Nat)(aa3:Nat->Value)(bj:Nat->List dM):y6 aeL w 0 (.slice none 0 0) aaF YS aa3 bj:=
 ⟨World.ownsRow_nil _ _ _ _,fun j h=>(by cases h),fun j h=>J,fun j h=>J,fun i j h=>J⟩
theorem ty{w:World}{e t:TypeId}{sz n b:Nat}{v:Value}{xs:List Value}{cs:Array Value}(h:w.ownsRow 0 e sz v n xs)(hb:ah w b t cs)(abi:e≠t):v.ownBlock≠some b:=fun abF=>by
 rcases h.2 with⟨rfl,_⟩|⟨g,cap,cS,rfl,_,aaV,_⟩
 ·cases abF
 ·cases abF;exact ah.ne aaV hb abi rfl
theorem y6.app{aeL wr:World}{aaF YS:Nat->Nat}{aa3:Nat->Value}{bj:Nat->List dM}{L L':List abN}{g gt gr cap:Nat}{u:Value}{rest:List Value}(h:y6 aeL wr k v aaF YS aa3 bj)(hb:Z1 (fun b=>aeL.heap.size<=b) wr w)(U:aah w (fun b=>bq none L b/\v.ownBlock≠some b) w' none L')(hi:In L' g 196 (((List.range k).map (fun j=>Value.pointer (some ⟨aaF j,0,none⟩))++ [Value.pointer (some ⟨gt,0,none⟩)])++rest))
 (aen:ah w' gt 200 (fI u (.slice (some ⟨gr,0,none⟩) 4 4) (.slice none 0 0) Ff FQ false 0).toArray)(Mr:ah w' gr 59 (bN .u64 4 fun _=>0).toArray)(acY: ∀x,x∈L->x.g<aeL.heap.size\/x.g=gt\/x.g=gr)(aeN:aeL.heap.size<=wr.heap.size)(afj:v.ownBlock=some g\/w.heap.size<=g)
 (XP:k+1<=cap/\cap<=maxLen/\(((List.range k).map (fun j=>Value.pointer (some ⟨aaF j,0,none⟩))++ [Value.pointer (some ⟨gt,0,none⟩)])++rest).length=cap*1)(hu:vO w (fun b=>wr.heap.size<=b/\b≠gt/\b≠gr) u (bj k))(afq:wr.heap.size<=gt/\wr.heap.size<=gr):
 y6 aeL w' (k+1) (.slice (some ⟨g,0,none⟩) (k+1) cap) (put aaF k gt) (put YS k gr) (put aa3 k u) bj:=by
 have Po:=hb.size;have bV: ∀j,v.ownBlock=some j->j<wr.heap.size:=fun j aeD=>(h.own.lt j aeD).2;have ab7: ∀ {b:Nat},(Value.slice (some ⟨g,0,none⟩) (k+1) cap).ownBlock=some b->g=b:=fun e=>by simpa [Value.ownBlock]using e
 have K:Z1 (fun b=>aeL.heap.size<=b/\v.ownBlock≠some b) wr w':=⟨U.Wu.os.trans hb.os,U.Wu.tape.trans hb.tape,U.Wu.output.trans hb.output,D Po U.Wu.size,fun b YJ YF=>(U.Wu.block b J ⟨⟨fun x Wy e=>by
  rcases acY x Wy with q|q|q<;>omega,fun a e=>by cases e⟩,YF.2⟩).trans (hb.block b YJ YF.1)⟩
 have Wl: ∀ {x:Value} {m sz:Nat} {G:Nat->List Value},acr wr (fun b=>aeL.heap.size<=b/\v.ownBlock≠some b/\∀i,i<k->b≠aaF i/\b≠YS i) x m sz G->acr w' (fun b=>aeL.heap.size<=b/\(Value.slice (some ⟨g,0,none⟩) (k+1) cap).ownBlock≠some b/\∀i,i<k+1->b≠put aaF k gt i/\b≠put YS k gr i) x m sz G:=fun Wy=>
  ((Wy.mono (S':=fun b=>b<wr.heap.size/\aeL.heap.size<=b/\v.ownBlock≠some b/\∀i,i<k->b≠aaF i/\b≠YS i) fun b hb YF=>⟨hb,YF⟩).Wu (K.mono fun b _ YF=>⟨YF.2.1,YF.2.2.1⟩)).mono fun b _ YF=>⟨YF.2.1,fun e=>by
    have e:=ab7 e;subst e;rcases afj with q|q
    ·exact YF.2.2.1 q
    ·have:=YF.1;omega,fun i hi=>by
    by_cases c:i=k
    ·subst c;rw[aP,aP];have:=YF.1;omega
    ·rw[aw _ _ c,aw _ _ c];exact YF.2.2.2 i J⟩
 have FR: ∀j,j<k->aaF j<wr.heap.size/\YS j<wr.heap.size:=fun j aeD=>⟨(h.XT j aeD).bC.lt,(h.XT j aeD).reg.lt⟩
 refine⟨?_,fun j aeD=>?_,fun j aeD=>?_,fun j aeD=>?_,fun i j hi aeD bo=>?_⟩
 ·have e:(List.range (k+1)).map (fun j=>Value.pointer (some ⟨put aaF k gt j,0,none⟩))=(List.range k).map (fun j=>Value.pointer (some ⟨aaF j,0,none⟩))++ [Value.pointer (some ⟨gt,0,none⟩)]:=by
   rw[<-y5 (fun j=>Value.pointer (some ⟨aaF j,0,none⟩)) k];apply List.map_congr_left;intro j _;unfold put;split<;>rfl
  rw[e];exact jz (U.b hi) aN XP
 ·have e:=ab7 aeD;subst e;rcases afj with q|q
  ·exact h.new _ q
  ·omega
 ·by_cases c:j=k
  ·subst c;rw[aP,aP,aP];refine⟨aen,Mr,?_,acr.nil _ _ _ _,⟨acr.nil _ _ _ _,acr.nil _ _ _ _,acr.nil _ _ _ _,acr.nil _ _ _ _⟩⟩;exact((hu.mono (S':=fun b=>b<w.heap.size/\wr.heap.size<=b/\b≠gt/\b≠gr) fun b hb YF=>⟨hb,YF⟩).Wu (U.Wu.mono fun b _ YF=>⟨⟨fun x Wy e=>by
    rcases acY x Wy with q|q|q
    ·omega
    ·exact YF.2.2.1 J
    ·exact YF.2.2.2 J,fun a e=>by cases e⟩,fun e=>by have:=bV _ e;omega⟩)).mono fun b _ YF=>⟨J,fun e=>by
    have e:=ab7 e;subst e;rcases afj with q|q
    ·have:=bV _ q;omega
    ·have:=YF.1;omega,fun i hi=>by
    by_cases c:i=j
    ·subst c;rw[aP,aP];exact YF.2.2
    ·rw[aw _ _ c,aw _ _ c];have:=FR i J;omega⟩
  ·rw[aw _ _ c,aw _ _ c,aw _ _ c];have z:=h.XT j J;have q:=h.ge j J;exact⟨(K.block _ z.bC.lt ⟨q.1,ty h.own z.bC am⟩).trans z.bC,(K.block _ z.reg.lt ⟨q.2,ty h.own z.reg am⟩).trans z.reg,Wl z.sq,Wl z.m6,⟨Wl z.run.ads,Wl z.run.ls,Wl z.run.Wh,Wl z.run.Y1⟩⟩
 ·by_cases c:j=k
  ·subst c;rw[aP,aP];omega
  ·rw[aw _ _ c,aw _ _ c];exact h.ge j J
 ·by_cases c:i=k
  ·subst c;have:=FR j J;rw[aP,aP,aw _ _ (fun e=>bo e.symm),aw _ _ (fun e=>bo e.symm)];omega
  ·by_cases d:j=k
   ·subst d;have:=FR i J;rw[aP,aP,aw _ _ c,aw _ _ c];omega
   ·rw[aw _ _ c,aw _ _ c,aw _ _ d,aw _ _ d];exact h.ne i j J J bo
theorem wy(l:List dM):hl l.length 7 (yZ l):=fun i hi=>by
 unfold yZ;rw[an hi];exact⟨rfl,fun u hu=>by
  simp only[bt,Option.getD_some,hP,ad,E,av]at hu
  (repeat' rcases hu with rfl|hu)<;>first|rfl|(subst hu;rfl)⟩
theorem acr.Qq{w:World}{e:TypeId}{k:Nat}{v:Value}{f:Nat->Value}(h:w.ownsRow 0 e 1 v k ((List.range k).map f)):acr w (fun b=>v.ownBlock=some b) v k 1 fun i=> [f i]:=by
 rcases h.2 with⟨rfl,rfl⟩|⟨g,cap,cS,rfl,_,aaV,ZV,Ya,afY,XX⟩
 ·exact acr.nil _ _ _ _
 ·refine⟨_,cap,rfl,ZV,Ya,fun _=>⟨g,0,rfl,rfl,ah.lt aaV,fun i j u hi hu=>?_⟩⟩;have aeD:j=0:=by
   rcases j with _|j
   ·rfl
   ·simp at hu
  subst aeD;have hu:f i=u:=by simpa using hu
  rw[ah.cell (cs:=cS) aaV,show 0+(i*1+0)=i from J];have aal:(cS.toList.take (k*1))[i]? =some u:=by
   rw[XX,a3,a1 hi,bt,hu]
  rw[List.getElem?_take]at aal;have:i<k*1:=J;rw[Z this,Array.getElem?_toList]at aal;exact aal
theorem Ms{w0 aam aeL w:World}{p:afy}{F:b1}{n ap WC aff rg abQ acw T:Nat}{Y8 acc:Value}{Vs:Nat->Value}{ab1:Nat->Nat}{aaF YS:Nat->Nat}{aa3:Nat->Value}{bj:Nat->List dM}(hb:ah w abQ 142 (gh p Y8 ap aff acc (.slice none 0 0) 0).toArray)(adS:y6 aeL w T acc aaF YS aa3 bj)(hF:rD aam aeL 95 3 F.length Y8 Vs ab1 fun j=>jQ (F.getD j []))(uz: ∀j,(F.getD j []).length=ab1 j)
 (Xg:ar aeL ap WC n (V0 p))(afj:cY aeL aff rg (64*p.s+p.i) (64*p.s+p.i+p.h) (if 0<p.h then [⟨64*p.s+p.i,p.h⟩]else []))(k:Z1 (fun b=>b≠abQ/\b≠acw) aeL w)(aeN:aam.heap.size<=aeL.heap.size)(bV:(ap<aam.heap.size/\WC<aam.heap.size/\ap≠WC)/\(aff<aam.heap.size/\rg<aam.heap.size)/\abQ<aam.heap.size/\acw<aam.heap.size/\w0.heap.size<=acw/\w0.heap.size<=abQ)
 (vF:w0.heap.size<=ap/\w0.heap.size<=WC/\w0.heap.size<=aff/\w0.heap.size<=rg)(AU:ap≠aff/\ap≠rg/\WC≠aff/\WC≠rg)(bo:(ap≠acw/\WC≠acw/\aff≠acw/\rg≠acw)/\ap≠abQ/\WC≠abQ/\aff≠abQ/\rg≠abQ)(aen:p.t.toNat=T):
 ∃B:WB,B.aeh=abQ/\df w B p F n (l2 p bj)/\∀b,afi B T b\/B.Yi b->w0.heap.size<=b:=by
 subst aen;have Po:=k.size;have L8:w0.heap.size<=aam.heap.size:=J
 let B:WB:=⟨abQ,ap,WC,aff,rg,w.heap.size,Y8,acc,.slice none 0 0,Vs,aaF,YS,aa3,fun _=>.slice none 0 0,fun _=>FQ,fun b=>w0.heap.size<=b⟩
 have FR: ∀j,j<p.t.toNat->aaF j<w.heap.size/\YS j<w.heap.size:=fun j aeD=>⟨(adS.XT j aeD).bC.lt,(adS.XT j aeD).reg.lt⟩
 have Yi: ∀b,aam.heap.size<=b->b<w.heap.size->(∀j,j<p.t.toNat->b≠aaF j/\b≠YS j)->aek B p.t.toNat b:=fun b h1 aaV ZV=>⟨fun hm=>by
  rcases hm with h|h|h|h|h|h|⟨j,aeD,h⟩
  ·have h:b=abQ:=h;omega
  ·have h:b=ap:=h;omega
  ·have h:b=WC:=h;omega
  ·have h:b=aff:=h;omega
  ·have h:b=rg:=h;omega
  ·have h:b=w.heap.size:=h;omega
  ·have h:b=aaF j\/b=YS j:=h;have:=ZV j aeD;omega,by show w0.heap.size<=b;omega⟩
 have old: ∀ {v:Value} {m sz:Nat} {G:Nat->List Value} {P:Nat->Prop},acr aeL P v m sz G->(∀b,P b->aam.heap.size<=b)->acr w (aek B p.t.toNat) v m sz G:=fun YF XG=>
  ((YF.mono (S':=fun b=>b<aeL.heap.size/\aam.heap.size<=b) fun b hb YF=>⟨hb,XG b YF⟩).Wu (k.mono fun b _ YF=>⟨J,J⟩)).mono fun b hb YF=>Yi b YF.2 hb fun j aeD=>by have:=adS.ge j aeD;omega
 refine⟨B,rfl,⟨hb,ar.j3 Xg (k.block ap Xg.c9.1 ⟨bo.2.1,bo.1.1⟩) (k.block WC Xg.c9.2.1 ⟨bo.2.2.1,bo.1.2.1⟩),afj.Wu (k.block aff afj.lt.1 ⟨bo.2.2.2.1,bo.1.2.2.1⟩) (k.block rg afj.lt.2 ⟨bo.2.2.2.2,bo.1.2.2.2⟩),⟨old (acr.Qq hF.own) fun b hb=>hF.new b hb,fun i l YJ=>?_⟩,(acr.Qq adS.own).mono fun b hb YF=>Yi b (by have:=adS.new b YF;omega) hb fun j aeD=>⟨fun e=>ty adS.own (adS.XT j aeD).bC am (by rw[<-e];exact YF),fun e=>ty adS.own (adS.XT j aeD).reg am (by rw[<-e];exact YF)⟩,fun i hi=>(adS.XT i hi).mono fun b hb YF=>Yi b J hb YF.2.2,⟨[],rfl,(fun q VX=>by cases VX),.inl ⟨rfl,rfl⟩⟩,adS.ne,fun i hi=>by have:=adS.ge i hi;show YS i≠WC;omega,⟨AU.1,AU.2.1,by show ap≠w.heap.size;omega,bo.2.1,fun i hi=>by have:=adS.ge i hi;show ap≠aaF i/\ap≠YS i;omega⟩,⟨by show w.heap.size≠abQ;omega,by show w.heap.size≠WC;omega,by show w.heap.size≠aff;omega,by show w.heap.size≠rg;omega,fun i hi=>by have:=FR i hi;show w.heap.size≠aaF i/\w.heap.size≠YS i;omega⟩⟩,fun b hm=>?_⟩
 ·obtain⟨hi,rfl⟩:=List.getElem?_eq_some_iff.1 YJ;have e:F.getD i []=F[i]:=by rw[ae,an hi];rfl
  have:=hF.each i hi;rw[<-uz i,e]at this;exact old this fun b hb=>hb.1
 ·rcases hm with(h|h|h|h|h|h|⟨j,aeD,h⟩)|h
  ·have h:b=abQ:=h;omega
  ·have h:b=ap:=h;omega
  ·have h:b=WC:=h;omega
  ·have h:b=aff:=h;omega
  ·have h:b=rg:=h;omega
  ·have h:b=w.heap.size:=h;omega
  ·have h:b=aaF j\/b=YS j:=h;have:=adS.ge j aeD;omega
  ·exact h
theorem wz:(Tryz.prog.info? 196).map (fun i=>(i.zero,i.size,i.bytes))=some (some (.pointer none),1,8):=aM
theorem s0:Tryz.prog.underlying 140=some (.slice 196):=aM
theorem jA:(Tryz.prog.info? 95).map (fun i=>(i.zero,i.size,i.bytes))=some (some (.slice none 0 0),1,24):=aM
theorem hM:Tryz.prog.underlying 28=some (.slice 95):=aM
end
section
open Go.RowKit Tryz
theorem aah.Mt{w0 w:World}{S:Nat->Prop}{L:List abN}(h:aah w0 S w none L){p g n:Nat}{V:Nat->Int}(Xg:ar w p g n V)(aeJ:je L p)(afj:je L g)(acA:w0.heap.size<=g\/¬S g):aah w0 S w (some ⟨p,g,n,V⟩) L:=
 ⟨h.bC,h.aed,h.fr,h.Wu,Xg,fun a e=>by cases e;exact⟨aeJ,afj,acA⟩⟩
theorem CZ(a:Nat):e1 (fun _=>0) a=0:=rfl
theorem BU(w0:World)(a4 z:Int)(YM:0<=a4/\a4<=65536/\0<=z/\z<=65536)(Vy:a4 %8=0/\z %8=0):
 Calls prog 198 #[.int .i64 a4,.int .i64 z] w0 fun e w'=> ∃aff rg,e= .returned (.tuple #[.pointer (some ⟨aff,0,none⟩),.int .i64 0])/\cY w' aff rg a4 (a4+z) (if 0<z then [⟨a4,z⟩]else [])/\w0.heap.size<=aff/\w0.heap.size<=rg/\Z1 (fun _=>True) w0 w':=by
 by_cases h:0<z
 ·rw[Z h];exact IN w0 a4 z J Vy
 ·rw[Y h];obtain rfl:z=0:=J;refine Calls.mono (IP w0 a4 J Vy.1) ?_;rintro e w' ⟨aff,rfl,afj,h1,ae3⟩;exact⟨aff,aff,rfl,by rw[cI];exact afj,h1,h1,ae3⟩
theorem Ja(n:Nat)(w:World)(h:8*n<=65536):
 Calls prog 197 #[.int .i64 (8*(n:Int))] w fun e w'=> ∃p g,e= .returned (.tuple #[.pointer (some ⟨p,0,none⟩),.int .i64 0])/\ar w' p g n (fun _=>0)/\Below w.heap.size w w'/\w.heap.size<=p/\w.heap.size<=g:=by
 refine Calls.mono (Lm (8*n) w h J) ?_;rintro e w' ⟨p,g,rfl,Xg,hb,h1,aaV⟩;exact⟨p,g,rfl,⟨_,Xg,fun i _=>CZ _⟩,hb,h1,aaV⟩
theorem Jb(w0:World)(p:afy)(n:Nat)(aeJ:a9 p)(abi:8*(n:Int)=64*p.s+p.i+p.h):
 Calls prog 119 #[ej p] w0 fun e w'=> ∃ap WC aff rg,e= .returned (.tuple #[.pointer (some ⟨ap,0,none⟩),.pointer (some ⟨aff,0,none⟩),.int .i64 0])/\ar w' ap WC n (V0 p)/\cY w' aff rg (64*p.s+p.i) (64*p.s+p.i+p.h) (if 0<p.h then [⟨64*p.s+p.i,p.h⟩]else [])/\(w0.heap.size<=ap/\w0.heap.size<=WC/\w0.heap.size<=aff/\w0.heap.size<=rg)/\(ap≠aff/\ap≠rg/\WC≠aff/\WC≠rg)/\Below w0.heap.size w0 w':=by
 have YF:=aeJ.s;have hi:=aeJ.i;have acu:=aeJ.h;have p3:=I aeJ.ok;have ZR:=I aeJ;have ZG:=I abi;have U:=aah.a0 w0;have WJ:IntKind.u64.wrap (p.s*64)=p.s*64:=by rw[IntKind.wrap_u64];omega
 have adr:IntKind.u64.wrap p.i=p.i:=by rw[IntKind.wrap_u64];omega
 have ZF:p.s*64+p.i+p.h=8*(n:Int):=J;obtain⟨Uz,WX⟩: ∃f:List Ext,Hid ((if 0<p.h then [⟨64*p.s+p.i,p.h⟩]else [])=f):=⟨_,I rfl⟩
 rw[WX.out];clear aeJ abi;go_enter func119,ntmps119;go_wp2_with(first|(go_at_call 196;refine a6 U (IJ p.s p.t p.i p.h _ p3 J J J) ?_;clear U;intro aaM U)|(go_at_call 197;refine Calls.mono (Ja n _ (by have:=ZG.out;omega)) ?_;rintro e aaM ⟨ap,WC,rfl,AX,N,Vt,Y6⟩;have Pu:=I (And.intro (D U.size Vt) (D U.size Y6));replace U:=(U.below N).Mt AX (U.nx Vt) (U.nx Y6) (.inl (D U.size Y6));clear N AX)|(go_at_call 153;refine a6 U (pR p.s p.t p.i p.h _ p3 J J) ?_;clear U;intro aaM U)|(go_at_call 199;refine a6 U (jS p.s p.t p.i p.h _ p3 J) ?_;clear U;intro aaM U)|(go_at_call 198;refine Calls.mono (BU _ _ _ J J) ?_;rintro e aaM ⟨aff,rg,rfl,dP,ad2,W3,aX⟩;have aaq:=I dP;have Pv:=I (U.hO ad2);have Pw:=I (U.hO W3);have aaH:=U.below aX.q9;have kS:=I (show ap≠aff/\ap≠rg/\WC≠aff/\WC≠rg by have adf:=U.bB.c9.1;have Ze:=U.bB.c9.2.1;exact⟨J,J,J,J⟩);clear U dP aX;have U:=aaH.base)|(go_at_call 200;refine Calls.mono (AJ _ p ap WC n _ 0 ⟨2,1,-1,0⟩ U.bB ZR.out J (by have:=ZG.out;omega) ⟨am,am,am,am⟩) ?_;rintro e aaM ⟨rfl,aH,N⟩;replace U:=U.arena aH N;clear aH N)|(go_at_call 201;refine Calls.mono (tw _ p ap WC n _ 0 _ _ U.bB ZR.out J J (by have:=ZG.out;omega) (by unfold aR;omega)) ?_;rintro e aaM ⟨rfl,aH,N⟩;replace U:=U.arena aH N;clear aH N)|(refine aq ?_)|(refine aT ?_;clear U;intro X8 w U aay));go_ret3;have Yq:=aaH.back U;have afj:=aaq.out;rw[show p.s*64=64*p.s from Int.mul_comm _ _,WX.out]at afj;refine⟨ap,WC,aff,rg,rfl,U.bB.ext fun i hi=>?_,afj.Wu (U.Wu.block aff afj.lt.1 Pv.out.2) (U.Wu.block rg afj.lt.2 Pw.out.2),⟨Pu.out.1,Pu.out.2,Pv.out.1,Pw.out.1⟩,kS.out,Yq.all⟩;show upd (upd (upd (fun _=>0) 0 6) 1 (p.s*64)) 2 p.i i=V0 p i;unfold upd V0;by_cases aaV:i=2
 ·subst aaV;rfl
 by_cases h1:i=1
 ·subst h1;rw[Y am,Z rfl,Y am,Z rfl];omega
 rw[Y aaV,Y h1];by_cases YM:i=0
 ·rw[Z YM,Z YM]
 ·rw[Y YM,Y YM,Y h1,Y aaV]
end
section
open Go.RowKit Tryz
theorem oj{G:Prop}(h:G:=by
 refine WE Z7 fun X=>?_;refine aF 7 fun K Z7=>?_;rw[Z (by rfl)];refine bK U 28 95 _ rfl _ [.slice af3 (ab1 k) ZM] rfl rfl (.slice none 0 0) 1 24 hM jA rfl (by decide) (by decide) ?_;clear U;intro di w U dO;exact ol):G:=h
theorem ol{G:Prop}(h:G:=by
 refine WE Z7 fun X=>?_;refine aF 8 fun K Z7=>?_;rw[Z (by rfl)];have dI:=U.size;refine eX U adS.own (fun j aeD=>⟨fun x Wy e=>by have:=adS.new j aeD;have:=cH.out;simp only[ad,E,av]at Wy;rcases Wy with rfl|rfl<;>(simp only at e;omega),fun a e=>by cases e⟩) _ _ 28 rfl (.slice none 0 0) 24 hM jA rfl (by decide) rfl ⟨di,0,none⟩ 1 1 [.slice af3 (ab1 k) ZM] rfl rfl (by decide) (U.news ag) rfl (by unfold maxLen;omega) (by omega) ?_;clear U;intro g' cW lL w U e8 lm;replace e8:=e8.imp id (D dI);clear dI;refine WE Z7 fun X=>?_;refine az [[9,10],[11]] ?_;clear U;intro w U;go_wp2_with(first|(refine aq ?_)|(refine Ws U 27 ?_;clear U;intro hk w U om)|(refine Ws U 142 ?_;clear U;intro iC w U qP)|(refine Ws U 200 ?_;clear U;intro mX w U sv)|(refine ac2 U ?_;clear U;intro w U));go_roundw
 case rel=>exact⟨k+1,_,put Vs k (.slice af3 (ab1 k) ZM),by omega,by go_num,((aaH.j5 U).mI (fun b hb e=>by have:=adS.new _ e;omega)).c6.c6,adS.app U ag (fun x Wy=>by have:=cH.out;simp only[ad,E,av]at Wy;rcases Wy with rfl|rfl<;>(simp only;omega)) e8 lm hu.out aeN⟩
 case measure=>simp[intOf];omega):G:=h
theorem Jc(w:World)(A:Option Addr)(n c:Nat)(abi:n<=64):
 Calls prog 117 #[.slice A n c] w fun e w'=>e= .returned (.bool false)/\Below w.heap.size w w':=by
 have e:decide ((n:Int)>64)=false:=by simp;omega
 have U:=aah.a0 w;go_enter func117,ntmps117;go_wp2_with(first|fail);go_ret;exact⟨rfl,U.all⟩
theorem y8(w0:World)(p:afy)(F:b1)(n:Nat)(bj:Nat->List dM)(ado:Nat->Prop)(Y8 aad:Value)(aeI Vp:Nat->Value)(aeJ:a9 p)(abi:8*(n:Int)=64*p.s+p.i+p.h)(hF:eF w0 ado Y8 F aeI)(m7:F.length<=8)(adS: ∀l,l∈F->l.length<=8/\∀o,o∈l->lv o)
 (XG:acr w0 ado aad p.t.toNat 1 fun i=> [Vp i])(VG: ∀i,i<p.t.toNat->vO w0 ado (Vp i) (bj i)/\(bj i).length<=64):
 Calls prog 65 #[ej p,Y8,aad] w0 fun e w'=> ∃B:WB,e= .returned (.tuple #[.pointer (some ⟨B.aeh,0,none⟩),.int .i64 0])/\df w' B p F n (l2 p bj)/\Below w0.heap.size w0 w'/\∀b,afi B p.t.toNat b\/B.Yi b->w0.heap.size<=b:=by
 obtain⟨T,aen⟩: ∃T,p.t.toNat=T:=⟨_,rfl⟩
 rw[aen]at XG VG;have afq:=aeJ.t;have Yj:p.t=(T:Int):=J;have mH:T<=4:=J;obtain⟨af5,acR,rfl,f1,f2,f3⟩:=id hF.row;obtain⟨ZI,VY,rfl,aa1,agb,abj⟩:=id XG;have p3:=I aeJ.ok;have gv:=I aeJ;have ZG:=I abi;have WX:=I hF;have aby:=I adS;have ZR:=I XG;have YT:=I VG;have YQ:=I aen;have ae6:=I (show∀args w,(callFunc 117 args).run prog w= .ok (.enter 117 args) w from enters_of func117 aM rfl);have U:=aah.a0 w0;have d0:decide ((T:Int)>p.t)=false:=by simp;omega
 replace Yj:=I Yj;clear aeJ abi hF adS XG VG aen f1 f2 f3 aa1 agb abj;go_enter func65,ntmps65;go_wp2_with(first|(go_at_call 77;refine a6 U (kJ p.s p.t p.i p.h _ p3.out) ?_;clear U;intro aaM U)|(go_at_call 70;refine a6 U (sj _ ado _ F aeI (WX.out.below U.all) m7 aby.out) ?_;clear U;intro aaM U)|(go_at_call 118;refine Calls.mono (xk _ ado _ T (fun i=> [Vp i]) Vp _ #[] (fun i=>false) ae6.out (ZR.out.below U.all) (fun i hi=>rfl) J (fun i hi w' hb=>by obtain⟨A,c,e,_⟩:=(YT.out i hi).1;rw[e];exact Jc _ _ _ _ (YT.out i hi).2)) ?_;rintro e aaM ⟨r,rfl,abk,N⟩;obtain rfl:r=false:=(by rcases abk with⟨abk,_⟩|⟨_,i,_,h⟩;exact abk;cases h);replace U:=U.below N;clear N abk)|(go_at_call 119;refine Calls.mono (Jb _ p n gv.out ZG.out) ?_;rintro e aaM ⟨ap,WC,aff,rg,rfl,aH,dP,⟨Vt,Y6,ad2,W3⟩,KQ,N⟩;have FW:=I aH;have FX:=I dP;have FY:=I KQ;have tk:=I (And.intro (U.hO Vt) (And.intro (U.hO Y6) (And.intro (U.hO ad2) (U.hO W3))));have aaH:=U.below N;have Mu:=I aaH.all;have Px:=I (fun(b:Nat) (hb:b<w0.heap.size)=>aaH.keeps hb trivial);clear U aH dP KQ N Vt Y6 ad2 W3;have U:=aaH.base;clear aaH)|(refine aq ?_)|(refine Ws U 27 ?_;clear U;intro hk w U om)|(refine Ws U 142 ?_;clear U;intro iC w U qP)|(refine Ws U 200 ?_;clear U;intro mX w U sv)|(refine ac2 U ?_;clear U;intro w U));have aav:=I (U.AS Mu.out Px.out);have Zn:=I (ar.j3 FW.out (U.Wu.block ap FW.out.c9.1 tk.out.1.2) (U.Wu.block WC FW.out.c9.2.1 tk.out.2.1.2));have aaq:=I (FX.out.Wu (U.Wu.block aff FX.out.lt.1 tk.out.2.2.1.2) (U.Wu.block rg FX.out.lt.2 tk.out.2.2.2.2));have kS:=I (show(ap≠hk/\WC≠hk/\aff≠hk/\rg≠hk)/\ap≠iC/\WC≠iC/\aff≠iC/\rg≠iC by
  have adf:=FW.out.c9;have Ze:=FX.out.lt;have V5: ∀ {b:Nat},bq none [⟨hk,27,[.int .i64 p.s,.int .i64 p.t,.int .i64 p.i,.int .i64 p.h]⟩] b->b≠hk:=fun h e=>h.1 _ a8 e.symm;exact⟨⟨V5 tk.out.1.2,V5 tk.out.2.1.2,V5 tk.out.2.2.1.2,V5 tk.out.2.2.2.2⟩,J,J,J,J⟩)
 have Jd:=U.b (g:=hk) ag;have cH:=I (And.intro (U.b (g:=iC) ag).lt (And.intro Jd.lt (And.intro om (D Mu.out.size qP))));have s1:=aah.two (U.b (g:=iC) ag) Jd ((U.b (g:=iC) ag).ne Jd am);obtain⟨aam,Ss⟩: ∃aam,aam=w:=⟨_,rfl⟩
 subst Ss;have eB:=I s1;clear U s1 Jd FW FX Mu Px;obtain⟨ab1,fH⟩: ∃ab1:Nat->Nat,Hid (∀j,(F.getD j []).length=ab1 j):=⟨fun j=>(F.getD j []).length,I fun j=>rfl⟩
 go_loopw [50] (fun i wr=> ∃(k:Nat) (C0:Value) (Vs:Nat->Value),k<=F.length/\i= .int .i64 k/\aah aam (fun b=>b≠iC/\b≠hk) wr none [⟨iC,142,gh p C0 ap aff (.slice none 0 0) (.slice none 0 0) 0⟩,⟨hk,27,[.int .i64 p.s,.int .i64 p.t,.int .i64 p.i,.int .i64 p.h]⟩]/\rD aam wr 95 3 k C0 Vs ab1 (fun j=>jQ (F.getD j []))) (fun i _=>F.length-(intOf i).toNat)
 case atStart=>exact⟨0,.slice none 0 0,aeI,J,rfl,eB.out,rD.nil _ _ _ _ _ _ _⟩
 case round=>
  obtain⟨k,C0,Vs,ae3,rfl,U,adS⟩:=hrel;clear eB;have dq:=U.AS aav.out fun b hb=>(by have:=cH.out;omega)
  by_cases bV:k<F.length
  ·obtain⟨aeQ,adr,h1,aaV,Mv,ZV⟩:=id WX.out.row;cases h1;obtain⟨b,off,rfl,YF,fC,XP⟩:=ZV J;have Wy:=(dq.cell (p:=⟨b,off+k,none⟩) fC).trans (by simpa using XP k 0 _ bV rfl);have YJ:=WX.out.each k (F.getD k []) (by rw[ae,an bV];rfl);have uG:(F.getD k []).length<=65536:=by
    have:=(aby.out (F.getD k []) (by rw[ae,an bV];exact bA bV)).1;omega
   rw[fH.out k]at uG;have YJ:acr w0 ado (aeI k) (ab1 k) 3 (jQ (F.getD k [])):=by rw[<-fH.out k];exact YJ
   obtain⟨acG,XO,acL,-,-,-⟩:=id YJ;have Py:=I (YJ.below dq);rw[acL]at Wy Py;clear acL YJ aaV Mv ZV XP dq;have aaX:(k:Int)<(F.length:Int):=J;have afQ:(0:Int)<=(k:Int):=J;go_upto_region 9 with(first|(refine aq ?_)|(refine Ws U 27 ?_;clear U;intro hk w U om)|(refine Ws U 142 ?_;clear U;intro iC w U qP)|(refine Ws U 200 ?_;clear U;intro mX w U sv)|(refine ac2 U ?_;clear U;intro w U))
   clear Wy;have WS:=I Py.out.drew;replace adS:=adS.drew;have KR:=I fun j aeD=>(adS.own.lt j aeD).2;replace U:=U.drew;refine wp_region_held_drew (S:=(c0 [⟨hk,27,[.int .i64 p.s,.int .i64 p.t,.int .i64 p.i,.int .i64 p.h]⟩])) aM ?_ (fun X=>?_)
   ·exact U.bG aN
   refine az [[0,1,2,3,5]] ?_;refine Zj [4,6] ?_;refine ea (fun K Z7=>?_) ?_
   ·refine YL U ?_;refine WE Z7 fun X=>?_;refine aF 6 fun K Z7=>?_;go_simp
    (go_at_call 120;refine Calls.mono (nl _ ado _ _ _ WS.out uG (pQ _ _)) ?_;rintro e aaM ⟨v',rfl,hv,N⟩;obtain⟨af3,ZM,rfl,-,-,-⟩:=id hv;have aaH:=U.below N;replace adS:=(adS.below N);have hu:=I (hv.mono (S':=fun b=>aam.heap.size<=b/\C0.ownBlock≠some b) fun b _ hb=>⟨D U.size hb,fun e=>by have:=(KR.out _ e);omega⟩);have aeN:=aaH.size;clear U N hv;have U:=aaH.base)
    go_wp2_with fail;exact oj
   refine ei (fun K Z7=>?_);go_simp
   (go_at_call 120;refine Calls.mono (nl _ ado _ _ _ WS.out uG (pQ _ _)) ?_;rintro e aaM ⟨v',rfl,hv,N⟩;obtain⟨af3,ZM,rfl,-,-,-⟩:=id hv;have aaH:=U.below N;replace adS:=(adS.below N);have hu:=I (hv.mono (S':=fun b=>aam.heap.size<=b/\C0.ownBlock≠some b) fun b _ hb=>⟨D U.size hb,fun e=>by have:=(KR.out _ e);omega⟩);have aeN:=aaH.size;clear U N hv;have U:=aaH.base)
   go_wp2_with fail;refine WE Z7 fun X=>?_;refine Zj [4,7] ?_;refine ea (fun K Z7=>?_) ?_
   ·refine YL U ?_;exact oj
   refine ei (fun K Z7=>?_);rw[Z (by rfl)];refine bK U 28 95 _ rfl _ [.slice af3 (ab1 k) ZM] rfl rfl (.slice none 0 0) 1 24 hM jA rfl am am ?_;clear U;intro di w U dO;refine WE Z7 fun X=>?_;refine aF 4 fun K Z7=>?_;refine YL U ?_;exact ol
  ·obtain e:k=F.length:=by omega
   subst e;have Zh: ¬(F.length:Int)<(F.length:Int):=J;have AL:=I (ar.j3 Zn.out (U.Wu.block ap Zn.out.c9.1 ⟨kS.out.2.1,kS.out.1.1⟩) (U.Wu.block WC Zn.out.c9.2.1 ⟨kS.out.2.2.1,kS.out.1.2.1⟩));have y9:=I (aaq.out.Wu (U.Wu.block aff aaq.out.lt.1 ⟨kS.out.2.2.2.1,kS.out.1.2.2.1⟩) (U.Wu.block rg aaq.out.lt.2 ⟨kS.out.2.2.2.2,kS.out.1.2.2.2⟩));have FZ:=I adS;have Mw:=I dq;have Je:=I U.size;have St:=I (And.intro Zn.out.c9 (And.intro aaq.out.lt cH.out));have s1:=aah.two (U.b (g:=iC) ag) (U.b (g:=hk) ag) ((U.b (g:=iC) ag).ne (U.b (g:=hk) ag) am);clear U adS dq Zn aaq aav;have U:=s1;clear s1;obtain⟨aeL,Su⟩: ∃aeL,aeL=wr:=⟨_,rfl⟩
   subst Su;go_wp2_with(first|(refine aq ?_)|(refine Ws U 27 ?_;clear U;intro hk w U om)|(refine Ws U 142 ?_;clear U;intro iC w U qP)|(refine Ws U 200 ?_;clear U;intro mX w U sv)|(refine ac2 U ?_;clear U;intro w U));have eB:=I U;clear U;go_loopw [68] (fun i wr=> ∃(k:Nat) (acc:Value) (aaF YS:Nat->Nat) (aa3:Nat->Value),k<=T/\i= .int .i64 k/\aah aeL (fun b=>b≠iC/\b≠hk) wr none [⟨iC,142,gh p C0 ap aff acc (.slice none 0 0) 0⟩,⟨hk,27,[.int .i64 p.s,.int .i64 p.t,.int .i64 p.i,.int .i64 p.h]⟩]/\y6 aeL wr k acc aaF YS aa3 bj) (fun i _=>T-(intOf i).toNat)
   case atStart=>exact⟨0,.slice none 0 0,fun _=>0,fun _=>0,Vp,J,rfl,eB.out,y6.nil _ _ _ _ _ _⟩
   case round=>
    obtain⟨k,acc,aaF,YS,aa3,ae3,rfl,U,adS⟩:=hrel;clear eB;have dq:=U.AS Mw.out fun b hb=>(by have:=cH.out;omega)
    have adP:decide ((k:Int)<p.t)=decide (k<T):=by rw[Yj.out];simp
    by_cases bV:k<T
    ·obtain⟨aeQ,adr,h1,aaV,Mv,ZV⟩:=id ZR.out;cases h1;obtain⟨b,off,rfl,YF,fC,XP⟩:=ZV J;have Wy:=(dq.cell (p:=⟨b,off+k,none⟩) fC).trans (by simpa using XP k 0 _ bV rfl);have YJ:=(YT.out k bV).1;obtain⟨acG,XO,acL,-,-,-⟩:=id YJ;have uG:(bj k).length<=65536:=by have:=(YT.out k bV).2;omega
     have WS:=I YJ;have Pz:=I dq;rw[acL]at Wy WS;clear acL YJ aaV Mv ZV XP dq;have aaX:(k:Int)<(T:Int):=J;have afQ:(0:Int)<=(k:Int):=J;have Xi:(k:Int)<p.t:=by rw[Yj.out];omega
     have ka:=I U.size;have ir:=U;clear U;have U:=ir.base;go_upto_region 16 with(first|(refine g5 U rfl _ _ 54 rfl 59 .u64 8 cL fK 4 rfl rfl J am ?_;clear U;intro tl w U za;refine cN ?_)|(refine aq ?_)|(refine Ws U 27 ?_;clear U;intro hk w U om)|(refine Ws U 142 ?_;clear U;intro iC w U qP)|(refine Ws U 200 ?_;clear U;intro mX w U sv)|(refine ac2 U ?_;clear U;intro w U))
     replace Wy:=(U.Wu.cell (p:=⟨b,off+k,none⟩) (aj fC Pz.out.size) (ir.keeps (aj fC Mw.out.size) (by have:=cH.out;simp only;omega))).trans Wy;go_wp2_with(first|(refine g5 U rfl _ _ 54 rfl 59 .u64 8 cL fK 4 rfl rfl J am ?_;clear U;intro tl w U za;refine cN ?_)|(go_at_call 121;refine Calls.mono (w7 _ ado _ _ _ (WS.out.Wu (Z1.cg (U.AS Pz.out fun b hb=>ir.keeps (aj hb Mw.out.size) (by have:=cH.out;omega)))) uG (wy _)) ?_;rintro e aaM ⟨v',rfl,hv,N⟩;obtain⟨af3,ZM,rfl,-,-,-⟩:=id hv;have aaH:=U.below N;have hu:=I hv;have y9:=I (And.intro (U.b (g:=mX) ag).lt (And.intro (U.b (g:=tl) ag).lt U.size));clear U N hv;have U:=aaH.base)|(refine dE U rfl 140 196 _ rfl _ [.pointer (some ⟨mX,0,none⟩)] rfl rfl (.pointer none) 1 8 s0 wz rfl am am ?_;clear U;intro di w U dO;refine cN ?_)|(have dI:=U.size;refine g0 U (fT adS.own fun j aeD=>aaH.Wu.block j (adS.own.lt j aeD).2 ⟨fun x Wy e=>by have:=adS.new j aeD;have:=cH.out;have:=ka.out;have:=Je.out;simp only[ad,E,av]at Wy;rcases Wy with rfl|rfl<;>(simp only at e;omega),fun a e=>by cases e⟩) (fun j aeD=>⟨fun x Wy e=>by have:=adS.new j aeD;have:=cH.out;have:=ka.out;have:=(adS.own.lt j aeD).2;have:=Je.out;simp only[ad,E,av]at Wy;rcases Wy with rfl|rfl|rfl|rfl<;>(simp only at e;omega),fun a e=>by cases e⟩) rfl _ _ 140 rfl (.pointer none) 8 s0 wz rfl am rfl ⟨di,0,none⟩ 1 1 [.pointer (some ⟨mX,0,none⟩)] rfl rfl am (U.news ag) rfl (by unfold maxLen;omega) J ?_;clear U;intro g' cW lL w U e8 lm;replace e8:=e8.imp id (D dI);clear dI;refine cN ?_)|(refine aq ?_)|(refine Ws U 27 ?_;clear U;intro hk w U om)|(refine Ws U 142 ?_;clear U;intro iC w U qP)|(refine Ws U 200 ?_;clear U;intro mX w U sv)|(refine ac2 U ?_;clear U;intro w U));go_roundw
     case rel=>
      have aen:=U.b (g:=mX) ag;have Mr:=U.b (g:=tl) ag;have h1:=cH.out;have aaV:=Je.out;have acY:=aaH.Wu.mono (S':=fun b=>aeL.heap.size<=b) fun b _ hb=>⟨fun x Wy e=>by
       simp only[ad,E,av]at Wy;rcases Wy with rfl|rfl<;>(simp only at e;omega),fun a e=>by cases e⟩
      exact⟨k+1,_,put aaF k mX,put YS k tl,put aa3 k (.slice af3 (bj k).length ZM),J,by go_num,(((ir.back aaH).j5 U).mI (fun b hb e=>by have:=adS.new _ e;omega)).c6.c6.c6.c6,adS.app (gt:=mX) (gr:=tl) acY U cX aen Mr (fun x Wy=>by
       simp only[ad,E,av]at Wy;rcases Wy with rfl|rfl|rfl|rfl
       ·exact .inr (.inl rfl)
       ·exact .inr (.inr rfl)
       ·exact .inl (by simp only;omega)
       ·exact .inl (by simp only;omega)) ka.out e8 lm (acr.mono hu.out fun b _ hb=>by have:=y9.out;omega) J⟩
     case measure=>simp[intOf];omega
    ·obtain e:k=T:=by omega
     subst e;have Zh: ¬(k:Int)<p.t:=by rw[Yj.out];omega
     go_wp2_with(first|(refine aq ?_)|(refine Ws U 27 ?_;clear U;intro hk w U om)|(refine Ws U 142 ?_;clear U;intro iC w U qP)|(refine Ws U 200 ?_;clear U;intro mX w U sv)|(refine ac2 U ?_;clear U;intro w U));go_ret2;obtain⟨B,aal,abF,acL⟩:=Ms (w0:=w0) (U.b (g:=iC) ag) adS FZ.out fH.out AL.out y9.out U.Wu Je.out St.out ⟨tk.out.1.1,tk.out.2.1.1,tk.out.2.2.1.1,tk.out.2.2.2.1⟩ FY.out kS.out YQ.out;refine⟨B,?_,abF,dq,by rw[YQ.out];exact acL⟩;rw[aal];rfl
end
section
open Go.RowKit Tryz
theorem Jn(w0:World)(aff rg:Nat)(a4 aaY m z:Int)(l:List Ext)(hm:a4<=m/\0<=a4/\m %8=0)(aeN:1<=z/\z %8=0/\m+z<=aaY/\aaY<=65536)(cV:l.length<=65536)(YF:l.Pairwise fun x y=>x.a+x.z<=y.a)(Wy: ∀x,x∈l->0<=x.a/\x.a<=65536/\0<x.z/\x.z<=65536)(hd: ∀x,x∈l->x.a+x.z<=m\/m+z<=x.a)(afj:cY w0 aff rg a4 aaY l):
 Calls prog 284 #[.pointer (some ⟨aff,0,none⟩),.int .i64 m,.int .i64 z] w0 fun e w'=> ∃aO,e= .returned (.int .i64 0)/\cY w' aff aO a4 aaY (give l m z)/\(aO=rg\/w0.heap.size<=aO)/\Z1 (fun b=>b≠aff/\b≠rg) w0 w':=by
 obtain⟨v,hb,hv⟩:=afj.ex;rcases hv with⟨_,_,_,V1⟩|⟨cap,rest,rfl,abk,XP,c7,h0,l5⟩
 ·omega
 have Cu: ∀x,x∈l->0<=x.a/\x.a<=65536/\0<=x.z/\x.z<=65536:=fun x h=>by have:=Wy x h;omega
 obtain⟨pre,post,rfl,h1,aaV⟩:=Fy l m;cases post with
 |nil=>
  rw[br]at abk hb XP cV Cu⊢;by_cases O4:cap=pre.length
  ·exact Gv w0 aff rg a4 aaY m z pre hm aeN cV h1 Cu cap rest abk XP O4 c7 l5 hb
  ·exact Gx w0 aff rg a4 aaY m z pre hm aeN cV h1 Cu cap rest abk XP J c7 l5 hb
 |cons y post=>
  have hy:=aaV y rfl;have qS:=hd y aN;exact Jm w0 aff rg a4 aaY m z pre post y hm aeN cV h1 hy J Cu cap rest abk XP c7 l5 hb
end
section
open Go.RowKit Tryz
theorem oY{G:Prop}(h:G:=by
 exact⟨⟨.slice W9 r.chain.length adX,.slice aeQ r.list.length acN,.slice acG r.said.length aeb,.slice aeU r.said.length aaP⟩,rg,rfl,kj.bB,gw.out.Wu (kj.Wu.block _ gw.out.lt.1 oc.out.1) (kj.Wu.block _ gw.out.lt.2 oc.out.2),.inl rfl,⟨adS.ads,adS.ls,adS.Wh,qO⟩,Yq.Wu⟩):G:=h
theorem k2{G:Prop}(h:G:=by
 have iF:(0:Int)<=(k:Int):=by omega
 obtain⟨⟨st,Xf,YX,afB⟩,VG⟩: ∃c,Wi V k=c:=⟨_,rfl⟩
 have VI:(st !=0)=true:=by have:=dU k (by omega);rw[VG]at this;simpa using this
 have Gy:=I (ft k bW);have Dz:=I (show Wi V (Int.toNat (k:Int))=_ from VG);clear VG;go_wp2_with(first|(go_at_call 154;refine a6 U (jF _ p ap WC n V _ (U.jZ Zn.out) aeJ (by omega) abi Gy.out) ?_;clear U;intro aaM U;rw[Dz.out])|(refine aq ?_)|(refine aT ?_;clear U;intro X8 w U aay));go_roundw
 case rel=>exact⟨k+1,by omega,by go_num,by rw[pY.out];exact U.c6⟩
 case measure=>simp[intOf];omega):G:=h
theorem oZ{G:Prop}(h:G:=by
 go_enter func263,ntmps263;go_wp2_with(first|(go_at_call 154;refine a6 U (jF _ p ap WC n V _ (U.jZ Zn.out) aeJ ae3 abi acq.out) ?_;clear U;intro aaM U;(try rw[YT.out]))|(refine aq ?_)|(refine aT ?_;clear U;intro X8 w U aay));go_ret;exact⟨rfl,U.all⟩):G:=h
theorem aah.ground{w0 w aaM:World}{L:List abN}{ap WC n:Nat}{V:Nat->Int}{aff rg aO:Nat}(h:aah w0 (fun _=>True) w none L)(Xg:ar w0 ap WC n V)(bV:aff<w0.heap.size/\rg<w0.heap.size)(dK:ap≠aff/\ap≠rg/\WC≠aff/\WC≠rg)(k:Z1 (fun b=>b≠aff/\b≠rg) w aaM)(cT:aO=rg\/w.heap.size<=aO):
 aah w0 (fun b=>b≠WC/\b≠aff/\b≠rg) aaM (some ⟨ap,WC,n,V⟩) L/\bq (some ⟨ap,WC,n,V⟩) L aff/\bq (some ⟨ap,WC,n,V⟩) L aO:=by
 have hY: ∀x,x∈L->w0.heap.size<=x.g:=fun x Wy=>by
  rcases h.fr x Wy with c|c
  ·exact c
  ·exact absurd trivial c
 have YJ:=ar.c9 Xg;obtain⟨aeB,Wa,abh,agc⟩:=dK;refine⟨(h.Ot (S:=fun b=>b≠WC/\b≠aff/\b≠rg) Xg (fun h=>h.1 rfl)).kept k ?_,⟨fun x Wy e=>?_,fun a e abF=>?_⟩,?_⟩
 ·intro b hb abi;have be:b=aff\/b=rg:=by
   apply Classical.byContradiction;intro c;exact abi ⟨fun e=>c (.inl e),fun e=>c (.inr e)⟩
  refine⟨fun x Wy e=>?_,.inr ?_,fun a e=>?_⟩
  ·have:=hY x Wy;rw[e]at this;rcases be with rfl|rfl<;>omega
  ·rintro⟨_,aaV,ZV⟩;rcases be with c|c
   ·exact aaV c
   ·exact ZV c
  ·cases e;rcases be with rfl|rfl
   ·exact⟨fun e=>aeB e.symm,fun e=>abh e.symm⟩
   ·exact⟨fun e=>Wa e.symm,fun e=>agc e.symm⟩
 ·have:=hY x Wy;rw[e]at this;omega
 ·cases e;exact abh abF.symm
 ·rcases cT with rfl|cT
  ·refine⟨fun x Wy e=>?_,fun a e abF=>?_⟩
   ·have:=hY x Wy;rw[e]at this;omega
   ·cases e;exact agc abF.symm
  ·refine⟨h.nx cT,fun a e abF=>?_⟩;cases e;have:=h.size;simp only at abF;omega
theorem Jo{x:Int}(YM:0<=x)(h1:x<=16777216):bits .and .i64 x 16777215=x %16777216:=by
 obtain⟨dw,rfl⟩:=bn YM;have:=(bits_nat .i64 63 am gM dw 16777215 J J).1;rw[show(16777215:Int)=((16777215:Nat):Int)from rfl,this];have e:dw &&& 16777215=dw %16777216:=cD (n:=24) ..;rw[e];rfl
section
variable(w0:World)(p:afy)(ap WC n:Nat)(V:Nat->Int)(aff:Nat)(k:Int)(Xg:ar w0 ap WC n V)(aeJ:a9 p)(ae3:0<=k/\k<p.s)(abi:8*p.s<=n)(ok:okW (V (8*k.toNat)))(st Xf YX afB:Int)(XP:Wi V k.toNat=⟨st,Xf,YX,afB⟩)
include w0 p ap WC n V aff k Xg aeJ ae3 abi ok st Xf YX afB XP
theorem Jp(cx:st=0):
 Calls prog 263 #[ux p ap k,.pointer (some ⟨aff,0,none⟩)] w0 fun e w'=>e= .returned (.int .i64 11)/\Below w0.heap.size w0 w':=by
 have U:=aah.a0 w0;have Zn:=I Xg;have acq:=I ok;have YT:=I XP;clear Xg ok XP;subst cx;have VI:((0:Int)==0)=true:=rfl;exact oZ
theorem Jq(cx:st≥2):
 Calls prog 263 #[ux p ap k,.pointer (some ⟨aff,0,none⟩)] w0 fun e w'=>e= .returned (.int .i64 12)/\Below w0.heap.size w0 w':=by
 have U:=aah.a0 w0;have Zn:=I Xg;have acq:=I ok;have YT:=I XP;clear Xg ok XP;have VI:(st==0)=false:=by simp;omega
 have WJ:(st==1)=false:=by simp;omega
 exact oZ
end
theorem Jr(w0:World)(p:afy)(ap WC n:Nat)(V:Nat->Int)(aff rg:Nat)(a4 aaY:Int)(fr:List Ext)(k:Int)(Xg:ar w0 ap WC n V)(afj:cY w0 aff rg a4 aaY fr)(dK:ap≠aff/\ap≠rg/\WC≠aff/\WC≠rg)(aeJ:a9 p)(ae3:0<=k/\k<p.s)(abi:8*p.s<=n)(ok:okW (V (8*k.toNat)))(Xf YX afB:Int)(XP:Wi V k.toNat=⟨1,Xf,YX,afB⟩)
 (m z:Int)(lH:V (8*k.toNat+1)=m)(bz:V (8*k.toNat+2)=z)(hm:a4<=m/\0<=a4/\m %8=0)(aeN:1<=z/\z %8=0/\m+z<=aaY/\aaY<=65536)(cV:fr.length<=65536)(YF:fr.Pairwise fun x y=>x.a+x.z<=y.a)(Wy: ∀x,x∈fr->0<=x.a/\x.a<=65536/\0<x.z/\x.z<=65536)(hd: ∀x,x∈fr->x.a+x.z<=m\/m+z<=x.a):
 Calls prog 263 #[ux p ap k,.pointer (some ⟨aff,0,none⟩)] w0 fun e w'=> ∃aO,e= .returned (.int .i64 0)/\ar w' ap WC n (upd (upd (upd V (8*k.toNat) (afa ⟨0,0,-1,(afB+1)%16777216⟩)) (8*k.toNat+1) 0) (8*k.toNat+2) 0)/\cY w' aff aO a4 aaY (give fr m z)/\(aO=rg\/w0.heap.size<=aO)/\Z1 (fun b=>b≠WC/\b≠aff/\b≠rg) w0 w':=by
 have U:=aah.a0 w0;have Zn:=I Xg;have acq:=I ok;have YT:=I XP;have aaq:=I afj;have cH:=I afj.lt;have MN:=I (show V (8*k.toNat+Int.toNat 1)=m from lH);have y9:=I (show V (8*k.toNat+Int.toNat 2)=z from bz);have WS:=I cV;have aeO:=I YF;have VN:=I Wy;have afG:=I hd;replace dK:=I dK;have il:=ok.ok.afB;have Js:=I (show hZ ⟨0,0,-1,(afB+1)%16777216⟩from by have:=il;rw[show up (V (8*k.toNat))=Wi V k.toNat from rfl,XP]at this;exact⟨by simp only at this⊢;omega,aN,aN,aN⟩);have aal:IntKind.i64.wrap (afB+1)=afB+1:=by rw[IntKind.wrap_i64];rw[show up (V (8*k.toNat))=Wi V k.toNat from rfl,XP]at il;simp only at il;omega
 have abF:bits .and .i64 (afB+1) 16777215=(afB+1)%16777216:=by
  rw[show up (V (8*k.toNat))=Wi V k.toNat from rfl,XP]at il;simp only at il;exact Jo J J
 have WJ:((1:Int)==0)=false:=rfl;have q1:IntKind.i64.wrap m=m:=by rw[IntKind.wrap_i64];omega
 have Xt:IntKind.i64.wrap z=z:=by rw[IntKind.wrap_i64];omega
 clear Xg ok XP afj cV YF Wy hd il lH bz;go_enter func263,ntmps263;go_wp2_with(first|(go_at_call 154;refine a6 U (jF _ p ap WC n V _ (U.jZ Zn.out) aeJ ae3 abi acq.out) ?_;clear U;intro aaM U;(try rw[YT.out]))|(refine aq ?_)|(refine aT ?_;clear U;intro X8 w U aay));replace U:=U.drew;refine b0 ?_;intro X;refine az [[0,1,4]] ?_;refine aF 2 fun K Z7=>?_;go_simp
 (go_at_call 316;refine a6 U (BN _ p ap WC n V k 1 (U.jZ Zn.out) aeJ ae3 J abi) ?_;clear U;intro aaM U;rw[MN.out])
 go_wp2_with fail;refine abR Z7 fun X=>?_;refine Xh 3 ?_;refine aF 5 fun K Z7=>?_;go_simp
 (go_at_call 316;refine a6 U (BN _ p ap WC n V k 2 (U.jZ Zn.out) aeJ ae3 J abi) ?_;clear U;intro aaM U;rw[y9.out])
 go_wp2_with fail;refine abR Z7 fun X=>?_;refine Xh 6 ?_;refine aF 7 fun K Z7=>?_;go_simp
 (go_at_call 284;refine Calls.mono (Jn _ aff rg a4 aaY m z fr hm aeN WS.out aeO.out VN.out afG.out (aaq.out.Wu (U.all.block _ cH.out.1) (U.all.block _ cH.out.2))) ?_;rintro e aaM ⟨aO,rfl,dP,cT,aX⟩;obtain⟨aaH,Zd,adQ⟩:=U.ground Zn.out cH.out dK.out aX cT;have iG:=I (cT.imp id fun h=>D U.size h);have gw:=I dP;have oc:=I (And.intro Zd adQ);clear U dP cT aX Zd adQ;have U:=aaH.base)
 go_wp2_with fail;refine abR Z7 fun X=>?_;refine adB ?_;go_wp2_with(first|(go_at_call 200;refine Calls.mono (AJ _ p ap WC n _ k ⟨0,0,-1,(afB+1)%16777216⟩ U.bB aeJ ae3 abi Js.out) ?_;rintro e aaM ⟨rfl,aH,N⟩;replace U:=U.arena aH N;clear aH N)|(go_at_call 201;refine Calls.mono (tw _ p ap WC n _ k _ 0 U.bB aeJ ae3 J abi am) ?_;rintro e aaM ⟨rfl,aH,N⟩;replace U:=U.arena aH N;clear aH N)|(refine aq ?_)|(refine aT ?_;clear U;intro X8 w U aay));go_ret;have Yq:=aaH.back U;exact⟨aO,rfl,U.bB,gw.out.Wu (U.Wu.block _ gw.out.lt.1 oc.out.1) (U.Wu.block _ gw.out.lt.2 oc.out.2),iG.out,Yq.Wu⟩
end
section
open Go.RowKit Tryz
theorem Gz(w0:World)(S:Nat->Prop)(p:afy)(ap WC n:Nat)(V:Nat->Int)(aff rg:Nat)(a4 aaY:Int)(fr:List Ext)(r:aax)(x:Yr)(Xg:ar w0 ap WC n V)(afj:cY w0 aff rg a4 aaY fr)(abk:aW w0 S r x)(bE:dx r)(hS: ∀b,b<w0.heap.size->S b->b≠WC/\b≠aff/\b≠rg)(dK:ap≠aff/\ap≠rg/\WC≠aff/\WC≠rg)(hd:r.fin=false)(a5:r.Xj=1)(aeJ:a9 p)(abi:8*p.s<=n)(nb:r.call.op≠3)(dv:1<=r.call.a/\r.call.a<=8192)(ft: ∀s:Nat,s<p.s->okW (V (8*s)))(dU: ∀j:Nat,j<p.s->(Wi V j).st≠0):
 Calls prog 185 #[ej p,.pointer (some ⟨ap,0,none⟩),.pointer (some ⟨aff,0,none⟩),.agg (aY r x)] w0 fun e w'=> ∃x' aO,e= .returned (.tuple #[.agg (aY (tell r 13 0) x'),.int .i64 0])/\ar w' ap WC n V/\cY w' aff aO a4 aaY fr/\(aO=rg\/w0.heap.size<=aO)/\aW w' (fun b=>(S b\/w0.heap.size<=b)/\b≠WC/\b≠aff/\b≠aO) (tell r 13 0) x'/\Z1 (fun b=>b≠WC/\b≠aff/\b≠rg) w0 w':=by
 obtain⟨W9,adX,aeQ,acN,acG,aeb,af3,ZM,rfl⟩:=eW abk;have U:=aah.a0 w0;have Zn:=I Xg;have aaq:=I afj;have cH:=I afj.lt;have aby:=I abk;have fE:=I a5;have ach:=I hd;have fb:=aeJ.s;replace dK:=I dK;have aa1:(r.Xj !=1)=false:=by simp[a5]
 have hop:(r.call.op==3)=false:=by simpa using nb
 clear Xg afj abk a5 hd nb;go_enter func185,ntmps185;go_upto_region 5 with(first|(refine g1 ach ?_)|(refine aq ?_)|(refine aT ?_;clear U;intro X8 w U aay))
 obtain⟨abK,rO,U⟩: ∃abK,abK=_/\aah w0 _ _ none abK:=⟨_,rfl,U⟩
 have pY:=I rO;rw[rO]at U;go_wp2_with(first|(refine aq ?_)|(refine aT ?_;clear U;intro X8 w U aay));rw[<-rO]at U;clear rO;have eB:=I U;clear U;go_loopw [42] (fun i wr=> ∃k:Nat,k<=p.s.toNat/\i= .int .i64 k/\aah w0 (fun _=>True) wr none abK) (fun i _=>p.s.toNat-(intOf i).toNat)
 case atStart=>exact⟨0,J,rfl,eB.out⟩
 case round=>
  obtain⟨k,ae3,rfl,U⟩:=hrel;clear eB;rw[pY.out]at U;by_cases bV:k<p.s.toNat
  ·have bW:(k:Int)<p.s:=by omega
   exact k2
  ·obtain rfl:k=p.s.toNat:=by omega
   have UG:((p.s.toNat:Nat):Int)=p.s:=J;have Zh:decide (((p.s.toNat:Nat):Int)<p.s)=false:=by simp;omega
   go_wp2_with(first|(go_at_call 184;refine Calls.mono (hg _ _ r ⟨.slice W9 r.chain.length adX,.slice aeQ r.list.length acN,.slice acG r.said.length aeb,.slice af3 r.aC.said.length ZM⟩ _ _ (aby.out.Wu (U.Wu.mono fun _ _ _=>trivial)) bE) ?_;rintro e aaM ⟨v',rfl,bD,N⟩;obtain⟨aeU,aaP,rfl,-,-,-⟩:=id bD;have hv:=U.eh bD;clear bD;have aaH:=U.below N;clear U N;have U:=aaH.base)|(refine aq ?_)|(refine aT ?_;clear U;intro X8 w U aay));refine aZ results185 rfl rfl ⟨_,U.b ag,rfl⟩ underlying198 rfl aM ?_;have c4:=aaH.back U;have adS:=(aby.out.mono (S':=fun b=>(S b\/w0.heap.size<=b)/\b≠WC/\b≠aff/\b≠rg) (fun b hb h=>⟨.inl h,hS b hb h⟩)).Wu (c4.Wu.mono fun _ _ _=>trivial);have qO:=(U.carry hv fun b _ h=>h.2).mono (S':=fun b=>(S b\/w0.heap.size<=b)/\b≠WC/\b≠aff/\b≠rg) fun b _ h=>⟨.inr h.1,by have:=ar.c9 Zn.out;have:=cH.out;have:=h.1;omega,by have:=ar.c9 Zn.out;have:=cH.out;have:=h.1;omega,by have:=ar.c9 Zn.out;have:=cH.out;have:=h.1;omega⟩
   exact⟨⟨.slice W9 r.chain.length adX,.slice aeQ r.list.length acN,.slice acG r.said.length aeb,.slice aeU r.said.length aaP⟩,rg,rfl,c4.jZ Zn.out,aaq.out.Wu (c4.all.block _ cH.out.1) (c4.all.block _ cH.out.2),.inl rfl,⟨adS.ads,adS.ls,adS.Wh,qO⟩,c4.Wu.mono fun _ _ _=>trivial⟩
end
end Go.Proofs.YtcimojgkeoecfaaGreat
