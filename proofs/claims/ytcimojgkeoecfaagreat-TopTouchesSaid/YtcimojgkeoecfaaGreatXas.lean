import Derived.Test.YtcimojgkeoecfaaGreatXar
set_option linter.all false
set_option maxHeartbeats 16000000
set_option maxRecDepth 100000
namespace Go.Proofs.YtcimojgkeoecfaaGreat
section
theorem nN{G:Prop}(h:G:=by
 have fZ:=S.inv.ht YF ZQ;have Is:=S.inv.eb YF fZ.1;exact⟨Z2 _ (by omega),Z2 _ (by omega)⟩):G:=h
abbrev ahead(x y:Ext):Prop:=x.a+x.z<=y.a
theorem sR{l l':List Ext}{m a:Int}(h:hU l m=some (a,l'))(YF:l.Pairwise ahead)(aeN: ∀y,y∈l->0<y.z)(hm:0<m):
 ∃x,x∈l/\a=x.a/\m<=x.z/\l'.Pairwise ahead/\∀y,y∈l'->(y∈l/\(y.a+y.z<=a\/a+m<=y.a))\/(y.a=a+m/\y.z=x.z-m/\0<y.z):=by
 induction l generalizing l' with
 |nil=>cases h
 |cons x l aes=>
  rw[b3]at YF;unfold hU at h;by_cases c:m<=x.z
  ·rw[Z c]at h;injection h with h
   injection h with h1 aaV
   refine⟨x,aN,h1.symm,c,?_,?_⟩
   ·rw[<-aaV];by_cases adr:x.z=m
    ·rw[Z adr];exact YF.2
    ·rw[Y adr,b3];refine⟨fun y hy=>?_,YF.2⟩;have:=YF.1 y hy;show x.a+m+(x.z-m)<=y.a;unfold ahead at this;omega
   ·intro y hy;rw[<-aaV]at hy;have after: ∀y,y∈l->y∈x::l/\(y.a+y.z<=a\/a+m<=y.a):=fun y hy=>by
     have:=YF.1 y hy;unfold ahead at this;exact⟨by simp[hy],.inr J⟩
    by_cases adr:x.z=m
    ·rw[Z adr]at hy;exact .inl (after y hy)
    ·rw[Y adr]at hy;rcases List.mem_cons.1 hy with rfl|hy
     ·right;exact⟨by show x.a+m=_;omega,rfl,by show 0<x.z-m;omega⟩
     ·exact .inl (after y hy)
  ·rw[Y c]at h;cases e:hU l m with
   |none=>rw[e]at h;cases h
   |some r=>
    obtain⟨b,r⟩:=r;rw[e]at h;injection h with h
    injection h with h1 aaV
    obtain rfl:b=a:=h1;obtain⟨y,sg,jP,E8,Sb,OU⟩:=aes e YF.2 fun y hy=>aeN y (by simp[hy]);have OV:=YF.1 y sg;unfold ahead at OV;refine⟨y,by simp[sg],jP,E8,?_,?_⟩
    ·rw[<-aaV,b3];refine⟨fun z c5=>?_,Sb⟩;unfold ahead;rcases OU z c5 with⟨h,_⟩|⟨h,_,_⟩
     ·exact YF.1 z h
     ·omega
    ·intro z c5;rw[<-aaV]at c5;rcases List.mem_cons.1 c5 with XX|c5
     ·rw[XX];exact .inl ⟨aN,.inl J⟩
     ·rcases OU z c5 with⟨h,ZV⟩|h
      ·exact .inl ⟨by simp[h],ZV⟩
      ·exact .inr h
theorem yy{l:List Ext}{x y:Ext}(h:y∈q6 l x):y=x\/y∈l:=by
 induction l with
 |nil=>exact .inl (by simpa [q6]using h)
 |cons z l aes=>
  unfold q6 at h;split at h
  ·rcases List.mem_cons.1 h with h|h
   ·exact .inl h
   ·exact .inr h
  ·rcases List.mem_cons.1 h with h|h
   ·exact .inr (by simp[h])
   ·rcases aes h with h|h
    ·exact .inl h
    ·exact .inr (by simp[h])
theorem yz{l:List Ext}{x:Ext}(YF:l.Pairwise ahead)(aeN: ∀y,y∈l->0<y.z)(Wy:0<x.z)(hd: ∀y,y∈l->y.a+y.z<=x.a\/x.a+x.z<=y.a):(q6 l x).Pairwise ahead:=by
 induction l with
 |nil=>simp[q6]
 |cons z l aes=>
  have At:=YF;rw[b3]at YF;unfold q6;have h1:=hd z aN;have aaV:=aeN z aN;split
  ·next c=>
   rw[b3];refine⟨fun y hy=>?_,At⟩;unfold ahead;rcases List.mem_cons.1 hy with rfl|hy
   ·omega
   ·have:=YF.1 y hy;unfold ahead at this;omega
  ·next c=>
   rw[b3];refine⟨fun y hy=>?_,aes YF.2 (fun y hy=>aeN y (by simp[hy])) (fun y hy=>hd y (by simp[hy]))⟩;unfold ahead;rcases yy hy with rfl|hy
   ·omega
   ·exact YF.1 y hy
theorem CI(P:Ext->Prop)(XG: ∀x y:Ext,P x->P y->x.a+x.z=y.a->P ⟨x.a,x.z+y.z⟩)(l:List Ext): ∀x,P x->(∀y,y∈l->P y)->∀z,z∈lY x l->P z:=by
 induction l with
 |nil=>
  intro x Wy _ z aeN;have e:z=x:=by simpa [lY]using aeN
  rw[e];exact Wy
 |cons y l aes=>
  intro x Wy YJ z aeN;unfold lY at aeN;split at aeN
  ·next c=>exact aes _ (XG x y Wy (YJ y aN) c) (fun y hy=>YJ y (by simp[hy])) z aeN
  ·rcases List.mem_cons.1 aeN with h|h
   ·rw[h];exact Wy
   ·exact aes y (YJ y aN) (fun y hy=>YJ y (by simp[hy])) z h
theorem xj(l:List Ext): ∀x,(x::l).Pairwise ahead->0<x.z->(∀y,y∈l->0<y.z)->(lY x l).Pairwise ahead/\∀z,z∈lY x l->x.a<=z.a:=by
 induction l with
 |nil=>
  intro x _ _ _;refine⟨by simp[lY],fun z aeN=>?_⟩;have e:z=x:=by simpa [lY]using aeN
  rw[e];exact Int.le_refl _
 |cons y l aes=>
  intro x YF Wy aeN;rw[b3]at YF;have h1:=YF.1 y aN;have aaV:=aeN y aN;unfold ahead at h1;unfold lY;split
  ·next c=>
   refine aes ⟨x.a,x.z+y.z⟩ ?_ (by show 0<x.z+y.z;omega) (fun y hy=>aeN y (by simp[hy]));rw[b3];have ZV:=List.pairwise_cons.1 YF.2;refine⟨fun z c5=>?_,ZV.2⟩;have:=ZV.1 z c5;unfold ahead at*;show x.a+(x.z+y.z)<=z.a;omega
  ·have ZV:=aes y YF.2 aaV (fun y hy=>aeN y (by simp[hy]));refine⟨?_,?_⟩
   ·rw[b3];refine⟨fun z c5=>?_,ZV.1⟩;have:=ZV.2 z c5;unfold ahead;omega
   ·intro z c5;rcases List.mem_cons.1 c5 with h|h
    ·rw[h];exact Int.le_refl _
    ·have Ya:=ZV.2 z h;omega
theorem Fa{l:List Ext}{a z:Int}(P:Ext->Prop)(XG: ∀x y:Ext,P x->P y->x.a+x.z=y.a->P ⟨x.a,x.z+y.z⟩)(YF:l.Pairwise ahead)(YJ: ∀y,y∈l->P y)(YM: ∀y,P y->0<y.z)(Wy:P ⟨a,z⟩)(hd: ∀y,y∈l->y.a+y.z<=a\/a+z<=y.a):
 (give l a z).Pairwise ahead/\∀y,y∈give l a z->P y:=by
 have h1:=yz (x:=⟨a,z⟩) YF (fun y hy=>YM y (YJ y hy)) (YM _ Wy) hd;have aaV: ∀y,y∈q6 l ⟨a,z⟩->P y:=by
  intro y hy;rcases yy hy with h|h
  ·rw[h];exact Wy
  ·exact YJ y h
 unfold give;split
 ·exact⟨List.Pairwise.nil,fun y hy=>by cases hy⟩
 ·next x l' e=>
  rw[e]at h1 aaV;exact⟨(xj l' x h1 (YM x (aaV x aN)) (fun y hy=>YM y (aaV y (by simp[hy])))).1,CI P XG l' x (aaV x aN) (fun y hy=>aaV y (by simp[hy]))⟩
theorem th{V:Nat->Int}{n s:Nat}(h:fv V n=some s):s<n/\(Wi V s).st=0:=by
 unfold fv at h;have h1:=List.find?_some h;have aaV:=List.mem_of_find?_eq_some h;exact⟨List.mem_range.1 aaV,by simpa using h1⟩
section
variable{p:afy}{F:b1}{n:Nat}{W W':Wd}{O:Nat->List Zr}{VM:Nat->Option Nat}{t:Nat}
theorem CJ(S:mD p F n W W' O VM t)(h1:(W.XT t).run.Xj=1)(ae3:(W.XT t).run.call.op=2/\1<=(W.XT t).run.call.a/\(W.XT t).run.call.a<=8192\/(W.XT t).run.call.op=3/\1<=(W.XT t).run.call.a/\(W.XT t).run.call.a<p.s):dm p F n W W' O VM t:=by
 have e:one p F n W.V W.fr (W.XT t).run=gO p W.V W.fr (W.XT t).run:=by unfold one;rw[aB,Z h1]
 have Yg:=S.V;have acA:=S.fr;have Wy:=S.acD;have R:=S.inv.acg t S.lt S.busy;have aeJ:=S.inv.pl;have fb:=aeJ.s;have LA:=aeJ.i;have LB:=aeJ.h;have vH:=S.inv.abf;have aaY:=S.inv.aaY t S.lt;have pW: ¬((W.XT t).run.call.op=5/\17<=(W.XT t).run.Xj):=J;have bo:(W.XT t).run.call.op≠4/\(W.XT t).run.call.op≠5/\(W.XT t).run.call.op≠6:=J;have nobody: ∀k:Nat,1<=k->k<p.s->(Wi W.V k).st<2->within W p.t.toNat k=0/\∀u:Nat,u<p.t->u≠t->¬reach (W.XT u).aD k:=by
  intro k aX bW cx;have aeN:=(S.inv.Xf k aX bW).2.2 cx;refine⟨aeN,fun u hu kd abk=>?_⟩;exact nH
 unfold dm;rw[e]at Yg acA Wy⊢;unfold gO at Yg acA Wy⊢;rcases ae3 with⟨aaV,Xg⟩|⟨ZV,Xg⟩
 ·rw[aB]at Yg acA Wy⊢;cases tT:fv W.V p.s.toNat with
  |none=>
   rw[tT]at Yg acA Wy;exact⟨O,VM,gu S.inv S.lt S.busy Wy Yg acA rfl rfl pW (fun _=>bo)⟩
  |some k=>
   rw[tT]at Yg acA Wy;have iF:=th tT;have bW:(k:Int)<p.s:=J;have gk:=S.inv.Zt k bW;have aX:1<=k:=by
    rcases aQ k with h|h
    ·subst h;have:=(gk.zero rfl).1;rw[this]at iF;exact absurd iF.2 am
    ·exact h
   simp only at Yg acA Wy⊢;cases XP:hU W.fr (((W.XT t).run.call.a+7)/8*8)with
   |none=>
    rw[XP]at Yg acA Wy;exact⟨O,VM,gu S.inv S.lt S.busy Wy Yg acA rfl rfl pW (fun _=>bo)⟩
   |some r=>
    obtain⟨a,w5⟩:=r;rw[XP]at Yg acA Wy;simp only at Yg acA Wy⊢;obtain⟨m,hm⟩: ∃m,((W.XT t).run.call.a+7)/8*8=m:=⟨_,rfl⟩
    rw[hm]at Yg XP;have E3:8<=m/\m<=8192/\m %8=0:=J;obtain⟨x,IG,Uv,Uw,LL,Fb⟩:=sR XP S.inv.fs (fun y hy=>by have:=S.inv.fr y hy;omega) J;have LM:=S.inv.fr x IG;have iy:hZ ⟨1,0,-1,(Wi W.V k).afB⟩:=by
     have:=gk.ft.ok.afB;exact⟨this,aN,aN,aN⟩
    have Xr:W'.V (8*k)=afa ⟨1,0,-1,(Wi W.V k).afB⟩:=by rw[Yg];rw[aw _ _ J,aw _ _ J,aw _ _ J,aw _ _ J,aP]
    have Zv:bs W'.V k=a:=by show W'.V (8*k+1)=a;rw[Yg];rw[aw _ _ J,aw _ _ J,aw _ _ J,aP]
    have WP:agh W'.V k=m:=by show W'.V (8*k+2)=m;rw[Yg];rw[aw _ _ J,aw _ _ J,aP]
    have Yv:adh W'.V k=0:=by show W'.V (8*k+3)=0;rw[Yg];rw[aw _ _ J,aP]
    have X4:W'.V (8*k+4)=0:=by rw[Yg,aP]
    have Z2: ∀i,¬(8*k<=i/\i<8*k+5)->W'.V i=W.V i:=fun i h=>by rw[Yg];rw[aw _ _ J,aw _ _ J,aw _ _ J,aw _ _ J,aw _ _ J]
    have hh:Wi W'.V k=⟨1,0,-1,(Wi W.V k).afB⟩:=by unfold Wi;rw[Xr,ni iy];rfl
    have ab9: ∀s:Nat,s<p.s->s≠k->hs W.V W'.V O O VM VM s:=fun s YF abi=>⟨fun j aeD=>Z2 _ J,rfl,rfl⟩
    have aaH:=gk.no.1 J;have b7:=Wy.end_ rfl;have eO:(W'.XT t).aD=(W.XT t).aD:=by rw[b7];exact iV _ (fun _=>bo)
    have ky:=eH (T:=p.t.toNat) (t:=t) (by have:=S.lt;omega) Wy.other k;rw[eO]at ky;have V5:=nobody k aX bW J;refine⟨O,VM,?_,?_,?_,?_⟩
    ·refine S.inv.upd S.lt bW Wy.other ab9 ?_ ?_ ?_ ?_ ?_ ?_ ?_ ?_ ?_ ?_ ?_ ?_ ?_ ?_ (.inl V5.2) ?_ ?_
     ·intro s YF abi o ZQ;exact nN
     ·rw[aaH.1,aaH.2];refine⟨by rw[Xr];exact iy.w,fun h=>J,fun _ _=>by rw[Zv,WP];omega,fun _=>by rw[WP,Yv];omega,fun o ZQ=>(by cases ZQ),fun h=>?_,fun q VX=>(by cases VX),⟨fun _=>⟨rfl,rfl⟩,fun _=>rfl⟩,fun _=>Yv⟩;rw[hh]at h;exact absurd h (by show¬(2:Int)<=1;decide)
     ·intro s lW YF abi _ cx _;have:=S.inv.fd x IG s lW YF cx;rw[Zv,WP];omega
     ·intro y hy;rw[acA]at hy;rcases Fb y hy with h|h
      ·exact S.inv.fr y h.1
      ·omega
     ·rw[acA];exact LL
     ·intro y hy s lW YF cx;rw[acA]at hy;by_cases c:s=k
      ·subst c;rw[Zv,WP];rcases Fb y hy with h|h
       ·exact h.2
       ·right;omega
      ·have g:=ab9 s YF c;rw[g.Wi]at cx;rw[g.bs,g.agh];rcases Fb y hy with h|h
       ·exact S.inv.fd y h.1 s lW YF cx
       ·have:=S.inv.fd x IG s lW YF cx;omega
     ·intro i;by_cases c:8*k<=i/\i<8*k+5
      ·rcases(by omega:i=8*k\/i=8*k+1\/i=8*k+2\/i=8*k+3\/i=8*k+4)with h|h|h|h|h
       ·rw[h,Xr];have:=iy.aas;omega
       ·rw[h];show 0<=bs W'.V k/\bs W'.V k<_;rw[Zv];omega
       ·rw[h];show 0<=agh W'.V k/\agh W'.V k<_;rw[WP];omega
       ·rw[h];show 0<=adh W'.V k/\adh W'.V k<_;rw[Yv];decide
       ·rw[h,X4];decide
      ·rw[Z2 i c];exact S.inv.jd i
     ·intro i hi;by_cases c:8*k<=i/\i<8*k+5
      ·exfalso;apply hi;rcases(by omega:i=8*k\/i=8*k+1\/i=8*k+2\/i=8*k+3\/i=8*k+4)with h|h|h|h|h
       ·rw[h,Xr];exact c2 (by have:=iy.aas;omega)
       ·rw[h];show ku (bs W'.V k);rw[Zv];exact c2 J
       ·rw[h];show ku (agh W'.V k);rw[WP];exact c2 J
       ·rw[h];show ku (adh W'.V k);rw[Yv];exact c2 am
       ·rw[h,X4];exact c2 am
      ·rw[Z2 i c]at hi;exact S.inv.qB i hi
     ·rw[eO];exact aaY
     ·intro s _;rw[eO]
     ·intro _;rw[hh];exact⟨fun h=>absurd (show(1:Int)=2 from h) am,fun h=>absurd (show(1:Int)=3 from h) am,fun _=>J⟩
     ·intro s _ hd;exact absurd hd (S.fU (.inr J) s)
     ·intro _ h;rw[hh]at h;exact absurd (show(1:Int)=3 from h) am
     ·intro h6;rw[b7,eA]at h6;cases h6
     ·rw[b7];exact fj (S.inv.rg t S.lt)
     ·rw[b7,es];exact S.inv.ZS t S.lt
    ·refine⟨fun s YF=>.inl ?_,fun s YF _ aaV=>?_⟩
     ·by_cases c:s=k
      ·subst c;rw[hh]
      ·rw[(ab9 s YF c).Wi]
     ·by_cases c:s=k
      ·subst c;omega
      ·rw[(ab9 s YF c).Wi];exact⟨aaV,fun c5=>⟨c5,fun o ZQ=>⟨o,ZQ,rfl,rfl,rfl,rfl,fun _=>rfl⟩⟩⟩
    ·show _+(W.XT t).run.n.toNat<=_;omega
    ·intro j aeD;have E2:8*k<=j/\j<8*k+5:=Classical.byContradiction fun c=>aeD (Z2 j c);refine⟨k,?_,bW,.inl ⟨E2,?_⟩⟩
     ·show about (tell (W.XT t).run 0 k) _=_;unfold about;simp[tell,aaV]
     ·show(W.XT t).run.call.op≠9;omega
 ·rw[Z ZV]at Yg acA Wy⊢;obtain⟨k,XD⟩: ∃k:Nat,(W.XT t).run.call.a=k:=⟨(W.XT t).run.call.a.toNat,J⟩
  have jf:(W.XT t).run.call.a.toNat=k:=J;have bW:(k:Int)<p.s:=J;have aX:1<=k:=J;have gk:=S.inv.Zt k bW;simp only[jf]at Yg acA Wy⊢;by_cases VI:(Wi W.V k).st=0
  ·rw[Z VI]at Yg acA Wy⊢;exact⟨O,VM,gu S.inv S.lt S.busy Wy Yg acA rfl rfl pW (fun _=>bo)⟩
  rw[Y VI]at Yg acA Wy⊢;by_cases WJ:(Wi W.V k).st=1
  case neg=>
   rw[Y WJ]at Yg acA Wy⊢;exact⟨O,VM,gu S.inv S.lt S.busy Wy Yg acA rfl rfl pW (fun _=>bo)⟩
  rw[Z WJ]at Yg acA Wy⊢;have il:=gk.ft.ok.afB;have ys:0<=(Wi W.V k).afB/\(Wi W.V k).afB<=16777215:=il;have iy:hZ ⟨0,0,-1,((Wi W.V k).afB+1)%16777216⟩:=⟨by simp;omega,aN,aN,aN⟩
  have Xr:W'.V (8*k)=afa ⟨0,0,-1,((Wi W.V k).afB+1)%16777216⟩:=by rw[Yg];show put _ _ _ (8*k)=_;rw[aw _ _ J,aw _ _ J,aP]
  have Zv:bs W'.V k=0:=by show W'.V (8*k+1)=0;rw[Yg];show put _ _ _ (8*k+1)=_;rw[aw _ _ J,aP]
  have WP:agh W'.V k=0:=by show W'.V (8*k+2)=0;rw[Yg];show put _ _ _ (8*k+2)=_;rw[aP]
  have Z2: ∀i,¬(8*k<=i/\i<8*k+3)->W'.V i=W.V i:=fun i h=>by rw[Yg];show put _ _ _ i=_;rw[aw _ _ J,aw _ _ J,aw _ _ J]
  have hh:Wi W'.V k=⟨0,0,-1,((Wi W.V k).afB+1)%16777216⟩:=by unfold Wi;rw[Xr,ni iy];rfl
  have vG:(Wi W'.V k).st=0:=by rw[hh]
  have ab9: ∀s:Nat,s<p.s->s≠k->hs W.V W'.V O O VM VM s:=fun s YF abi=>⟨fun j aeD=>Z2 _ J,rfl,rfl⟩
  have aaH:=gk.no.1 J;have b7:=Wy.end_ rfl;have eO:(W'.XT t).aD=(W.XT t).aD:=by rw[b7];exact iV _ (fun _=>bo)
  have ky:=eH (T:=p.t.toNat) (t:=t) (by have:=S.lt;omega) Wy.other k;rw[eO]at ky;have V5:=nobody k aX bW J;have ex:=gk.ex aX VI;have abD:=Fa (l:=W.fr) (a:=bs W.V k) (z:=agh W.V k)
   (fun y=>(64*p.s+p.i<=y.a/\y.a %8=0/\8<=y.z/\y.z %8=0/\y.a+y.z<=8*n)/\∀s:Nat,1<=s->s<p.s->s≠k->(Wi W.V s).st≠0->y.a+y.z<=bs W.V s\/bs W.V s+agh W.V s<=y.a)
   (fun x y Wy hy OV=>⟨by simp only;omega,fun s h1 aaV ZV Ya=>by
     have YN:=Wy.2 s h1 aaV ZV Ya;have XW:=hy.2 s h1 aaV ZV Ya;have ZA:=(S.inv.Zt s aaV).ex h1 Ya;simp only;omega⟩)
   S.inv.fs (fun y hy=>⟨S.inv.fr y hy,fun s h1 aaV ZV Ya=>S.inv.fd y hy s h1 aaV Ya⟩) (fun y hy=>J)
   ⟨by simp only;omega,fun s h1 aaV ZV Ya=>S.inv.YD k s aX bW h1 aaV (fun e=>ZV e.symm) VI Ya⟩
   (fun y hy=>S.inv.fd y hy k aX bW VI)
  have LN:W'.fr=give W.fr (bs W.V k) (agh W.V k):=acA;refine⟨O,VM,?_,?_,?_,?_⟩
  ·refine S.inv.upd S.lt bW Wy.other ab9 ?_ ?_ ?_ ?_ ?_ ?_ ?_ ?_ ?_ ?_ ?_ ?_ ?_ ?_ (.inl V5.2) ?_ ?_
   ·intro s YF abi o ZQ;exact nN
   ·rw[aaH.1,aaH.2];exact⟨by rw[Xr];exact iy.w,fun h=>J,fun _ h=>absurd vG h,fun h=>absurd vG h,fun o ZQ=>(by cases ZQ),fun h=>J,fun q VX=>(by cases VX),⟨fun _=>⟨rfl,rfl⟩,fun _=>rfl⟩,fun h=>J⟩
   ·intro s lW YF abi _ cx h;exact absurd vG h
   ·rw[LN];exact fun y hy=>(abD.2 y hy).1
   ·rw[LN];exact abD.1
   ·rw[LN];intro y hy s lW YF cx;by_cases c:s=k
    ·subst c;exact absurd vG cx
    ·have g:=ab9 s YF c;rw[g.Wi]at cx;rw[g.bs,g.agh];exact(abD.2 y hy).2 s lW YF c cx
   ·intro i;by_cases c:8*k<=i/\i<8*k+3
    ·rcases(by omega:i=8*k\/i=8*k+1\/i=8*k+2)with h|h|h
     ·rw[h,Xr];have:=iy.aas;omega
     ·rw[h];show 0<=bs W'.V k/\bs W'.V k<_;rw[Zv];decide
     ·rw[h];show 0<=agh W'.V k/\agh W'.V k<_;rw[WP];decide
    ·rw[Z2 i c];exact S.inv.jd i
   ·intro i hi;by_cases c:8*k<=i/\i<8*k+3
    ·exfalso;apply hi;rcases(by omega:i=8*k\/i=8*k+1\/i=8*k+2)with h|h|h
     ·rw[h,Xr];exact c2 (by have:=iy.aas;omega)
     ·rw[h];show ku (bs W'.V k);rw[Zv];exact c2 am
     ·rw[h];show ku (agh W'.V k);rw[WP];exact c2 am
    ·rw[Z2 i c]at hi;exact S.inv.qB i hi
   ·rw[eO];exact aaY
   ·intro s _;rw[eO]
   ·intro _;exact⟨fun h=>J,fun h=>J,fun _=>J⟩
   ·intro s _ hd;exact absurd hd (S.fU (.inr J) s)
   ·intro _ h;omega
   ·intro h6;rw[b7,eA]at h6;cases h6
   ·rw[b7];exact fj (S.inv.rg t S.lt)
   ·rw[b7,es];exact S.inv.ZS t S.lt
  ·refine⟨fun s YF=>?_,fun s YF _ aaV=>?_⟩
   ·by_cases c:s=k
    ·subst c;exact .inr ⟨by rw[hh],J⟩
    ·left;rw[(ab9 s YF c).Wi]
   ·by_cases c:s=k
    ·subst c;omega
    ·rw[(ab9 s YF c).Wi];exact⟨aaV,fun c5=>⟨c5,fun o ZQ=>⟨o,ZQ,rfl,rfl,rfl,rfl,fun _=>rfl⟩⟩⟩
  ·show _+(W.XT t).run.n.toNat<=_;omega
  ·intro j aeD;have E2:8*k<=j/\j<8*k+3:=Classical.byContradiction fun c=>aeD (Z2 j c);refine⟨k,?_,bW,.inl ⟨J,?_⟩⟩
   ·show about (tell (W.XT t).run 0 0) _=_;unfold about;simp[tell,ZV,XD]
   ·show(W.XT t).run.call.op≠9;omega
theorem mD.after(S:mD p F n W W' O VM t):dm p F n W W' O VM t:=by
 cases(S.inv.acg t S.lt S.busy).kind with
 |tell a b=>exact CC S a b
 |make a b=>exact CJ S a b
 |take a b c d e=>exact CD S a b c d e
 |enter a b c d=>exact Am S a b c d
 |nn a b c d=>exact E5 S a b c d
 |drain a b c d e f=>exact As S a b c d e f
 |slot a b c d e=>exact CE S a b c d e
 |hI a b c d=>exact yt S a b
 |gate a b c d=>exact CF S a b c d
end
end
section
theorem kD{G:Prop}(h:G:=by
 (repeat' split)<;>first|exact .quiet rfl acA aeJ|exact .tell rfl rfl rfl (by omega) (by omega) (.inl ⟨by omega,fun h=>by omega⟩)):G:=h
theorem Fc{α:Type}(f:Nat->α)(j:Nat)(a b:α):put (put f j a) j b=put f j b:=by
 funext i;unfold put;by_cases h:i=j<;>simp[h]
def hK(p:afy)(W:Wd)(t:Nat):Wd:={W with XT:=put W.XT t (bd p (W.XT t) W.ops.length)}
def bh(p:afy)(F:b1)(n:Nat)(W:Wd)(t:Nat):aax:=(one p F n W.V W.fr (bd p (W.XT t) W.ops.length).run).2.2
theorem rq{p:afy}{T:eD}{m:Nat}(h:T.ended=false):(bd p T m).busy=true:=by
 unfold eD.ended at h;unfold bd;cases hb:T.busy with
 |true=>simp[hb]
 |false=>
  cases XP:T.calls with
  |nil=>simp[hb,XP]at h
  |cons c l=>simp
theorem em{p:afy}{W:Wd}{t:Nat}:(hK p W t).XT t=bd p (W.XT t) W.ops.length:=aP _ _ _
theorem iz{p:afy}{F:b1}{n:Nat}{W:Wd}{t:Nat}:one p F n (hK p W t).V (hK p W t).fr ((hK p W t).XT t).run=one p F n W.V W.fr (bd p (W.XT t) W.ops.length).run:=by
 rw[em];rfl
section
variable{p:afy}{F:b1}{n:Nat}{W:Wd}{O:Nat->List Zr}{VM:Nat->Option Nat}{t:Nat}
section
variable(h:Inv p F n W O VM)(afq:t<p.t)(YJ:(W.XT t).ended=false)
include h afq YJ
theorem Inv.h4:mD p F n (hK p W t) (bI p F n W t) O VM t:=by
 refine⟨h.begun afq rfl rfl rfl,afq,?_,?_,?_,?_⟩
 ·rw[em];exact rq YJ
 ·rw[iz];rfl
 ·rw[iz];rfl
 ·rw[iz];refine⟨?_⟩;show put W.XT t _=put (put W.XT t _) t _;rw[Fc];unfold eY;rw[em]
theorem Inv.bI:
 ∃O' dk,sd p F n (hK p W t) (bI p F n W t) O O' VM dk t (bh p F n W t):=by
 obtain⟨O',dk,aaV⟩:=(h.h4 afq YJ).after;rw[iz]at aaV;exact⟨O',dk,aaV⟩
end
theorem eZ:(Go.Proofs.YtcimojgkeoecfaaGreat.bI p F n W t).XT t=eY (bd p (W.XT t) W.ops.length) (bh p F n W t):=by
 show put W.XT t _ t=_;rw[aP];rfl
theorem g2{u:Nat}(hu:u≠t):(Go.Proofs.YtcimojgkeoecfaaGreat.bI p F n W t).XT u=W.XT u:=by
 show put W.XT t _ u=_;rw[aw _ _ hu]
structure nO(r r':aax):Prop where
 call:r'.call=r.call
 fin:r'.fin=true->r'.aC.said=r.said/\r'.said=r.said/\r'.n=r.n/\r.Xj≠20/\r.Xj≠21/\r'.bF=true/\(r.Xj<20/\(r.call.op=5->r'.aC.n=0)\/r'.aC.n=r.n)
 Au:r'.fin=false->r'.bF=false
theorem nO.tell{r Yd:aax}{code m:Int}(h1:Yd.call=r.call)(aaV:Yd.said=r.said)(ZV:Yd.n=r.n)(Ya:r.Xj≠20)(afY:r.Xj≠21)(XX:r.Xj<20/\(r.call.op=5->m=0)\/m=r.n):nO r (Go.Proofs.YtcimojgkeoecfaaGreat.tell Yd code m):=
 ⟨h1,fun _=>⟨aaV,aaV,ZV,Ya,afY,rfl,XX⟩,(fun h=>by cases h)⟩
theorem nO.quiet{r r':aax}(h1:r'.call=r.call)(aaV:r'.fin=false)(ZV:r'.bF=false):nO r r':=
 ⟨h1,(fun h=>by rw[aaV]at h;cases h),fun _=>ZV⟩
theorem qc(r:aax):(bP r).call=r.call/\(bP r).fin=r.fin/\(bP r).bF=r.bF:=by
 unfold bP;(repeat' split)<;>exact⟨rfl,rfl,rfl⟩
theorem uo(r:aax):(ee r).call=r.call/\(ee r).fin=r.fin/\(ee r).bF=r.bF:=by
 unfold ee;split
 ·exact⟨rfl,rfl,rfl⟩
 ·exact qc r
theorem sS(r:aax):(dT r).call=r.call/\(dT r).fin=r.fin/\(dT r).bF=r.bF:=by
 unfold dT;split<;>exact⟨rfl,rfl,rfl⟩
theorem LO{V:Nat->Int}{fr:List Ext}{r:aax}(acA:r.fin=false)(aeJ:r.bF=false)(afY:r.call.op≠5->r.Xj<20)(Ux:r.call.op=5->r.Xj≠1):nO r (one p F n V fr r).2.2:=by
 unfold one;split
 ·rename_i h;exact .tell rfl rfl rfl J J (.inl ⟨J,fun h=>J⟩)
 split
 ·rename_i h;have Ya:r.Xj≠20:=J;have afY:r.Xj≠21:=J;unfold gO;split
  ·dsimp only
   (repeat' split)<;>exact .tell rfl rfl rfl Ya afY (.inl ⟨J,fun h=>J⟩)
  ·split
   ·exact .tell rfl rfl rfl Ya afY (.inl ⟨J,fun h=>J⟩)
   ·split<;>exact .tell rfl rfl rfl Ya afY (.inl ⟨J,fun h=>J⟩)
 split
 ·rename_i adH;have:=afY J;show nO r (e6 V r).2;unfold e6;exact kD
 split
 ·rename_i Ya;have:=afY J;show nO r (dR V r).2;unfold dR;exact kD
 split
 ·show nO r (bM F V r).2;unfold bM;by_cases yA:r.Xj=15
  ·rw[Z yA];exact .quiet rfl acA aeJ
  rw[Y yA];by_cases yB:r.Xj=16
  ·rw[Z yB];by_cases d:V (8*r.af.toNat)=r.word
   ·rw[Z d];show nO r (if _ then _ else _);by_cases e:(up r.next).st=3
    ·rw[Z e];exact .quiet rfl acA aeJ
    ·rw[Y e];exact .tell rfl rfl rfl J J (.inl ⟨J,fun h=>J⟩)
   ·rw[Y d];exact .quiet rfl acA aeJ
  rw[Y yB];by_cases yC:r.Xj=17
  ·rw[Z yC];exact .quiet rfl acA aeJ
  rw[Y yC];by_cases yD:r.Xj=18
  ·rw[Z yD];have:=uo {r with top:=r.at_+adh V r.af.toNat};exact .quiet this.1 (this.2.1.trans acA) (this.2.2.trans aeJ)
  rw[Y yD];by_cases yE:r.Xj=19
  ·rw[Z yE];have:=uo {r with list:=if(fl V (r.at_/8).toNat).d=false/\bY F (fl V (r.at_/8).toNat).t≠ []then r.list++ [r.at_]else r.list,at_:=r.at_+8*(fl V (r.at_/8).toNat).z};exact .quiet this.1 (this.2.1.trans acA) (this.2.2.trans aeJ)
  rw[Y yE];by_cases vI:r.Xj=20
  ·rw[Z vI];exact .quiet rfl acA aeJ
  rw[Y vI];by_cases vJ:r.Xj=21
  ·rw[Z vJ];have:=qc {r with list:=r.list.dropLast,n:=r.n+1,op:=0};exact .quiet this.1 (this.2.1.trans acA) (this.2.2.trans aeJ)
  rw[Y vJ];by_cases yF:r.Xj=22
  ·rw[Z yF];exact .tell rfl rfl rfl vI vJ (.inr rfl)
  rw[Y yF];by_cases yG:r.Xj=23
  ·rw[Z yG];have:=sS {r with at_:=r.word};exact .quiet this.1 (this.2.1.trans acA) (this.2.2.trans aeJ)
  rw[Y yG];by_cases yH:r.Xj=24
  ·rw[Z yH];have:=sS {r with at_:=r.at_+8};exact .quiet this.1 (this.2.1.trans acA) (this.2.2.trans aeJ)
  rw[Y yH];by_cases yI:r.Xj=25
  ·rw[Z yI];exact .quiet rfl acA aeJ
  rw[Y yI];exact .tell rfl rfl rfl vI vJ (.inr rfl)
 ·have:=afY J;show nO r (cK p n V r).2;unfold cK ie qz lr;exact kD
theorem ZL.KG{V:Nat->Int}{T:eD}(R:ZL p F V O VM T):T.run.call.op≠5->T.run.Xj<20:=by
 intro afY;cases R.kind with
 |tell a b=>omega
 |make a b=>omega
 |take a b c d e=>omega
 |enter a b c d=>omega
 |nn a b c d=>omega
 |drain a b c d e f=>omega
 |slot a b c d e=>
  rcases e with e|⟨_,e|⟨o,_,_,_,_,_,e⟩⟩<;>omega
 |hI a b c d=>omega
 |gate a b c d=>omega
theorem ZL.Sc{V:Nat->Int}{T:eD}(R:ZL p F V O VM T):T.run.call.op=5->T.run.Xj≠1:=by
 intro afY;cases R.kind with
 |tell a b=>omega
 |make a b=>omega
 |take a b c d e=>omega
 |enter a b c d=>omega
 |nn a b c d=>omega
 |drain a b c d e f=>omega
 |slot a b c d e=>omega
 |hI a b c d=>omega
 |gate a b c d=>omega
theorem Inv.p9(h:Inv p F n W O VM)(afq:t<p.t)(YJ:(W.XT t).ended=false):nO (bd p (W.XT t) W.ops.length).run (bh p F n W t):=by
 have S:=h.h4 afq YJ;have R:=S.inv.acg t afq S.busy;rw[em]at R;exact LO R.fin R.bF R.KG R.Sc
structure vK(p:afy)(W:Wd):Prop where
 agh: ∀t:Nat,t<p.t->(W.XT t).busy=true->∃o,W.ops[(W.XT t).at_]? =some o/\o.XT=t/\o.call=(W.XT t).run.call/\o.e2= -1/\o.pt= -1/\∀j o',(W.XT t).at_<j->W.ops[j]? =some o'->o'.XT≠t
 lt: ∀o,o∈W.ops->0<=o.XT/\o.XT<p.t
 len:W.ops.length<=W.n/\0<=W.n
def sh(ops:List db)(t:Nat)(o:db):Prop:= ∃i:Nat,ops[i]? =some o/\o.XT=t/\∀j o',i<j->ops[j]? =some o'->o'.XT≠t
theorem vK.bI(h:Inv p F n W O VM)(q:vK p W)(afq:t<p.t)(YJ:(W.XT t).ended=false):
 vK p (bI p F n W t)/\∃o,sh (Go.Proofs.YtcimojgkeoecfaaGreat.bI p F n W t).ops t o/\o.call=(bh p F n W t).call/\
  ((bh p F n W t).fin=true->o.e2=W.n/\o.pt=W.n/\o.aC=(bh p F n W t).aC)/\((bh p F n W t).fin=false->o.e2= -1/\o.pt= -1):=by
 have R:=h.p9 afq YJ;have hb:=rq (p:=p) (m:=W.ops.length) YJ;have WF: ∃o,(fO W t)[(bd p (W.XT t) W.ops.length).at_]? =some o/\o.XT=t/\o.call=(bd p (W.XT t) W.ops.length).run.call/\o.e2= -1/\o.pt= -1/\(∀j o',(bd p (W.XT t) W.ops.length).at_<j->(fO W t)[j]? =some o'->o'.XT≠t)/\
  (∀i,i<W.ops.length->(fO W t)[i]? =W.ops[i]?)/\(fO W t).length<=W.ops.length+1/\(∀i o',W.ops.length<=i->(fO W t)[i]? =some o'->o'.XT=t):=by
  unfold fO bd;cases ga:(W.XT t).busy with
  |true=>
   simp only[if_true];obtain⟨o,h1,aaV,ZV,Ya,afY,XX⟩:=q.agh t afq ga;exact⟨o,h1,aaV,ZV,Ya,afY,XX,fun i _=>aN,J,fun i o' hi ZQ=>by rw[aV hi]at ZQ;cases ZQ⟩
  |false=>
   cases XP:(W.XT t).calls with
   |nil=>simp[eD.ended,ga,XP]at YJ
   |cons c l=>
    simp only[Bool.false_eq_true,if_false];refine⟨⟨t,c,W.n,-1,-1,⟨0,0,[]⟩⟩,aN,rfl,rfl,rfl,rfl,fun j o' aeD ZQ=>?_,fun i hi=>aA hi,aN,fun i o' hi ZQ=>?_⟩
    ·rw[aV (by simp;omega)]at ZQ;cases ZQ
    ·by_cases e:i=W.ops.length
     ·subst e;simp at ZQ;rw[<-ZQ]
     ·rw[aV (by simp;omega)]at ZQ;cases ZQ
 obtain⟨o,Vt,Y6,ad2,W3,adT,aeW,abe,aaT,aab⟩:=WF;generalize ae3:(bd p (W.XT t) W.ops.length).at_=k at*;have jk:(Go.Proofs.YtcimojgkeoecfaaGreat.bI p F n W t).ops=(fO W t).modify k fun o=>{o with pt:=if(bh p F n W t).bF then W.n else o.pt,e2:=if(bh p F n W t).fin then W.n else o.e2,aC:=if(bh p F n W t).fin then(bh p F n W t).aC else o.aC}:=by
  rw[<-ae3];rfl
 have cq: ∀j o',((Go.Proofs.YtcimojgkeoecfaaGreat.bI p F n W t).ops)[j]? =some o'->∃Av,(fO W t)[j]? =some Av/\o'.XT=Av.XT/\(j≠k->o'=Av):=by
  intro j o' aeD;rw[jk,List.getElem?_modify]at aeD;cases Wy:(fO W t)[j]? with
  |none=>rw[Wy]at aeD;cases aeD
  |some x=>
   rw[Wy]at aeD;simp only[Option.map_eq_map,bt,Option.some.injEq]at aeD;refine⟨x,rfl,?_,?_⟩
   ·rw[<-aeD];by_cases e:k=j<;>simp[e]
   ·intro e;rw[<-aeD,Y (Ne.symm e)]
 have fG:((Go.Proofs.YtcimojgkeoecfaaGreat.bI p F n W t).ops)[k]? =some {o with pt:=if(bh p F n W t).bF then W.n else o.pt,e2:=if(bh p F n W t).fin then W.n else o.e2,aC:=if(bh p F n W t).fin then(bh p F n W t).aC else o.aC}:=by
  rw[jk,List.getElem?_modify,Vt];simp
 refine⟨⟨?_,?_,?_⟩,_,⟨k,fG,Y6,fun j o' aeD ZQ=>?_⟩,?_,?_,?_⟩
 ·intro u hu h6;by_cases e:u=t
  ·subst e;have YF:=eZ (p:=p) (F:=F) (n:=n) (W:=W) (t:=u);rw[YF]at h6⊢;have Aw:(bh p F n W u).fin=false:=by
    cases c:(bh p F n W u).fin with
    |false=>rfl
    |true=>unfold eY at h6;rw[c,Z rfl,eA]at h6;cases h6
   have jg:eY (bd p (W.XT u) W.ops.length) (bh p F n W u)= {bd p (W.XT u) W.ops.length with run:=bh p F n W u}:=sf Aw;rw[jg];rw[<-ae3]at fG;refine⟨_,fG,Y6,?_,?_,?_,?_⟩
   ·show o.call=(bh p F n W u).call;rw[ad2,R.call]
   ·show(if _ then _ else _)=_;rw[Aw];simpa using W3
   ·show(if _ then _ else _)=_;rw[R.Au Aw];simpa using adT
   ·intro j o' aeD ZQ;have yJ:k<j:=by rw[<-ae3];exact aeD
    obtain⟨x,Wy,Fe,_⟩:=cq j o' ZQ;rw[Fe];exact aeW j x yJ Wy
  ·have YF:=g2 (p:=p) (F:=F) (n:=n) (W:=W) (t:=t) e;rw[YF]at h6⊢;obtain⟨adO,h1,aaV,ZV,Ya,afY,XX⟩:=q.agh u hu h6;have bV:(W.XT u).at_<W.ops.length:=(List.getElem?_eq_some_iff.1 h1).1;have bo:(W.XT u).at_≠k:=by
    intro abF;have:=abe _ bV;rw[abF,Vt,<-abF,h1]at this;injection this with this
    rw[this,aaV]at Y6;exact e J
   refine⟨adO,?_,aaV,ZV,Ya,afY,fun j o' aeD ZQ=>?_⟩
   ·rw[jk,List.getElem?_modify,abe _ bV,h1];simp[Ne.symm bo]
   ·obtain⟨x,Wy,Fe,_⟩:=cq j o' ZQ;rw[Fe];by_cases c:j<W.ops.length
    ·rw[abe j c]at Wy;exact XX j x aeD Wy
    ·have:=aab j x J Wy;rw[this];intro abF;exact e J
 ·intro x Wy;obtain⟨j,aeD⟩:=bZ Wy;obtain⟨y,hy,Sd,_⟩:=cq j x aeD;rw[Sd];by_cases c:j<W.ops.length
  ·rw[abe j c]at hy;exact q.lt y (bf hy)
  ·have:=aab j y J hy;rw[this];omega
 ·have:=q.len;rw[jk,List.length_modify];show _<=W.n+1/\0<=W.n+1;omega
 ·obtain⟨x,Wy,Fe,_⟩:=cq j o' ZQ;rw[Fe];exact aeW j x aeD Wy
 ·show o.call=_;rw[ad2,R.call]
 ·intro acA;have:=R.fin acA;refine⟨?_,?_,?_⟩
  ·show(if _ then _ else _)=_;rw[acA];rfl
  ·show(if _ then _ else _)=_;rw[this.2.2.2.2.2.1];rfl
  ·show(if _ then _ else _)=_;rw[acA];rfl
 ·intro acA;refine⟨?_,?_⟩
  ·show(if _ then _ else _)=_;rw[acA];simpa using W3
  ·show(if _ then _ else _)=_;rw[R.Au acA];simpa using adT
end
end
section
def Ff:aax:={call:=⟨0,0,0,0,0,0,0⟩,Xj:=0,af:=0,hand:=0,val:=0,chain:= [],word:=0,next:=0,at_:=0,top:=0,list:= [],op:=0,said:= [],n:=0,held:=false,fin:=false,bF:=false,aC:=⟨0,0,[]⟩}
def V0(p:afy):Nat->Int:=fun k=>if k=0 then 6 else if k=1 then 64*p.s else if k=2 then p.i else 0
def l2(p:afy)(bj:Nat->List dM):Wd:=
 {V:=V0 p,fr:=if 0<p.h then [⟨64*p.s+p.i,p.h⟩]else [],XT:=fun i=>⟨bj i,fun _=>0,[],Ff,false,0⟩,ops:= [],n:=0}
theorem si{p:afy}{s:Nat}(h:1<=s)(j:Nat):V0 p (8*s+j)=0:=by
 unfold V0;rw[aB,aB,aB]
theorem Inv.init{p:afy}{F:b1}{n:Nat}{bj:Nat->List dM}(aeJ:a9 p)(hF:tN F)(abi:8*(n:Int)=64*p.s+p.i+p.h)(XP: ∀t:Nat,t<p.t->∀c,c∈bj t->cG c):
 Inv p F n (l2 p bj) (fun _=> []) (fun _=>none):=by
 have YF:=aeJ.s;have hi:=aeJ.i;have acu:=aeJ.h;have VI:Wi (V0 p) 0=⟨2,1,-1,0⟩:=by
  show up 6=_;rfl
 have cs: ∀s:Nat,1<=s->Wi (V0 p) s=⟨0,0,-1,0⟩:=fun s h=>by
  show up (V0 p (8*s+0))=_;rw[si h];rfl
 have ab9: ∀k,0<=V0 p k/\V0 p k<4096:=fun k=>by
  unfold V0;(repeat' split)<;>omega
 have w0: ∀s:Nat,s<p.t.toNat->True:=fun _ _=>trivial;have ZU: ∀m s,within (l2 p bj) m s=0:=fun m s=>by
  unfold within;induction m with
  |zero=>rfl
  |succ m aes=>rw[gE,aes];rfl
 refine⟨aeJ,abi,hF,fun s h=>?_,?_,?_,?_,?_,?_,?_,?_,?_,?_,?_,?_,?_⟩
 ·rcases aQ s with rfl|h1
  ·refine⟨?_,fun _=>⟨VI,rfl,rfl⟩,(fun h=>J),fun _=>?_,(fun o ZQ=>by cases ZQ),fun _ _=>?_,(fun q h=>by cases h),⟨fun _=>⟨rfl,rfl⟩,fun _=>rfl⟩,fun h=>?_⟩
   ·show okW 6;exact⟨⟨am,am,am,am⟩,am⟩
   ·show 0<=V0 p 3/\V0 p 3<=V0 p 2/\V0 p 3 %8=0;have:V0 p 3=0:=rfl;have:V0 p 2=p.i:=rfl;omega
   ·show(V0 p 1/8).toNat=((V0 p 1+V0 p 3)/8).toNat;have:V0 p 3=0:=rfl;rw[this,cI]
   ·rfl
  ·have e:=cs s h1;have e':Wi (l2 p bj).V s=⟨0,0,-1,0⟩:=e;refine⟨?_,(fun h=>J),fun _ h=>absurd (by rw[e']) h,fun h=>absurd (by rw[e']) h,(fun o ZQ=>by cases ZQ),fun h=>?_,(fun q h=>by cases h),⟨fun _=>⟨rfl,rfl⟩,fun _=>rfl⟩,fun h=>?_⟩
   ·show okW (V0 p (8*s+0));rw[si h1];exact⟨⟨am,am,am,am⟩,am⟩
   ·rw[e']at h;exact absurd h am
   ·exact si (p:=p) h1 3
 ·intro s s' h1 _ _ _ _ h _;exact absurd (by rw[show Wi (l2 p bj).V s=_ from cs s h1]) h
 ·intro x Wy;unfold l2 at Wy;simp only at Wy;split at Wy
  ·simp only[List.mem_singleton]at Wy;subst Wy;simp only;omega
  ·cases Wy
 ·show List.Pairwise _ (if _ then _ else _);split
  ·exact List.pairwise_singleton _ _
  ·exact List.Pairwise.nil
 ·intro x Wy s h1 _ h;exact absurd (by rw[show Wi (l2 p bj).V s=_ from cs s h1]) h
 ·intro k;have:=ab9 k;exact⟨this.1,by show V0 p k<_;omega⟩
 ·intro k h;exact absurd (c2 (by have:=ab9 k;show V0 p k<_;omega)) h
 ·intro t _;exact⟨aL _,fun pre e post h=>by cases pre<;>cases h⟩
 ·intro s h1 _;rw[show Wi (l2 p bj).V s=_ from cs s h1];exact⟨fun h=>absurd h am,fun h=>absurd h am,fun _=>ZU _ _⟩
 ·intro s h1 _ h;rw[show Wi (l2 p bj).V s=_ from cs s h1]at h;exact absurd h am
 ·intro t _ h;cases h
 ·intro t _ j;show(0:Int)<=0/\(0:Int)<_;exact⟨am,am⟩
 ·intro t afq c h;exact XP t afq c h
theorem vK.init{p:afy}{bj:Nat->List dM}:vK p (l2 p bj):=
 ⟨(fun t _ h=>by cases h),(fun o h=>by cases h),⟨ai _,ai _⟩⟩
section
variable{p:afy}{F:b1}{n:Nat}{W:Wd}{O:Nat->List Zr}{VM:Nat->Option Nat}{t:Nat}
structure yK(r r':aax):Prop where
 ls:r'.list.length<=r.list.length+1
 Wh:r'.said.length<=r.said.length+1
theorem yK.refl{r r':aax}(h1:r'.list=r.list)(aaV:r'.said=r.said):yK r r':=⟨by rw[h1];omega,by rw[aaV];omega⟩
theorem sT(r:aax):(bP r).list=r.list/\(bP r).said=r.said:=by
 unfold bP;(repeat' split)<;>exact⟨rfl,rfl⟩
theorem yL(r:aax):(ee r).list=r.list/\(ee r).said=r.said:=by
 unfold ee;split
 ·exact⟨rfl,rfl⟩
 ·exact sT r
theorem wj(r:aax):(dT r).list=r.list/\(dT r).said=r.said:=by
 unfold dT;split<;>exact⟨rfl,rfl⟩
theorem CK(o:jc)(sl:List Int):(dd o sl).2.2.1.length<=1:=by
 unfold dd;(repeat' split)<;>simp
theorem LP{V:Nat->Int}{fr:List Ext}{r:aax}:yK r (one p F n V fr r).2.2:=by
 unfold one;split
 ·exact .refl rfl rfl
 split
 ·unfold gO;split
  ·dsimp only
   (repeat' split)<;>exact .refl rfl rfl
  ·split
   ·exact .refl rfl rfl
   ·split<;>exact .refl rfl rfl
 split
 ·show yK r (e6 V r).2;unfold e6
  (repeat' split)<;>exact .refl rfl rfl
 split
 ·show yK r (dR V r).2;unfold dR
  (repeat' split)<;>exact .refl rfl rfl
 split
 ·show yK r (bM F V r).2;unfold bM;by_cases yA:r.Xj=15
  ·rw[Z yA];exact .refl rfl rfl
  rw[Y yA];by_cases yB:r.Xj=16
  ·rw[Z yB];by_cases d:V (8*r.af.toNat)=r.word
   ·rw[Z d];show yK r (if _ then _ else _);by_cases e:(up r.next).st=3
    ·rw[Z e];exact .refl rfl rfl
    ·rw[Y e];exact .refl rfl rfl
   ·rw[Y d];exact .refl rfl rfl
  rw[Y yB];by_cases yC:r.Xj=17
  ·rw[Z yC];exact .refl rfl rfl
  rw[Y yC];by_cases yD:r.Xj=18
  ·rw[Z yD];have:=yL {r with top:=r.at_+adh V r.af.toNat};exact .refl this.1 this.2
  rw[Y yD];by_cases yE:r.Xj=19
  ·rw[Z yE];have:=yL {r with list:=if(fl V (r.at_/8).toNat).d=false/\bY F (fl V (r.at_/8).toNat).t≠ []then r.list++ [r.at_]else r.list,at_:=r.at_+8*(fl V (r.at_/8).toNat).z};refine⟨?_,by rw[this.2];exact Nat.le_succ _⟩;rw[this.1];show(if _ then _ else _:List Int).length<=_;split<;>simp
  rw[Y yE];by_cases vI:r.Xj=20
  ·rw[Z vI];refine⟨by show r.list.length<=_;omega,?_⟩;show(r.said++_).length<=_;rw[ak];exact Nat.add_le_add_left (CK _ _) _
  rw[Y vI];by_cases vJ:r.Xj=21
  ·rw[Z vJ];have:=sT {r with list:=r.list.dropLast,n:=r.n+1,op:=0};refine⟨?_,by rw[this.2];exact Nat.le_succ _⟩;rw[this.1];show r.list.dropLast.length<=_;rw[List.length_dropLast];omega
  rw[Y vJ];by_cases yF:r.Xj=22
  ·rw[Z yF];exact .refl rfl rfl
  rw[Y yF];by_cases yG:r.Xj=23
  ·rw[Z yG];have:=wj {r with at_:=r.word};exact .refl this.1 this.2
  rw[Y yG];by_cases yH:r.Xj=24
  ·rw[Z yH];have:=wj {r with at_:=r.at_+8};exact .refl this.1 this.2
  rw[Y yH];by_cases yI:r.Xj=25
  ·rw[Z yI];exact .refl rfl rfl
  rw[Y yI];exact .refl rfl rfl
 ·show yK r (cK p n V r).2;unfold cK ie qz lr
  (repeat' split)<;>exact .refl rfl rfl
def rr(p:afy)(W:Wd):Prop:= ∀t:Nat,t<p.t->(W.XT t).run.list.length<=W.n/\(W.XT t).run.said.length<=W.n
theorem rr.init{bj:Nat->List dM}:rr p (l2 p bj):=fun t _=>⟨ai _,ai _⟩
theorem yM(T:eD):(bH T).run=T.run:=by unfold bH;(repeat' split)<;>rfl
theorem Ax(T:eD)(r:aax):(eY T r).run=r:=by
 unfold eY;split
 ·rw[yM]
 ·rfl
theorem nP{p:afy}{T:eD}{m:Nat}{k:Nat}(h:T.run.list.length<=k/\T.run.said.length<=k):(bd p T m).run.list.length<=k/\(bd p T m).run.said.length<=k:=by
 unfold bd;split
 ·exact h
 ·split
  ·exact h
  ·exact⟨aL _,aL _⟩
theorem rr.bI(q:rr p W):rr p (Go.Proofs.YtcimojgkeoecfaaGreat.bI p F n W t):=by
 intro u hu;show _<=W.n+1/\_<=W.n+1;by_cases e:u=t
 ·subst e;rw[eZ,Ax];have h1:=nP (p:=p) (m:=W.ops.length) (q u hu);have aaV:=LP (p:=p) (F:=F) (n:=n) (V:=W.V) (fr:=W.fr) (r:=(bd p (W.XT u) W.ops.length).run);have ZV:=aaV.ls;have Ya:=aaV.Wh;unfold bh;omega
 ·rw[g2 e];have:=q u hu;omega
def lJ(W:Wd):Prop:= ∀o,o∈W.ops->o.aC.said.length<=W.n
theorem lJ.init{bj:Nat->List dM}:lJ (l2 p bj):=fun o h=>by cases h
theorem lJ.bI(h:Inv p F n W O VM)(f:rr p W)(q:lJ W)(afq:t<p.t)(YJ:(W.XT t).ended=false):lJ (Go.Proofs.YtcimojgkeoecfaaGreat.bI p F n W t):=by
 have R:=h.p9 afq YJ;have h1:=nP (p:=p) (m:=W.ops.length) (f t afq);have aaG: ∀o,o∈fO W t->o.aC.said.length<=W.n:=by
  intro o ZQ;unfold fO at ZQ;split at ZQ
  ·exact q o ZQ
  ·split at ZQ
   ·exact q o ZQ
   ·rcases List.mem_append.1 ZQ with ZQ|ZQ
    ·exact q o ZQ
    ·simp only[List.mem_singleton]at ZQ;subst ZQ;exact aL _
 intro o ZQ;show _<=W.n+1;obtain⟨j,aeD⟩:=bZ ZQ;have yJ:((fO W t).modify (bd p (W.XT t) W.ops.length).at_ fun o=>{o with pt:=if(bh p F n W t).bF then W.n else o.pt,e2:=if(bh p F n W t).fin then W.n else o.e2,aC:=if(bh p F n W t).fin then(bh p F n W t).aC else o.aC})[j]? =some o:=aeD;rw[List.getElem?_modify]at yJ;cases Wy:(fO W t)[j]? with
 |none=>rw[Wy]at yJ;cases yJ
 |some x=>
  rw[Wy]at yJ;have IG:=aaG x (bf Wy);simp only[Option.map_eq_map,bt,Option.some.injEq]at yJ;rw[<-yJ];by_cases e:(bd p (W.XT t) W.ops.length).at_=j
  ·rw[Z e];show(if _ then _ else _:Ln).said.length<=_;by_cases c:(bh p F n W t).fin=true
   ·rw[Z c,(R.fin c).1];omega
   ·rw[Y c];omega
  ·rw[Y e];show x.aC.said.length<=_;omega
def runN(T:eD):Nat:=if T.busy then T.run.n.toNat else 0
structure vL(p:afy)(F:b1)(W:Wd)(O:Nat->List Zr)(runs BM said:Int):Prop where
 le:runs+(gE (fun i=>runN (W.XT i)) p.t.toNat:Nat)+(iU F O p.s.toNat:Nat)<=BM
 Wh:said<=8*runs
 pos:0<=runs/\0<=said
theorem vL.init{bj:Nat->List dM}:vL p F (l2 p bj) (fun _=> []) 0 0 0:=by
 have h1: ∀m,gE (fun i=>runN ((l2 p bj).XT i)) m=0:=fun m=>by
  induction m with
  |zero=>rfl
  |succ m aes=>rw[gE,aes];rfl
 have aaV: ∀m,iU F (fun _=> []) m=0:=fun m=>by
  unfold iU;induction m with
  |zero=>rfl
  |succ m aes=>rw[gE,aes];rfl
 refine⟨?_,J,J⟩;rw[h1,aaV];omega
def gT(r:aax):Int:=if r.fin=true/\r.call.op=5 then r.aC.n else 0
def hz(r:aax):Int:=if r.fin=true/\r.call.op=5 then r.aC.said.length else 0
theorem vL.bI{runs BM said:Int}(h:Inv p F n W O VM)(c:vL p F W O runs BM said)(afq:t<p.t)(YJ:(W.XT t).ended=false){O':Nat->List Zr}{dk:Nat->Option Nat}
 (A:sd p F n (hK p W t) (bI p F n W t) O O' VM dk t (bh p F n W t)):
 vL p F (Go.Proofs.YtcimojgkeoecfaaGreat.bI p F n W t) O' (runs+gT (bh p F n W t)) (BM+ez F (bh p F n W t)) (said+hz (bh p F n W t)):=by
 have S:=h.h4 afq YJ;have aew:=S.inv.acg t afq S.busy;have R:=h.p9 afq YJ;have hb:=S.busy;rw[em]at aew hb;have cnt:=A.cnt;rw[em]at cnt;generalize aen:bd p (W.XT t) W.ops.length=T at*;have YM:runN (W.XT t)=T.run.n.toNat:=by
  unfold runN;cases ga:(W.XT t).busy with
  |true=>rw[<-aen];unfold bd;simp[ga]
  |false=>
   cases XP:(W.XT t).calls with
   |nil=>simp[eD.ended,ga,XP]at YJ
   |cons x l=>rw[<-aen];unfold bd;simp[ga,XP,begun]
 have abi:=aew.n;have dJ:=aew.said;have h1:gE (fun i=>runN ((Go.Proofs.YtcimojgkeoecfaaGreat.bI p F n W t).XT i)) p.t.toNat+runN (W.XT t)=gE (fun i=>runN (W.XT i)) p.t.toNat+runN ((Go.Proofs.YtcimojgkeoecfaaGreat.bI p F n W t).XT t):=by
  have:=r1 (f:=fun i=>runN (W.XT i)) (m:=p.t.toNat) (i:=t) (v:=runN ((Go.Proofs.YtcimojgkeoecfaaGreat.bI p F n W t).XT t)) J;have e:(fun i=>runN ((Go.Proofs.YtcimojgkeoecfaaGreat.bI p F n W t).XT i))=put (fun i=>runN (W.XT i)) t (runN ((Go.Proofs.YtcimojgkeoecfaaGreat.bI p F n W t).XT t)):=by
   funext i;by_cases e:i=t
   ·subst e;rw[aP]
   ·rw[aw _ _ e,g2 e]
  rw[e];exact this
 cases acA:(bh p F n W t).fin with
 |false=>
  have aaV:runN ((Go.Proofs.YtcimojgkeoecfaaGreat.bI p F n W t).XT t)=(bh p F n W t).n.toNat:=by
   rw[eZ,aen,sf acA];unfold runN;show(if T.busy=true then _ else _)=_;rw[hb];rfl
  refine⟨?_,?_,?_⟩
  ·have aal:gT (bh p F n W t)=0:=by unfold gT;rw[acA];rfl
   have:=c.le;rw[aal];omega
  ·have aal:gT (bh p F n W t)=0:=by unfold gT;rw[acA];rfl
   have abF:hz (bh p F n W t)=0:=by unfold hz;rw[acA];rfl
   have:=c.Wh;omega
  ·have aal:gT (bh p F n W t)=0:=by unfold gT;rw[acA];rfl
   have abF:hz (bh p F n W t)=0:=by unfold hz;rw[acA];rfl
   have:=c.pos;omega
 |true=>
  obtain⟨f1,f2,f3,f4,f5,f6,f7⟩:=R.fin acA;have aaV:runN ((Go.Proofs.YtcimojgkeoecfaaGreat.bI p F n W t).XT t)=0:=by
   rw[eZ];unfold runN;rw[show(eY (bd p (W.XT t) W.ops.length) (bh p F n W t)).busy=false from by unfold eY;rw[acA,Z rfl,eA]];rfl
  rw[Y f4,Y f5]at dJ;have ZS:=c.le;have cs:=c.Wh;have VY:=c.pos;by_cases afY:T.run.call.op=5
  ·have OW:(bh p F n W t).call.op=5:=by rw[R.call];exact afY
   have aal:gT (bh p F n W t)=(bh p F n W t).aC.n:=by unfold gT;rw[Z ⟨acA,OW⟩]
   have abF:hz (bh p F n W t)=(bh p F n W t).aC.said.length:=by unfold hz;rw[Z ⟨acA,OW⟩]
   have acL:(bh p F n W t).aC.n=T.run.n:=by
    rcases f7 with⟨Vt,Y6⟩|g
    ·rw[Y6 afY,(abi.2 Vt).1]
    ·exact g
   rw[aal,abF,acL,f1];refine⟨?_,?_,?_⟩
   ·rw[f3]at cnt;omega
   ·omega
   ·omega
  ·have aal:gT (bh p F n W t)=0:=by unfold gT;rw[Y (fun h=>afY (by rw[<-R.call];exact h.2))]
   have abF:hz (bh p F n W t)=0:=by unfold hz;rw[Y (fun h=>afY (by rw[<-R.call];exact h.2))]
   have acS:=(abi.2 (aew.KG afY)).1;rw[aal,abF];refine⟨?_,?_,?_⟩
   ·rw[f3]at cnt;omega
   ·omega
   ·omega
end
end
end Go.Proofs.YtcimojgkeoecfaaGreat
