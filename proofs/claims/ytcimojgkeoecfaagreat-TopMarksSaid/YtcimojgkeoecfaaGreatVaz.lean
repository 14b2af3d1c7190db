import Derived.Test.YtcimojgkeoecfaaGreatVaw
set_option linter.all false
set_option maxHeartbeats 16000000
set_option maxRecDepth 100000
namespace Go.Proofs.YtcimojgkeoecfaaGreat
open Go.RowKit Tryz
theorem Gv(w0:World)(L8 rg:Nat)(a4 U2 m z:Int)(l:List Ext)(hm:a4<=m/\0<=a4/\m %8=0)(T:1<=z/\z %8=0/\m+z<=U2/\U2<=65536)(G:l.length<=65536)(B: ∀x,x∈l->x.a+x.z<=m)(Wy: ∀x,x∈l->0<=x.a/\x.a<=65536/\0<=x.z/\x.z<=65536)(cap:Nat)(rest:List Value)(c:ah w0 rg 130 (bu l++rest).toArray)(A:l.length<=cap)(v:cap=l.length)(o:cap<=maxLen)(H:L8≠rg)(hb:ah w0 L8 363 ([.int .i64 a4,.int .i64 U2,.slice (some ⟨rg,0,none⟩) l.length cap]:List Value).toArray):
 Calls prog 284 #[.pointer (some ⟨L8,0,none⟩),.int .i64 m,.int .i64 z] w0 fun e w'=> ∃j,e= .returned (.int .i64 0)/\cY w' L8 j a4 U2 (give l m z)/\(j=rg\/w0.heap.size<=j)/\Z1 (fun b=>b≠L8/\b≠rg) w0 w':=by
 obtain⟨n,fH⟩: ∃n,Hid (l.length=n):=⟨_,I rfl⟩
 have p: ∀d:World,ah d rg 130 (bu l++rest).toArray->KC d (fun b=>b=rg) (.slice (some ⟨rg,0,none⟩) n cap) n 2 (eP l):=fun d h=>by
  have:=mF h A o;rw[fH.out]at this;exact this
 replace p:=I p;rw[fH.out]at hb A G v;have C:=I (show∀i,i<n->0<=(l.getD i ⟨0,0⟩).a/\(l.getD i ⟨0,0⟩).a<=65536/\0<=(l.getD i ⟨0,0⟩).z/\(l.getD i ⟨0,0⟩).z<=65536 from fun i hi=>by
  rw[ae,an (by rw[fH.out];exact hi)];exact Wy _ (bA _))
 have mx:=I B;have VN:=I Wy;have f: ∀args w,(callFunc 337 args).run prog w= .ok (.enter 337 args) w:=enters_of func337 aM rfl;have s:=I f;have rs: ∀(fn:Fn) (first cap:Array Value) (w:World),(Instr.makeFunc fn first cap).run prog w= .ok (.func fn first cap) w:=fun _ _ _ _=>rfl;have U:=Bx.two hb c H;have VQ:decide (z<1)=false:=by simp;omega
 have F:(z %8 !=0)=false:=by simp;omega
 have q:(m %8 !=0)=false:=by simp;omega
 have M:IntKind.i64.wrap (U2-1)=U2-1:=by rw[IntKind.wrap_i64];omega
 have VD:IntKind.i64.wrap (U2-m)=U2-m:=by rw[IntKind.wrap_i64];omega
 have Zq:decide (z>U2-m)=false:=by simp;omega
 have P:(0:Int)<=z:=J;have t2:(z.tmod 8 !=0)=false:=by rw[al J];exact F
 have t3:(m.tmod 8 !=0)=false:=by rw[al J];exact q
 have W:decide (a4<=m)=true:=by simpa using hm.1
 have PM:decide (m<=U2-1)=true:=by simp;omega
 have YK:(0:Int)<=m:=J;have Q:a4<=m:=J;have PN:m<=U2-1:=J;have Pc:=I (show(bu l).length=n*2 by rw[e3,fH.out]);have V:(0:Int)<=(n:Int):=J;have O:(n:Int)<=(cap:Int):=J;have L:decide ((n:Int)<(n:Int))=false:=aN;have YR:(n:Int)<=(n:Int):=J;have R:n-n=0:=J;have yU:=I o;unfold maxLen at o;clear B Wy f hb c;obtain rfl:n=cap:=v.symm;go_enter func284,ntmps284;go_wp2_with(first|(refine aq ?_)|(refine Ws U 3 ?_;clear U;intro UI w U j7)|(refine VP U eK ?_;clear U;intro hQ w U gU)|(refine Po U ?_;clear U;intro w U));replace U:=U.drew;refine b0 ?_;intro X;refine az [[0,1,2,3,4,5,6,7,8,9,10,11,12,13,14,15,16,17,18,19,20,21,22]] ?_;refine aF 23 fun K Z7=>?_;go_simp
 (first|(go_at_call 104;refine(fM _ _ _ _).mono ?_;rintro e w' ⟨rfl,rfl⟩)|skip)
 (try go_wp2_with fail)
 refine PK Z7 fun X=>?_;refine az [[24,25,26,27,28,29,30,31,32,33,34,35]] ?_;go_wp2_with(first|(go_at_call 301;have Yq:=U.b (g:=UI) ag;refine Calls.mono (jw _ (fun b=>b=rg) (.slice (some ⟨rg,0,none⟩) n n) n (eP l) (fun i=>.agg #[.int .i64 (l.getD i ⟨0,0⟩).a,.int .i64 (l.getD i ⟨0,0⟩).z]) 337 #[.pointer (some ⟨UI,0,none⟩)] (fun i=>decide (m<(l.getD i ⟨0,0⟩).a+(l.getD i ⟨0,0⟩).z)) s.out (p.out _ (U.b (g:=rg) ag)) (fun i hi=>iA l i (by rw[fH.out];exact hi)) J (fun i hi w' u=>uv w' _ m _ _ (Yq.below u Yq.lt) (C.out i hi))) ?_;rintro e d ⟨r,rfl,c,N⟩;replace U:=U.below N;clear Yq N;obtain rfl:r= -1:=wv fH.out mx.out c;clear c)|(refine aq ?_)|(refine Ws U 3 ?_;clear U;intro UI w U j7)|(refine VP U eK ?_;clear U;intro hQ w U gU)|(refine Po U ?_;clear U;intro w U));exact n5
theorem Gx(w0:World)(L8 rg:Nat)(a4 U2 m z:Int)(l:List Ext)(hm:a4<=m/\0<=a4/\m %8=0)(T:1<=z/\z %8=0/\m+z<=U2/\U2<=65536)(G:l.length<=65536)(A: ∀x,x∈l->x.a+x.z<=m)(Wy: ∀x,x∈l->0<=x.a/\x.a<=65536/\0<=x.z/\x.z<=65536)(cap:Nat)(rest:List Value)(c:ah w0 rg 130 (bu l++rest).toArray)(v:l.length<=cap)(C:l.length<cap)(o:cap<=maxLen)(H:L8≠rg)(hb:ah w0 L8 363 ([.int .i64 a4,.int .i64 U2,.slice (some ⟨rg,0,none⟩) l.length cap]:List Value).toArray):
 Calls prog 284 #[.pointer (some ⟨L8,0,none⟩),.int .i64 m,.int .i64 z] w0 fun e w'=> ∃j,e= .returned (.int .i64 0)/\cY w' L8 j a4 U2 (give l m z)/\(j=rg\/w0.heap.size<=j)/\Z1 (fun b=>b≠L8/\b≠rg) w0 w':=by
 obtain⟨n,fH⟩: ∃n,Hid (l.length=n):=⟨_,I rfl⟩
 have p: ∀d:World,ah d rg 130 (bu l++rest).toArray->KC d (fun b=>b=rg) (.slice (some ⟨rg,0,none⟩) n cap) n 2 (eP l):=fun d h=>by
  have:=mF h v o;rw[fH.out]at this;exact this
 replace p:=I p;rw[fH.out]at hb v G C;have B:=I (show∀i,i<n->0<=(l.getD i ⟨0,0⟩).a/\(l.getD i ⟨0,0⟩).a<=65536/\0<=(l.getD i ⟨0,0⟩).z/\(l.getD i ⟨0,0⟩).z<=65536 from fun i hi=>by
  rw[ae,an (by rw[fH.out];exact hi)];exact Wy _ (bA _))
 have mx:=I A;have VN:=I Wy;have f: ∀args w,(callFunc 337 args).run prog w= .ok (.enter 337 args) w:=enters_of func337 aM rfl;have s:=I f;have rs: ∀(fn:Fn) (first cap:Array Value) (w:World),(Instr.makeFunc fn first cap).run prog w= .ok (.func fn first cap) w:=fun _ _ _ _=>rfl;have U:=Bx.two hb c H;have VQ:decide (z<1)=false:=by simp;omega
 have F:(z %8 !=0)=false:=by simp;omega
 have q:(m %8 !=0)=false:=by simp;omega
 have M:IntKind.i64.wrap (U2-1)=U2-1:=by rw[IntKind.wrap_i64];omega
 have VD:IntKind.i64.wrap (U2-m)=U2-m:=by rw[IntKind.wrap_i64];omega
 have Zq:decide (z>U2-m)=false:=by simp;omega
 have P:(0:Int)<=z:=J;have t2:(z.tmod 8 !=0)=false:=by rw[al J];exact F
 have t3:(m.tmod 8 !=0)=false:=by rw[al J];exact q
 have W:decide (a4<=m)=true:=by simpa using hm.1
 have PM:decide (m<=U2-1)=true:=by simp;omega
 have YK:(0:Int)<=m:=J;have Q:a4<=m:=J;have PN:m<=U2-1:=J;have Pc:=I (show(bu l).length=n*2 by rw[e3,fH.out]);have V:(0:Int)<=(n:Int):=J;have O:(n:Int)<=(cap:Int):=J;have L:decide ((n:Int)<(n:Int))=false:=aN;have YR:(n:Int)<=(n:Int):=J;have R:n-n=0:=J;have yU:=I o;unfold maxLen at o;clear A Wy f hb c;have fc:(n:Int)<(cap:Int):=J;go_enter func284,ntmps284;go_wp2_with(first|(refine aq ?_)|(refine Ws U 3 ?_;clear U;intro UI w U j7)|(refine VP U eK ?_;clear U;intro hQ w U gU)|(refine Po U ?_;clear U;intro w U));replace U:=U.drew;refine b0 ?_;intro X;refine az [[0,1,2,3,4,5,6,7,8,9,10,11,12,13,14,15,16,17,18,19,20,21,22]] ?_;refine aF 23 fun K Z7=>?_;go_simp
 (first|(go_at_call 104;refine(fM _ _ _ _).mono ?_;rintro e w' ⟨rfl,rfl⟩)|skip)
 (try go_wp2_with fail)
 refine PK Z7 fun X=>?_;refine az [[24,25,26,27,28,29,30,31,32,33,34,35]] ?_;go_wp2_with(first|(go_at_call 301;have Yq:=U.b (g:=UI) ag;refine Calls.mono (jw _ (fun b=>b=rg) (.slice (some ⟨rg,0,none⟩) n cap) n (eP l) (fun i=>.agg #[.int .i64 (l.getD i ⟨0,0⟩).a,.int .i64 (l.getD i ⟨0,0⟩).z]) 337 #[.pointer (some ⟨UI,0,none⟩)] (fun i=>decide (m<(l.getD i ⟨0,0⟩).a+(l.getD i ⟨0,0⟩).z)) s.out (p.out _ (U.b (g:=rg) ag)) (fun i hi=>iA l i (by rw[fH.out];exact hi)) J (fun i hi w' u=>uv w' _ m _ _ (Yq.below u Yq.lt) (B.out i hi))) ?_;rintro e d ⟨r,rfl,c,N⟩;replace U:=U.below N;clear Yq N;obtain rfl:r= -1:=wv fH.out mx.out c;clear c)|(refine aq ?_)|(refine Ws U 3 ?_;clear U;intro UI w U j7)|(refine VP U eK ?_;clear U;intro hQ w U gU)|(refine Po U ?_;clear U;intro w U));exact n5
end Go.Proofs.YtcimojgkeoecfaaGreat
