import Derived.Test.YtcimojgkeoecfaaGreatXaw
set_option linter.all false
set_option maxHeartbeats 16000000
set_option maxRecDepth 100000
namespace Go.Proofs.YtcimojgkeoecfaaGreat
open Go.RowKit Tryz
theorem Gv(w0:World)(aff rg:Nat)(a4 aaY m z:Int)(l:List Ext)(hm:a4<=m/\0<=a4/\m %8=0)(aeN:1<=z/\z %8=0/\m+z<=aaY/\aaY<=65536)(cV:l.length<=65536)(dU: ∀x,x∈l->x.a+x.z<=m)(Wy: ∀x,x∈l->0<=x.a/\x.a<=65536/\0<=x.z/\x.z<=65536)(cap:Nat)(rest:List Value)(abk:ah w0 rg 130 (bu l++rest).toArray)(XP:l.length<=cap)(Jl:cap=l.length)(c7:cap<=maxLen)(l5:aff≠rg)(hb:ah w0 aff 363 ([.int .i64 a4,.int .i64 aaY,.slice (some ⟨rg,0,none⟩) l.length cap]:List Value).toArray):
 Calls prog 284 #[.pointer (some ⟨aff,0,none⟩),.int .i64 m,.int .i64 z] w0 fun e w'=> ∃aO,e= .returned (.int .i64 0)/\cY w' aff aO a4 aaY (give l m z)/\(aO=rg\/w0.heap.size<=aO)/\Z1 (fun b=>b≠aff/\b≠rg) w0 w':=by
 obtain⟨n,fH⟩: ∃n,Hid (l.length=n):=⟨_,I rfl⟩
 have hL: ∀aaM:World,ah aaM rg 130 (bu l++rest).toArray->acr aaM (fun b=>b=rg) (.slice (some ⟨rg,0,none⟩) n cap) n 2 (eP l):=fun aaM h=>by
  have:=mF h XP c7;rw[fH.out]at this;exact this
 replace hL:=I hL;rw[fH.out]at hb XP cV Jl;have Gw:=I (show∀i,i<n->0<=(l.getD i ⟨0,0⟩).a/\(l.getD i ⟨0,0⟩).a<=65536/\0<=(l.getD i ⟨0,0⟩).z/\(l.getD i ⟨0,0⟩).z<=65536 from fun i hi=>by
  rw[ae,an (by rw[fH.out];exact hi)];exact Wy _ (bA _))
 have mx:=I dU;have VN:=I Wy;have ab7: ∀args w,(callFunc 337 args).run prog w= .ok (.enter 337 args) w:=enters_of func337 aM rfl;have ae6:=I ab7;have rs: ∀(fn:Fn) (first cap:Array Value) (w:World),(Instr.makeFunc fn first cap).run prog w= .ok (.func fn first cap) w:=fun _ _ _ _=>rfl;have U:=aah.two hb abk l5;have adL:decide (z<1)=false:=by simp;omega
 have Yz:(z %8 !=0)=false:=by simp;omega
 have acF:(m %8 !=0)=false:=by simp;omega
 have abw:IntKind.i64.wrap (aaY-1)=aaY-1:=by rw[IntKind.wrap_i64];omega
 have VD:IntKind.i64.wrap (aaY-m)=aaY-m:=by rw[IntKind.wrap_i64];omega
 have Zq:decide (z>aaY-m)=false:=by simp;omega
 have acv:(0:Int)<=z:=J;have t2:(z.tmod 8 !=0)=false:=by rw[al J];exact Yz
 have t3:(m.tmod 8 !=0)=false:=by rw[al J];exact acF
 have PL:decide (a4<=m)=true:=by simpa using hm.1
 have PM:decide (m<=aaY-1)=true:=by simp;omega
 have YK:(0:Int)<=m:=J;have ad6:a4<=m:=J;have PN:m<=aaY-1:=J;have Pc:=I (show(bu l).length=n*2 by rw[e3,fH.out]);have afg:(0:Int)<=(n:Int):=J;have acW:(n:Int)<=(cap:Int):=J;have abT:decide ((n:Int)<(n:Int))=false:=aN;have YR:(n:Int)<=(n:Int):=J;have adv:n-n=0:=J;have yU:=I c7;unfold maxLen at c7;clear dU Wy ab7 hb abk;obtain rfl:n=cap:=Jl.symm;go_enter func284,ntmps284;go_wp2_with(first|(refine aq ?_)|(refine Ws U 3 ?_;clear U;intro ad2 w U j7)|(refine VP U eK ?_;clear U;intro hQ w U gU)|(refine ac2 U ?_;clear U;intro w U));replace U:=U.drew;refine b0 ?_;intro X;refine az [[0,1,2,3,4,5,6,7,8,9,10,11,12,13,14,15,16,17,18,19,20,21,22]] ?_;refine aF 23 fun K Z7=>?_;go_simp
 (first|(go_at_call 104;refine(fM _ _ _ _).mono ?_;rintro e w' ⟨rfl,rfl⟩)|skip)
 (try go_wp2_with fail)
 refine abR Z7 fun X=>?_;refine az [[24,25,26,27,28,29,30,31,32,33,34,35]] ?_;go_wp2_with(first|(go_at_call 301;have Yq:=U.b (g:=ad2) ag;refine Calls.mono (jw _ (fun b=>b=rg) (.slice (some ⟨rg,0,none⟩) n n) n (eP l) (fun i=>.agg #[.int .i64 (l.getD i ⟨0,0⟩).a,.int .i64 (l.getD i ⟨0,0⟩).z]) 337 #[.pointer (some ⟨ad2,0,none⟩)] (fun i=>decide (m<(l.getD i ⟨0,0⟩).a+(l.getD i ⟨0,0⟩).z)) ae6.out (hL.out _ (U.b (g:=rg) ag)) (fun i hi=>iA l i (by rw[fH.out];exact hi)) J (fun i hi w' afl=>uv w' _ m _ _ (Yq.below afl Yq.lt) (Gw.out i hi))) ?_;rintro e aaM ⟨r,rfl,abk,N⟩;replace U:=U.below N;clear Yq N;obtain rfl:r= -1:=wv fH.out mx.out abk;clear abk)|(refine aq ?_)|(refine Ws U 3 ?_;clear U;intro ad2 w U j7)|(refine VP U eK ?_;clear U;intro hQ w U gU)|(refine ac2 U ?_;clear U;intro w U));exact n5
theorem Gx(w0:World)(aff rg:Nat)(a4 aaY m z:Int)(l:List Ext)(hm:a4<=m/\0<=a4/\m %8=0)(aeN:1<=z/\z %8=0/\m+z<=aaY/\aaY<=65536)(cV:l.length<=65536)(dU: ∀x,x∈l->x.a+x.z<=m)(Wy: ∀x,x∈l->0<=x.a/\x.a<=65536/\0<=x.z/\x.z<=65536)(cap:Nat)(rest:List Value)(abk:ah w0 rg 130 (bu l++rest).toArray)(XP:l.length<=cap)(Jl:l.length<cap)(c7:cap<=maxLen)(l5:aff≠rg)(hb:ah w0 aff 363 ([.int .i64 a4,.int .i64 aaY,.slice (some ⟨rg,0,none⟩) l.length cap]:List Value).toArray):
 Calls prog 284 #[.pointer (some ⟨aff,0,none⟩),.int .i64 m,.int .i64 z] w0 fun e w'=> ∃aO,e= .returned (.int .i64 0)/\cY w' aff aO a4 aaY (give l m z)/\(aO=rg\/w0.heap.size<=aO)/\Z1 (fun b=>b≠aff/\b≠rg) w0 w':=by
 obtain⟨n,fH⟩: ∃n,Hid (l.length=n):=⟨_,I rfl⟩
 have hL: ∀aaM:World,ah aaM rg 130 (bu l++rest).toArray->acr aaM (fun b=>b=rg) (.slice (some ⟨rg,0,none⟩) n cap) n 2 (eP l):=fun aaM h=>by
  have:=mF h XP c7;rw[fH.out]at this;exact this
 replace hL:=I hL;rw[fH.out]at hb XP cV Jl;have Gw:=I (show∀i,i<n->0<=(l.getD i ⟨0,0⟩).a/\(l.getD i ⟨0,0⟩).a<=65536/\0<=(l.getD i ⟨0,0⟩).z/\(l.getD i ⟨0,0⟩).z<=65536 from fun i hi=>by
  rw[ae,an (by rw[fH.out];exact hi)];exact Wy _ (bA _))
 have mx:=I dU;have VN:=I Wy;have ab7: ∀args w,(callFunc 337 args).run prog w= .ok (.enter 337 args) w:=enters_of func337 aM rfl;have ae6:=I ab7;have rs: ∀(fn:Fn) (first cap:Array Value) (w:World),(Instr.makeFunc fn first cap).run prog w= .ok (.func fn first cap) w:=fun _ _ _ _=>rfl;have U:=aah.two hb abk l5;have adL:decide (z<1)=false:=by simp;omega
 have Yz:(z %8 !=0)=false:=by simp;omega
 have acF:(m %8 !=0)=false:=by simp;omega
 have abw:IntKind.i64.wrap (aaY-1)=aaY-1:=by rw[IntKind.wrap_i64];omega
 have VD:IntKind.i64.wrap (aaY-m)=aaY-m:=by rw[IntKind.wrap_i64];omega
 have Zq:decide (z>aaY-m)=false:=by simp;omega
 have acv:(0:Int)<=z:=J;have t2:(z.tmod 8 !=0)=false:=by rw[al J];exact Yz
 have t3:(m.tmod 8 !=0)=false:=by rw[al J];exact acF
 have PL:decide (a4<=m)=true:=by simpa using hm.1
 have PM:decide (m<=aaY-1)=true:=by simp;omega
 have YK:(0:Int)<=m:=J;have ad6:a4<=m:=J;have PN:m<=aaY-1:=J;have Pc:=I (show(bu l).length=n*2 by rw[e3,fH.out]);have afg:(0:Int)<=(n:Int):=J;have acW:(n:Int)<=(cap:Int):=J;have abT:decide ((n:Int)<(n:Int))=false:=aN;have YR:(n:Int)<=(n:Int):=J;have adv:n-n=0:=J;have yU:=I c7;unfold maxLen at c7;clear dU Wy ab7 hb abk;have fc:(n:Int)<(cap:Int):=J;go_enter func284,ntmps284;go_wp2_with(first|(refine aq ?_)|(refine Ws U 3 ?_;clear U;intro ad2 w U j7)|(refine VP U eK ?_;clear U;intro hQ w U gU)|(refine ac2 U ?_;clear U;intro w U));replace U:=U.drew;refine b0 ?_;intro X;refine az [[0,1,2,3,4,5,6,7,8,9,10,11,12,13,14,15,16,17,18,19,20,21,22]] ?_;refine aF 23 fun K Z7=>?_;go_simp
 (first|(go_at_call 104;refine(fM _ _ _ _).mono ?_;rintro e w' ⟨rfl,rfl⟩)|skip)
 (try go_wp2_with fail)
 refine abR Z7 fun X=>?_;refine az [[24,25,26,27,28,29,30,31,32,33,34,35]] ?_;go_wp2_with(first|(go_at_call 301;have Yq:=U.b (g:=ad2) ag;refine Calls.mono (jw _ (fun b=>b=rg) (.slice (some ⟨rg,0,none⟩) n cap) n (eP l) (fun i=>.agg #[.int .i64 (l.getD i ⟨0,0⟩).a,.int .i64 (l.getD i ⟨0,0⟩).z]) 337 #[.pointer (some ⟨ad2,0,none⟩)] (fun i=>decide (m<(l.getD i ⟨0,0⟩).a+(l.getD i ⟨0,0⟩).z)) ae6.out (hL.out _ (U.b (g:=rg) ag)) (fun i hi=>iA l i (by rw[fH.out];exact hi)) J (fun i hi w' afl=>uv w' _ m _ _ (Yq.below afl Yq.lt) (Gw.out i hi))) ?_;rintro e aaM ⟨r,rfl,abk,N⟩;replace U:=U.below N;clear Yq N;obtain rfl:r= -1:=wv fH.out mx.out abk;clear abk)|(refine aq ?_)|(refine Ws U 3 ?_;clear U;intro ad2 w U j7)|(refine VP U eK ?_;clear U;intro hQ w U gU)|(refine ac2 U ?_;clear U;intro w U));exact n5
end Go.Proofs.YtcimojgkeoecfaaGreat
