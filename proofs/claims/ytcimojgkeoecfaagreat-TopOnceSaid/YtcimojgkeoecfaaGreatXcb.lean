/- TopOnce answers true for every input: whatever finalizers do, and whatever they hold, no more objects are finalized, up to any moment, than were made with a tag that has a finalizer, and none says more than it has ops. No conditions. -/
import Derived.Test.YtcimojgkeoecfaaGreatXca
import Derived.Test.YtcimojgkeoecfaaGreatRows
set_option linter.all false
set_option maxHeartbeats 16000000
set_option maxRecDepth 100000
namespace Go.Proofs.YtcimojgkeoecfaaGreat
namespace topOnce
open Go.ChangeShapes Go.WideShapes Go.ChangeAt Go.RowKit
theorem own:ownKnob Tryz.prog.godebug=none:=aM
theorem Ih:laidOutB Tryz.prog=true:=aM
theorem lifted(os:Os)(vt:os.Started)(H:Type)(enc:TypeId×Value->H):
 ReturnsInHanded {} Tryz.checked os 7 .any (Rows.topOnceSpec.pre6 enc Tryz.prog Tryz.f7 Rows.topOnceRow.domain false) (Rows.topOnceSpec.post enc Tryz.prog Tryz.f7 false true false false):=by
 refine returnsInHanded_of_change (C:=Tryz.checked) own vt aM Tryz.func7
  (ChangeSpec.witness6 (enc:=enc) (C:=Tryz.checked) false ⟨#[],#[.slice none 0 0],[]⟩ 8 aM aM aM aM) ?_
 intro W base args ds gs before Ii ae9 hcnd _;have wW: ∀(j:Nat) t v,Tryz.f7.params[j]? =some t->args[j]? =some v->Value.okWide Tryz.prog W .any base t v:=Ii;have Nm:=ae9;obtain⟨p,q,Re,Yg,rfl,tc,gf⟩:=ae9;have adu:DataW.TrodAll enc Tryz.prog W 0 (fun _=>true) true Tryz.f7.params.toList args.toList ds p:=Re;rw[Tryz.params7]at adu wW;obtain⟨Xr,Vn,d0,Vo,abz,Zh,TZ,rfl,rfl,YM,V4⟩:=trodAll_cons adu;obtain⟨rfl,rfl,rfl⟩:=trodAll_nil V4;obtain rfl:args= #[Xr]:=by cases args;simp_all
 obtain⟨rfl,rfl⟩:=trodVars_none Yg;have acZ:=YM;have T0: ∀x∈abz,x.block<W.heap.size:=by obtain⟨m,hm⟩:=acZ;exact DataW.trod_lt m _ _ _ hm
 obtain⟨Zk,acT,VI,aaC,rfl,T1,T2,YE,ac0⟩:=xV (k:=.u8) Tryz.underlying22 aM aM (wW 0 22 Xr rfl rfl) acZ;clear Re Ii;refine(xW Zk acT VI aaC W ⟨T1,T2⟩ YE (fun i=>Kv (ac0 i))).mono fun e W' ⟨V1,AS⟩=>?_;subst V1;exact⟨_,rfl,_,_,_,[],_,[],Nm,trodAll_mk1 (shut_bool Tryz.underlying4 _),(trodAll_cons_mk (Below.trod Ih aM (of_decide_eq_true aM) acZ AS T0) trodAll_mk0),rfl,AS.frame _,fun h=>by cases h⟩
theorem agi{a b:Bool}(h:a=true)(g:b=true):(a&&b)=true:=by rw[h,g];rfl
theorem Rf:Rows.topOnceRow.holds Tryz.pinned (OpenSpec.ofChange Rows.topOnceSpec):=
 OpenClaim.holds_of_wide 7 Tryz.f7 rfl rfl rfl rfl rfl rfl rfl ⟨rfl,rfl,rfl,rfl,rfl⟩ rfl rfl rfl rfl rfl (by as_aux_lemma=>kernel_rfl) Tryz.func7 (by unfold joinedFacts;(repeat' (with_reducible refine agi ?_ ?_))<;>as_aux_lemma=>kernel_rfl)
  (by as_aux_lemma=>exact of_decide_eq_true aM) (by as_aux_lemma=>unfold Func.isWrapper;first|(rw[Z (by decide+kernel)];kernel_rfl)|(rw[Y (by decide+kernel)];exact⟨rfl,rfl⟩))
  (fun os vt H enc _=>lifted os vt H enc)
theorem proved:Rows.TopOnceSaid:=Rf
end topOnce
end Go.Proofs.YtcimojgkeoecfaaGreat
