/- TopMarks answers true for every input: an object's head stays as it was made as long as somebody is within its scope, and whether it was finalized changes only while the last one leaves. No conditions. -/
import Derived.Test.YtcimojgkeoecfaaGreatKbb
import Derived.Test.YtcimojgkeoecfaaGreatChecked
import Derived.Test.YtcimojgkeoecfaaGreatRows
set_option linter.all false
set_option maxHeartbeats 16000000
set_option maxRecDepth 100000
namespace Go.Proofs.YtcimojgkeoecfaaGreat
namespace topMarks
open Go.ChangeShapes Go.WideShapes Go.ChangeAt Go.RowKit
theorem own:ownKnob Tryz.prog.godebug=none:=aM
theorem Ih:laidOutB Tryz.prog=true:=aM
theorem lifted(os:Os)(O:os.Started)(H:Type)(enc:TypeId×Value->H):
 ReturnsInHanded {} Tryz.checked os 6 .any (Rows.topMarksSpec.pre6 enc Tryz.prog Tryz.f6 Rows.topMarksRow.domain false) (Rows.topMarksSpec.post enc Tryz.prog Tryz.f6 false true false false):=by
 refine returnsInHanded_of_change (C:=Tryz.checked) own O aM Tryz.func6
  (ChangeSpec.witness6 (enc:=enc) (C:=Tryz.checked) false ⟨#[],#[.slice none 0 0],[]⟩ 8 aM aM aM aM) ?_
 intro W base args ds gs before f c hcnd _;have n: ∀(j:Nat) t v,Tryz.f6.params[j]? =some t->args[j]? =some v->Value.okWide Tryz.prog W .any base t v:=f;have w:=c;obtain⟨p,q,g,M,rfl,U,T⟩:=c;have b:DataW.TrodAll enc Tryz.prog W 0 (λ_=>true) true Tryz.f6.params.toList args.toList ds p:=g;rw[Tryz.params6]at b n;obtain⟨l,Q,d0,R,o,S,P,rfl,rfl,L,F⟩:=trodAll_cons b;obtain⟨rfl,rfl,rfl⟩:=trodAll_nil F;obtain rfl:args= #[l]:=by cases args;simp_all
 obtain⟨rfl,rfl⟩:=trodVars_none M;have a:=L;have y: ∀x∈o,x.block<W.heap.size:=by obtain⟨m,hm⟩:=a;exact DataW.trod_lt m _ _ _ hm
 obtain⟨N,r,G,s,rfl,z,A,K,u⟩:=acP (k:=.u8) Tryz.underlying22 aM aM (n 0 22 l rfl rfl) a;clear g f;refine(agY N r G s W ⟨z,A⟩ K (λi=>Kv (u i))).mono λe W' ⟨B,d⟩=>?_
 subst B;exact⟨_,rfl,_,_,_,[],_,[],w,trodAll_mk1 (shut_bool Tryz.underlying4 _),(trodAll_cons_mk (Below.trod Ih aM (of_decide_eq_true aM) a d y) trodAll_mk0),rfl,d.frame _,λh=>by cases h⟩
theorem Rf:Rows.topMarksRow.holds Tryz.pinned (OpenSpec.ofChange Rows.topMarksSpec):=
 OpenClaim.holds_of_wide 6 Tryz.f6 rfl rfl rfl rfl rfl rfl rfl ⟨rfl,rfl,rfl,rfl,rfl⟩ rfl rfl rfl rfl rfl (by as_aux_lemma=>kernel_rfl) Tryz.func6 (by unfold joinedFacts;(repeat' (with_reducible refine Bool.and_eq_true_iff.2 ⟨?_,?_⟩))<;>as_aux_lemma=>kernel_rfl)
  (by as_aux_lemma=>exact of_decide_eq_true aM) (by as_aux_lemma=>unfold Func.isWrapper;first|(rw[Z (by decide+kernel)];kernel_rfl)|(rw[Y (by decide+kernel)];exact⟨rfl,rfl⟩))
  (λos a H enc _=>lifted os a H enc)
theorem proved:Rows.TopMarksSaid:=Rf
end topMarks
end Go.Proofs.YtcimojgkeoecfaaGreat
