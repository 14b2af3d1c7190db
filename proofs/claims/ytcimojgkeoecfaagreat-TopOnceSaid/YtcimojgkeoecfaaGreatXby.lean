import Derived.ProofKit
set_option linter.all false
set_option maxHeartbeats 16000000
set_option maxRecDepth 100000
namespace Go.Proofs.YtcimojgkeoecfaaGreat
open Go.ChangeShapes Go.RowKit Go.WideShapes
def iE(P:Program)(u:TypeId):Option (Option IntKind):=
 match P.underlying u with
 |some .bool=>some .none
 |some (.int k)=>some (some k)
 |_=>.none
def isAgg(P:Program)(t:TypeId):Bool:=
 match P.underlying t with
 |some (.struct _)|some (.array _ _)=>true
 |_=>false
def lS:List (Option IntKind)->List Value->Prop
 | [],ad3=>ad3= []
 |some k::adz,ad3=> ∃n rest,ad3= .int k n::rest/\(Lit.int k n).wf=true/\lS adz rest
 |.none::adz,ad3=> ∃b rest,ad3= .bool b::rest/\lS adz rest
theorem m2{α β:Type}{f:α->Option β}{a:α}{l:List α}{r:List β}(h:(a::l).mapM f=some r): ∃b bs,r=b::bs/\f a=some b/\l.mapM f=some bs:=by
 rw[List.mapM_cons]at h;cases hb:f a with
 |none=>rw[hb]at h;simp at h
 |some b=>
  cases YF:l.mapM f with
  |none=>rw[hb,YF]at h;simp at h
  |some bs=>rw[hb,YF]at h;simp at h;exact⟨b,bs,h.symm,rfl,rfl⟩
end Go.Proofs.YtcimojgkeoecfaaGreat
