import Derived.KernelRfl
set_option linter.all false
set_option maxHeartbeats 16000000
set_option maxRecDepth 100000
namespace Go.Proofs.YtcimojgkeoecfaaGreat
theorem aM{p:Prop}(h:p:=by kernel_rfl):p:=h
end Go.Proofs.YtcimojgkeoecfaaGreat
