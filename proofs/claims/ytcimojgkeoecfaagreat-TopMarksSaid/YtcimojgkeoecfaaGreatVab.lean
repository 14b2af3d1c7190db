import Derived.Lib.Hide
set_option linter.all false
set_option maxHeartbeats 16000000
set_option maxRecDepth 100000
namespace Go.Proofs.YtcimojgkeoecfaaGreat
theorem I{p:Prop}(h:p):Go.RowKit.Hid p:=Go.Lib.hid h
end Go.Proofs.YtcimojgkeoecfaaGreat
