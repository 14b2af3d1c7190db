import Derived.Test.YtcimojgkeoecfaaGreatXbx
import Derived.Test.YtcimojgkeoecfaaGreatXbz
set_option linter.all false
set_option maxHeartbeats 16000000
set_option maxRecDepth 100000
namespace Go.Proofs.YtcimojgkeoecfaaGreat
open Go.RowKit Tryz
theorem xW(A:Option Addr)(n c:Nat)(f:Nat->Int)(w0:World)(XP:n<=c/\c<=maxLen)(R:VE w0 w0.heap.size A n 1 (If .u8 f))(acA: ∀i,0<=f i/\f i<=255):
 Calls prog 7 #[.slice A n c] w0 fun e w'=>e= .returned (.bool true)/\Below w0.heap.size w0 w':=
 Bu Ic w0 (fun _=>True) (.slice A n c) n f ⟨A,c,rfl,XP.1,XP.2,fun abi=>by
  obtain⟨b,off,e,hb,h⟩:=R abi
  exact⟨b,off,e,trivial,hb,h⟩⟩ acA (D XP.1 XP.2)
end Go.Proofs.YtcimojgkeoecfaaGreat
