import Derived.Test.YtcimojgkeoecfaaGreatVaa
import Derived.WalkKit
set_option linter.all false
set_option maxHeartbeats 16000000
set_option maxRecDepth 100000
namespace Go.Proofs.YtcimojgkeoecfaaGreat
open Go.RowKit
section
abbrev jI(n:Int):Prop:= -9223372036854775808<=n/\n<=9223372036854775807
abbrev aR(n:Int):Prop:=0<=n/\n<=18446744073709551615
theorem qx{a b:Bool}(h:a=b):Ending.returned (.bool a)= .returned (.bool b):=by rw[h]
theorem lC{k:IntKind}{a b:Int}(h:a=b):Ending.returned (.int k a)= .returned (.int k b):=by rw[h]
theorem wX{k l:IntKind}{a b c d:Int}(h:a=b)(g:c=d):Ending.returned (.tuple #[.int k a,.int l c])= .returned (.tuple #[.int k b,.int l d]):=by rw[h,g]
theorem tF(n:Int)(a:0<=n)(b:n<2^64):IntKind.u64.wrap n=n:=by rw[IntKind.wrap_u64];omega
theorem gM(n:Int)(a:0<=n)(b:n<2^63):IntKind.i64.wrap n=n:=by rw[IntKind.wrap_i64];omega
theorem Cc(k:Nat)(a:k<63)(n:Int):bits .and .i64 n ((2^k-1:Nat):Int)=n %((2^k:Nat):Int):=by
 have c:2^k<=2^62:=Nat.pow_le_pow_right am J;have d:0<2^k:=Nat.two_pow_pos k;have hm:(BitVec.ofInt 64 ((2^k-1:Nat):Int)).toNat=2^k-1:=by
  rw[BitVec.ofInt_natCast,BitVec.toNat_ofNat];exact Nat.mod_eq_of_lt J
 have key:(BitVec.ofInt 64 n &&& BitVec.ofInt 64 ((2^k-1:Nat):Int)).toNat=(n %((2^64:Nat):Int)).toNat %2^k:=by
  rw[BitVec.toNat_and,BitVec.toNat_ofInt,hm,cD]
 show IntKind.i64.wrap ((BitVec.ofInt 64 n &&& BitVec.ofInt 64 ((2^k-1:Nat):Int)).toNat:Nat)=_;rw[key];have hd:2^64=2^k*2^(64-k):=by rw[<-Nat.pow_add];congr 1;omega
 have e:(((n %((2^64:Nat):Int)).toNat %2^k:Nat):Int)=n %((2^k:Nat):Int):=by
  rw[Int.natCast_emod,Int.toNat_of_nonneg (b5 _ am)];exact Int.emod_emod_of_dvd n (by rw[hd];exact Int.natCast_dvd_natCast.2 (Nat.dvd_mul_right _ _))
 rw[e,gM]
 ·exact b5 _ J
 ·have:=cA n (b:=((2^k:Nat):Int)) J;omega
theorem abw(n:Int):bits .and .i64 n 16777215=n %16777216:=Cc 24 am n
theorem ac7(n:Int)(d:0<=n)(h1:n<=9223372036854775807):bits .andNot .i64 n 7=8*(n/8):=by
 obtain⟨a,rfl⟩:=bn d;have c:(BitVec.ofInt 64 7).toNat=7:=am;have b:(BitVec.ofInt 64 (a:Int)).toNat=a:=ofInt_u64 a J;show IntKind.i64.wrap ((BitVec.ofInt 64 (a:Int)&&& ~~~ BitVec.ofInt 64 7).toNat:Int)=_;rw[BitVec.toNat_and,BitVec.toNat_not,b,c];have e:a &&&(2^64-1-7)=a %18446744073709551616/8*8:=nat_hi64_3 a;rw[e,IntKind.wrap_i64];omega
theorem pM(i:Nat)(hi:i<=64)(x:Int)(h:aR x):bits .and .u64 x (2^i-1)=x %2^i:=
 bits_mask .u64 64 am tF i hi x h.1 (by have:=h.2;omega)
theorem jJ(x:Int)(h:aR x):bits .and .u64 x 255=x %256:=pM 8 am x h
theorem qy(x:Int)(h:aR x):bits .and .u64 x 16777215=x %16777216:=pM 24 am x h
theorem q0(x:Int)(h:aR x):bits .and .u64 x 4294967295=x %4294967296:=pM 32 am x h
section
variable(i:Nat)(x y:Int)(b:0<=x)(a:x %2^i=0)(c:x<2^64)(d:0<=y)(hy:y<2^i)(e:y<2^64)
include i x y b a c d hy e
theorem lU:bits .or .u64 x y=x+y:=
 bits_join .u64 64 am tF i x y b a c d hy e
theorem jn:bits .or .u64 y x=y+x:=by
 have f:bits .or .u64 y x=bits .or .u64 x y:=by simp only[bits,BitVec.or_comm]
 rw[f,lU i x y b a c d hy e];omega
end
end
theorem Kv{n:Int}(h:(Lit.int .u8 n).wf=true):0<=n/\n<=255:=by
 simp[Lit.wf,IntKind.min,IntKind.max,IntKind.signed,IntKind.bits]at h;omega
end Go.Proofs.YtcimojgkeoecfaaGreat
