import Derived.Test.YtcimojgkeoecfaaGreatXaj
import Derived.Shelf.Abstract
set_option linter.all false
set_option maxHeartbeats 16000000
set_option maxRecDepth 100000
namespace Go.Proofs.YtcimojgkeoecfaaGreat
open Go.RowKit Tryz
theorem kE{G:Prop}(h:G:=by
 go_wp2_with fail;go_loopw [8] (fun i wr=> ∃k:Nat,k<=n/\i= .int .i64 k/\Hid (∀j,j<k->Q j=false)/\Below w.heap.size w wr) (fun i _=>n-(intOf i).toNat)
 case atStart=>exact⟨0,by omega,rfl,I fun j aeD=>by omega,Below.refl _ _⟩
 case round=>
  obtain⟨k,ae3,rfl,dU,Yq⟩:=hrel;by_cases bV:k<n
  ·obtain⟨b,off,rfl,YF,hb,XP⟩:=H.out (by omega);have V1:=Yl.out k bV;have Wy:=(Yq.cell (p:=⟨b,off+k,none⟩) hb).trans (by simpa using XP k 0 (eV k) bV (by simp[V1]));clear V1;have en:=WX.out k bV _ Yq;cases VX:Q k with
   |true=>
    rw[VX]at en;have ab0:=I VX;clear VX XP;go_wp2_with(first|(refine en.mono ?_;rintro e aaM ⟨rfl,N⟩));go_ret;exact⟨_,rfl,.inr ⟨k,rfl,bV,ab0.out,dU.out⟩,Yq.trans (N.mono Yq.size)⟩
   |false=>
    rw[VX]at en;have ab0:=I VX;clear VX XP;go_wp2_with(first|(refine en.mono ?_;rintro e aaM ⟨rfl,N⟩));go_roundw
    case rel=>exact⟨k+1,by omega,by go_num,I fun j aeD=>by
     by_cases c:j=k
     ·subst c;exact ab0.out
     ·exact dU.out j (by omega),Yq.trans (N.mono Yq.size)⟩
    case measure=>simp[intOf];omega
  ·obtain rfl:k=n:=by omega
   go_wp2_with fail;go_ret;exact⟨_,rfl,.inl ⟨rfl,fun i hi=>dU.out i hi⟩,Yq⟩):G:=h
theorem kF{G:Prop}(h:G:=by
 go_wp2_with(first|(refine XP.mono ?_;rintro e aaM ⟨r,rfl,abk,N⟩));go_ret;refine⟨_,rfl,?_,N⟩;rcases abk with⟨rfl,abk⟩|⟨i,rfl,hi,VX,_⟩
 ·exact .inl ⟨rfl,abk⟩
 ·exact .inr ⟨by simp,i,hi,VX⟩):G:=h
section
variable(w:World)(S:Nat->Prop)(v:Value)(n:Nat)(F:Nat->List Value)(eV:Nat->Value)(g9:FuncId)(caps:Array Value)(Q:Nat->Bool)(ab7: ∀args w,(callFunc g9 args).run prog w= .ok (.enter g9 args) w)(h:acr w S v n 1 F)(abo: ∀i,i<n->F i= [eV i])(abi:n<=65536)(acA: ∀i,i<n->∀w',Below w.heap.size w w'->Calls prog g9 (#[eV i]++caps) w' fun e du=>e= .returned (.bool (Q i))/\Below w'.heap.size w' du)
include w S v n F eV g9 caps Q ab7 h abo abi acA
theorem Fi
 :
 Calls prog 297 #[v,.func (.func g9) #[] caps] w fun e w'=> ∃r:Int,e= .returned (.int .i64 r)/\(r= -1/\(∀i,i<n->Q i=false)\/∃i:Nat,r=i/\i<n/\Q i=true/\∀j,j<i->Q j=false)/\Below w.heap.size w w':=by
 obtain⟨A,c,rfl,h1,aaV,ZV⟩:=id h;clear h h1 aaV;have H:=I ZV;have Yl:=I abo;have WX:=I acA;clear ZV abo acA;go_enter func297,ntmps297;exact kE
theorem wk
 :
 Calls prog 227 #[v,.func (.func g9) #[] caps] w fun e w'=> ∃r:Bool,e= .returned (.bool r)/\(r=false/\(∀i,i<n->Q i=false)\/r=true/\∃i,i<n/\Q i=true)/\Below w.heap.size w w':=by
 have XP:=Fi w S v n F eV g9 caps Q ab7 h abo abi acA;clear ab7 h abo acA;go_enter func227,ntmps227;exact kF
theorem CL
 :
 Calls prog 299 #[v,.func (.func g9) #[] caps] w fun e w'=> ∃r:Int,e= .returned (.int .i64 r)/\(r= -1/\(∀i,i<n->Q i=false)\/∃i:Nat,r=i/\i<n/\Q i=true/\∀j,j<i->Q j=false)/\Below w.heap.size w w':=by
 obtain⟨A,c,rfl,h1,aaV,ZV⟩:=id h;clear h h1 aaV;have H:=I ZV;have Yl:=I abo;have WX:=I acA;clear ZV abo acA;go_enter func299,ntmps299;exact kE
theorem uq
 :
 Calls prog 231 #[v,.func (.func g9) #[] caps] w fun e w'=> ∃r:Bool,e= .returned (.bool r)/\(r=false/\(∀i,i<n->Q i=false)\/r=true/\∃i,i<n/\Q i=true)/\Below w.heap.size w w':=by
 have XP:=CL w S v n F eV g9 caps Q ab7 h abo abi acA;clear ab7 h abo acA;go_enter func231,ntmps231;exact kF
theorem yN
 :
 Calls prog 195 #[v,.func (.func g9) #[] caps] w fun e w'=> ∃r:Int,e= .returned (.int .i64 r)/\(r= -1/\(∀i,i<n->Q i=false)\/∃i:Nat,r=i/\i<n/\Q i=true/\∀j,j<i->Q j=false)/\Below w.heap.size w w':=by
 obtain⟨A,c,rfl,h1,aaV,ZV⟩:=id h;clear h h1 aaV;have H:=I ZV;have Yl:=I abo;have WX:=I acA;clear ZV abo acA;go_enter func195,ntmps195;exact kE
theorem xk
 :
 Calls prog 118 #[v,.func (.func g9) #[] caps] w fun e w'=> ∃r:Bool,e= .returned (.bool r)/\(r=false/\(∀i,i<n->Q i=false)\/r=true/\∃i,i<n/\Q i=true)/\Below w.heap.size w w':=by
 have XP:=yN w S v n F eV g9 caps Q ab7 h abo abi acA;clear ab7 h abo acA;go_enter func118,ntmps118;exact kF
end
theorem jw(w:World)(S:Nat->Prop)(v:Value)(n:Nat)(F:Nat->List Value)(eV:Nat->Value)(g9:FuncId)(caps:Array Value)(Q:Nat->Bool)(ab7: ∀args w,(callFunc g9 args).run prog w= .ok (.enter g9 args) w)(h:acr w S v n 2 F)(abo: ∀i,i<n->∃a b,F i= [a,b]/\eV i= .agg #[a,b])
 (abi:n<=65536)(acA: ∀i,i<n->∀w',Below w.heap.size w w'->Calls prog g9 (#[eV i]++caps) w' fun e du=>e= .returned (.bool (Q i))/\Below w'.heap.size w' du):
 Calls prog 301 #[v,.func (.func g9) #[] caps] w fun e w'=> ∃r:Int,e= .returned (.int .i64 r)/\(r= -1/\(∀i,i<n->Q i=false)\/∃i:Nat,r=i/\i<n/\Q i=true/\∀j,j<i->Q j=false)/\Below w.heap.size w w':=by
 obtain⟨A,c,rfl,h1,aaV,ZV⟩:=id h;clear h h1 aaV;have H:=I ZV;have Yl:=I abo;have WX:=I acA;clear ZV abo acA;go_enter func301,ntmps301;go_wp2_with fail;go_loopw [8] (fun i wr=> ∃k:Nat,k<=n/\i= .int .i64 k/\Hid (∀j,j<k->Q j=false)/\Below w.heap.size w wr) (fun i _=>n-(intOf i).toNat)
 case atStart=>exact⟨0,J,rfl,I fun j aeD=>J,Below.refl _ _⟩
 case round=>
  obtain⟨k,ae3,rfl,dU,Yq⟩:=hrel;by_cases bV:k<n
  ·obtain⟨b,off,rfl,YF,hb,XP⟩:=H.out J;have V1:=Yl.out k bV;obtain⟨adC,aaK,V1,OX⟩:=V1;have Wy:=(Yq.cell (p:=⟨b,off+k*2,none⟩) hb).trans (by have:=XP k 0 adC bV (by rw[V1];first|done|rfl);exact this);have hy:=(Yq.cell (p:=⟨b,off+k*2+1,none⟩) hb).trans (by have:=XP k 1 aaK bV (by rw[V1];first|done|rfl);exact this);clear V1;have en:=WX.out k bV _ Yq;rw[OX]at en;clear OX;cases VX:Q k with
   |true=>
    rw[VX]at en;have ab0:=I VX;clear VX XP;go_wp2_with(first|(refine en.mono ?_;rintro e aaM ⟨rfl,N⟩));go_ret;exact⟨_,rfl,.inr ⟨k,rfl,bV,ab0.out,dU.out⟩,Yq.trans (N.mono Yq.size)⟩
   |false=>
    rw[VX]at en;have ab0:=I VX;clear VX XP;go_wp2_with(first|(refine en.mono ?_;rintro e aaM ⟨rfl,N⟩));go_roundw
    case rel=>exact⟨k+1,J,by go_num,I fun j aeD=>by
     by_cases c:j=k
     ·subst c;exact ab0.out
     ·exact dU.out j J,Yq.trans (N.mono Yq.size)⟩
    case measure=>simp[intOf];omega
  ·obtain rfl:k=n:=by omega
   go_wp2_with fail;go_ret;exact⟨_,rfl,.inl ⟨rfl,fun i hi=>dU.out i hi⟩,Yq⟩
end Go.Proofs.YtcimojgkeoecfaaGreat
