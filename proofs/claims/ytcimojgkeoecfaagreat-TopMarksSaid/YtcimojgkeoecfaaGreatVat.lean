import Derived.Test.YtcimojgkeoecfaaGreatVaj
import Derived.Shelf.Abstract
set_option linter.all false
set_option maxHeartbeats 16000000
set_option maxRecDepth 100000
namespace Go.Proofs.YtcimojgkeoecfaaGreat
open Go.RowKit Tryz
theorem kE{G:Prop}(h:G:=by
 go_wp2_with fail;go_loopw [8] (fun i wr=> ∃k:Nat,k<=n/\i= .int .i64 k/\Hid (∀j,j<k->Q j=false)/\Below w.heap.size w wr) (fun i _=>n-(intOf i).toNat)
 case atStart=>exact⟨0,by omega,rfl,I fun j OV=>by omega,Below.refl _ _⟩
 case round=>
  obtain⟨k,TS,rfl,dU,Yq⟩:=hrel;by_cases bV:k<n
  ·obtain⟨b,off,rfl,YF,hb,XP⟩:=H.out (by omega);have V1:=Yl.out k bV;have Wy:=(Yq.cell (p:=⟨b,off+k,none⟩) hb).trans (by simpa using XP k 0 (eV k) bV (by simp[V1]));clear V1;have en:=WX.out k bV _ Yq;cases VX:Q k with
   |true=>
    rw[VX]at en;have XL:=I VX;clear VX XP;go_wp2_with(first|(refine en.mono ?_;rintro e EH ⟨rfl,N⟩));go_ret;exact⟨_,rfl,.inr ⟨k,rfl,bV,XL.out,dU.out⟩,Yq.trans (N.mono Yq.size)⟩
   |false=>
    rw[VX]at en;have XL:=I VX;clear VX XP;go_wp2_with(first|(refine en.mono ?_;rintro e EH ⟨rfl,N⟩));go_roundw
    case rel=>exact⟨k+1,by omega,by go_num,I fun j OV=>by
     by_cases c:j=k
     ·subst c;exact XL.out
     ·exact dU.out j (by omega),Yq.trans (N.mono Yq.size)⟩
    case measure=>simp[intOf];omega
  ·obtain rfl:k=n:=by omega
   go_wp2_with fail;go_ret;exact⟨_,rfl,.inl ⟨rfl,fun i hi=>dU.out i hi⟩,Yq⟩):G:=h
theorem kF{G:Prop}(h:G:=by
 go_wp2_with(first|(refine XP.mono ?_;rintro e EH ⟨r,rfl,UD,N⟩));go_ret;refine⟨_,rfl,?_,N⟩;rcases UD with⟨rfl,UD⟩|⟨i,rfl,hi,VX,_⟩
 ·exact .inl ⟨rfl,UD⟩
 ·exact .inr ⟨by simp,i,hi,VX⟩):G:=h
section
variable(w:World)(S:Nat->Prop)(v:Value)(n:Nat)(F:Nat->List Value)(eV:Nat->Value)(g:FuncId)(caps:Array Value)(Q:Nat->Bool)(f: ∀args w,(callFunc g args).run prog w= .ok (.enter g args) w)(h:KC w S v n 1 F)(a: ∀i,i<n->F i= [eV i])(l:n<=65536)(d: ∀i,i<n->∀w',Below w.heap.size w w'->Calls prog g (#[eV i]++caps) w' fun e m=>e= .returned (.bool (Q i))/\Below w'.heap.size w' m)
include w S v n F eV g caps Q f h a l d
theorem Fi
 :
 Calls prog 297 #[v,.func (.func g) #[] caps] w fun e w'=> ∃r:Int,e= .returned (.int .i64 r)/\(r= -1/\(∀i,i<n->Q i=false)\/∃i:Nat,r=i/\i<n/\Q i=true/\∀j,j<i->Q j=false)/\Below w.heap.size w w':=by
 obtain⟨A,c,rfl,h1,o,q⟩:=id h;clear h h1 o;have H:=I q;have Yl:=I a;have WX:=I d;clear q a d;go_enter func297,ntmps297;exact kE
theorem wk
 :
 Calls prog 227 #[v,.func (.func g) #[] caps] w fun e w'=> ∃r:Bool,e= .returned (.bool r)/\(r=false/\(∀i,i<n->Q i=false)\/r=true/\∃i,i<n/\Q i=true)/\Below w.heap.size w w':=by
 have XP:=Fi w S v n F eV g caps Q f h a l d;clear f h a d;go_enter func227,ntmps227;exact kF
theorem CL
 :
 Calls prog 299 #[v,.func (.func g) #[] caps] w fun e w'=> ∃r:Int,e= .returned (.int .i64 r)/\(r= -1/\(∀i,i<n->Q i=false)\/∃i:Nat,r=i/\i<n/\Q i=true/\∀j,j<i->Q j=false)/\Below w.heap.size w w':=by
 obtain⟨A,c,rfl,h1,o,q⟩:=id h;clear h h1 o;have H:=I q;have Yl:=I a;have WX:=I d;clear q a d;go_enter func299,ntmps299;exact kE
theorem uq
 :
 Calls prog 231 #[v,.func (.func g) #[] caps] w fun e w'=> ∃r:Bool,e= .returned (.bool r)/\(r=false/\(∀i,i<n->Q i=false)\/r=true/\∃i,i<n/\Q i=true)/\Below w.heap.size w w':=by
 have XP:=CL w S v n F eV g caps Q f h a l d;clear f h a d;go_enter func231,ntmps231;exact kF
theorem acs
 :
 Calls prog 195 #[v,.func (.func g) #[] caps] w fun e w'=> ∃r:Int,e= .returned (.int .i64 r)/\(r= -1/\(∀i,i<n->Q i=false)\/∃i:Nat,r=i/\i<n/\Q i=true/\∀j,j<i->Q j=false)/\Below w.heap.size w w':=by
 obtain⟨A,c,rfl,h1,o,q⟩:=id h;clear h h1 o;have H:=I q;have Yl:=I a;have WX:=I d;clear q a d;go_enter func195,ntmps195;exact kE
theorem acc
 :
 Calls prog 118 #[v,.func (.func g) #[] caps] w fun e w'=> ∃r:Bool,e= .returned (.bool r)/\(r=false/\(∀i,i<n->Q i=false)\/r=true/\∃i,i<n/\Q i=true)/\Below w.heap.size w w':=by
 have XP:=acs w S v n F eV g caps Q f h a l d;clear f h a d;go_enter func118,ntmps118;exact kF
end
theorem jw(w:World)(S:Nat->Prop)(v:Value)(n:Nat)(F:Nat->List Value)(M:Nat->Value)(u:FuncId)(caps:Array Value)(Q:Nat->Bool)(T: ∀args w,(callFunc u args).run prog w= .ok (.enter u args) w)(h:KC w S v n 2 F)(q: ∀i,i<n->∃a b,F i= [a,b]/\M i= .agg #[a,b])
 (U:n<=65536)(s: ∀i,i<n->∀w',Below w.heap.size w w'->Calls prog u (#[M i]++caps) w' fun e R=>e= .returned (.bool (Q i))/\Below w'.heap.size w' R):
 Calls prog 301 #[v,.func (.func u) #[] caps] w fun e w'=> ∃r:Int,e= .returned (.int .i64 r)/\(r= -1/\(∀i,i<n->Q i=false)\/∃i:Nat,r=i/\i<n/\Q i=true/\∀j,j<i->Q j=false)/\Below w.heap.size w w':=by
 obtain⟨A,c,rfl,h1,B,L⟩:=id h;clear h h1 B;have H:=I L;have P:=I q;have O:=I s;clear L q s;go_enter func301,ntmps301;go_wp2_with fail;go_loopw [8] (fun i wr=> ∃k:Nat,k<=n/\i= .int .i64 k/\Hid (∀j,j<k->Q j=false)/\Below w.heap.size w wr) (fun i _=>n-(intOf i).toNat)
 case atStart=>exact⟨0,J,rfl,I fun j G=>J,Below.refl _ _⟩
 case round=>
  obtain⟨k,V,rfl,x,d⟩:=hrel;by_cases m:k<n
  ·obtain⟨b,off,rfl,X,hb,t⟩:=H.out J;have l:=P.out k m;obtain⟨C,y,l,K⟩:=l;have W:=(d.cell (p:=⟨b,off+k*2,none⟩) hb).trans (by have:=t k 0 C m (by rw[l];first|done|rfl);exact this);have hy:=(d.cell (p:=⟨b,off+k*2+1,none⟩) hb).trans (by have:=t k 1 y m (by rw[l];first|done|rfl);exact this);clear l;have o:=O.out k m _ d;rw[K]at o;clear K;cases g:Q k with
   |true=>
    rw[g]at o;have f:=I g;clear g t;go_wp2_with(first|(refine o.mono ?_;rintro e z ⟨rfl,N⟩));go_ret;exact⟨_,rfl,.inr ⟨k,rfl,m,f.out,x.out⟩,d.trans (N.mono d.size)⟩
   |false=>
    rw[g]at o;have f:=I g;clear g t;go_wp2_with(first|(refine o.mono ?_;rintro e z ⟨rfl,N⟩));go_roundw
    case rel=>exact⟨k+1,J,by go_num,I fun j G=>by
     by_cases c:j=k
     ·subst c;exact f.out
     ·exact x.out j J,d.trans (N.mono d.size)⟩
    case measure=>simp[intOf];omega
  ·obtain rfl:k=n:=by omega
   go_wp2_with fail;go_ret;exact⟨_,rfl,.inl ⟨rfl,fun i hi=>x.out i hi⟩,d⟩
end Go.Proofs.YtcimojgkeoecfaaGreat
