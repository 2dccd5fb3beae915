/- No condition. -/
import Derived.Test.YtpkabclplaibaaaGreatDoorQwAmLoop
set_option linter.all false
namespace Go.Am
section
variable {U V:Type} (e:Int->U->U) (c:U->Nat)
end
def ZT {U:Type}{xs:List U}{i:Nat}{x:U}(h:xs[i]?=some x)(d:U):aL xs (i:Int) d=x:=by rw[kl];simp[List.getD,h]
def WL {V:Type}(X:Nat->Int->Option V)(L:Nat)(R:Option V)(a:∀n k,k<L->X (n+1) (k:Int)=X n ((k+1:Nat):Int))(b:∀n,X (n+1) (L:Int)=R)(n:Nat)(f:L<n):X n 0=R :=
 cx (fun n i (_:Unit)=>X n i) L (fun _ _=>True) R (fun n k z d _=>.inr ⟨(),a n k d,trivial⟩) (fun n _ _=>b n) n 0 () (a7 _) trivial (by omega)
end Go.Am
