/- No condition. -/
import Derived.Test.YtpkabclplaibaaaGreatDoorQhAmLoop
set_option linter.all false
namespace Go.Am
section
variable {U V:Type} (e:Int->U->U) (c:U->Nat)
end
def aoc {γ δ V:Type}(X:Nat->Int->List δ->Option V)(a:List γ)(g:γ->δ)(R:Option V)
  (d:∀n k (h:k<a.length) xs,xs.length=k->X (n+1) (k:Int) xs=X n ((k+1:Nat):Int) (xs++[g a[k]])) (f:∀n,X (n+1) (a.length:Int) (a.map g)=R) (n:Nat) (i:a.length<n):X n 0 []=R:=by
 refine b9 X a.length (fun k xs=>xs=(a.take k).map g) R (fun n k xs b h=>.inr ⟨xs++[g a[k]],d n k b xs (by rw[h,fB,bQ];omega),?_⟩) (fun n xs h=>?_) n 0 [] (a1 _) rfl (by omega)
 .rw[h,yH,kK b,My];rfl
 .rw[h,gq];exact f n
end Go.Am
