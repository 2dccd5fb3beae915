/- No condition. -/
import Derived.Test.YtfapcfpkbahneaaGreatDoorQpAmUse
import Derived.IntWalk
import Derived.Lib.Join
import Derived.Lib.ItoaLen
set_option linter.all false
namespace Go.Am
def aJ {n:Int}(h1:-9223372036854775808<=n)(h2:n<=9223372036854775807):ak n=n:=IntWalk.i64_in n ⟨h1,h2⟩
def ao {k:Nat}(h:k+1<=9223372036854775807):ak ((k:Int)+1)=((k+1:Nat):Int):=by rw[aJ (by omega) (by omega)];omega
def av {k n:Nat}(h:k<n):cr (k:Int) (n:Int)=true:=by simp[cr];omega
def aX {k n:Nat}(h:k<n):decide ((k:Int)<(n:Int))=true:=by simp;omega
def aK {n:Nat}:decide ((n:Int)<(n:Int))=false:=by simp
def mF {U:Type}(a:List U)(k:Nat)(d:U):aU a (k:Int) d=a.getD k d:=rfl
def af {U:Type}(x y:U):br true x y=x:=by rw[show br true x y=x from rfl]
def aa {U:Type}(x y:U):br false x y=y:=by rw[show br false x y=y from rfl]
def ae {U:Type}(x:Option U):ck true x=x:=by rw[show ck true x=x from rfl]
def aj {U V:Type}(a:U)(f:U->Option V):(some a).bind f=f a:=by rw[show(some a).bind f=f a from rfl]
def aHK:F0.mem=140737488355328:=rfl
def cl:F0.n=18446744073709551616:=rfl
def jf {a b:Nat}(h:a+b<=9223372036854775807):okC F0 a b=true:=aN (show((a+b:Nat):Int)<=9223372036854775807 by omega)
def aMr {a b:Nat}(h:a+b<=140737488355328):okB F0 a b=true:=aN (show((a+b:Nat):Int)<=140737488355328 by omega)
def az {a b:Nat}{k:Int}(h0:0<=k)(hk:k<=1024)(h:a+b<=137438953472):fp F0 a b k=true:=by have h1:((a+b:Nat):Int)*k<=137438953472*1024:=Int.mul_le_mul (by omega) hk h0 (by omega);exact aN (show((a+b:Nat):Int)*k<=140737488355328 by omega)
def aHL {n:Nat}{k:Int}(h0:0<=k)(hk:k<=1024)(h:n<=137438953472):okM F0 (n:Int) (n:Int) k=true:=by have h1:(n:Int)*k<=137438953472*1024:=Int.mul_le_mul (by omega) hk h0 (by omega);have h2:decide ((n:Int)*k<=140737488355328)=true:=aN (by omega);show(decide (0<=(n:Int))&&(n:Int)==(n:Int)&&decide ((n:Int)*k<=140737488355328))=true;rw[h2];simp
def aDH {σ V:Type}(X:Nat->σ->Option V)(R:Option V)(I:σ->Prop)(μ:σ->Nat)
  (hs:∀n x,I x->X (n+1) x=R\/∃x',X (n+1) x=X n x'/\I x'/\μ x'<μ x):∀n x,I x->μ x<n->X n x=R
 |0,_,_,h=>absurd h (SE _)|n+1,x,hI,h=>by
  rcases hs n x hI with h1|⟨x',h1,h2,h3⟩
  .exact h1
  .rw[h1];exact aDH X R I μ hs n x' h2 (by omega)
def dp {ζ V:Type}(X:Nat->Int->ζ->Option V)(L:Nat)(I:Nat->ζ->Prop)(R:Option V)
  (hs:∀n k z,k<L->I k z->X (n+1) (k:Int) z=R\/∃z',X (n+1) (k:Int) z=X n ((k+1:Nat):Int) z'/\I (k+1) z')
  (he:∀n z,I L z->X (n+1) (L:Int) z=R):∀n k z,k<=L->I k z->L-k<n->X n (k:Int) z=R
 |0,_,_,_,_,h=>absurd h (SE _)|n+1,k,z,hk,hI,h=>by
  rcases LO k L with hlt|hge
  .rcases hs n k z hlt hI with h1|⟨z',h1,h2⟩
   .exact h1
   .rw[h1];exact dp X L I R hs he n (k+1) z' hlt h2 (by omega)
  .obtain rfl:k=L:=by omega
   exact he n z hI
def pf {U:Type}{a:List U}{k:Nat}(h:k<a.length)(d:U):a.getD k d∈a:=by
 have:a.getD k d=a[k]:=by simp[List.getD,h]
 rw[this];exact cX h
def bm {U:Type}{a:List U}{k:Nat}(h:k<a.length)(d:U):a[k]?=some (a.getD k d):=by simp[List.getD,h]
def tx (l:List UInt8):ByteArray:=⟨l.toArray⟩
def gP (a b:List UInt8):tx a++tx b=tx (a++b):=by apply ByteArray.ext;show(tx a++tx b).data=(a++b).toArray;simp[tx]
def bT (a:List UInt8):(tx a).size=a.length:=by simp[tx,ByteArray.size]
def VB (b:ByteArray):b=tx b.data.toList:=rfl
def gb (a:List UInt8):(tx a).data.toList=a:=by simp[tx]
def atH (a:ByteArray):(!(a.toList==a.toList))=false:=by simp
def dig {v:Nat}(h:v<10):strOf [IntKind.wrap .u8 (ak (48+(v:Int)))]=tx [UInt8.ofNat (48+v)]:=by
 rw[aJ (by omega) (by omega),IntWalk.u8_in _ (by omega)];simp only[strOf,tx,tW,List.map_nil]
 congr 4
def aFq (u:Nat):List UInt8:=if u=0 then [] else Lib.decDigits u
def aHM {u:Nat}(h:u≠0):aFq u=aFq (u/10)++[UInt8.ofNat (48+u%10)]:=by
 unfold aFq;rw[ah h,Lib.decDigits];by_cases Rc:u<10
 .rw[dif_pos Rc,ai (by omega),auV Rc];rfl
 .rw[dif_neg Rc,ah (by omega)]
def aFr {l:List (List UInt8)}(h:l≠[])(y sep:List UInt8):Lib.join (l++[y]) sep=Lib.join l sep++sep++y:=by
 cases l with
 |nil=>exact absurd rfl h
 |cons x r =>
  rw[Gt,Lib.join_cons,Lib.join_cons];simp[Lib.joinTail]
def aJ5 {l:List (List UInt8)}{c:Nat}(h:∀x∈l,x.length<=c)(s:UInt8):(Lib.join l [s]).length<=(c+1)*l.length:=by
 have hl:∀l:List (List UInt8),(∀x∈l,x.length<=c)->Lib.lens l<=c*l.length:=by
  intro l
  induction l with
  |nil=>intro _;simp[Lib.lens]
  |cons x r ih =>
   intro h;have h1:=ih fun y hy=>h y (ka _ hy)
   have h2:=h x qU;simp only[Lib.lens,tW,amQ,aZ,Nat.mul_succ]at h1 ⊢;omega
 cases l with
 |nil=>simp[Lib.join_nil]
 |cons x r =>
  rw[Lib.join_length];have:=hl (x::r) h;simp only[aZ,bE,Nat.mul_succ,Nat.succ_mul,LP]at this ⊢;omega
end Go.Am
