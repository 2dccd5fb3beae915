/- No condition. -/
import Derived.Test.YtpkabclplaibaaaGreatDoorQhAmUse
import Derived.IntWalk
import Derived.Lib.Join
import Derived.Lib.ItoaLen
set_option linter.all false
namespace Go.Am
def aD {n:Int}(a:-9223372036854775808<=n)(b:n<=9223372036854775807):ak n=n:=IntWalk.i64_in n ⟨a,b⟩
def an {k:Nat}(h:k+1<=9223372036854775807):ak ((k:Int)+1)=((k+1:Nat):Int):=by rw[aD (by omega) (by omega)];omega
def aE {k n:Nat}(h:k<n):b5 (k:Int) (n:Int)=true:=by simp[b5];omega
def bp {k n:Nat}(h:k<n):decide ((k:Int)<(n:Int))=true:=by simp;omega
def aO {n:Nat}:decide ((n:Int)<(n:Int))=false:=by simp
def jv {U:Type}(a:List U)(k:Nat)(d:U):bd a (k:Int) d=a.getD k d:=rfl
def ae {U:Type}(x y:U):br true x y=x:=by rw[show br true x y=x from rfl]
def aa {U:Type}(x y:U):br false x y=y:=by rw[show br false x y=y from rfl]
def ab {U:Type}(x:Option U):ck true x=x:=by rw[show ck true x=x from rfl]
def av {U V:Type}(a:U)(f:U->Option V):(some a).bind f=f a:=by rw[show(some a).bind f=f a from rfl]
def apP:F0.mem=140737488355328:=rfl
def b1:F0.n=18446744073709551616:=rfl
def aT {a b:Nat}(h:a+b<=9223372036854775807):gy F0 a b=true:=aW (show((a+b:Nat):Int)<=9223372036854775807 by omega)
def aC {a b:Nat}{k:Int}(c:0<=k)(d:k<=1024)(h:a+b<=137438953472):fc F0 a b k=true:=by have e:((a+b:Nat):Int)*k<=137438953472*1024:=Int.mul_le_mul (by omega) d c (by omega);exact aW (show((a+b:Nat):Int)*k<=140737488355328 by omega)
def al5 {n:Nat}{k:Int}(a:0<=k)(b:k<=1024)(h:n<=137438953472):okM F0 (n:Int) (n:Int) k=true:=by have d:(n:Int)*k<=137438953472*1024:=Int.mul_le_mul (by omega) b a (by omega);have c:decide ((n:Int)*k<=140737488355328)=true:=aW (by omega);show(decide (0<=(n:Int))&&(n:Int)==(n:Int)&&decide ((n:Int)*k<=140737488355328))=true;rw[c];simp
def ajc {σ V:Type}(X:Nat->σ->Option V)(R:Option V)(b:σ->Prop)(μ:σ->Nat)
  (d:∀n x,b x->X (n+1) x=R\/∃a,X (n+1) x=X n a/\b a/\μ a<μ x):∀n x,b x->μ x<n->X n x=R
 |0,_,_,h=>absurd h (Tg _)|n+1,x,e,h=>by
  rcases d n x e with c|⟨a,c,f,g⟩
  .exact c
  .rw[c];exact ajc X R b μ d n a f (by omega)
def b9 {ζ V:Type}(X:Nat->Int->ζ->Option V)(L:Nat)(a:Nat->ζ->Prop)(R:Option V)
  (d:∀n k z,k<L->a k z->X (n+1) (k:Int) z=R\/∃b,X (n+1) (k:Int) z=X n ((k+1:Nat):Int) b/\a (k+1) b)
  (e:∀n z,a L z->X (n+1) (L:Int) z=R):∀n k z,k<=L->a k z->L-k<n->X n (k:Int) z=R
 |0,_,_,_,_,h=>absurd h (Tg _)|n+1,k,z,i,f,h=>by
  rcases Tj k L with hlt|j
  .rcases d n k z hlt f with c|⟨b,c,g⟩
   .exact c
   .rw[c];exact b9 X L a R d e n (k+1) b hlt g (by omega)
  .obtain rfl:k=L:=by omega
   exact e n z f
def fe {U:Type}{a:List U}{k:Nat}(h:k<a.length)(d:U):a.getD k d∈a:=by
 have:a.getD k d=a[k]:=by simp[List.getD,h]
 rw[this];exact dH h
def bH {U:Type}{a:List U}{k:Nat}(h:k<a.length)(d:U):a[k]?=some (a.getD k d):=by simp[List.getD,h]
def tx (l:List UInt8):ByteArray:=⟨l.toArray⟩
def aP (a b:List UInt8):tx a++tx b=tx (a++b):=by apply ByteArray.ext;show(tx a++tx b).data=(a++b).toArray;simp[tx]
def ao (a:List UInt8):(tx a).size=a.length:=by simp[tx,ByteArray.size]
def MK (b:ByteArray):b=tx b.data.toList:=rfl
def dB (a:List UInt8):(tx a).data.toList=a:=by simp[tx]
def dig {v:Nat}(h:v<10):strOf [IntKind.wrap .u8 (ak (48+(v:Int)))]=tx [UInt8.ofNat (48+v)]:=by
 rw[aD (by omega) (by omega),IntWalk.u8_in _ (by omega)];simp only[strOf,tx,kL,List.map_nil]
 congr 4
def akw (u:Nat):List UInt8:=if u=0 then [] else Lib.decDigits u
def al6 {u:Nat}(h:u≠0):akw u=akw (u/10)++[UInt8.ofNat (48+u%10)]:=by
 unfold akw;rw[ag h,Lib.decDigits];by_cases a:u<10
 .rw[dif_pos a,aj (by omega),abX a];rfl
 .rw[dif_neg a,ag (by omega)]
def RM {l:List (List UInt8)}(h:l≠[])(y a:List UInt8):Lib.join (l++[y]) a=Lib.join l a++a++y:=by
 cases l with
 |nil=>exact absurd rfl h
 |cons x r =>
  rw[pE,Lib.join_cons,Lib.join_cons];simp[Lib.joinTail]
def VJ {l:List (List UInt8)}{c:Nat}(h:∀x∈l,x.length<=c)(s:UInt8):(Lib.join l [s]).length<=(c+1)*l.length:=by
 have a:∀l:List (List UInt8),(∀x∈l,x.length<=c)->Lib.lens l<=c*l.length:=by
  intro l
  induction l with
  |nil=>intro _;simp[Lib.lens]
  |cons x r b =>
   intro h;have d:=b fun y e=>h y (h8 _ e)
   have f:=h x tu;simp only[Lib.lens,kL,V6,aR,Nat.mul_succ]at d ⊢;omega
 cases l with
 |nil=>simp[Lib.join_nil]
 |cons x r =>
  rw[Lib.join_length];have:=a (x::r) h;simp only[aR,bo,Nat.mul_succ,Nat.succ_mul,By]at this ⊢;omega
end Go.Am
