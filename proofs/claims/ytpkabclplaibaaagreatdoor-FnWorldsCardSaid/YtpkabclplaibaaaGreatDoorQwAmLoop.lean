/- No condition. -/
import Derived.Test.YtpkabclplaibaaaGreatDoorQwAmUse
import Derived.IntWalk
import Derived.Lib.Join
import Derived.Lib.ItoaLen
set_option linter.all false
namespace Go.Am
def aG {n:Int}(a:-9223372036854775808<=n)(b:n<=9223372036854775807):al n=n:=IntWalk.i64_in n ⟨a,b⟩
def ah {k:Nat}(h:k+1<=9223372036854775807):al ((k:Int)+1)=((k+1:Nat):Int):=by rw[aG (by omega) (by omega)];omega
def ao {k n:Nat}(h:k<n):bG (k:Int) (n:Int)=true:=by simp[bG];omega
def aO {k n:Nat}(h:k<n):decide ((k:Int)<(n:Int))=true:=by simp;omega
def aA {n:Nat}:decide ((n:Int)<(n:Int))=false:=by simp
def kl {U:Type}(a:List U)(k:Nat)(d:U):aL a (k:Int) d=a.getD k d:=rfl
def ae {U:Type}(x y:U):br true x y=x:=by rw[show br true x y=x from rfl]
def aa {U:Type}(x y:U):br false x y=y:=by rw[show br false x y=y from rfl]
def ab {U:Type}(x:Option U):ck true x=x:=by rw[show ck true x=x from rfl]
def an {U V:Type}(a:U)(f:U->Option V):(some a).bind f=f a:=by rw[show(some a).bind f=f a from rfl]
def aB0:F0.mem=140737488355328:=rfl
def bg:F0.n=18446744073709551616:=rfl
def fX {a b:Nat}(h:a+b<=9223372036854775807):Ru F0 a b=true:=aS (show((a+b:Nat):Int)<=9223372036854775807 by omega)
def aFR {a b:Nat}(h:a+b<=140737488355328):okB F0 a b=true:=aS (show((a+b:Nat):Int)<=140737488355328 by omega)
def au {a b:Nat}{k:Int}(c:0<=k)(d:k<=1024)(h:a+b<=137438953472):dV F0 a b k=true:=by have e:((a+b:Nat):Int)*k<=137438953472*1024:=Int.mul_le_mul (by omega) d c (by omega);exact aS (show((a+b:Nat):Int)*k<=140737488355328 by omega)
def awJ {n:Nat}{k:Int}(a:0<=k)(b:k<=1024)(h:n<=137438953472):okM F0 (n:Int) (n:Int) k=true:=by have d:(n:Int)*k<=137438953472*1024:=Int.mul_le_mul (by omega) b a (by omega);have c:decide ((n:Int)*k<=140737488355328)=true:=aS (by omega);show(decide (0<=(n:Int))&&(n:Int)==(n:Int)&&decide ((n:Int)*k<=140737488355328))=true;rw[c];simp
def ayL {σ V:Type}(X:Nat->σ->Option V)(R:Option V)(I:σ->Prop)(μ:σ->Nat)
  (c:∀n x,I x->X (n+1) x=R\/∃a,X (n+1) x=X n a/\I a/\μ a<μ x):∀n x,I x->μ x<n->X n x=R
 |0,_,_,h=>absurd h (abd _)|n+1,x,d,h=>by
  rcases c n x d with b|⟨a,b,e,f⟩
  .exact b
  .rw[b];exact ayL X R I μ c n a e (by omega)
def cx {ζ V:Type}(X:Nat->Int->ζ->Option V)(L:Nat)(I:Nat->ζ->Prop)(R:Option V)
  (c:∀n k z,k<L->I k z->X (n+1) (k:Int) z=R\/∃a,X (n+1) (k:Int) z=X n ((k+1:Nat):Int) a/\I (k+1) a)
  (d:∀n z,I L z->X (n+1) (L:Int) z=R):∀n k z,k<=L->I k z->L-k<n->X n (k:Int) z=R
 |0,_,_,_,_,h=>absurd h (abd _)|n+1,k,z,g,e,h=>by
  rcases Rr k L with hlt|i
  .rcases c n k z hlt e with b|⟨a,b,f⟩
   .exact b
   .rw[b];exact cx X L I R c d n (k+1) a hlt f (by omega)
  .obtain rfl:k=L:=by omega
   exact d n z e
def nz {U:Type}{a:List U}{k:Nat}(h:k<a.length)(d:U):a.getD k d∈a:=by
 have:a.getD k d=a[k]:=by simp[List.getD,h]
 rw[this];exact bT h
def aR {U:Type}{a:List U}{k:Nat}(h:k<a.length)(d:U):a[k]?=some (a.getD k d):=by simp[List.getD,h]
def tx (l:List UInt8):ByteArray:=⟨l.toArray⟩
def gw (a b:List UInt8):tx a++tx b=tx (a++b):=by apply ByteArray.ext;show(tx a++tx b).data=(a++b).toArray;simp[tx]
def bn (a:List UInt8):(tx a).size=a.length:=by simp[tx,ByteArray.size]
def Ot (b:ByteArray):b=tx b.data.toList:=rfl
def hy (a:List UInt8):(tx a).data.toList=a:=by simp[tx]
def apz (a:ByteArray):(!(a.toList==a.toList))=false:=by simp
def dig {v:Nat}(h:v<10):strOf [IntKind.wrap .u8 (al (48+(v:Int)))]=tx [UInt8.ofNat (48+v)]:=by
 rw[aG (by omega) (by omega),IntWalk.u8_in _ (by omega)];simp only[strOf,tx,sE,List.map_nil]
 congr 4
def az9 (u:Nat):List UInt8:=if u=0 then [] else Lib.decDigits u
def aB1 {u:Nat}(h:u≠0):az9 u=az9 (u/10)++[UInt8.ofNat (48+u%10)]:=by
 unfold az9;rw[ag h,Lib.decDigits];by_cases a:u<10
 .rw[dif_pos a,ak (by omega),aqG a];rfl
 .rw[dif_neg a,ag (by omega)]
def aAa {l:List (List UInt8)}(h:l≠[])(y a:List UInt8):Lib.join (l++[y]) a=Lib.join l a++a++y:=by
 cases l with
 |nil=>exact absurd rfl h
 |cons x r =>
  rw[Gp,Lib.join_cons,Lib.join_cons];simp[Lib.joinTail]
def aD5 {l:List (List UInt8)}{c:Nat}(h:∀x∈l,x.length<=c)(s:UInt8):(Lib.join l [s]).length<=(c+1)*l.length:=by
 have a:∀l:List (List UInt8),(∀x∈l,x.length<=c)->Lib.lens l<=c*l.length:=by
  intro l
  induction l with
  |nil=>intro _;simp[Lib.lens]
  |cons x r b =>
   intro h;have d:=b fun y e=>h y (jG _ e)
   have f:=h x vR;simp only[Lib.lens,sE,Tt,a1,Nat.mul_succ]at d ⊢;omega
 cases l with
 |nil=>simp[Lib.join_nil]
 |cons x r =>
  rw[Lib.join_length];have:=a (x::r) h;simp only[a1,bJ,Nat.mul_succ,Nat.succ_mul,Jd]at this ⊢;omega
end Go.Am
