/- No condition. -/
import Derived.Test.YtaheoongenkdbaaGreatDoorQeAmFn2
set_option linter.all false
namespace Go.Am
abbrev aj (n:Int):Int:=IntKind.i64.wrap n
def N0:Nat:=2 ^ 64
def F0:oH:=oH.Ll N0
def bO (i n:Int):Bool:=decide (0<=i)&&decide (i<n)
def QW (l h n:Int):Bool:=decide (0<=l)&&decide (l<=h)&&decide (h<=n)
def okT (h n:Int):Bool:=decide (0<=h)&&decide (h<=n)
def eA (F:oH)(a b:Nat)(k:Int):Bool:=decide (((a+b:Nat):Int)*k<=F.mem)
def okB (F:oH)(a b:Nat):Bool:=decide (((a+b:Nat):Int)<=F.mem)
def okC (F:oH)(a b:Nat):Bool:=decide (((a+b:Nat):Int)<=F.str)
def ahy (n:Int)(a b:Nat):Bool:=decide (0<=n)&&decide (n<=(a:Int))&&decide (1<=(b:Int))&&decide (((a+b:Nat):Int)<=1073741824)
def okM (F:oH)(n m k:Int):Bool:=decide (0<=n)&&n==m&&decide (n*k<=F.mem)
def aN {U:Type}(xs:List U)(i:Int)(d:U):U:=xs.getD i.toNat d
def xJ (P:Program)(T:Tab):List (Nat×Any)->Prop
 |[]=>True|(f,c)::l=>sJ P T f c/\xJ P T l
def ab8 {P:Program}{T:Tab}:∀{l:List (Nat×Any)},xJ P T l->∀f a,look l f=some a->sJ P T f a
 |[],_,f,a,h=>by simp[look]at h
 |(g,c)::l,h,f,a,b=>by
  rw[aq]at b;by_cases d:g=f
  .simp only[d,fX]at b;cases b;exact d▸h.1
  .simp only[d,fW]at b;exact ab8 h.2 f a b
def ok1 {P : Program} {T : Tab} {f : FuncId} {a : Func} {l : List (Nat × Any)} (b : xJ P T l) (c : P.funcs[f]? = some a) (d : (a.name == "runtime.NumGoroutine") = false) (e : a.body.isNone = false) (H : Nat → Option Hint)
  {ps rs:List (Ty×Bool)} {m:Nat} {g:Args ps->Option (Args rs)} (i:(fun x=>aHY P (look l) F0 H a ps rs m x)=g):sJ P T f (.one ⟨ps,rs,m,g⟩) :=
 atL (con:=⟨ps,rs,m,g⟩) (ab8 b) c d e H fun x r h=>⟨N0,(congrFun i x).trans h⟩
def ok2 {P : Program} {T : Tab} {f : FuncId} {a : Func} {l : List (Nat × Any)} (b : xJ P T l) (c : P.funcs[f]? = some a) (d : (a.name == "runtime.NumGoroutine") = false) (e : a.body.isNone = false) (H : Nat → Option Hint)
  {ps rs:List (Ty×Bool)} {i m:Nat} {pm:PM} {g:Args ps->Option (Args rs×Args [])} (j:(fun x=>aAI P (look l) F0 H a ps i pm rs [] m x)=g):sJ P T f (.two ⟨ps,i,pm,rs,m,[],g⟩) :=
 Yp (con:=⟨ps,i,pm,rs,m,[],g⟩) (ab8 b) c d e (.inl rfl) H fun x r h=>⟨N0,(congrFun j x).trans h⟩
def ok3 {P : Program} {T : Tab} {f : FuncId} {a : Func} {l : List (Nat × Any)} (b : xJ P T l) (c : P.funcs[f]? = some a) (d : (a.name == "runtime.NumGoroutine") = false) (e : a.body.isNone = false) (H : Nat → Option Hint)
  {ps rs:List (Ty×Bool)} {i m:Nat} {pm:PM} {p:Ty×Bool} {g:Args ps->Option (Args rs×Args [p])} (j:mA ps i=some p) (k:(fun x=>aAI P (look l) F0 H a ps i pm rs [p] m x)=g):sJ P T f (.two ⟨ps,i,pm,rs,m,[p],g⟩) :=
 Yp (con:=⟨ps,i,pm,rs,m,[p],g⟩) (ab8 b) c d e (.inr ⟨p,rfl,j⟩) H fun x r h=>⟨N0,(congrFun k x).trans h⟩
def ok4 {P : Program} {T : Tab} {f : FuncId} {c : Func} {l : List (Nat × Any)} (d : xJ P T l) (e : P.funcs[f]? = some c) (j : (c.name == "runtime.NumGoroutine") = false) (k : c.body.isNone = false) (H : Nat → Option Hint)
  {ps:List (Ty×Bool)} {i:Nat} {a b q:Ty×Bool} {g:Args ps->Option (a.1.D×b.1.D×q.1.D)} (m:mA ps i=some q) (n:(fun x=>apX P (look l) F0 H c ps i a b q x)=g):sJ P T f (.sel ⟨ps,i,a,b,q,g⟩) :=
 ap7 (con:=⟨ps,i,a,b,q,g⟩) (ab8 d) e j k m H fun x r h=>⟨N0,(congrFun n x).trans h⟩
end Go.Am
