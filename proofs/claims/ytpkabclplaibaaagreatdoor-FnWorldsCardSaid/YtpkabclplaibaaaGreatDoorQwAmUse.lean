/- No condition. -/
import Derived.Test.YtpkabclplaibaaaGreatDoorQwAmFn2
set_option linter.all false
namespace Go.Am
instance aIm:ei:=ei.of 0
abbrev al (n:Int):Int:=IntKind.i64.wrap n
def N0:Nat:=2 ^ 64
def F0:nY:=nY.Lm N0
def bG (i n:Int):Bool:=decide (0<=i)&&decide (i<n)
def Qw (l h n:Int):Bool:=decide (0<=l)&&decide (l<=h)&&decide (h<=n)
def okT (h n:Int):Bool:=decide (0<=h)&&decide (h<=n)
def dV (F:nY)(a b:Nat)(k:Int):Bool:=decide (((a+b:Nat):Int)*k<=F.mem)
def okB (F:nY)(a b:Nat):Bool:=decide (((a+b:Nat):Int)<=F.mem)
def Ru (F:nY)(a b:Nat):Bool:=decide (((a+b:Nat):Int)<=F.str)
def okM (F:nY)(n m k:Int):Bool:=decide (0<=n)&&n==m&&decide (n*k<=F.mem)
def aL {U:Type}(xs:List U)(i:Int)(d:U):U:=xs.getD i.toNat d
def w4 (P:Program)(T:Tab):List (Nat×Any)->Prop
 |[]=>True|(f,c)::l=>Gs P T f c/\w4 P T l
def abH {P:Program}{T:Tab}:∀{l:List (Nat×Any)},w4 P T l->∀f a,look l f=some a->Gs P T f a
 |[],_,f,a,h=>by simp[look]at h
 |(g,c)::l,h,f,a,b=>by
  rw[ar]at b;by_cases d:g=f
  .simp only[d,gr]at b;cases b;exact d▸h.1
  .simp only[d,fG]at b;exact abH h.2 f a b
def ok1 {P : Program} {T : Tab} {f : FuncId} {a : Func} {l : List (Nat × Any)} (b : w4 P T l) (c : P.funcs[f]? = some a) (d : (a.name == "runtime.NumGoroutine") = false) (e : a.body.isNone = false) (H : Nat → Option Hint)
  {ps rs:List (Ty×Bool)} {m:Nat} {g:Args ps->Option (Args rs)} (i:(fun x=>aFG P (look l) F0 H a ps rs m x)=g):Gs P T f (.one ⟨ps,rs,m,g⟩) :=
 art (con:=⟨ps,rs,m,g⟩) (abH b) c d e H fun x r h=>⟨N0,(congrFun i x).trans h⟩
def ok2 {P : Program} {T : Tab} {f : FuncId} {a : Func} {l : List (Nat × Any)} (b : w4 P T l) (c : P.funcs[f]? = some a) (d : (a.name == "runtime.NumGoroutine") = false) (e : a.body.isNone = false) (H : Nat → Option Hint)
  {ps rs:List (Ty×Bool)} {i m:Nat} {pm:PM} {g:Args ps->Option (Args rs×Args [])} (j:(fun x=>ayq P (look l) F0 H a ps i pm rs [] m x)=g):Gs P T f (.two ⟨ps,i,pm,rs,m,[],g⟩) :=
 XZ (con:=⟨ps,i,pm,rs,m,[],g⟩) (abH b) c d e (.inl rfl) H fun x r h=>⟨N0,(congrFun j x).trans h⟩
def ok3 {P : Program} {T : Tab} {f : FuncId} {a : Func} {l : List (Nat × Any)} (b : w4 P T l) (c : P.funcs[f]? = some a) (d : (a.name == "runtime.NumGoroutine") = false) (e : a.body.isNone = false) (H : Nat → Option Hint)
  {ps rs:List (Ty×Bool)} {i m:Nat} {pm:PM} {p:Ty×Bool} {g:Args ps->Option (Args rs×Args [p])} (j:kj ps i=some p) (k:(fun x=>ayq P (look l) F0 H a ps i pm rs [p] m x)=g):Gs P T f (.two ⟨ps,i,pm,rs,m,[p],g⟩) :=
 XZ (con:=⟨ps,i,pm,rs,m,[p],g⟩) (abH b) c d e (.inr ⟨p,rfl,j⟩) H fun x r h=>⟨N0,(congrFun k x).trans h⟩
def ok4 {P : Program} {T : Tab} {f : FuncId} {c : Func} {l : List (Nat × Any)} (d : w4 P T l) (e : P.funcs[f]? = some c) (j : (c.name == "runtime.NumGoroutine") = false) (k : c.body.isNone = false) (H : Nat → Option Hint)
  {ps:List (Ty×Bool)} {i:Nat} {a b q:Ty×Bool} {g:Args ps->Option (a.1.D×b.1.D×q.1.D)} (m:kj ps i=some q) (n:(fun x=>anN P (look l) F0 H c ps i a b q x)=g):Gs P T f (.sel ⟨ps,i,a,b,q,g⟩) :=
 anX (con:=⟨ps,i,a,b,q,g⟩) (abH d) e j k m H fun x r h=>⟨N0,(congrFun n x).trans h⟩
end Go.Am
