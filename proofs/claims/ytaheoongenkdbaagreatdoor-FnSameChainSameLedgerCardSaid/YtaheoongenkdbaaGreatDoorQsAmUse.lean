/- No condition. -/
import Derived.Test.YtaheoongenkdbaaGreatDoorQsAmFn2
set_option linter.all false
namespace Go.Am
abbrev ai (n:Int):Int:=IntKind.i64.wrap n
def N0:Nat:=2 ^ 64
def F0:nT:=nT.J9 N0
def bN (i n:Int):Bool:=decide (0<=i)&&decide (i<n)
def QN (l h n:Int):Bool:=decide (0<=l)&&decide (l<=h)&&decide (h<=n)
def okT (h n:Int):Bool:=decide (0<=h)&&decide (h<=n)
def ee (F:nT)(a b:Nat)(k:Int):Bool:=decide (((a+b:Nat):Int)*k<=F.mem)
def okB (F:nT)(a b:Nat):Bool:=decide (((a+b:Nat):Int)<=F.mem)
def okC (F:nT)(a b:Nat):Bool:=decide (((a+b:Nat):Int)<=F.str)
def afV (n:Int)(a b:Nat):Bool:=decide (0<=n)&&decide (n<=(a:Int))&&decide (1<=(b:Int))&&decide (((a+b:Nat):Int)<=1073741824)
def okM (F:nT)(n m k:Int):Bool:=decide (0<=n)&&n==m&&decide (n*k<=F.mem)
def ay {U:Type}(xs:List U)(i:Int)(d:U):U:=xs.getD i.toNat d
def wb (P:Program)(T:Tab):List (Nat×Any)->Prop
 |[]=>True|(f,c)::l=>rO P T f c/\wb P T l
def aaO {P:Program}{T:Tab}:∀{l:List (Nat×Any)},wb P T l->∀f a,look l f=some a->rO P T f a
 |[],_,f,a,h=>by simp[look]at h
 |(g,c)::l,h,f,a,b=>by
  rw[ar]at b;by_cases d:g=f
  .simp only[d,fE]at b;cases b;exact d▸h.1
  .simp only[d,fD]at b;exact aaO h.2 f a b
def ok1 {P : Program} {T : Tab} {f : FuncId} {a : Func} {l : List (Nat × Any)} (b : wb P T l) (c : P.funcs[f]? = some a) (d : (a.name == "runtime.NumGoroutine") = false) (e : a.body.isNone = false) (H : Nat → Option Hint)
  {ps rs:List (Ty×Bool)} {m:Nat} {g:Args ps->Option (Args rs)} (i:(fun x=>aEb P (look l) F0 H a ps rs m x)=g):rO P T f (.one ⟨ps,rs,m,g⟩) :=
 ars (con:=⟨ps,rs,m,g⟩) (aaO b) c d e H fun x r h=>⟨N0,(congrFun i x).trans h⟩
def ok2 {P : Program} {T : Tab} {f : FuncId} {a : Func} {l : List (Nat × Any)} (b : wb P T l) (c : P.funcs[f]? = some a) (d : (a.name == "runtime.NumGoroutine") = false) (e : a.body.isNone = false) (H : Nat → Option Hint)
  {ps rs:List (Ty×Bool)} {i m:Nat} {pm:PM} {g:Args ps->Option (Args rs×Args [])} (j:(fun x=>axU P (look l) F0 H a ps i pm rs [] m x)=g):rO P T f (.two ⟨ps,i,pm,rs,m,[],g⟩) :=
 W6 (con:=⟨ps,i,pm,rs,m,[],g⟩) (aaO b) c d e (.inl rfl) H fun x r h=>⟨N0,(congrFun j x).trans h⟩
def ok3 {P : Program} {T : Tab} {f : FuncId} {a : Func} {l : List (Nat × Any)} (b : wb P T l) (c : P.funcs[f]? = some a) (d : (a.name == "runtime.NumGoroutine") = false) (e : a.body.isNone = false) (H : Nat → Option Hint)
  {ps rs:List (Ty×Bool)} {i m:Nat} {pm:PM} {p:Ty×Bool} {g:Args ps->Option (Args rs×Args [p])} (j:l1 ps i=some p) (k:(fun x=>axU P (look l) F0 H a ps i pm rs [p] m x)=g):rO P T f (.two ⟨ps,i,pm,rs,m,[p],g⟩) :=
 W6 (con:=⟨ps,i,pm,rs,m,[p],g⟩) (aaO b) c d e (.inr ⟨p,rfl,j⟩) H fun x r h=>⟨N0,(congrFun k x).trans h⟩
def ok4 {P : Program} {T : Tab} {f : FuncId} {c : Func} {l : List (Nat × Any)} (d : wb P T l) (e : P.funcs[f]? = some c) (j : (c.name == "runtime.NumGoroutine") = false) (k : c.body.isNone = false) (H : Nat → Option Hint)
  {ps:List (Ty×Bool)} {i:Nat} {a b q:Ty×Bool} {g:Args ps->Option (a.1.D×b.1.D×q.1.D)} (m:l1 ps i=some q) (n:(fun x=>anK P (look l) F0 H c ps i a b q x)=g):rO P T f (.sel ⟨ps,i,a,b,q,g⟩) :=
 anU (con:=⟨ps,i,a,b,q,g⟩) (aaO d) e j k m H fun x r h=>⟨N0,(congrFun n x).trans h⟩
end Go.Am
