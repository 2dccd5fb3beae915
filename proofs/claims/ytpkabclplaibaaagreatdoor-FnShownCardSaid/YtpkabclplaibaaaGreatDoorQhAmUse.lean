/- No condition. -/
import Derived.Test.YtpkabclplaibaaaGreatDoorQhAmFn2
set_option linter.all false
namespace Go.Am
instance asi:ds:=ds.of 0
abbrev ak (n:Int):Int:=IntKind.i64.wrap n
def N0:Nat:=2 ^ 64
def F0:kk:=kk.CX N0
def b5 (i n:Int):Bool:=decide (0<=i)&&decide (i<n)
def I5 (l h n:Int):Bool:=decide (0<=l)&&decide (l<=h)&&decide (h<=n)
def okT (h n:Int):Bool:=decide (0<=h)&&decide (h<=n)
def fc (F:kk)(a b:Nat)(k:Int):Bool:=decide (((a+b:Nat):Int)*k<=F.mem)
def gy (F:kk)(a b:Nat):Bool:=decide (((a+b:Nat):Int)<=F.str)
def okM (F:kk)(n m k:Int):Bool:=decide (0<=n)&&n==m&&decide (n*k<=F.mem)
def bd {U:Type}(xs:List U)(i:Int)(d:U):U:=xs.getD i.toNat d
def re (P:Program)(T:ZI):List (Nat×Any)->Prop
 |[]=>True|(f,c)::l=>wi P T f c/\re P T l
def PR {P:Program}{T:ZI}:∀{l:List (Nat×Any)},re P T l->∀f a,look l f=some a->wi P T f a
 |[],_,f,a,h=>by simp[look]at h
 |(g,c)::l,h,f,a,b=>by
  rw[ai]at b;by_cases d:g=f
  .simp only[d,eJ]at b;cases b;exact d▸h.1
  .simp only[d,eo]at b;exact PR h.2 f a b
def ok1 {P : Program} {T : ZI} {f : FuncId} {a : Func} {l : List (Nat × Any)} (b : re P T l) (c : P.funcs[f]? = some a) (d : (a.name == "runtime.NumGoroutine") = false) (e : a.body.isNone = false) (H : Nat → Option Hint)
  {ps rs:List (Ty×Bool)} {m:Nat} {g:Args ps->Option (Args rs)} (i:(fun x=>apD P (look l) F0 H a ps rs m x)=g):wi P T f (.one ⟨ps,rs,m,g⟩) :=
 acL (con:=⟨ps,rs,m,g⟩) (PR b) c d e H fun x r h=>⟨N0,(congrFun i x).trans h⟩
def ok2 {P : Program} {T : ZI} {f : FuncId} {a : Func} {l : List (Nat × Any)} (b : re P T l) (c : P.funcs[f]? = some a) (d : (a.name == "runtime.NumGoroutine") = false) (e : a.body.isNone = false) (H : Nat → Option Hint)
  {ps rs:List (Ty×Bool)} {i m:Nat} {pm:PM} {g:Args ps->Option (Args rs×Args [])} (j:(fun x=>aiR P (look l) F0 H a ps i pm rs [] m x)=g):wi P T f (.two ⟨ps,i,pm,rs,m,[],g⟩) :=
 MI (con:=⟨ps,i,pm,rs,m,[],g⟩) (PR b) c d e (.inl rfl) H fun x r h=>⟨N0,(congrFun j x).trans h⟩
def ok3 {P : Program} {T : ZI} {f : FuncId} {a : Func} {l : List (Nat × Any)} (b : re P T l) (c : P.funcs[f]? = some a) (d : (a.name == "runtime.NumGoroutine") = false) (e : a.body.isNone = false) (H : Nat → Option Hint)
  {ps rs:List (Ty×Bool)} {i m:Nat} {pm:PM} {p:Ty×Bool} {g:Args ps->Option (Args rs×Args [p])} (j:gU ps i=some p) (k:(fun x=>aiR P (look l) F0 H a ps i pm rs [p] m x)=g):wi P T f (.two ⟨ps,i,pm,rs,m,[p],g⟩) :=
 MI (con:=⟨ps,i,pm,rs,m,[p],g⟩) (PR b) c d e (.inr ⟨p,rfl,j⟩) H fun x r h=>⟨N0,(congrFun k x).trans h⟩
def ok4 {P : Program} {T : ZI} {f : FuncId} {c : Func} {l : List (Nat × Any)} (d : re P T l) (e : P.funcs[f]? = some c) (j : (c.name == "runtime.NumGoroutine") = false) (k : c.body.isNone = false) (H : Nat → Option Hint)
  {ps:List (Ty×Bool)} {i:Nat} {a b q:Ty×Bool} {g:Args ps->Option (a.1.D×b.1.D×q.1.D)} (m:gU ps i=some q) (n:(fun x=>ZN P (look l) F0 H c ps i a b q x)=g):wi P T f (.sel ⟨ps,i,a,b,q,g⟩) :=
 ZX (con:=⟨ps,i,a,b,q,g⟩) (PR d) e j k m H fun x r h=>⟨N0,(congrFun n x).trans h⟩
end Go.Am
