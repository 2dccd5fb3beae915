/- No condition. -/
import Derived.Test.YtnllfndlcahalaaGreatDoorQfAmFn2
set_option linter.all false
namespace Go.Am
abbrev aj (n:Int):Int:=IntKind.i64.wrap n
def N0:Nat:=2 ^ 64
def F0:rH:=rH.RJ N0
def bE (i n:Int):Bool:=decide (0<=i)&&decide (i<n)
def RZ (l h n:Int):Bool:=decide (0<=l)&&decide (l<=h)&&decide (h<=n)
def okT (h n:Int):Bool:=decide (0<=h)&&decide (h<=n)
def en (F:rH)(a b:Nat)(k:Int):Bool:=decide (((a+b:Nat):Int)*k<=F.mem)
def okB (F:rH)(a b:Nat):Bool:=decide (((a+b:Nat):Int)<=F.mem)
def UU (F:rH)(a b:Nat):Bool:=decide (((a+b:Nat):Int)<=F.str)
def ajk (n:Int)(a b:Nat):Bool:=decide (0<=n)&&decide (n<=(a:Int))&&decide (1<=(b:Int))&&decide (((a+b:Nat):Int)<=1073741824)
def okM (F:rH)(n m k:Int):Bool:=decide (0<=n)&&n==m&&decide (n*k<=F.mem)
def aH {U:Type}(xs:List U)(i:Int)(d:U):U:=xs.getD i.toNat d
def yh (P:Program)(T:Tab):List (Nat×Any)->Prop
 |[]=>True|(f,c)::l=>tg P T f c/\yh P T l
def adU {P:Program}{T:Tab}:∀{l:List (Nat×Any)},yh P T l->∀f a,look l f=some a->tg P T f a
 |[],_,f,a,h=>by simp[look]at h
 |(g,c)::l,h,f,a,b=>by
  rw[au]at b;by_cases d:g=f
  .simp only[d,gL]at b;cases b;exact d▸h.1
  .simp only[d,gu]at b;exact adU h.2 f a b
def ok1 {P : Program} {T : Tab} {f : FuncId} {a : Func} {l : List (Nat × Any)} (b : yh P T l) (c : P.funcs[f]? = some a) (d : (a.name == "runtime.NumGoroutine") = false) (e : a.body.isNone = false) (H : Nat → Option Hint)
  {ps rs:List (Ty×Bool)} {m:Nat} {g:Args ps->Option (Args rs)} (i:(fun x=>aJ3 P (look l) F0 H a ps rs m x)=g):tg P T f (.one ⟨ps,rs,m,g⟩) :=
 avB (con:=⟨ps,rs,m,g⟩) (adU b) c d e H fun x r h=>⟨N0,(congrFun i x).trans h⟩
def ok2 {P : Program} {T : Tab} {f : FuncId} {a : Func} {l : List (Nat × Any)} (b : yh P T l) (c : P.funcs[f]? = some a) (d : (a.name == "runtime.NumGoroutine") = false) (e : a.body.isNone = false) (H : Nat → Option Hint)
  {ps rs:List (Ty×Bool)} {i m:Nat} {pm:PM} {g:Args ps->Option (Args rs×Args [])} (j:(fun x=>aCT P (look l) F0 H a ps i pm rs [] m x)=g):tg P T f (.two ⟨ps,i,pm,rs,m,[],g⟩) :=
 ZY (con:=⟨ps,i,pm,rs,m,[],g⟩) (adU b) c d e (.inl rfl) H fun x r h=>⟨N0,(congrFun j x).trans h⟩
def ok3 {P : Program} {T : Tab} {f : FuncId} {a : Func} {l : List (Nat × Any)} (b : yh P T l) (c : P.funcs[f]? = some a) (d : (a.name == "runtime.NumGoroutine") = false) (e : a.body.isNone = false) (H : Nat → Option Hint)
  {ps rs:List (Ty×Bool)} {i m:Nat} {pm:PM} {p:Ty×Bool} {g:Args ps->Option (Args rs×Args [p])} (j:nv ps i=some p) (k:(fun x=>aCT P (look l) F0 H a ps i pm rs [p] m x)=g):tg P T f (.two ⟨ps,i,pm,rs,m,[p],g⟩) :=
 ZY (con:=⟨ps,i,pm,rs,m,[p],g⟩) (adU b) c d e (.inr ⟨p,rfl,j⟩) H fun x r h=>⟨N0,(congrFun k x).trans h⟩
def ok4 {P : Program} {T : Tab} {f : FuncId} {c : Func} {l : List (Nat × Any)} (d : yh P T l) (e : P.funcs[f]? = some c) (j : (c.name == "runtime.NumGoroutine") = false) (k : c.body.isNone = false) (H : Nat → Option Hint)
  {ps:List (Ty×Bool)} {i:Nat} {a b q:Ty×Bool} {g:Args ps->Option (a.1.D×b.1.D×q.1.D)} (m:nv ps i=some q) (n:(fun x=>arE P (look l) F0 H c ps i a b q x)=g):tg P T f (.sel ⟨ps,i,a,b,q,g⟩) :=
 arO (con:=⟨ps,i,a,b,q,g⟩) (adU d) e j k m H fun x r h=>⟨N0,(congrFun n x).trans h⟩
end Go.Am
