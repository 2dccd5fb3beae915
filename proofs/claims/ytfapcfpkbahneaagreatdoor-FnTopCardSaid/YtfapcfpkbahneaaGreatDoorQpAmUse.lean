/- No condition. -/
import Derived.Test.YtfapcfpkbahneaaGreatDoorQpAmFn2
set_option linter.all false
namespace Go.Am
abbrev ak (n:Int):Int:=IntKind.i64.wrap n
def N0:Nat:=2 ^ 64
def F0:sd:=sd.Rm N0
def cr (i n:Int):Bool:=decide (0<=i)&&decide (i<n)
def SJ (l h n:Int):Bool:=decide (0<=l)&&decide (l<=h)&&decide (h<=n)
def okT (h n:Int):Bool:=decide (0<=h)&&decide (h<=n)
def fp (F:sd)(a b:Nat)(k:Int):Bool:=decide (((a+b:Nat):Int)*k<=F.mem)
def okB (F:sd)(a b:Nat):Bool:=decide (((a+b:Nat):Int)<=F.mem)
def okC (F:sd)(a b:Nat):Bool:=decide (((a+b:Nat):Int)<=F.str)
def aiR (n:Int)(a b:Nat):Bool:=decide (0<=n)&&decide (n<=(a:Int))&&decide (1<=(b:Int))&&decide (((a+b:Nat):Int)<=1073741824)
def okM (F:sd)(n m k:Int):Bool:=decide (0<=n)&&n==m&&decide (n*k<=F.mem)
def aU {U:Type}(xs:List U)(i:Int)(d:U):U:=xs.getD i.toNat d
def yF (P:Program)(T:Tab):List (Nat×Any)->Prop
 |[]=>True|(f,c)::l=>tX P T f c/\yF P T l
def adm {P:Program}{T:Tab}:∀{l:List (Nat×Any)},yF P T l->∀f con,look l f=some con->tX P T f con
 |[],_,f,con,h=>by simp[look]at h
 |(g,c)::l,h,f,con,hl=>by
  rw[aw]at hl;by_cases he:g=f
  .simp only[he,iA]at hl;cases hl;exact he▸h.1
  .simp only[he,hZ]at hl;exact adm h.2 f con hl
def ok1 {P : Program} {T : Tab} {f : FuncId} {fn : Func} {l : List (Nat × Any)} (hl : yF P T l) (hf : P.funcs[f]? = some fn) (hn : (fn.name == "runtime.NumGoroutine") = false) (hb : fn.body.isNone = false) (H : Nat → Option Hint)
  {ps rs:List (Ty×Bool)} {m:Nat} {g:Args ps->Option (Args rs)} (hg:(fun x=>aLR P (look l) F0 H fn ps rs m x)=g):tX P T f (.one ⟨ps,rs,m,g⟩) :=
 avJ (con:=⟨ps,rs,m,g⟩) (adm hl) hf hn hb H fun x r h=>⟨N0,(congrFun hg x).trans h⟩
def ok2 {P : Program} {T : Tab} {f : FuncId} {fn : Func} {l : List (Nat × Any)} (hl : yF P T l) (hf : P.funcs[f]? = some fn) (hn : (fn.name == "runtime.NumGoroutine") = false) (hb : fn.body.isNone = false) (H : Nat → Option Hint)
  {ps rs:List (Ty×Bool)} {i m:Nat} {pm:PM} {g:Args ps->Option (Args rs×Args [])} (hg:(fun x=>aDe P (look l) F0 H fn ps i pm rs [] m x)=g):tX P T f (.two ⟨ps,i,pm,rs,m,[],g⟩) :=
 Zn (con:=⟨ps,i,pm,rs,m,[],g⟩) (adm hl) hf hn hb (.inl rfl) H fun x r h=>⟨N0,(congrFun hg x).trans h⟩
def ok3 {P : Program} {T : Tab} {f : FuncId} {fn : Func} {l : List (Nat × Any)} (hl : yF P T l) (hf : P.funcs[f]? = some fn) (hn : (fn.name == "runtime.NumGoroutine") = false) (hb : fn.body.isNone = false) (H : Nat → Option Hint)
  {ps rs:List (Ty×Bool)} {i m:Nat} {pm:PM} {p:Ty×Bool} {g:Args ps->Option (Args rs×Args [p])} (hp:og ps i=some p) (hg:(fun x=>aDe P (look l) F0 H fn ps i pm rs [p] m x)=g):tX P T f (.two ⟨ps,i,pm,rs,m,[p],g⟩) :=
 Zn (con:=⟨ps,i,pm,rs,m,[p],g⟩) (adm hl) hf hn hb (.inr ⟨p,rfl,hp⟩) H fun x r h=>⟨N0,(congrFun hg x).trans h⟩
def ok4 {P : Program} {T : Tab} {f : FuncId} {fn : Func} {l : List (Nat × Any)} (hl : yF P T l) (hf : P.funcs[f]? = some fn) (hn : (fn.name == "runtime.NumGoroutine") = false) (hb : fn.body.isNone = false) (H : Nat → Option Hint)
  {ps:List (Ty×Bool)} {i:Nat} {a b q:Ty×Bool} {g:Args ps->Option (a.1.D×b.1.D×q.1.D)} (hp:og ps i=some q) (hg:(fun x=>arF P (look l) F0 H fn ps i a b q x)=g):tX P T f (.sel ⟨ps,i,a,b,q,g⟩) :=
 arQ (con:=⟨ps,i,a,b,q,g⟩) (adm hl) hf hn hb hp H fun x r h=>⟨N0,(congrFun hg x).trans h⟩
end Go.Am
