/- Lemmas for the claim. No condition. -/
import Derived.Test.YtfapcfpkbahneaaGreatDoorQtAmFn2
set_option linter.all false
namespace Go.Am
abbrev aj (n:Int):Int:=IntKind.i64.wrap n
def N0:Nat:=2 ^ 64
def F0:rT:=rT.QY N0
def cc (i n:Int):Bool:=decide (0<=i)&&decide (i<n)
def Si (l h n:Int):Bool:=decide (0<=l)&&decide (l<=h)&&decide (h<=n)
def okT (h n:Int):Bool:=decide (0<=h)&&decide (h<=n)
def fe (F:rT)(a b:Nat)(k:Int):Bool:=decide (((a+b:Nat):Int)*k<=F.mem)
def okB (F:rT)(a b:Nat):Bool:=decide (((a+b:Nat):Int)<=F.mem)
def okC (F:rT)(a b:Nat):Bool:=decide (((a+b:Nat):Int)<=F.str)
def aij (n:Int)(a b:Nat):Bool:=decide (0<=n)&&decide (n<=(a:Int))&&decide (1<=(b:Int))&&decide (((a+b:Nat):Int)<=1073741824)
def okM (F:rT)(n m k:Int):Bool:=decide (0<=n)&&n==m&&decide (n*k<=F.mem)
def aN {α:Type}(xs:List α)(i:Int)(d:α):α:=xs.getD i.toNat d
def yd (P:Program)(T:Tab):List (Nat×Any)->Prop
 |[]=>True
 |(f,c)::l=>tJ P T f c/\yd P T l
theorem acV {P:Program}{T:Tab}:∀{l:List (Nat×Any)},yd P T l->∀f con,look l f=some con->tJ P T f con
 |[],_,f,con,h=>by simp[look]at h
 |(g,c)::l,h,f,con,hl=>by
  rw[aw]at hl;by_cases he:g=f
  ·simp only[he,ig]at hl;cases hl;exact he▸h.1
  ·simp only[he,gT]at hl;exact acV h.2 f con hl
theorem ok1 {P : Program} {T : Tab} {f : FuncId} {fn : Func} {l : List (Nat × Any)} (hl : yd P T l) (hf : P.funcs[f]? = some fn) (hn : (fn.name == "runtime.NumGoroutine") = false) (hb : fn.body.isNone = false) (H : Nat → Option Hint)
  {ps rs:List (Ty×Bool)} {m:Nat} {g:Args ps->Option (Args rs)} (hg:(fun x=>aJP P (look l) F0 H fn ps rs m x)=g):tJ P T f (.one ⟨ps,rs,m,g⟩) :=
 auu (con:=⟨ps,rs,m,g⟩) (acV hl) hf hn hb H fun x r h=>⟨N0,(congrFun hg x).trans h⟩
theorem ok2 {P : Program} {T : Tab} {f : FuncId} {fn : Func} {l : List (Nat × Any)} (hl : yd P T l) (hf : P.funcs[f]? = some fn) (hn : (fn.name == "runtime.NumGoroutine") = false) (hb : fn.body.isNone = false) (H : Nat → Option Hint)
  {ps rs:List (Ty×Bool)} {i m:Nat} {pm:PM} {g:Args ps->Option (Args rs×Args [])} (hg:(fun x=>aBM P (look l) F0 H fn ps i pm rs [] m x)=g):tJ P T f (.two ⟨ps,i,pm,rs,m,[],g⟩) :=
 YY (con:=⟨ps,i,pm,rs,m,[],g⟩) (acV hl) hf hn hb (.inl rfl) H fun x r h=>⟨N0,(congrFun hg x).trans h⟩
theorem ok3 {P : Program} {T : Tab} {f : FuncId} {fn : Func} {l : List (Nat × Any)} (hl : yd P T l) (hf : P.funcs[f]? = some fn) (hn : (fn.name == "runtime.NumGoroutine") = false) (hb : fn.body.isNone = false) (H : Nat → Option Hint)
  {ps rs:List (Ty×Bool)} {i m:Nat} {pm:PM} {p:Ty×Bool} {g:Args ps->Option (Args rs×Args [p])} (hp:nX ps i=some p) (hg:(fun x=>aBM P (look l) F0 H fn ps i pm rs [p] m x)=g):tJ P T f (.two ⟨ps,i,pm,rs,m,[p],g⟩) :=
 YY (con:=⟨ps,i,pm,rs,m,[p],g⟩) (acV hl) hf hn hb (.inr ⟨p,rfl,hp⟩) H fun x r h=>⟨N0,(congrFun hg x).trans h⟩
theorem ok4 {P : Program} {T : Tab} {f : FuncId} {fn : Func} {l : List (Nat × Any)} (hl : yd P T l) (hf : P.funcs[f]? = some fn) (hn : (fn.name == "runtime.NumGoroutine") = false) (hb : fn.body.isNone = false) (H : Nat → Option Hint)
  {ps:List (Ty×Bool)} {i:Nat} {a b q:Ty×Bool} {g:Args ps->Option (a.1.D×b.1.D×q.1.D)} (hp:nX ps i=some q) (hg:(fun x=>aqx P (look l) F0 H fn ps i a b q x)=g):tJ P T f (.sel ⟨ps,i,a,b,q,g⟩) :=
 aqJ (con:=⟨ps,i,a,b,q,g⟩) (acV hl) hf hn hb hp H fun x r h=>⟨N0,(congrFun hg x).trans h⟩
end Go.Am
