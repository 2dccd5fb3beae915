/- Lemmas for the claim. No condition. -/
import Derived.Test.YtfapcfpkbahneaaGreatDoorQlAmFn2
set_option linter.all false
namespace Go.Am
abbrev aj (n:Int):Int:=IntKind.i64.wrap n
def N0:Nat:=2 ^ 64
def F0:rQ:=rQ.Qw N0
def cl (i n:Int):Bool:=decide (0≤i)&&decide (i<n)
def RN (l h n:Int):Bool:=decide (0≤l)&&decide (l≤h)&&decide (h≤n)
def okT (h n:Int):Bool:=decide (0≤h)&&decide (h≤n)
def fg (F:rQ)(a b:Nat)(k:Int):Bool:=decide (((a+b:Nat):Int)*k≤F.mem)
def okB (F:rQ)(a b:Nat):Bool:=decide (((a+b:Nat):Int)≤F.mem)
def okC (F:rQ)(a b:Nat):Bool:=decide (((a+b:Nat):Int)≤F.str)
def ahH (n:Int)(a b:Nat):Bool:=decide (0≤n)&&decide (n≤(a:Int))&&decide (1≤(b:Int))&&decide (((a+b:Nat):Int)≤1073741824)
def okM (F:rQ)(n m k:Int):Bool:=decide (0≤n)&&n==m&&decide (n*k≤F.mem)
def aP {α:Type}(xs:List α)(i:Int)(d:α):α:=xs.getD i.toNat d
def x8 (P:Program)(T:Tab):List (Nat×Any)→Prop
 |[]=>True
 |(f,c)::l=>tD P T f c∧x8 P T l
theorem ack {P:Program}{T:Tab}:∀{l:List (Nat×Any)},x8 P T l→∀f con,look l f=some con→tD P T f con
 |[],_,f,con,h=>by simp[look]at h
 |(g,c)::l,h,f,con,hl=>by
  rw[aw]at hl
  by_cases he:g=f
  ·simp only[he,ik]at hl
   cases hl
   exact he▸h.1
  ·simp only[he,gV]at hl
   exact ack h.2 f con hl
theorem ok1 {P : Program} {T : Tab} {f : FuncId} {fn : Func} {l : List (Nat × Any)} (hl : x8 P T l) (hf : P.funcs[f]? = some fn) (hn : (fn.name == "runtime.NumGoroutine") = false) (hb : fn.body.isNone = false) (H : Nat → Option Hint)
  {ps rs:List (Ty×Bool)} {m:Nat} {g:Args ps→Option (Args rs)} (hg:(fun x=>aJB P (look l) F0 H fn ps rs m x)=g):tD P T f (.one ⟨ps,rs,m,g⟩) :=
 atV (con:=⟨ps,rs,m,g⟩) (ack hl) hf hn hb H fun x r h=>⟨N0,(congrFun hg x).trans h⟩
theorem ok2 {P : Program} {T : Tab} {f : FuncId} {fn : Func} {l : List (Nat × Any)} (hl : x8 P T l) (hf : P.funcs[f]? = some fn) (hn : (fn.name == "runtime.NumGoroutine") = false) (hb : fn.body.isNone = false) (H : Nat → Option Hint)
  {ps rs:List (Ty×Bool)} {i m:Nat} {pm:PM} {g:Args ps→Option (Args rs×Args [])} (hg:(fun x=>aBl P (look l) F0 H fn ps i pm rs [] m x)=g):tD P T f (.two ⟨ps,i,pm,rs,m,[],g⟩) :=
 Yj (con:=⟨ps,i,pm,rs,m,[],g⟩) (ack hl) hf hn hb (.inl rfl) H fun x r h=>⟨N0,(congrFun hg x).trans h⟩
theorem ok3 {P : Program} {T : Tab} {f : FuncId} {fn : Func} {l : List (Nat × Any)} (hl : x8 P T l) (hf : P.funcs[f]? = some fn) (hn : (fn.name == "runtime.NumGoroutine") = false) (hb : fn.body.isNone = false) (H : Nat → Option Hint)
  {ps rs:List (Ty×Bool)} {i m:Nat} {pm:PM} {p:Ty×Bool} {g:Args ps→Option (Args rs×Args [p])} (hp:nN ps i=some p) (hg:(fun x=>aBl P (look l) F0 H fn ps i pm rs [p] m x)=g):tD P T f (.two ⟨ps,i,pm,rs,m,[p],g⟩) :=
 Yj (con:=⟨ps,i,pm,rs,m,[p],g⟩) (ack hl) hf hn hb (.inr ⟨p,rfl,hp⟩) H fun x r h=>⟨N0,(congrFun hg x).trans h⟩
theorem ok4 {P : Program} {T : Tab} {f : FuncId} {fn : Func} {l : List (Nat × Any)} (hl : x8 P T l) (hf : P.funcs[f]? = some fn) (hn : (fn.name == "runtime.NumGoroutine") = false) (hb : fn.body.isNone = false) (H : Nat → Option Hint)
  {ps:List (Ty×Bool)} {i:Nat} {a b q:Ty×Bool} {g:Args ps→Option (a.1.D×b.1.D×q.1.D)} (hp:nN ps i=some q) (hg:(fun x=>ap0 P (look l) F0 H fn ps i a b q x)=g):tD P T f (.sel ⟨ps,i,a,b,q,g⟩) :=
 aqc (con:=⟨ps,i,a,b,q,g⟩) (ack hl) hf hn hb hp H fun x r h=>⟨N0,(congrFun hg x).trans h⟩
end Go.Am
