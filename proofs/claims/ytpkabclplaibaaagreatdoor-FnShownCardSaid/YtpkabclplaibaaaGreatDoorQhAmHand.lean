/- No condition. -/
import Derived.Test.YtpkabclplaibaaaGreatDoorQhAmRow
import Derived.ProofKit
import Derived.Handed
set_option linter.all false
namespace Go.Am
open Go.ChangeShapes Go.WideShapes Go.ChangeAt Go.RowKit
section
variable {H:Type} {enc:TypeId×Value->H}
def Ta {a:Assume}{C:Checked}{os:Os}{f:FuncId}{b:Func}{s:ChangeSpec}{m:List PathCond}{d n o p:Bool}{X:World->Array Value->Prop}
  (q:∀(w w':World) (args:Array Value),w.heap=w'.heap->X w args->X w' args)
  (own:ownKnob C.prog.godebug=none) (L:os.Started) (r:C.prog.inits.idxOf? f=none) (u:C.prog.funcs[f]?=some b)
  (M:∃(w:World) (c:Tape) (i:Input),w.os=os/\(w.forCall c i).Shaped C.prog/\i.vars=[]/\Input.okWide C.prog (w.forCall c i) .any w.heap.size f i /\
   ((s.pre enc C.prog b m d (w.forCall c i).memory i.args/\X (w.forCall c i).memory i.args)/\sizedMet enc C.prog b (OpenSpec.ofChange s) d (w.forCall c i).memory i.args)/\a.holds C.prog (lone (Frame.enter C.prog f i.args .normal) [] (w.forCall c i)))
  (x:∀(W:World) (N:Nat) (args:Array Value) (g h:List (DataW H)) (k:List MemPlace),W.ShapedOpen C.prog ->
   (∀(j:Nat) t v,b.params[j]?=some t->args[j]?=some v->Value.okWide C.prog W .any N t v) ->
   DataW.Whole enc C.prog b.params.toList s.vars d W args.toList g h k->X W args ->
   Calls C.prog f args W fun e l=>∃v,e=.returned v/\s.post enc C.prog b d n o p W args v l) :
  ReturnsInHanded a C os f .any (fun w args=>(s.pre enc C.prog b m d w args/\X w args)/\sizedMet enc C.prog b (OpenSpec.ofChange s) d w args) (s.post enc C.prog b d n o p):=by
 refine returnsInHanded_of_calls own L r M ?_
 intro w c i _ y _ cR z O
 obtain⟨_,_,_,A,B,_,_,_,_,D⟩:=cR
 have e:A=b:=Option.some.inj (B.symm.trans u)
 subst e
 obtain⟨⟨⟨g,h,k,E,P⟩,F⟩,Q⟩:=z
 have G:=DataW.Whole.of_heap (w':=w.forCall c i) (by rfl) E
 refine(x (w.forCall c i) w.heap.size i.args g h k y D G (q _ _ _ (by rfl) F)).mono fun e l ⟨v,I,K⟩=>?_
 subst I
 exact ChangeSpec.post_blind K
end
end Go.Am
