/- No condition. -/
import Derived.Test.YtaheoongenkdbaaGreatDoorQsAmRow
import Derived.ProofKit
import Derived.Handed
set_option linter.all false
namespace Go.Am
open Go.ChangeShapes Go.WideShapes Go.ChangeAt Go.RowKit
section
variable {H:Type} {enc:TypeId×Value->H}
def afz {a:Assume}{C:Checked}{os:Os}{f:FuncId}{b:Func}{s:ChangeSpec}{l:List PathCond}{d m n o:Bool}{X:World->Array Value->Prop}
  (p:∀(w w':World) (args:Array Value),w.heap=w'.heap->X w args->X w' args)
  (own:ownKnob C.prog.godebug=none) (K:os.Started) (q:C.prog.inits.idxOf? f=none) (r:C.prog.funcs[f]?=some b)
  (L:∃(w:World) (c:Tape) (i:Input),w.os=os/\(w.forCall c i).Shaped C.prog/\i.vars=[]/\Input.okWide C.prog (w.forCall c i) .any w.heap.size f i /\
   ((s.pre enc C.prog b l d (w.forCall c i).memory i.args/\X (w.forCall c i).memory i.args)/\sizedMet enc C.prog b (OpenSpec.ofChange s) d (w.forCall c i).memory i.args)/\a.holds C.prog (lone (Frame.enter C.prog f i.args .normal) [] (w.forCall c i)))
  (u:∀(W:World) (M:Nat) (args:Array Value) (ds g:List (DataW H)) (h:List MemPlace),W.ShapedOpen C.prog ->
   (∀(j:Nat) t v,b.params[j]?=some t->args[j]?=some v->Value.okWide C.prog W .any M t v) ->
   DataW.Whole enc C.prog b.params.toList s.vars d W args.toList ds g h->X W args ->
   Calls C.prog f args W fun e k=>∃v,e=.returned v/\s.post enc C.prog b d m n o W args v k) :
  ReturnsInHanded a C os f .any (fun w args=>(s.pre enc C.prog b l d w args/\X w args)/\sizedMet enc C.prog b (OpenSpec.ofChange s) d w args) (s.post enc C.prog b d m n o):=by
 refine returnsInHanded_of_calls own K q L ?_
 intro w c i _ x _ cU y N
 obtain⟨_,_,_,z,A,_,_,_,_,B⟩:=cU
 have e:z=b:=Option.some.inj (A.symm.trans r)
 subst e
 obtain⟨⟨⟨ds,g,h,D,O⟩,E⟩,P⟩:=y
 have F:=DataW.Whole.of_heap (w':=w.forCall c i) (by rfl) D
 refine(u (w.forCall c i) w.heap.size i.args ds g h x B F (p _ _ _ (by rfl) E)).mono fun e k ⟨v,G,I⟩=>?_
 subst G
 exact ChangeSpec.post_blind I
end
end Go.Am
