/- No condition. -/
import Derived.Test.YtfapcfpkbahneaaGreatDoorQpAmRow
import Derived.ProofKit
import Derived.Handed
set_option linter.all false
namespace Go.Am
open Go.ChangeShapes Go.WideShapes Go.ChangeAt Go.RowKit
section
variable {H:Type} {enc:TypeId×Value->H}
def aio {a:Assume}{C:Checked}{os:Os}{f:FuncId}{fn:Func}{s:ChangeSpec}{aLN:List PathCond}{apart fresh amk aDF:Bool}{X:World->Array Value->Prop}
  (hX:∀(w w':World) (args:Array Value),w.heap=w'.heap->X w args->X w' args)
  (own:ownKnob C.prog.godebug=none) (afJ:os.Started) (aMX:C.prog.inits.idxOf? f=none) (hfn:C.prog.funcs[f]?=some fn)
  (aK3:∃(w:World) (tape:Tape) (i:Input),w.os=os/\(w.forCall tape i).Shaped C.prog/\i.vars=[]/\Input.okWide C.prog (w.forCall tape i) .any w.heap.size f i /\
   ((s.pre enc C.prog fn aLN apart (w.forCall tape i).memory i.args/\X (w.forCall tape i).memory i.args)/\sizedMet enc C.prog fn (OpenSpec.ofChange s) apart (w.forCall tape i).memory i.args)/\a.holds C.prog (lone (Frame.enter C.prog f i.args .normal) [] (w.forCall tape i)))
  (aJl:∀(W:World) (LJ:Nat) (args:Array Value) (ds gs:List (DataW H)) (aga:List MemPlace),W.ShapedOpen C.prog ->
   (∀(j:Nat) t v,fn.params[j]?=some t->args[j]?=some v->Value.okWide C.prog W .any LJ t v) ->
   DataW.Whole enc C.prog fn.params.toList s.vars apart W args.toList ds gs aga->X W args ->
   Calls C.prog f args W fun e W'=>∃v,e=.returned v/\s.post enc C.prog fn apart fresh amk aDF W args v W') :
  ReturnsInHanded a C os f .any (fun w args=>(s.pre enc C.prog fn aLN apart w args/\X w args)/\sizedMet enc C.prog fn (OpenSpec.ofChange s) apart w args) (s.post enc C.prog fn apart fresh amk aDF):=by
 refine returnsInHanded_of_calls own afJ aMX aK3 ?_
 intro w tape i _ hsh _ dZ Vn aQ6
 obtain⟨_,_,_,fn',aQ7,_,_,_,_,ada⟩:=dZ
 have e:fn'=fn:=Option.some.inj (aQ7.symm.trans hfn)
 subst e
 obtain⟨⟨⟨ds,gs,aga,hw,hc⟩,hx⟩,hz⟩:=Vn
 have hw':=DataW.Whole.of_heap (w':=w.forCall tape i) (by rfl) hw
 refine(aJl (w.forCall tape i) w.heap.size i.args ds gs aga hsh ada hw' (hX _ _ _ (by rfl) hx)).mono fun e W' ⟨v,he,hp⟩=>?_
 subst he
 exact ChangeSpec.post_blind hp
end
end Go.Am
