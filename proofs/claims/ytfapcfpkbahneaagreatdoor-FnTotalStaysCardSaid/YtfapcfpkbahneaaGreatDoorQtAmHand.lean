/- Lemmas for the claim. No condition. -/
import Derived.Test.YtfapcfpkbahneaaGreatDoorQtAmRow
import Derived.ProofKit
import Derived.Handed
set_option linter.all false
namespace Go.Am
open Go.ChangeShapes Go.WideShapes Go.ChangeAt Go.RowKit
section
variable {H:Type} {enc:TypeId×Value->H}
theorem ahP {a:Assume}{C:Checked}{os:Os}{f:FuncId}{fn:Func}{s:ChangeSpec}{aJL:List PathCond}{apart fresh alL aCc:Bool}{X:World->Array Value->Prop}
  (hX:∀(w w':World) (args:Array Value),w.heap=w'.heap->X w args->X w' args)
  (own:ownKnob C.prog.godebug=none) (afg:os.Started) (aKR:C.prog.inits.idxOf? f=none) (hfn:C.prog.funcs[f]?=some fn)
  (aI2:∃(w:World) (tape:Tape) (i:Input),w.os=os/\(w.forCall tape i).Shaped C.prog/\i.vars=[]/\Input.okWide C.prog (w.forCall tape i) .any w.heap.size f i /\
   ((s.pre enc C.prog fn aJL apart (w.forCall tape i).memory i.args/\X (w.forCall tape i).memory i.args)/\sizedMet enc C.prog fn (OpenSpec.ofChange s) apart (w.forCall tape i).memory i.args)/\a.holds C.prog (lone (Frame.enter C.prog f i.args .normal) [] (w.forCall tape i)))
  (aHs:∀(W:World) (Lo:Nat) (args:Array Value) (ds gs:List (DataW H)) (afI:List MemPlace),W.ShapedOpen C.prog ->
   (∀(j:Nat) t v,fn.params[j]?=some t->args[j]?=some v->Value.okWide C.prog W .any Lo t v) ->
   DataW.Whole enc C.prog fn.params.toList s.vars apart W args.toList ds gs afI->X W args ->
   Calls C.prog f args W fun e W'=>∃v,e=.returned v/\s.post enc C.prog fn apart fresh alL aCc W args v W') :
  ReturnsInHanded a C os f .any (fun w args=>(s.pre enc C.prog fn aJL apart w args/\X w args)/\sizedMet enc C.prog fn (OpenSpec.ofChange s) apart w args) (s.post enc C.prog fn apart fresh alL aCc):=by
 refine returnsInHanded_of_calls own afg aKR aI2 ?_
 intro w tape i _ hsh _ dO UN aOY
 obtain⟨_,_,_,fn',aOZ,_,_,_,_,acL⟩:=dO
 have e:fn'=fn:=Option.some.inj (aOZ.symm.trans hfn)
 subst e
 obtain⟨⟨⟨ds,gs,afI,hw,hc⟩,hx⟩,hz⟩:=UN
 have hw':=DataW.Whole.of_heap (w':=w.forCall tape i) (by rfl) hw
 refine(aHs (w.forCall tape i) w.heap.size i.args ds gs afI hsh acL hw' (hX _ _ _ (by rfl) hx)).mono fun e W' ⟨v,he,hp⟩=>?_
 subst he
 exact ChangeSpec.post_blind hp
end
end Go.Am
