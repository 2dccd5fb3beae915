/- Lemmas for the claim. No condition. -/
import Derived.Test.YtfapcfpkbahneaaGreatDoorQlAmRow
import Derived.ProofKit
import Derived.Handed
set_option linter.all false
namespace Go.Am
open Go.ChangeShapes Go.WideShapes Go.ChangeAt Go.RowKit
section
variable {H:Type} {enc:TypeId×Value→H}
theorem ahe {a:Assume}{C:Checked}{os:Os}{f:FuncId}{fn:Func}{s:ChangeSpec}{aJx:List PathCond}{apart fresh ala aBM:Bool}{X:World→Array Value→Prop}
  (hX:∀(w w':World) (args:Array Value),w.heap=w'.heap→X w args→X w' args)
  (own:ownKnob C.prog.godebug=none) (aeI:os.Started) (aKK:C.prog.inits.idxOf? f=none) (hfn:C.prog.funcs[f]?=some fn)
  (aIO:∃(w:World) (tape:Tape) (i:Input),w.os=os∧(w.forCall tape i).Shaped C.prog∧i.vars=[]∧Input.okWide C.prog (w.forCall tape i) .any w.heap.size f i ∧
   ((s.pre enc C.prog fn aJx apart (w.forCall tape i).memory i.args∧X (w.forCall tape i).memory i.args)∧sizedMet enc C.prog fn (OpenSpec.ofChange s) apart (w.forCall tape i).memory i.args)∧a.holds C.prog (lone (Frame.enter C.prog f i.args .normal) [] (w.forCall tape i)))
  (aG7:∀(W:World) (KT:Nat) (args:Array Value) (ds gs:List (DataW H)) (ae9:List MemPlace),W.ShapedOpen C.prog →
   (∀(j:Nat) t v,fn.params[j]?=some t→args[j]?=some v→Value.okWide C.prog W .any KT t v) →
   DataW.Whole enc C.prog fn.params.toList s.vars apart W args.toList ds gs ae9→X W args →
   Calls C.prog f args W fun e W'=>∃v,e=.returned v∧s.post enc C.prog fn apart fresh ala aBM W args v W') :
  ReturnsInHanded a C os f .any (fun w args=>(s.pre enc C.prog fn aJx apart w args∧X w args)∧sizedMet enc C.prog fn (OpenSpec.ofChange s) apart w args) (s.post enc C.prog fn apart fresh ala aBM):=by
 refine returnsInHanded_of_calls own aeI aKK aIO ?_
 intro w tape i _ hsh _ dS Ug aOP
 obtain⟨_,_,_,fn',aOQ,_,_,_,_,ab9⟩:=dS
 have e:fn'=fn:=Option.some.inj (aOQ.symm.trans hfn)
 subst e
 obtain⟨⟨⟨ds,gs,ae9,hw,hc⟩,hx⟩,hz⟩:=Ug
 have hw':=DataW.Whole.of_heap (w':=w.forCall tape i) (by rfl) hw
 refine(aG7 (w.forCall tape i) w.heap.size i.args ds gs ae9 hsh ab9 hw' (hX _ _ _ (by rfl) hx)).mono fun e W' ⟨v,he,hp⟩=>?_
 subst he
 exact ChangeSpec.post_blind hp
end
end Go.Am
