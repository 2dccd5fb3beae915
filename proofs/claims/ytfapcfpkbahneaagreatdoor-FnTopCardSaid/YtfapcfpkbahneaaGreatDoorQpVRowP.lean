/- FnTop holds: for every input the law returns true, and the input reads as it did; the tables that it reads are tied to the program's text. No condition. -/
import Derived.Test.YtfapcfpkbahneaaGreatDoorTie
import Derived.Test.YtfapcfpkbahneaaGreatDoorCards
import Derived.Test.YtfapcfpkbahneaaGreatDoorQpVLawTopL
import Derived.Test.YtfapcfpkbahneaaGreatDoorQpAmHand
import Derived.Test.YtfapcfpkbahneaaGreatDoorQpAmFacts
import Derived.ProofKit
import Derived.LaidMore
import Derived.Lay
import Derived.OpenShut
import Derived.Stop.Joined
import Derived.Stop.LaidErr
import Derived.SevenTiedAt
set_option linter.all false
set_option maxRecDepth 100000
namespace Go.Am.Tryz
open Go.Am Go.Proofs
def axH:List (Ty×Bool):=[(.sl 5 (.int .u8),false)]
noncomputable def aLO:Con:=⟨axH,[(.bool,false)],1,fun x=>R6 F0 x.1⟩
theorem aJm:ato Tryz.prog TB 4 aLO:=asM
theorem aMY {n:Int}(h:(Lit.int .i64 n).wf=true):I64 n:=by
 have h1:IntKind.i64.min=-9223372036854775808:=rfl
 have h2:IntKind.i64.max=9223372036854775807:=rfl
 simp only[Lit.wf,Bool.and_eq_true,decide_eq_true_eq,h1,h2]at h
 exact h
theorem aPt {a:List Int}(h:∀x∈a,Wf (.int .i64) x):∀x∈a,I64 x:=fun x hx=>aMY (h x hx)
theorem aGr {P:Go.Program}(h:P.funcs.toList.any Go.Func.goes=false)(f:FuncId):P.goes f=false:=by
 have hf:∀g:Nat,(P.funcs[g]?).any Go.Func.goes=false:=by
  intro g
  cases e:P.funcs[g]? with
  |none=>rfl
  |some fn =>
   rw[<-Array.getElem?_toList]at e
   have:=List.any_eq_false.1 h fn (List.mem_of_getElem? e)
   simpa using this
 have h2:P.funcs.any Go.Func.goes=false:=by rw[<-Array.any_toList];exact h
 unfold Go.Program.goes
 rw[h2,Bool.and_false,Bool.or_false]
 simp only[hf]
 simp
theorem aAE {P:Go.Program}(h:P.funcs.toList.any Go.Func.goes=false)(c:Go.OpenClaim):false=c.goesBy P:=by
 unfold Go.OpenClaim.goesBy Go.Program.goesAt Go.Program.goesFrom
 have e:P.goes=fun _=>false:=funext (aGr h)
 rw[e]
 cases P.funcNamed c.func<;>cases c.start<;>simp
theorem aJn (x:Args axH)(_:aBF axH x):aLO.g x=some (true,()):=aC4 x.1
end Go.Am.Tryz
namespace Go.Proofs.YtfapcfpkbahneaaGreatDoor
open Go.ChangeShapes Go.WideShapes Go.ChangeAt Go.RowKit
theorem Tryz.own:ownKnob Tryz.prog.godebug=none:=by kernel_rfl
theorem Tryz.laidOut:laidOutB Tryz.prog=true:=by kernel_rfl
theorem aMZ {W:World}(hs:W.ShapedOpen Tryz.prog)(h:laidMetH Tryz.prog Rows.fnTopRow.laid W):Go.Am.Tryz.TB.p W:=by
 refine⟨?_,Tryz.aHO.s1_3 W hs⟩
 rw[MakeChecks.laidMetH_plain _ _ _ (by kernel_rfl)]at h
 have h3 : laidMet Tryz.prog (("internal/strconv.uint64pow10", Lib.tabData .u64 Lib.pow10Tab) :: Rows.fnTopRow.laid.drop 3) W := laidMet.tail (laidMet.tail (h))
 exact Lib.tabIs_of_head (g:=3) (t:=289) (e:=275) (n:=20) (by kernel_rfl) (by kernel_rfl) (by kernel_rfl) (by kernel_rfl) (by kernel_rfl) (by kernel_rfl) h3
set_option maxRecDepth 100000 in
theorem aC5 (os:Os)(afJ:os.Started)(H:Type)(enc:TypeId×Value->H) :
  ReturnsInHanded {} Tryz.checked os 4 .any (fun w args=>(Rows.fnTopSpec.pre enc Tryz.prog Tryz.f4 [] false w args/\laidMetH Tryz.prog Rows.fnTopRow.laid w)/\sizedMet enc Tryz.prog Tryz.f4 (OpenSpec.ofChange Rows.fnTopSpec) false w args)
   (Rows.fnTopSpec.post enc Tryz.prog Tryz.f4 false true false false):=by
 refine Go.Am.aio (C:=Tryz.checked) (X:=fun w _=>laidMetH Tryz.prog Rows.fnTopRow.laid w) (fun _ _ _ hh h=>h.of_heap hh) Tryz.own afJ (by kernel_rfl) Tryz.func4
  (ChangeSpec.witness_shaped (enc:=enc) (C:=Tryz.checked) (os:=os) (X:=fun w _=>laidMetH Tryz.prog Rows.fnTopRow.laid w) false (World.laidAll Tryz.prog os Rows.fnTopRow.laid) #[.slice none 0 0] 8 (World.laidAll_os _ _ _)
   (World.shaped_of_ZipB (by kernel_rfl) (by kernel_rfl)) (by kernel_rfl) (by kernel_rfl) (by kernel_rfl)
   (by rw[MakeChecks.laidMetH_plain _ _ _ (by kernel_rfl)];exact laidMet_laidAll _ (by kernel_rfl) (by kernel_rfl))) ?_
 intro W LJ args ds gs aga hsh aOU hW hL
 have ada:∀(j:Nat) t v,Tryz.f4.params.toList[j]?=some t->args.toList[j]?=some v->Value.okWide Tryz.prog W .any LJ t v:=fun j t v h1 h2=>aOU j t v (by simpa using h1) (by simpa using h2)
 obtain⟨p,q,hA,hV,_⟩:=id hW
 have hk:Go.Am.aDG Tryz.prog Tryz.f4.params.toList=some Go.Am.Tryz.axH:=by kernel_rfl
 obtain⟨x,hx,hwf⟩:=Go.Am.atG hk ada hA
 have aOV:=Go.Am.Tryz.aJn x hwf
 have hcall:=Go.Am.Tryz.aJm.2 x (true,()) aOV W (aMZ hsh hL) _ args.toList hx
 rw[Array.toArray_toList]at hcall
 refine hcall.mono fun e W' he=>?_
 obtain⟨us,rfl,df,hB⟩:=he
 have hus:us=[.bool true]:=by
  obtain⟨v,vs,rfl,⟨cs,h1,h2⟩,h3⟩:=(show Go.Am.e8 _ _ [(.bool,false)] (true,()) us from df)
  rw[show vs=[] from h3,h2,show cs=[.bool true] from h1]
  rfl
 subst hus
 have hds:∃d0,ds=[d0]:=by
  have hl:=Go.Am.aiT hA
  have hl1:ds.length=1:=hl.trans (by kernel_rfl)
  match ds,hl1 with
  |[d0],_=>exact⟨d0,rfl⟩
 have hgs:gs=[]:=by
  cases gs with
  |nil=>rfl
  |cons _ _=>exact hV.elim
 obtain⟨d0,rfl⟩:=hds
 subst hgs
 exact⟨_,rfl,Go.Am.aHI Tryz.laidOut rfl (by kernel_rfl) (tb:=4) (by kernel_rfl) Tryz.underlying4 hW hB rfl⟩
theorem aOW:(Rows.fnTopRow.wf (OpenSpec.ofChange Rows.fnTopSpec)&&laidOutB Tryz.checked.prog&&mapsRowed Tryz.checked.prog&&Tryz.f4.params.all (Tryz.checked.prog.readableRec ·)&&namedTie Tryz.checked.prog Rows.fnTopRow.named Rows.fnTopSpec.vars&&(Rows.fnTopRow.stops==[])&&(Tryz.checked.prog.stops==[])&&(Rows.fnTopRow.knobs==[])&&(Tryz.checked.prog.stopKnobs==[]))=true:=by kernel_rfl
theorem aOX:(Rows.fnTopRow.inPlace==Tryz.checked.prog.inPlace 4)=true:=by kernel_rfl
theorem aOY:(Rows.fnTopRow.unfollowed==Tryz.checked.prog.unfollowed 4)=true:=by kernel_rfl
theorem aOZ:(Rows.fnTopRow.recurses==Tryz.checked.prog.recurses 4)=true:=by kernel_rfl
theorem aO0:(Rows.fnTopRow.named==Tryz.checked.prog.varsNamed 4)=true:=by kernel_rfl
theorem aO1:((Rows.fnTopRow.maps==(Tryz.f4.params.toList++Rows.fnTopSpec.plain.varTypes Tryz.checked.prog).any (Tryz.checked.prog.mapsRec ·))&&(Rows.fnTopRow.ifaces==(Tryz.f4.params.toList++Rows.fnTopSpec.plain.varTypes Tryz.checked.prog).any (Tryz.checked.prog.ifacesRec ·))&&(Rows.fnTopRow.mapsOut==Tryz.checked.prog.mapsAmong Tryz.f4.resultTypes.toList)&&(Rows.fnTopRow.loops==(Tryz.f4.params.toList++Rows.fnTopSpec.plain.varTypes Tryz.checked.prog).any (Tryz.checked.prog.loopsFrom ·))&&(Rows.fnTopRow.wideKeys==(Tryz.f4.params.toList++Rows.fnTopSpec.plain.varTypes Tryz.checked.prog++Tryz.f4.resultTypes.toList).any (Tryz.checked.prog.wideKeysFrom ·)))=true:=by kernel_rfl
theorem aO2:(Rows.fnTopSpec.vars.all (Tryz.checked.prog.varReadable ·)&&Tryz.f4.resultTypes.all (fun t=>Tryz.checked.prog.readableRec t&&decide (t<Tryz.checked.prog.types.size))&&(Rows.fnTopRow.ifacesOut==Tryz.f4.resultTypes.toList.any (Tryz.checked.prog.ifacesRec ·))&&(Rows.fnTopRow.loopsOut==Tryz.f4.resultTypes.toList.any (Tryz.checked.prog.loopsFrom ·))&&(Rows.fnTopRow.plainKeys==Tryz.checked.prog.plainKeys)&&Rows.fnTopRow.shortTexts.isNone)=true:=by kernel_rfl
theorem aO3:Tryz.checked.prog.stopsHeard=true:=by kernel_rfl
theorem aM0:Tryz.checked.prog.mayEnter=true:=by kernel_rfl
theorem aO4:(Rows.fnTopRow.lifted==Tryz.checked.prog.liftsFinal)=true:=by kernel_rfl
theorem aO5:((Tryz.checked.prog.make==some Rows.fnTopRow.make)&&(Rows.fnTopRow.kinds==(if Rows.fnTopRow.domain.isEmpty then [] else Tryz.f4.params.toList.map fun t=>match Tryz.checked.prog.underlying t with|some (.int k)=>some k|_=>none))&&(Rows.fnTopRow.pinned==Rows.fnTopRow.pinnedBy))=true:=by kernel_rfl
theorem aM1:((Rows.fnTopRow.veiled==(Tryz.f4.params.toList++Rows.fnTopSpec.plain.varTypes Tryz.checked.prog++Tryz.f4.resultTypes.toList).any (Tryz.checked.prog.veiledRec ·))&&Rows.fnTopRow.veiledFits Tryz.checked.prog Tryz.f4.params.toList (Tryz.f4.params.toList++Rows.fnTopSpec.plain.varTypes Tryz.checked.prog++Tryz.f4.resultTypes.toList))=true:=by kernel_rfl
theorem aJo:Tryz.checked.prog.funcNamed Rows.fnTopRow.func=some 4:=by kernel_rfl
theorem aM2 : Tryz.checked.prog.mainIs = some (true, ("f58a409c10e7775194b72894c22b699d3c1fe793afca1f2dac50b18a7defc83e" : String).toList) := by kernel_rfl
theorem aM3:false=Tryz.checked.prog.looks []:=by kernel_rfl
theorem aM4:false=Rows.fnTopRow.goesBy Tryz.checked.prog:=Go.Am.Tryz.aAE (by kernel_rfl) _
theorem aM5:Rows.fnTopRow.wfByText (OpenSpec.ofChange Rows.fnTopSpec)=true:=by kernel_rfl
theorem aM6:(Tryz.f4.params.toList.all fun u=> !Tryz.prog.wantsStandIn u)=true:=by kernel_rfl
theorem aM7:Tryz.f4.isInstance Tryz.checked.prog Rows.fnTopRow.origin Rows.fnTopRow.targs:=of_decide_eq_true (by kernel_rfl)
theorem aM8:Tryz.f4.isWrapper Tryz.checked.prog Rows.fnTopRow.wrapper Rows.fnTopRow.mainSum:=by unfold Func.isWrapper;first|(rw[if_pos (by decide +kernel)];kernel_rfl)|(rw[if_neg (by decide +kernel)];exact⟨rfl,rfl⟩)
theorem aGs:Rows.FnTopSaid :=
 OpenClaim.holds_of_wide 4 Tryz.f4 rfl rfl rfl rfl rfl rfl rfl ⟨rfl,rfl,rfl,rfl,rfl⟩ rfl rfl rfl rfl rfl aJo Tryz.func4 (Go.Am.arx aOW aOX aOY aOZ aO0 aO1 aO2 aO3 aM0 aO4 aO5 aM1)
  aM7 aM8
  (fun os afJ H enc _=>aC5 os afJ H enc)
theorem FnTop_card:Rows.FnTopCardSaid :=
 Claim7.holds_tied_plain_at .later [] [.data, .data, .data, .data, .pinned] true (true, "f58a409c10e7775194b72894c22b699d3c1fe793afca1f2dac50b18a7defc83e") false
  aGs (fun _ h=>by cases h) aM5 (fun _ h=>by cases h) fnTop_row_tie rfl ⟨rfl,rfl⟩ aM2 rfl
  (fun f fn hf hfn=>by
   obtain rfl:f=4:=Option.some.inj (aJo.symm.trans hf) |>.symm
   obtain rfl:fn=Tryz.f4:=(Option.some.inj (Tryz.func4.symm.trans hfn)).symm
   exact⟨aM3,fun j t ht=>by
    have hm:t∈Tryz.f4.params.toList:=by simpa using Array.mem_of_getElem? ht
    exact(show Tryz.prog.wantsStandIn t=false by simpa using List.all_eq_true.1 aM6 t hm)⟩)
  aM4
end Go.Proofs.YtfapcfpkbahneaaGreatDoor
