/- FnTotalStays holds: for every input the law returns true, and the input reads as it did; the tables that it reads are tied to the program's text. No condition. -/
import Derived.Test.YtfapcfpkbahneaaGreatDoorTie
import Derived.Test.YtfapcfpkbahneaaGreatDoorCards
import Derived.Test.YtfapcfpkbahneaaGreatDoorQtVLawTotal
import Derived.Test.YtfapcfpkbahneaaGreatDoorQtAmHand
import Derived.Test.YtfapcfpkbahneaaGreatDoorQtAmFacts
import Derived.ProofKit
import Derived.LaidMore
import Derived.Lay
import Derived.OpenShut
import Derived.Stop.Joined
import Derived.Stop.LaidErr
import Derived.SevenTiedAt
set_option linter.all false
set_option maxRecDepth 100000
namespace Go.Am.Tryz
open Go.Am Go.Proofs
def awo:List (Ty×Bool):=[(.sl 5 (.int .u8),false)]
noncomputable def aJM:Con:=⟨awo,[(.bool,false)],1,fun x=>qI F0 x.1⟩
theorem aHt:asl Tryz.prog TB 5 aJM:=WQ
theorem aKS {n:Int}(h:(Lit.int .i64 n).wf=true):I64 n:=by
 have h1:IntKind.i64.min=-9223372036854775808:=rfl
 have h2:IntKind.i64.max=9223372036854775807:=rfl
 simp only[Lit.wf,Bool.and_eq_true,decide_eq_true_eq,h1,h2]at h
 exact h
theorem aNm {a:List Int}(h:∀x∈a,Wf (.int .i64) x):∀x∈a,I64 x:=fun x hx=>aKS (h x hx)
theorem aEQ {P:Go.Program}(h:P.funcs.toList.any Go.Func.goes=false)(f:FuncId):P.goes f=false:=by
 have hf:∀g:Nat,(P.funcs[g]?).any Go.Func.goes=false:=by
  intro g
  cases e:P.funcs[g]? with
  |none=>rfl
  |some fn =>
   rw[<-Array.getElem?_toList]at e
   have:=List.any_eq_false.1 h fn (List.mem_of_getElem? e)
   simpa using this
 have h2:P.funcs.any Go.Func.goes=false:=by rw[<-Array.any_toList];exact h
 unfold Go.Program.goes
 rw[h2,Bool.and_false,Bool.or_false]
 simp only[hf]
 simp
theorem azd {P:Go.Program}(h:P.funcs.toList.any Go.Func.goes=false)(c:Go.OpenClaim):false=c.goesBy P:=by
 unfold Go.OpenClaim.goesBy Go.Program.goesAt Go.Program.goesFrom
 have e:P.goes=fun _=>false:=funext (aEQ h)
 rw[e]
 cases P.funcNamed c.func<;>cases c.start<;>simp
theorem aHu (x:Args awo)(_:aAc awo x):aJM.g x=some (true,()):=aff x.1
end Go.Am.Tryz
namespace Go.Proofs.YtfapcfpkbahneaaGreatDoor
open Go.ChangeShapes Go.WideShapes Go.ChangeAt Go.RowKit
theorem Tryz.own:ownKnob Tryz.prog.godebug=none:=by kernel_rfl
theorem Tryz.laidOut:laidOutB Tryz.prog=true:=by kernel_rfl
theorem aKT {W:World}(hs:W.ShapedOpen Tryz.prog)(h:laidMetH Tryz.prog Rows.fnTotalStaysRow.laid W):Go.Am.Tryz.TB.p W:=by
 refine⟨?_,Tryz.aGa.s1_3 W hs⟩
 rw[MakeChecks.laidMetH_plain _ _ _ (by kernel_rfl)]at h
 have h3 : laidMet Tryz.prog (("internal/strconv.uint64pow10", Lib.tabData .u64 Lib.pow10Tab) :: Rows.fnTotalStaysRow.laid.drop 3) W := laidMet.tail (laidMet.tail (h))
 exact Lib.tabIs_of_head (g:=3) (t:=289) (e:=275) (n:=20) (by kernel_rfl) (by kernel_rfl) (by kernel_rfl) (by kernel_rfl) (by kernel_rfl) (by kernel_rfl) h3
set_option maxRecDepth 100000 in
theorem aBE (os:Os)(afg:os.Started)(H:Type)(enc:TypeId×Value->H) :
  ReturnsInHanded {} Tryz.checked os 5 .any (fun w args=>(Rows.fnTotalStaysSpec.pre enc Tryz.prog Tryz.f5 [] false w args/\laidMetH Tryz.prog Rows.fnTotalStaysRow.laid w)/\sizedMet enc Tryz.prog Tryz.f5 (OpenSpec.ofChange Rows.fnTotalStaysSpec) false w args)
   (Rows.fnTotalStaysSpec.post enc Tryz.prog Tryz.f5 false true false false):=by
 refine Go.Am.ahP (C:=Tryz.checked) (X:=fun w _=>laidMetH Tryz.prog Rows.fnTotalStaysRow.laid w) (fun _ _ _ hh h=>h.of_heap hh) Tryz.own afg (by kernel_rfl) Tryz.func5
  (ChangeSpec.witness_shaped (enc:=enc) (C:=Tryz.checked) (os:=os) (X:=fun w _=>laidMetH Tryz.prog Rows.fnTotalStaysRow.laid w) false (World.laidAll Tryz.prog os Rows.fnTotalStaysRow.laid) #[.slice none 0 0] 8 (World.laidAll_os _ _ _)
   (World.shaped_of_ZipB (by kernel_rfl) (by kernel_rfl)) (by kernel_rfl) (by kernel_rfl) (by kernel_rfl)
   (by rw[MakeChecks.laidMetH_plain _ _ _ (by kernel_rfl)];exact laidMet_laidAll _ (by kernel_rfl) (by kernel_rfl))) ?_
 intro W Lo args ds gs afI hsh aMN hW hL
 have acL:∀(j:Nat) t v,Tryz.f5.params.toList[j]?=some t->args.toList[j]?=some v->Value.okWide Tryz.prog W .any Lo t v:=fun j t v h1 h2=>aMN j t v (by simpa using h1) (by simpa using h2)
 obtain⟨p,q,hA,hV,_⟩:=id hW
 have hk:Go.Am.aCd Tryz.prog Tryz.f5.params.toList=some Go.Am.Tryz.awo:=by kernel_rfl
 obtain⟨x,hx,hwf⟩:=Go.Am.asD hk acL hA
 have aMO:=Go.Am.Tryz.aHu x hwf
 have hcall:=Go.Am.Tryz.aHt.2 x (true,()) aMO W (aKT hsh hL) _ args.toList hx
 rw[Array.toArray_toList]at hcall
 refine hcall.mono fun e W' he=>?_
 obtain⟨us,rfl,db,hB⟩:=he
 have hus:us=[.bool true]:=by
  obtain⟨v,vs,rfl,⟨cs,h1,h2⟩,h3⟩:=(show Go.Am.eQ _ _ [(.bool,false)] (true,()) us from db)
  rw[show vs=[] from h3,h2,show cs=[.bool true] from h1]
  rfl
 subst hus
 have hds:∃d0,ds=[d0]:=by
  have hl:=Go.Am.ail hA
  have hl1:ds.length=1:=hl.trans (by kernel_rfl)
  match ds,hl1 with
  |[d0],_=>exact⟨d0,rfl⟩
 have hgs:gs=[]:=by
  cases gs with
  |nil=>rfl
  |cons _ _=>exact hV.elim
 obtain⟨d0,rfl⟩:=hds
 subst hgs
 exact⟨_,rfl,Go.Am.aF4 Tryz.laidOut rfl (by kernel_rfl) (tb:=4) (by kernel_rfl) Tryz.underlying4 hW hB rfl⟩
theorem aMP:(Rows.fnTotalStaysRow.wf (OpenSpec.ofChange Rows.fnTotalStaysSpec)&&laidOutB Tryz.checked.prog&&mapsRowed Tryz.checked.prog&&Tryz.f5.params.all (Tryz.checked.prog.readableRec ·)&&namedTie Tryz.checked.prog Rows.fnTotalStaysRow.named Rows.fnTotalStaysSpec.vars&&(Rows.fnTotalStaysRow.stops==[])&&(Tryz.checked.prog.stops==[])&&(Rows.fnTotalStaysRow.knobs==[])&&(Tryz.checked.prog.stopKnobs==[]))=true:=by kernel_rfl
theorem aMQ:(Rows.fnTotalStaysRow.inPlace==Tryz.checked.prog.inPlace 5)=true:=by kernel_rfl
theorem aMR:(Rows.fnTotalStaysRow.unfollowed==Tryz.checked.prog.unfollowed 5)=true:=by kernel_rfl
theorem aMS:(Rows.fnTotalStaysRow.recurses==Tryz.checked.prog.recurses 5)=true:=by kernel_rfl
theorem aMT:(Rows.fnTotalStaysRow.named==Tryz.checked.prog.varsNamed 5)=true:=by kernel_rfl
theorem aMU:((Rows.fnTotalStaysRow.maps==(Tryz.f5.params.toList++Rows.fnTotalStaysSpec.plain.varTypes Tryz.checked.prog).any (Tryz.checked.prog.mapsRec ·))&&(Rows.fnTotalStaysRow.ifaces==(Tryz.f5.params.toList++Rows.fnTotalStaysSpec.plain.varTypes Tryz.checked.prog).any (Tryz.checked.prog.ifacesRec ·))&&(Rows.fnTotalStaysRow.mapsOut==Tryz.checked.prog.mapsAmong Tryz.f5.resultTypes.toList)&&(Rows.fnTotalStaysRow.loops==(Tryz.f5.params.toList++Rows.fnTotalStaysSpec.plain.varTypes Tryz.checked.prog).any (Tryz.checked.prog.loopsFrom ·))&&(Rows.fnTotalStaysRow.wideKeys==(Tryz.f5.params.toList++Rows.fnTotalStaysSpec.plain.varTypes Tryz.checked.prog++Tryz.f5.resultTypes.toList).any (Tryz.checked.prog.wideKeysFrom ·)))=true:=by kernel_rfl
theorem aMV:(Rows.fnTotalStaysSpec.vars.all (Tryz.checked.prog.varReadable ·)&&Tryz.f5.resultTypes.all (fun t=>Tryz.checked.prog.readableRec t&&decide (t<Tryz.checked.prog.types.size))&&(Rows.fnTotalStaysRow.ifacesOut==Tryz.f5.resultTypes.toList.any (Tryz.checked.prog.ifacesRec ·))&&(Rows.fnTotalStaysRow.loopsOut==Tryz.f5.resultTypes.toList.any (Tryz.checked.prog.loopsFrom ·))&&(Rows.fnTotalStaysRow.plainKeys==Tryz.checked.prog.plainKeys)&&Rows.fnTotalStaysRow.shortTexts.isNone)=true:=by kernel_rfl
theorem aMW:Tryz.checked.prog.stopsHeard=true:=by kernel_rfl
theorem aKU:Tryz.checked.prog.mayEnter=true:=by kernel_rfl
theorem aMX:(Rows.fnTotalStaysRow.lifted==Tryz.checked.prog.liftsFinal)=true:=by kernel_rfl
theorem aMY:((Tryz.checked.prog.make==some Rows.fnTotalStaysRow.make)&&(Rows.fnTotalStaysRow.kinds==(if Rows.fnTotalStaysRow.domain.isEmpty then [] else Tryz.f5.params.toList.map fun t=>match Tryz.checked.prog.underlying t with|some (.int k)=>some k|_=>none))&&(Rows.fnTotalStaysRow.pinned==Rows.fnTotalStaysRow.pinnedBy))=true:=by kernel_rfl
theorem aKV:((Rows.fnTotalStaysRow.veiled==(Tryz.f5.params.toList++Rows.fnTotalStaysSpec.plain.varTypes Tryz.checked.prog++Tryz.f5.resultTypes.toList).any (Tryz.checked.prog.veiledRec ·))&&Rows.fnTotalStaysRow.veiledFits Tryz.checked.prog Tryz.f5.params.toList (Tryz.f5.params.toList++Rows.fnTotalStaysSpec.plain.varTypes Tryz.checked.prog++Tryz.f5.resultTypes.toList))=true:=by kernel_rfl
theorem aHv:Tryz.checked.prog.funcNamed Rows.fnTotalStaysRow.func=some 5:=by kernel_rfl
theorem aKW : Tryz.checked.prog.mainIs = some (true, ("f58a409c10e7775194b72894c22b699d3c1fe793afca1f2dac50b18a7defc83e" : String).toList) := by kernel_rfl
theorem aKX:false=Tryz.checked.prog.looks []:=by kernel_rfl
theorem aKY:false=Rows.fnTotalStaysRow.goesBy Tryz.checked.prog:=Go.Am.Tryz.azd (by kernel_rfl) _
theorem aKZ:Rows.fnTotalStaysRow.wfByText (OpenSpec.ofChange Rows.fnTotalStaysSpec)=true:=by kernel_rfl
theorem aK0:(Tryz.f5.params.toList.all fun u=> !Tryz.prog.wantsStandIn u)=true:=by kernel_rfl
theorem aK1:Tryz.f5.isInstance Tryz.checked.prog Rows.fnTotalStaysRow.origin Rows.fnTotalStaysRow.targs:=of_decide_eq_true (by kernel_rfl)
theorem aK2:Tryz.f5.isWrapper Tryz.checked.prog Rows.fnTotalStaysRow.wrapper Rows.fnTotalStaysRow.mainSum:=by unfold Func.isWrapper;first|(rw[if_pos (by decide +kernel)];kernel_rfl)|(rw[if_neg (by decide +kernel)];exact⟨rfl,rfl⟩)
theorem ahQ:Rows.FnTotalStaysSaid :=
 OpenClaim.holds_of_wide 5 Tryz.f5 rfl rfl rfl rfl rfl rfl rfl ⟨rfl,rfl,rfl,rfl,rfl⟩ rfl rfl rfl rfl rfl aHv Tryz.func5 (Go.Am.aqo aMP aMQ aMR aMS aMT aMU aMV aMW aKU aMX aMY aKV)
  aK1 aK2
  (fun os afg H enc _=>aBE os afg H enc)
theorem FnTotalStays_card:Rows.FnTotalStaysCardSaid :=
 Claim7.holds_tied_plain_at .later [] [.data, .data, .data, .data, .pinned] true (true, "f58a409c10e7775194b72894c22b699d3c1fe793afca1f2dac50b18a7defc83e") false
  ahQ (fun _ h=>by cases h) aKZ (fun _ h=>by cases h) fnTotalStays_row_tie rfl ⟨rfl,rfl⟩ aKW rfl
  (fun f fn hf hfn=>by
   obtain rfl:f=5:=Option.some.inj (aHv.symm.trans hf) |>.symm
   obtain rfl:fn=Tryz.f5:=(Option.some.inj (Tryz.func5.symm.trans hfn)).symm
   exact⟨aKX,fun j t ht=>by
    have hm:t∈Tryz.f5.params.toList:=by simpa using Array.mem_of_getElem? ht
    exact(show Tryz.prog.wantsStandIn t=false by simpa using List.all_eq_true.1 aK0 t hm)⟩)
  aKY
end Go.Proofs.YtfapcfpkbahneaaGreatDoor
