/- FnNothingLost holds: for every input the law returns true, and the input reads as it did; the tables that it reads are tied to the program's text. No condition. -/
import Derived.Test.YtfapcfpkbahneaaGreatDoorTie
import Derived.Test.YtfapcfpkbahneaaGreatDoorCards
import Derived.Test.YtfapcfpkbahneaaGreatDoorQlVLawLost
import Derived.Test.YtfapcfpkbahneaaGreatDoorQlAmHand
import Derived.Test.YtfapcfpkbahneaaGreatDoorQlAmFacts
import Derived.ProofKit
import Derived.LaidMore
import Derived.Lay
import Derived.OpenShut
import Derived.Stop.Joined
import Derived.Stop.LaidErr
import Derived.SevenTiedAt
set_option linter.all false
set_option maxRecDepth 100000
namespace Go.Am.Tryz
open Go.Am Go.Proofs
def avT:List (Ty×Bool):=[(.sl 5 (.int .u8),false)]
noncomputable def aJy:Con:=⟨avT,[(.bool,false)],1,fun x=>oH F0 x.1⟩
theorem aG8:arN Tryz.prog TB 3 aJy:=TN
theorem aKL {n:Int}(h:(Lit.int .i64 n).wf=true):I64 n:=by
 have h1:IntKind.i64.min=-9223372036854775808:=rfl
 have h2:IntKind.i64.max=9223372036854775807:=rfl
 simp only[Lit.wf,Bool.and_eq_true,decide_eq_true_eq,h1,h2]at h
 exact h
theorem aNe {a:List Int}(h:∀x∈a,Wf (.int .i64) x):∀x∈a,I64 x:=fun x hx=>aKL (h x hx)
theorem aEv {P:Go.Program}(h:P.funcs.toList.any Go.Func.goes=false)(f:FuncId):P.goes f=false:=by
 have hf:∀g:Nat,(P.funcs[g]?).any Go.Func.goes=false:=by
  intro g
  cases e:P.funcs[g]? with
  |none=>rfl
  |some fn =>
   rw[←Array.getElem?_toList]at e
   have:=List.any_eq_false.1 h fn (List.mem_of_getElem? e)
   simpa using this
 have h2:P.funcs.any Go.Func.goes=false:=by rw[←Array.any_toList];exact h
 unfold Go.Program.goes
 rw[h2,Bool.and_false,Bool.or_false]
 simp only[hf]
 simp
theorem ayE {P:Go.Program}(h:P.funcs.toList.any Go.Func.goes=false)(c:Go.OpenClaim):false=c.goesBy P:=by
 unfold Go.OpenClaim.goesBy Go.Program.goesAt Go.Program.goesFrom
 have e:P.goes=fun _=>false:=funext (aEv h)
 rw[e]
 cases P.funcNamed c.func<;>cases c.start<;>simp
theorem aG9 (x:Args avT)(_:azE avT x):aJy.g x=some (true,()):=abA x.1
end Go.Am.Tryz
namespace Go.Proofs.YtfapcfpkbahneaaGreatDoor
open Go.ChangeShapes Go.WideShapes Go.ChangeAt Go.RowKit
theorem Tryz.own:ownKnob Tryz.prog.godebug=none:=by kernel_rfl
theorem Tryz.laidOut:laidOutB Tryz.prog=true:=by kernel_rfl
theorem aKM {W:World}(hs:W.ShapedOpen Tryz.prog)(h:laidMetH Tryz.prog Rows.fnNothingLostRow.laid W):Go.Am.Tryz.TB.p W:=by
 refine⟨?_,Tryz.aFQ.s1_3 W hs⟩
 rw[MakeChecks.laidMetH_plain _ _ _ (by kernel_rfl)]at h
 have h3 : laidMet Tryz.prog (("internal/strconv.uint64pow10", Lib.tabData .u64 Lib.pow10Tab) :: Rows.fnNothingLostRow.laid.drop 3) W := laidMet.tail (laidMet.tail (h))
 exact Lib.tabIs_of_head (g:=3) (t:=289) (e:=275) (n:=20) (by kernel_rfl) (by kernel_rfl) (by kernel_rfl) (by kernel_rfl) (by kernel_rfl) (by kernel_rfl) h3
set_option maxRecDepth 100000 in
theorem aBd (os:Os)(aeI:os.Started)(H:Type)(enc:TypeId×Value→H) :
  ReturnsInHanded {} Tryz.checked os 3 .any (fun w args=>(Rows.fnNothingLostSpec.pre enc Tryz.prog Tryz.f3 [] false w args∧laidMetH Tryz.prog Rows.fnNothingLostRow.laid w)∧sizedMet enc Tryz.prog Tryz.f3 (OpenSpec.ofChange Rows.fnNothingLostSpec) false w args)
   (Rows.fnNothingLostSpec.post enc Tryz.prog Tryz.f3 false true false false):=by
 refine Go.Am.ahe (C:=Tryz.checked) (X:=fun w _=>laidMetH Tryz.prog Rows.fnNothingLostRow.laid w) (fun _ _ _ hh h=>h.of_heap hh) Tryz.own aeI (by kernel_rfl) Tryz.func3
  (ChangeSpec.witness_shaped (enc:=enc) (C:=Tryz.checked) (os:=os) (X:=fun w _=>laidMetH Tryz.prog Rows.fnNothingLostRow.laid w) false (World.laidAll Tryz.prog os Rows.fnNothingLostRow.laid) #[.slice none 0 0] 8 (World.laidAll_os _ _ _)
   (World.shaped_of_ZipB (by kernel_rfl) (by kernel_rfl)) (by kernel_rfl) (by kernel_rfl) (by kernel_rfl)
   (by rw[MakeChecks.laidMetH_plain _ _ _ (by kernel_rfl)];exact laidMet_laidAll _ (by kernel_rfl) (by kernel_rfl))) ?_
 intro W KT args ds gs ae9 hsh aMI hW hL
 have ab9:∀(j:Nat) t v,Tryz.f3.params.toList[j]?=some t→args.toList[j]?=some v→Value.okWide Tryz.prog W .any KT t v:=fun j t v h1 h2=>aMI j t v (by simpa using h1) (by simpa using h2)
 obtain⟨p,q,hA,hV,_⟩:=id hW
 have hk:Go.Am.aBN Tryz.prog Tryz.f3.params.toList=some Go.Am.Tryz.avT:=by kernel_rfl
 obtain⟨x,hx,hwf⟩:=Go.Am.ar5 hk ab9 hA
 have aMJ:=Go.Am.Tryz.aG9 x hwf
 have hcall:=Go.Am.Tryz.aG8.2 x (true,()) aMJ W (aKM hsh hL) _ args.toList hx
 rw[Array.toArray_toList]at hcall
 refine hcall.mono fun e W' he=>?_
 obtain⟨us,rfl,dd,hB⟩:=he
 have hus:us=[.bool true]:=by
  obtain⟨v,vs,rfl,⟨cs,h1,h2⟩,h3⟩:=(show Go.Am.eU _ _ [(.bool,false)] (true,()) us from dd)
  rw[show vs=[] from h3,h2,show cs=[.bool true] from h1]
  rfl
 subst hus
 have hds:∃d0,ds=[d0]:=by
  have hl:=Go.Am.ahJ hA
  have hl1:ds.length=1:=hl.trans (by kernel_rfl)
  match ds,hl1 with
  |[d0],_=>exact⟨d0,rfl⟩
 have hgs:gs=[]:=by
  cases gs with
  |nil=>rfl
  |cons _ _=>exact hV.elim
 obtain⟨d0,rfl⟩:=hds
 subst hgs
 exact⟨_,rfl,Go.Am.aFK Tryz.laidOut rfl (by kernel_rfl) (tb:=4) (by kernel_rfl) Tryz.underlying4 hW hB rfl⟩
theorem aMK:(Rows.fnNothingLostRow.wf (OpenSpec.ofChange Rows.fnNothingLostSpec)&&laidOutB Tryz.checked.prog&&mapsRowed Tryz.checked.prog&&Tryz.f3.params.all (Tryz.checked.prog.readableRec ·)&&namedTie Tryz.checked.prog Rows.fnNothingLostRow.named Rows.fnNothingLostSpec.vars&&(Rows.fnNothingLostRow.stops==[])&&(Tryz.checked.prog.stops==[])&&(Rows.fnNothingLostRow.knobs==[])&&(Tryz.checked.prog.stopKnobs==[]))=true:=by kernel_rfl
theorem aML:(Rows.fnNothingLostRow.inPlace==Tryz.checked.prog.inPlace 3)=true:=by kernel_rfl
theorem aMM:(Rows.fnNothingLostRow.unfollowed==Tryz.checked.prog.unfollowed 3)=true:=by kernel_rfl
theorem aMN:(Rows.fnNothingLostRow.recurses==Tryz.checked.prog.recurses 3)=true:=by kernel_rfl
theorem aMO:(Rows.fnNothingLostRow.named==Tryz.checked.prog.varsNamed 3)=true:=by kernel_rfl
theorem aMP:((Rows.fnNothingLostRow.maps==(Tryz.f3.params.toList++Rows.fnNothingLostSpec.plain.varTypes Tryz.checked.prog).any (Tryz.checked.prog.mapsRec ·))&&(Rows.fnNothingLostRow.ifaces==(Tryz.f3.params.toList++Rows.fnNothingLostSpec.plain.varTypes Tryz.checked.prog).any (Tryz.checked.prog.ifacesRec ·))&&(Rows.fnNothingLostRow.mapsOut==Tryz.checked.prog.mapsAmong Tryz.f3.resultTypes.toList)&&(Rows.fnNothingLostRow.loops==(Tryz.f3.params.toList++Rows.fnNothingLostSpec.plain.varTypes Tryz.checked.prog).any (Tryz.checked.prog.loopsFrom ·))&&(Rows.fnNothingLostRow.wideKeys==(Tryz.f3.params.toList++Rows.fnNothingLostSpec.plain.varTypes Tryz.checked.prog++Tryz.f3.resultTypes.toList).any (Tryz.checked.prog.wideKeysFrom ·)))=true:=by kernel_rfl
theorem aMQ:(Rows.fnNothingLostSpec.vars.all (Tryz.checked.prog.varReadable ·)&&Tryz.f3.resultTypes.all (fun t=>Tryz.checked.prog.readableRec t&&decide (t<Tryz.checked.prog.types.size))&&(Rows.fnNothingLostRow.ifacesOut==Tryz.f3.resultTypes.toList.any (Tryz.checked.prog.ifacesRec ·))&&(Rows.fnNothingLostRow.loopsOut==Tryz.f3.resultTypes.toList.any (Tryz.checked.prog.loopsFrom ·))&&(Rows.fnNothingLostRow.plainKeys==Tryz.checked.prog.plainKeys)&&Rows.fnNothingLostRow.shortTexts.isNone)=true:=by kernel_rfl
theorem aMR:Tryz.checked.prog.stopsHeard=true:=by kernel_rfl
theorem aKN:Tryz.checked.prog.mayEnter=true:=by kernel_rfl
theorem aMS:(Rows.fnNothingLostRow.lifted==Tryz.checked.prog.liftsFinal)=true:=by kernel_rfl
theorem aMT:((Tryz.checked.prog.make==some Rows.fnNothingLostRow.make)&&(Rows.fnNothingLostRow.kinds==(if Rows.fnNothingLostRow.domain.isEmpty then [] else Tryz.f3.params.toList.map fun t=>match Tryz.checked.prog.underlying t with|some (.int k)=>some k|_=>none))&&(Rows.fnNothingLostRow.pinned==Rows.fnNothingLostRow.pinnedBy))=true:=by kernel_rfl
theorem aKO:((Rows.fnNothingLostRow.veiled==(Tryz.f3.params.toList++Rows.fnNothingLostSpec.plain.varTypes Tryz.checked.prog++Tryz.f3.resultTypes.toList).any (Tryz.checked.prog.veiledRec ·))&&Rows.fnNothingLostRow.veiledFits Tryz.checked.prog Tryz.f3.params.toList (Tryz.f3.params.toList++Rows.fnNothingLostSpec.plain.varTypes Tryz.checked.prog++Tryz.f3.resultTypes.toList))=true:=by kernel_rfl
theorem aHa:Tryz.checked.prog.funcNamed Rows.fnNothingLostRow.func=some 3:=by kernel_rfl
theorem aKP : Tryz.checked.prog.mainIs = some (true, ("f58a409c10e7775194b72894c22b699d3c1fe793afca1f2dac50b18a7defc83e" : String).toList) := by kernel_rfl
theorem aKQ:false=Tryz.checked.prog.looks []:=by kernel_rfl
theorem aKR:false=Rows.fnNothingLostRow.goesBy Tryz.checked.prog:=Go.Am.Tryz.ayE (by kernel_rfl) _
theorem aKS:Rows.fnNothingLostRow.wfByText (OpenSpec.ofChange Rows.fnNothingLostSpec)=true:=by kernel_rfl
theorem aKT:(Tryz.f3.params.toList.all fun u=> !Tryz.prog.wantsStandIn u)=true:=by kernel_rfl
theorem aKU:Tryz.f3.isInstance Tryz.checked.prog Rows.fnNothingLostRow.origin Rows.fnNothingLostRow.targs:=of_decide_eq_true (by kernel_rfl)
theorem aKV:Tryz.f3.isWrapper Tryz.checked.prog Rows.fnNothingLostRow.wrapper Rows.fnNothingLostRow.mainSum:=by unfold Func.isWrapper;first|(rw[if_pos (by decide +kernel)];kernel_rfl)|(rw[if_neg (by decide +kernel)];exact⟨rfl,rfl⟩)
theorem aeJ:Rows.FnNothingLostSaid :=
 OpenClaim.holds_of_wide 3 Tryz.f3 rfl rfl rfl rfl rfl rfl rfl ⟨rfl,rfl,rfl,rfl,rfl⟩ rfl rfl rfl rfl rfl aHa Tryz.func3 (Go.Am.apR aMK aML aMM aMN aMO aMP aMQ aMR aKN aMS aMT aKO)
  aKU aKV
  (fun os aeI H enc _=>aBd os aeI H enc)
theorem FnNothingLost_card:Rows.FnNothingLostCardSaid :=
 Claim7.holds_tied_plain_at .later [] [.data, .data, .data, .data, .pinned] true (true, "f58a409c10e7775194b72894c22b699d3c1fe793afca1f2dac50b18a7defc83e") false
  aeJ (fun _ h=>by cases h) aKS (fun _ h=>by cases h) fnNothingLost_row_tie rfl ⟨rfl,rfl⟩ aKP rfl
  (fun f fn hf hfn=>by
   obtain rfl:f=3:=Option.some.inj (aHa.symm.trans hf) |>.symm
   obtain rfl:fn=Tryz.f3:=(Option.some.inj (Tryz.func3.symm.trans hfn)).symm
   exact⟨aKQ,fun j t ht=>by
    have hm:t∈Tryz.f3.params.toList:=by simpa using Array.mem_of_getElem? ht
    exact(show Tryz.prog.wantsStandIn t=false by simpa using List.all_eq_true.1 aKT t hm)⟩)
  aKR
end Go.Proofs.YtfapcfpkbahneaaGreatDoor
