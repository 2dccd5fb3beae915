/- FnFalls holds: for every input the law returns true, and the input reads as it did; the tables that it reads are tied to the program's text. No condition. -/
import Derived.Test.YtnllfndlcahalaaGreatDoorTie
import Derived.Test.YtnllfndlcahalaaGreatDoorCards
import Derived.Test.YtnllfndlcahalaaGreatDoorQfWLawFalls
import Derived.Test.YtnllfndlcahalaaGreatDoorQfAmHand
import Derived.Test.YtnllfndlcahalaaGreatDoorQfAmFacts
import Derived.ProofKit
import Derived.LaidMore
import Derived.Lay
import Derived.OpenShut
import Derived.Stop.Joined
import Derived.Stop.LaidErr
import Derived.SevenTiedAt
set_option linter.all false
set_option maxRecDepth 100000
namespace Go.Am.Tryz
open Go.Am Go.Proofs
def axF:List (Ty×Bool):=[(.sl 5 (.int .u8),false)]
noncomputable def aJ0:Con:=⟨axF,[(.bool,false)],1,fun x=>Jo F0 x.1⟩
theorem aH8:atf Tryz.prog TB 4 aJ0:=amt
theorem aKE {n:Int}(h:(Lit.int .i64 n).wf=true):I64 n:=by
 have a:IntKind.i64.min=-9223372036854775808:=rfl
 have b:IntKind.i64.max=9223372036854775807:=rfl
 simp only[Lit.wf,Bool.and_eq_true,decide_eq_true_eq,a,b]at h
 exact h
theorem aJF {n:Int}(h:(Lit.int .u8 n).wf=true):0<=n/\n<=255:=by
 have a:IntKind.u8.min=0:=rfl
 have b:IntKind.u8.max=255:=rfl
 simp only[Lit.wf,Bool.and_eq_true,decide_eq_true_eq,a,b]at h
 exact h
theorem VF {a:List Int}(h:a.length<=maxLen/\∀x∈a,Wf (.int .u8) x):∀x∈a,0<=x/\x<=255:=fun x b=>aJF (h.2 x b)
theorem aLF {a:List Int}(h:∀x∈a,Wf (.int .i64) x):∀x∈a,I64 x:=fun x b=>aKE (h x b)
theorem aFV {P:Go.Program}(h:P.funcs.toList.any Go.Func.goes=false)(f:FuncId):P.goes f=false:=by
 have a:∀g:Nat,(P.funcs[g]?).any Go.Func.goes=false:=by
  intro g
  cases e:P.funcs[g]? with
  |none=>rfl
  |some fn =>
   rw[<-Array.getElem?_toList]at e
   have:=List.any_eq_false.1 h fn (List.mem_of_getElem? e)
   simpa using this
 have b:P.funcs.any Go.Func.goes=false:=by rw[<-Array.any_toList];exact h
 unfold Go.Program.goes
 rw[b,Bool.and_false,Bool.or_false]
 simp only[a]
 simp
theorem aAn {P:Go.Program}(h:P.funcs.toList.any Go.Func.goes=false)(c:Go.OpenClaim):false=c.goesBy P:=by
 unfold Go.OpenClaim.goesBy Go.Program.goesAt Go.Program.goesFrom
 have e:P.goes=fun _=>false:=funext (aFV h)
 rw[e]
 cases P.funcNamed c.func<;>cases c.start<;>simp
theorem aH9 (x:Args axF)(h:aA9 axF x):aJ0.g x=some (true,()):=axE x.1 (VF h.1)
end Go.Am.Tryz
namespace Go.Proofs.YtnllfndlcahalaaGreatDoor
open Go.ChangeShapes Go.WideShapes Go.ChangeAt Go.RowKit
theorem Tryz.own:ownKnob Tryz.prog.godebug=none:=by kernel_rfl
theorem Tryz.laidOut:laidOutB Tryz.prog=true:=by kernel_rfl
theorem aKF {W:World}(a:W.ShapedOpen Tryz.prog)(h:laidMetH Tryz.prog Rows.fnFallsRow.laid W):Go.Am.Tryz.TB.p W:=by
 refine⟨?_,Tryz.aGF.s1_3 W a⟩
 rw[MakeChecks.laidMetH_plain _ _ _ (by kernel_rfl)]at h
 have b : laidMet Tryz.prog (("internal/strconv.uint64pow10", Lib.tabData .u64 Lib.pow10Tab) :: Rows.fnFallsRow.laid.drop 3) W := laidMet.tail (laidMet.tail (h))
 exact Lib.tabIs_of_head (g:=1) (t:=292) (e:=279) (n:=20) (by kernel_rfl) (by kernel_rfl) (by kernel_rfl) (by kernel_rfl) (by kernel_rfl) (by kernel_rfl) b
set_option maxRecDepth 100000 in
theorem aCK (os:Os)(N:os.Started)(H:Type)(enc:TypeId×Value->H) :
  ReturnsInHanded {} Tryz.checked os 4 .any (fun w args=>(Rows.fnFallsSpec.pre enc Tryz.prog Tryz.f4 [] false w args/\laidMetH Tryz.prog Rows.fnFallsRow.laid w)/\sizedMet enc Tryz.prog Tryz.f4 (OpenSpec.ofChange Rows.fnFallsSpec) false w args)
   (Rows.fnFallsSpec.post enc Tryz.prog Tryz.f4 false true false false):=by
 refine Go.Am.ai1 (C:=Tryz.checked) (X:=fun w _=>laidMetH Tryz.prog Rows.fnFallsRow.laid w) (fun _ _ _ k h=>h.of_heap k) Tryz.own N (by kernel_rfl) Tryz.func4
  (ChangeSpec.witness_shaped (enc:=enc) (C:=Tryz.checked) (os:=os) (X:=fun w _=>laidMetH Tryz.prog Rows.fnFallsRow.laid w) false (World.laidAll Tryz.prog os Rows.fnFallsRow.laid) #[.slice none 0 0] 8 (World.laidAll_os _ _ _)
   (World.shaped_of_ZipB (by kernel_rfl) (by kernel_rfl)) (by kernel_rfl) (by kernel_rfl) (by kernel_rfl)
   (by rw[MakeChecks.laidMetH_plain _ _ _ (by kernel_rfl)];exact laidMet_laidAll _ (by kernel_rfl) (by kernel_rfl))) ?_
 intro W aGx args c gs aL4 l m g n
 have o:∀(a:Nat) t v,Tryz.f4.params.toList[a]?=some t->args.toList[a]?=some v->Value.okWide Tryz.prog W .any aGx t v:=fun a t v d f=>m a t v (by simpa using d) (by simpa using f)
 obtain⟨p,q,i,r,_⟩:=id g
 have s:Go.Am.aDc Tryz.prog Tryz.f4.params.toList=some Go.Am.Tryz.axF:=by kernel_rfl
 obtain⟨x,u,y⟩:=Go.Am.atv s o i
 have z:=Go.Am.Tryz.aH9 x y
 have j:=Go.Am.Tryz.aH8.2 x (true,()) z W (aKF l n) _ args.toList u
 rw[Array.toArray_toList]at j
 refine j.mono fun e O A=>?_
 obtain⟨us,rfl,B,D⟩:=A
 have E:us=[.bool true]:=by
  obtain⟨v,F,rfl,⟨cs,d,f⟩,G⟩:=(show Go.Am.ed _ _ [(.bool,false)] (true,()) us from B)
  rw[show F=[] from G,f,show cs=[.bool true] from d]
  rfl
 subst E
 have I:∃b,c=[b]:=by
  have K:=Go.Am.ajm i
  have L:c.length=1:=K.trans (by kernel_rfl)
  match c,L with
  |[b],_=>exact⟨b,rfl⟩
 have M:gs=[]:=by
  cases gs with
  |nil=>rfl
  |cons _ _=>exact r.elim
 obtain⟨b,rfl⟩:=I
 subst M
 exact⟨_,rfl,Go.Am.aGz Tryz.laidOut rfl (by kernel_rfl) (tb:=4) (by kernel_rfl) Tryz.underlying4 g D rfl⟩
theorem aLo:(Rows.fnFallsRow.wf (OpenSpec.ofChange Rows.fnFallsSpec)&&laidOutB Tryz.checked.prog&&mapsRowed Tryz.checked.prog&&Tryz.f4.params.all (Tryz.checked.prog.readableRec ·)&&namedTie Tryz.checked.prog Rows.fnFallsRow.named Rows.fnFallsSpec.vars&&(Rows.fnFallsRow.stops==[])&&(Tryz.checked.prog.stops==[])&&(Rows.fnFallsRow.knobs==[])&&(Tryz.checked.prog.stopKnobs==[]))=true:=by kernel_rfl
theorem aLp:(Rows.fnFallsRow.inPlace==Tryz.checked.prog.inPlace 4)=true:=by kernel_rfl
theorem aLq:(Rows.fnFallsRow.unfollowed==Tryz.checked.prog.unfollowed 4)=true:=by kernel_rfl
theorem aLr:(Rows.fnFallsRow.recurses==Tryz.checked.prog.recurses 4)=true:=by kernel_rfl
theorem aLs:(Rows.fnFallsRow.named==Tryz.checked.prog.varsNamed 4)=true:=by kernel_rfl
theorem aLt:((Rows.fnFallsRow.maps==(Tryz.f4.params.toList++Rows.fnFallsSpec.plain.varTypes Tryz.checked.prog).any (Tryz.checked.prog.mapsRec ·))&&(Rows.fnFallsRow.ifaces==(Tryz.f4.params.toList++Rows.fnFallsSpec.plain.varTypes Tryz.checked.prog).any (Tryz.checked.prog.ifacesRec ·))&&(Rows.fnFallsRow.mapsOut==Tryz.checked.prog.mapsAmong Tryz.f4.resultTypes.toList)&&(Rows.fnFallsRow.loops==(Tryz.f4.params.toList++Rows.fnFallsSpec.plain.varTypes Tryz.checked.prog).any (Tryz.checked.prog.loopsFrom ·))&&(Rows.fnFallsRow.wideKeys==(Tryz.f4.params.toList++Rows.fnFallsSpec.plain.varTypes Tryz.checked.prog++Tryz.f4.resultTypes.toList).any (Tryz.checked.prog.wideKeysFrom ·)))=true:=by kernel_rfl
theorem aLu:(Rows.fnFallsSpec.vars.all (Tryz.checked.prog.varReadable ·)&&Tryz.f4.resultTypes.all (fun t=>Tryz.checked.prog.readableRec t&&decide (t<Tryz.checked.prog.types.size))&&(Rows.fnFallsRow.ifacesOut==Tryz.f4.resultTypes.toList.any (Tryz.checked.prog.ifacesRec ·))&&(Rows.fnFallsRow.loopsOut==Tryz.f4.resultTypes.toList.any (Tryz.checked.prog.loopsFrom ·))&&(Rows.fnFallsRow.plainKeys==Tryz.checked.prog.plainKeys)&&Rows.fnFallsRow.shortTexts.isNone)=true:=by kernel_rfl
theorem aLv:Tryz.checked.prog.stopsHeard=true:=by kernel_rfl
theorem aKG:Tryz.checked.prog.mayEnter=true:=by kernel_rfl
theorem aLw:(Rows.fnFallsRow.lifted==Tryz.checked.prog.liftsFinal)=true:=by kernel_rfl
theorem aLx:((Tryz.checked.prog.make==some Rows.fnFallsRow.make)&&(Rows.fnFallsRow.kinds==(if Rows.fnFallsRow.domain.isEmpty then [] else Tryz.f4.params.toList.map fun t=>match Tryz.checked.prog.underlying t with|some (.int k)=>some k|_=>none))&&(Rows.fnFallsRow.pinned==Rows.fnFallsRow.pinnedBy))=true:=by kernel_rfl
theorem aKH:((Rows.fnFallsRow.veiled==(Tryz.f4.params.toList++Rows.fnFallsSpec.plain.varTypes Tryz.checked.prog++Tryz.f4.resultTypes.toList).any (Tryz.checked.prog.veiledRec ·))&&Rows.fnFallsRow.veiledFits Tryz.checked.prog Tryz.f4.params.toList (Tryz.f4.params.toList++Rows.fnFallsSpec.plain.varTypes Tryz.checked.prog++Tryz.f4.resultTypes.toList))=true:=by kernel_rfl
theorem aIa:Tryz.checked.prog.funcNamed Rows.fnFallsRow.func=some 4:=by kernel_rfl
theorem aKI : Tryz.checked.prog.mainIs = some (true, ("4f0733a9e96f0630058d23d996673df6c32bf30a48005063c0bdd050cbeb4ba9" : String).toList) := by kernel_rfl
theorem aKJ:false=Tryz.checked.prog.looks []:=by kernel_rfl
theorem aKK:false=Rows.fnFallsRow.goesBy Tryz.checked.prog:=Go.Am.Tryz.aAn (by kernel_rfl) _
theorem aKL:Rows.fnFallsRow.wfByText (OpenSpec.ofChange Rows.fnFallsSpec)=true:=by kernel_rfl
theorem aKM:(Tryz.f4.params.toList.all fun u=> !Tryz.prog.wantsStandIn u)=true:=by kernel_rfl
theorem aKN:Tryz.f4.isInstance Tryz.checked.prog Rows.fnFallsRow.origin Rows.fnFallsRow.targs:=of_decide_eq_true (by kernel_rfl)
theorem aKO:Tryz.f4.isWrapper Tryz.checked.prog Rows.fnFallsRow.wrapper Rows.fnFallsRow.mainSum:=by unfold Func.isWrapper;first|(rw[if_pos (by decide +kernel)];kernel_rfl)|(rw[if_neg (by decide +kernel)];exact⟨rfl,rfl⟩)
theorem aAo:Rows.FnFallsSaid :=
 OpenClaim.holds_of_wide 4 Tryz.f4 rfl rfl rfl rfl rfl rfl rfl ⟨rfl,rfl,rfl,rfl,rfl⟩ rfl rfl rfl rfl rfl aIa Tryz.func4 (Go.Am.arA aLo aLp aLq aLr aLs aLt aLu aLv aKG aLw aLx aKH)
  aKN aKO
  (fun os aJG H enc _=>aCK os aJG H enc)
theorem FnFalls_card:Rows.FnFallsCardSaid :=
 Claim7.holds_tied_plain_at .later [] [.data, .data, .data, .data, .pinned] true (true, "4f0733a9e96f0630058d23d996673df6c32bf30a48005063c0bdd050cbeb4ba9") false
  aAo (fun _ h=>by cases h) aKL (fun _ h=>by cases h) fnFalls_row_tie rfl ⟨rfl,rfl⟩ aKI rfl
  (fun f fn a b=>by
   obtain rfl:f=4:=Option.some.inj (aIa.symm.trans a) |>.symm
   obtain rfl:fn=Tryz.f4:=(Option.some.inj (Tryz.func4.symm.trans b)).symm
   exact⟨aKJ,fun e t c=>by
    have d:t∈Tryz.f4.params.toList:=by simpa using Array.mem_of_getElem? c
    exact(show Tryz.prog.wantsStandIn t=false by simpa using List.all_eq_true.1 aKM t d)⟩)
  aKK
end Go.Proofs.YtnllfndlcahalaaGreatDoor
