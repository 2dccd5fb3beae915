/- FnWorlds holds: for every input the law returns true, and the input reads as it did; the tables that it reads are tied to the program's text. No condition. -/
import Derived.Test.YtpkabclplaibaaaGreatDoorTie
import Derived.Test.YtpkabclplaibaaaGreatDoorCards
import Derived.Test.YtpkabclplaibaaaGreatDoorQwYLawWorlds
import Derived.Test.YtpkabclplaibaaaGreatDoorQwAmHand
import Derived.Test.YtpkabclplaibaaaGreatDoorQwAmFacts
import Derived.ProofKit
import Derived.LaidMore
import Derived.Lay
import Derived.OpenShut
import Derived.Stop.Joined
import Derived.Stop.LaidErr
import Derived.SevenTiedAt
set_option linter.all false
set_option maxRecDepth 100000
namespace Go.Am.Tryz
open Go.Am Go.Proofs
def atb:List (Ty×Bool):=[(.sl 5 (.int .u8),false)]
noncomputable def aFD:Con:=⟨atb,[(.bool,false)],1,fun x=>Er F0 x.1⟩
theorem aDt:aj3 Tryz.prog TB 5 aFD:=afx
theorem aGu {n:Int}(h:(Lit.int .i64 n).wf=true):I6 n:=by
 have a:IntKind.i64.min=-9223372036854775808:=rfl
 have b:IntKind.i64.max=9223372036854775807:=rfl
 simp only[Lit.wf,Bool.and_eq_true,decide_eq_true_eq,a,b]at h
 exact h
theorem aE2 {n:Int}(h:(Lit.int .u8 n).wf=true):0<=n/\n<=255:=by
 have a:IntKind.u8.min=0:=rfl
 have b:IntKind.u8.max=255:=rfl
 simp only[Lit.wf,Bool.and_eq_true,decide_eq_true_eq,a,b]at h
 exact h
theorem abv {a:List Int}(h:a.length<=maxLen/\∀x∈a,Wf (.int .u8) x):∀x∈a,0<=x/\x<=255:=fun x b=>aE2 (h.2 x b)
theorem aHD {a:List Int}(h:∀x∈a,Wf (.int .i64) x):∀x∈a,I6 x:=fun x b=>aGu (h x b)
theorem aA8 {P:Go.Program}(h:P.funcs.toList.any Go.Func.goes=false)(f:FuncId):P.goes f=false:=by
 have a:∀g:Nat,(P.funcs[g]?).any Go.Func.goes=false:=by
  intro g
  cases e:P.funcs[g]? with
  |none=>rfl
  |some fn =>
   rw[<-Array.getElem?_toList]at e
   have:=List.any_eq_false.1 h fn (List.mem_of_getElem? e)
   simpa using this
 have b:P.funcs.any Go.Func.goes=false:=by rw[<-Array.any_toList];exact h
 unfold Go.Program.goes
 rw[b,Bool.and_false,Bool.or_false]
 simp only[a]
 simp
theorem avS {P:Go.Program}(h:P.funcs.toList.any Go.Func.goes=false)(c:Go.OpenClaim):false=c.goesBy P:=by
 unfold Go.OpenClaim.goesBy Go.Program.goesAt Go.Program.goesFrom
 have e:P.goes=fun _=>false:=funext (aA8 h)
 rw[e]
 cases P.funcNamed c.func<;>cases c.start<;>simp
theorem aDu (x:Args atb)(_:arx atb x):aFD.g x=some (true,()):=ao7 x.1
end Go.Am.Tryz
namespace Go.Proofs.YtpkabclplaibaaaGreatDoor
open Go.ChangeShapes Go.WideShapes Go.ChangeAt Go.RowKit
theorem Tryz.own:ownKnob Tryz.prog.godebug=none:=by kernel_rfl
theorem Tryz.laidOut:laidOutB Tryz.prog=true:=by kernel_rfl
theorem aGv {W:World}(a:W.ShapedOpen Tryz.prog)(h:laidMetH Tryz.prog Rows.fnWorldsRow.laid W):Go.Am.Tryz.TB.p W:=by
 refine⟨?_,Tryz.aB3.s1_3 W a⟩
 rw[MakeChecks.laidMetH_plain _ _ _ (by kernel_rfl)]at h
 have b : laidMet Tryz.prog (("internal/strconv.uint64pow10", Lib.tabData .u64 Lib.pow10Tab) :: Rows.fnWorldsRow.laid.drop 3) W := laidMet.tail (laidMet.tail (h))
 exact Lib.tabIs_of_head (g:=1) (t:=292) (e:=275) (n:=20) (by kernel_rfl) (by kernel_rfl) (by kernel_rfl) (by kernel_rfl) (by kernel_rfl) (by kernel_rfl) b
set_option maxRecDepth 100000 in
theorem ayd (os:Os)(N:os.Started)(H:Type)(enc:TypeId×Value->H) :
  ReturnsInHanded {} Tryz.checked os 5 .any (fun w args=>(Rows.fnWorldsSpec.pre enc Tryz.prog Tryz.f5 [] false w args/\laidMetH Tryz.prog Rows.fnWorldsRow.laid w)/\sizedMet enc Tryz.prog Tryz.f5 (OpenSpec.ofChange Rows.fnWorldsSpec) false w args)
   (Rows.fnWorldsSpec.post enc Tryz.prog Tryz.f5 false true false false):=by
 refine Go.Am.af7 (C:=Tryz.checked) (X:=fun w _=>laidMetH Tryz.prog Rows.fnWorldsRow.laid w) (fun _ _ _ k h=>h.of_heap k) Tryz.own N (by kernel_rfl) Tryz.func5
  (ChangeSpec.witness_shaped (enc:=enc) (C:=Tryz.checked) (os:=os) (X:=fun w _=>laidMetH Tryz.prog Rows.fnWorldsRow.laid w) false (World.laidAll Tryz.prog os Rows.fnWorldsRow.laid) #[.slice none 0 0] 8 (World.laidAll_os _ _ _)
   (World.shaped_of_ZipB (by kernel_rfl) (by kernel_rfl)) (by kernel_rfl) (by kernel_rfl) (by kernel_rfl)
   (by rw[MakeChecks.laidMetH_plain _ _ _ (by kernel_rfl)];exact laidMet_laidAll _ (by kernel_rfl) (by kernel_rfl))) ?_
 intro W aBV args c gs aIh l m g n
 have o:∀(a:Nat) t v,Tryz.f5.params.toList[a]?=some t->args.toList[a]?=some v->Value.okWide Tryz.prog W .any aBV t v:=fun a t v d f=>m a t v (by simpa using d) (by simpa using f)
 obtain⟨p,q,i,r,_⟩:=id g
 have s:Go.Am.atM Tryz.prog Tryz.f5.params.toList=some Go.Am.Tryz.atb:=by kernel_rfl
 obtain⟨x,u,y⟩:=Go.Am.az8 s o i
 have z:=Go.Am.Tryz.aDu x y
 have j:=Go.Am.aBZ Go.Am.Tryz.aDt z (aGv l n) u
 rw[Array.toArray_toList]at j
 refine j.mono fun e O A=>?_
 obtain⟨us,rfl,B,D⟩:=A
 have E:us=[.bool true]:=by
  obtain⟨v,F,rfl,⟨cs,d,f⟩,G⟩:=(show @Go.Am.dp (Go.Am.ei.of W.heap.size) _ _ [(.bool,false)] (true,()) us from B)
  rw[show F=[] from G,f,show cs=[.bool true] from d]
  rfl
 subst E
 have I:∃b,c=[b]:=by
  have K:=Go.Am.agw i
  have L:c.length=1:=K.trans (by kernel_rfl)
  match c,L with
  |[b],_=>exact⟨b,rfl⟩
 have M:gs=[]:=by
  cases gs with
  |nil=>rfl
  |cons _ _=>exact r.elim
 obtain⟨b,rfl⟩:=I
 subst M
 exact⟨_,rfl,Go.Am.aBX Tryz.laidOut rfl (by kernel_rfl) (tb:=4) (by kernel_rfl) Tryz.underlying4 g D rfl⟩
theorem aHq:(Rows.fnWorldsRow.wf (OpenSpec.ofChange Rows.fnWorldsSpec)&&laidOutB Tryz.checked.prog&&mapsRowed Tryz.checked.prog&&Tryz.f5.params.all (Tryz.checked.prog.readableRec ·)&&namedTie Tryz.checked.prog Rows.fnWorldsRow.named Rows.fnWorldsSpec.vars&&(Rows.fnWorldsRow.stops==[])&&(Tryz.checked.prog.stops==[])&&(Rows.fnWorldsRow.knobs==[])&&(Tryz.checked.prog.stopKnobs==[]))=true:=by kernel_rfl
theorem aHr:(Rows.fnWorldsRow.inPlace==Tryz.checked.prog.inPlace 5)=true:=by kernel_rfl
theorem aHs:(Rows.fnWorldsRow.unfollowed==Tryz.checked.prog.unfollowed 5)=true:=by kernel_rfl
theorem aHt:(Rows.fnWorldsRow.recurses==Tryz.checked.prog.recurses 5)=true:=by kernel_rfl
theorem aHu:(Rows.fnWorldsRow.named==Tryz.checked.prog.varsNamed 5)=true:=by kernel_rfl
theorem aHv:((Rows.fnWorldsRow.maps==(Tryz.f5.params.toList++Rows.fnWorldsSpec.plain.varTypes Tryz.checked.prog).any (Tryz.checked.prog.mapsRec ·))&&(Rows.fnWorldsRow.ifaces==(Tryz.f5.params.toList++Rows.fnWorldsSpec.plain.varTypes Tryz.checked.prog).any (Tryz.checked.prog.ifacesRec ·))&&(Rows.fnWorldsRow.mapsOut==Tryz.checked.prog.mapsAmong Tryz.f5.resultTypes.toList)&&(Rows.fnWorldsRow.loops==(Tryz.f5.params.toList++Rows.fnWorldsSpec.plain.varTypes Tryz.checked.prog).any (Tryz.checked.prog.loopsFrom ·))&&(Rows.fnWorldsRow.wideKeys==(Tryz.f5.params.toList++Rows.fnWorldsSpec.plain.varTypes Tryz.checked.prog++Tryz.f5.resultTypes.toList).any (Tryz.checked.prog.wideKeysFrom ·)))=true:=by kernel_rfl
theorem aHw:(Rows.fnWorldsSpec.vars.all (Tryz.checked.prog.varReadable ·)&&Tryz.f5.resultTypes.all (fun t=>Tryz.checked.prog.readableRec t&&decide (t<Tryz.checked.prog.types.size))&&(Rows.fnWorldsRow.ifacesOut==Tryz.f5.resultTypes.toList.any (Tryz.checked.prog.ifacesRec ·))&&(Rows.fnWorldsRow.loopsOut==Tryz.f5.resultTypes.toList.any (Tryz.checked.prog.loopsFrom ·))&&(Rows.fnWorldsRow.plainKeys==Tryz.checked.prog.plainKeys)&&Rows.fnWorldsRow.shortTexts.isNone)=true:=by kernel_rfl
theorem aHx:Tryz.checked.prog.stopsHeard=true:=by kernel_rfl
theorem aGw:Tryz.checked.prog.mayEnter=true:=by kernel_rfl
theorem aHy:(Rows.fnWorldsRow.lifted==Tryz.checked.prog.liftsFinal)=true:=by kernel_rfl
theorem aHz:((Tryz.checked.prog.make==some Rows.fnWorldsRow.make)&&(Rows.fnWorldsRow.kinds==(if Rows.fnWorldsRow.domain.isEmpty then [] else Tryz.f5.params.toList.map fun t=>match Tryz.checked.prog.underlying t with|some (.int k)=>some k|_=>none))&&(Rows.fnWorldsRow.pinned==Rows.fnWorldsRow.pinnedBy))=true:=by kernel_rfl
theorem aGx:((Rows.fnWorldsRow.veiled==(Tryz.f5.params.toList++Rows.fnWorldsSpec.plain.varTypes Tryz.checked.prog++Tryz.f5.resultTypes.toList).any (Tryz.checked.prog.veiledRec ·))&&Rows.fnWorldsRow.veiledFits Tryz.checked.prog Tryz.f5.params.toList (Tryz.f5.params.toList++Rows.fnWorldsSpec.plain.varTypes Tryz.checked.prog++Tryz.f5.resultTypes.toList))=true:=by kernel_rfl
theorem aDv:Tryz.checked.prog.funcNamed Rows.fnWorldsRow.func=some 5:=by kernel_rfl
theorem aGy : Tryz.checked.prog.mainIs = some (true, ("f4baf30034b693a344bd2f1c99bca1e57b77a87f765c7d658e87c4d359cde80c" : String).toList) := by kernel_rfl
theorem aGz:false=Tryz.checked.prog.looks []:=by kernel_rfl
theorem aGA:false=Rows.fnWorldsRow.goesBy Tryz.checked.prog:=Go.Am.Tryz.avS (by kernel_rfl) _
theorem aGB:Rows.fnWorldsRow.wfByText (OpenSpec.ofChange Rows.fnWorldsSpec)=true:=by kernel_rfl
theorem aGC:(Tryz.f5.params.toList.all fun u=> !Tryz.prog.wantsStandIn u)=true:=by kernel_rfl
theorem aGD:Tryz.f5.isInstance Tryz.checked.prog Rows.fnWorldsRow.origin Rows.fnWorldsRow.targs:=of_decide_eq_true (by kernel_rfl)
theorem aGE:Tryz.f5.isWrapper Tryz.checked.prog Rows.fnWorldsRow.wrapper Rows.fnWorldsRow.mainSum:=by unfold Func.isWrapper;first|(rw[if_pos (by decide +kernel)];kernel_rfl)|(rw[if_neg (by decide +kernel)];exact⟨rfl,rfl⟩)
theorem atc:Rows.FnWorldsSaid :=
 OpenClaim.holds_of_wide 5 Tryz.f5 rfl rfl rfl rfl rfl rfl rfl ⟨rfl,rfl,rfl,rfl,rfl⟩ rfl rfl rfl rfl rfl aDv Tryz.func5 (Go.Am.anH aHq aHr aHs aHt aHu aHv aHw aHx aGw aHy aHz aGx)
  aGD aGE
  (fun os aE3 H enc _=>ayd os aE3 H enc)
theorem FnWorlds_card:Rows.FnWorldsCardSaid :=
 Claim7.holds_tied_plain_at .later [] [.data, .data, .data, .data, .pinned] true (true, "f4baf30034b693a344bd2f1c99bca1e57b77a87f765c7d658e87c4d359cde80c") false
  atc (fun _ h=>by cases h) aGB (fun _ h=>by cases h) fnWorlds_row_tie rfl ⟨rfl,rfl⟩ aGy rfl
  (fun f fn a b=>by
   obtain rfl:f=5:=Option.some.inj (aDv.symm.trans a) |>.symm
   obtain rfl:fn=Tryz.f5:=(Option.some.inj (Tryz.func5.symm.trans b)).symm
   exact⟨aGz,fun e t c=>by
    have d:t∈Tryz.f5.params.toList:=by simpa using Array.mem_of_getElem? c
    exact(show Tryz.prog.wantsStandIn t=false by simpa using List.all_eq_true.1 aGC t d)⟩)
  aGA
end Go.Proofs.YtpkabclplaibaaaGreatDoor
