/- FnJudges holds: for every input the law returns true, and the input reads as it did; the tables that it reads are tied to the program's text. No condition. -/
import Derived.Test.YtpkabclplaibaaaGreatDoorTie
import Derived.Test.YtpkabclplaibaaaGreatDoorCards
import Derived.Test.YtpkabclplaibaaaGreatDoorQjYLawJudges
import Derived.Test.YtpkabclplaibaaaGreatDoorQjAmHand
import Derived.Test.YtpkabclplaibaaaGreatDoorQjAmFacts
import Derived.ProofKit
import Derived.LaidMore
import Derived.Lay
import Derived.OpenShut
import Derived.Stop.Joined
import Derived.Stop.LaidErr
import Derived.SevenTiedAt
set_option linter.all false
set_option maxRecDepth 100000
namespace Go.Am.Tryz
open Go.Am Go.Proofs
def apK:List (Ty×Bool):=[(.sl 5 (.int .u8),false)]
noncomputable def aBT:Con:=⟨apK,[(.bool,false)],1,fun x=>CX F0 x.1⟩
theorem azR:ag8 Tryz.prog TB 4 aBT:=acU
theorem aCD {n:Int}(h:(Lit.int .i64 n).wf=true):Hx n:=by
 have a:IntKind.i64.min=-9223372036854775808:=rfl
 have b:IntKind.i64.max=9223372036854775807:=rfl
 simp only[Lit.wf,Bool.and_eq_true,decide_eq_true_eq,a,b]at h
 exact h
theorem aBg {n:Int}(h:(Lit.int .u8 n).wf=true):0<=n/\n<=255:=by
 have a:IntKind.u8.min=0:=rfl
 have b:IntKind.u8.max=255:=rfl
 simp only[Lit.wf,Bool.and_eq_true,decide_eq_true_eq,a,b]at h
 exact h
theorem Zd {a:List Int}(h:a.length<=maxLen/\∀x∈a,Wf (.int .u8) x):∀x∈a,0<=x/\x<=255:=fun x b=>aBg (h.2 x b)
theorem aDL {a:List Int}(h:∀x∈a,Wf (.int .i64) x):∀x∈a,Hx x:=fun x b=>aCD (h x b)
theorem axw {P:Go.Program}(h:P.funcs.toList.any Go.Func.goes=false)(f:FuncId):P.goes f=false:=by
 have a:∀g:Nat,(P.funcs[g]?).any Go.Func.goes=false:=by
  intro g
  cases e:P.funcs[g]? with
  |none=>rfl
  |some fn =>
   rw[<-Array.getElem?_toList]at e
   have:=List.any_eq_false.1 h fn (List.mem_of_getElem? e)
   simpa using this
 have b:P.funcs.any Go.Func.goes=false:=by rw[<-Array.any_toList];exact h
 unfold Go.Program.goes
 rw[b,Bool.and_false,Bool.or_false]
 simp only[a]
 simp
theorem asn {P:Go.Program}(h:P.funcs.toList.any Go.Func.goes=false)(c:Go.OpenClaim):false=c.goesBy P:=by
 unfold Go.OpenClaim.goesBy Go.Program.goesAt Go.Program.goesFrom
 have e:P.goes=fun _=>false:=funext (axw h)
 rw[e]
 cases P.funcNamed c.func<;>cases c.start<;>simp
theorem azS (x:Args apK)(_:aoh apK x):aBT.g x=some (true,()):=alZ x.1
end Go.Am.Tryz
namespace Go.Proofs.YtpkabclplaibaaaGreatDoor
open Go.ChangeShapes Go.WideShapes Go.ChangeAt Go.RowKit
theorem Tryz.own:ownKnob Tryz.prog.godebug=none:=by kernel_rfl
theorem Tryz.laidOut:laidOutB Tryz.prog=true:=by kernel_rfl
theorem aCE {W:World}(a:W.ShapedOpen Tryz.prog)(h:laidMetH Tryz.prog Rows.fnJudgesRow.laid W):Go.Am.Tryz.TB.p W:=by
 refine⟨?_,Tryz.ayq.s1_3 W a⟩
 rw[MakeChecks.laidMetH_plain _ _ _ (by kernel_rfl)]at h
 have b : laidMet Tryz.prog (("internal/strconv.uint64pow10", Lib.tabData .u64 Lib.pow10Tab) :: Rows.fnJudgesRow.laid.drop 3) W := laidMet.tail (laidMet.tail (h))
 exact Lib.tabIs_of_head (g:=1) (t:=292) (e:=275) (n:=20) (by kernel_rfl) (by kernel_rfl) (by kernel_rfl) (by kernel_rfl) (by kernel_rfl) (by kernel_rfl) b
set_option maxRecDepth 100000 in
theorem auG (os:Os)(N:os.Started)(H:Type)(enc:TypeId×Value->H) :
  ReturnsInHanded {} Tryz.checked os 4 .any (fun w args=>(Rows.fnJudgesSpec.pre enc Tryz.prog Tryz.f4 [] false w args/\laidMetH Tryz.prog Rows.fnJudgesRow.laid w)/\sizedMet enc Tryz.prog Tryz.f4 (OpenSpec.ofChange Rows.fnJudgesSpec) false w args)
   (Rows.fnJudgesSpec.post enc Tryz.prog Tryz.f4 false true false false):=by
 refine Go.Am.adw (C:=Tryz.checked) (X:=fun w _=>laidMetH Tryz.prog Rows.fnJudgesRow.laid w) (fun _ _ _ k h=>h.of_heap k) Tryz.own N (by kernel_rfl) Tryz.func4
  (ChangeSpec.witness_shaped (enc:=enc) (C:=Tryz.checked) (os:=os) (X:=fun w _=>laidMetH Tryz.prog Rows.fnJudgesRow.laid w) false (World.laidAll Tryz.prog os Rows.fnJudgesRow.laid) #[.slice none 0 0] 8 (World.laidAll_os _ _ _)
   (World.shaped_of_ZipB (by kernel_rfl) (by kernel_rfl)) (by kernel_rfl) (by kernel_rfl) (by kernel_rfl)
   (by rw[MakeChecks.laidMetH_plain _ _ _ (by kernel_rfl)];exact laidMet_laidAll _ (by kernel_rfl) (by kernel_rfl))) ?_
 intro W ayi args c gs aEo l m g n
 have o:∀(a:Nat) t v,Tryz.f4.params.toList[a]?=some t->args.toList[a]?=some v->Value.okWide Tryz.prog W .any ayi t v:=fun a t v d f=>m a t v (by simpa using d) (by simpa using f)
 obtain⟨p,q,i,r,_⟩:=id g
 have s:Go.Am.aqm Tryz.prog Tryz.f4.params.toList=some Go.Am.Tryz.apK:=by kernel_rfl
 obtain⟨x,u,y⟩:=Go.Am.awx s o i
 have z:=Go.Am.Tryz.azS x y
 have j:=Go.Am.aym Go.Am.Tryz.azR z (aCE l n) u
 rw[Array.toArray_toList]at j
 refine j.mono fun e O A=>?_
 obtain⟨us,rfl,B,D⟩:=A
 have E:us=[.bool true]:=by
  obtain⟨v,F,rfl,⟨cs,d,f⟩,G⟩:=(show @Go.Am.dk (Go.Am.ec.of W.heap.size) _ _ [(.bool,false)] (true,()) us from B)
  rw[show F=[] from G,f,show cs=[.bool true] from d]
  rfl
 subst E
 have I:∃b,c=[b]:=by
  have K:=Go.Am.adS i
  have L:c.length=1:=K.trans (by kernel_rfl)
  match c,L with
  |[b],_=>exact⟨b,rfl⟩
 have M:gs=[]:=by
  cases gs with
  |nil=>rfl
  |cons _ _=>exact r.elim
 obtain⟨b,rfl⟩:=I
 subst M
 exact⟨_,rfl,Go.Am.ayk Tryz.laidOut rfl (by kernel_rfl) (tb:=4) (by kernel_rfl) Tryz.underlying4 g D rfl⟩
theorem aDx:(Rows.fnJudgesRow.wf (OpenSpec.ofChange Rows.fnJudgesSpec)&&laidOutB Tryz.checked.prog&&mapsRowed Tryz.checked.prog&&Tryz.f4.params.all (Tryz.checked.prog.readableRec ·)&&namedTie Tryz.checked.prog Rows.fnJudgesRow.named Rows.fnJudgesSpec.vars&&(Rows.fnJudgesRow.stops==[])&&(Tryz.checked.prog.stops==[])&&(Rows.fnJudgesRow.knobs==[])&&(Tryz.checked.prog.stopKnobs==[]))=true:=by kernel_rfl
theorem aDy:(Rows.fnJudgesRow.inPlace==Tryz.checked.prog.inPlace 4)=true:=by kernel_rfl
theorem aDz:(Rows.fnJudgesRow.unfollowed==Tryz.checked.prog.unfollowed 4)=true:=by kernel_rfl
theorem aDA:(Rows.fnJudgesRow.recurses==Tryz.checked.prog.recurses 4)=true:=by kernel_rfl
theorem aDB:(Rows.fnJudgesRow.named==Tryz.checked.prog.varsNamed 4)=true:=by kernel_rfl
theorem aDC:((Rows.fnJudgesRow.maps==(Tryz.f4.params.toList++Rows.fnJudgesSpec.plain.varTypes Tryz.checked.prog).any (Tryz.checked.prog.mapsRec ·))&&(Rows.fnJudgesRow.ifaces==(Tryz.f4.params.toList++Rows.fnJudgesSpec.plain.varTypes Tryz.checked.prog).any (Tryz.checked.prog.ifacesRec ·))&&(Rows.fnJudgesRow.mapsOut==Tryz.checked.prog.mapsAmong Tryz.f4.resultTypes.toList)&&(Rows.fnJudgesRow.loops==(Tryz.f4.params.toList++Rows.fnJudgesSpec.plain.varTypes Tryz.checked.prog).any (Tryz.checked.prog.loopsFrom ·))&&(Rows.fnJudgesRow.wideKeys==(Tryz.f4.params.toList++Rows.fnJudgesSpec.plain.varTypes Tryz.checked.prog++Tryz.f4.resultTypes.toList).any (Tryz.checked.prog.wideKeysFrom ·)))=true:=by kernel_rfl
theorem aDD:(Rows.fnJudgesSpec.vars.all (Tryz.checked.prog.varReadable ·)&&Tryz.f4.resultTypes.all (fun t=>Tryz.checked.prog.readableRec t&&decide (t<Tryz.checked.prog.types.size))&&(Rows.fnJudgesRow.ifacesOut==Tryz.f4.resultTypes.toList.any (Tryz.checked.prog.ifacesRec ·))&&(Rows.fnJudgesRow.loopsOut==Tryz.f4.resultTypes.toList.any (Tryz.checked.prog.loopsFrom ·))&&(Rows.fnJudgesRow.plainKeys==Tryz.checked.prog.plainKeys)&&Rows.fnJudgesRow.shortTexts.isNone)=true:=by kernel_rfl
theorem aDE:Tryz.checked.prog.stopsHeard=true:=by kernel_rfl
theorem aCF:Tryz.checked.prog.mayEnter=true:=by kernel_rfl
theorem aDF:(Rows.fnJudgesRow.lifted==Tryz.checked.prog.liftsFinal)=true:=by kernel_rfl
theorem aDG:((Tryz.checked.prog.make==some Rows.fnJudgesRow.make)&&(Rows.fnJudgesRow.kinds==(if Rows.fnJudgesRow.domain.isEmpty then [] else Tryz.f4.params.toList.map fun t=>match Tryz.checked.prog.underlying t with|some (.int k)=>some k|_=>none))&&(Rows.fnJudgesRow.pinned==Rows.fnJudgesRow.pinnedBy))=true:=by kernel_rfl
theorem aCG:((Rows.fnJudgesRow.veiled==(Tryz.f4.params.toList++Rows.fnJudgesSpec.plain.varTypes Tryz.checked.prog++Tryz.f4.resultTypes.toList).any (Tryz.checked.prog.veiledRec ·))&&Rows.fnJudgesRow.veiledFits Tryz.checked.prog Tryz.f4.params.toList (Tryz.f4.params.toList++Rows.fnJudgesSpec.plain.varTypes Tryz.checked.prog++Tryz.f4.resultTypes.toList))=true:=by kernel_rfl
theorem azT:Tryz.checked.prog.funcNamed Rows.fnJudgesRow.func=some 4:=by kernel_rfl
theorem aCH : Tryz.checked.prog.mainIs = some (true, ("f4baf30034b693a344bd2f1c99bca1e57b77a87f765c7d658e87c4d359cde80c" : String).toList) := by kernel_rfl
theorem aCI:false=Tryz.checked.prog.looks []:=by kernel_rfl
theorem aCJ:false=Rows.fnJudgesRow.goesBy Tryz.checked.prog:=Go.Am.Tryz.asn (by kernel_rfl) _
theorem aCK:Rows.fnJudgesRow.wfByText (OpenSpec.ofChange Rows.fnJudgesSpec)=true:=by kernel_rfl
theorem aCL:(Tryz.f4.params.toList.all fun u=> !Tryz.prog.wantsStandIn u)=true:=by kernel_rfl
theorem aCM:Tryz.f4.isInstance Tryz.checked.prog Rows.fnJudgesRow.origin Rows.fnJudgesRow.targs:=of_decide_eq_true (by kernel_rfl)
theorem aCN:Tryz.f4.isWrapper Tryz.checked.prog Rows.fnJudgesRow.wrapper Rows.fnJudgesRow.mainSum:=by unfold Func.isWrapper;first|(rw[if_pos (by decide +kernel)];kernel_rfl)|(rw[if_neg (by decide +kernel)];exact⟨rfl,rfl⟩)
theorem apL:Rows.FnJudgesSaid :=
 OpenClaim.holds_of_wide 4 Tryz.f4 rfl rfl rfl rfl rfl rfl rfl ⟨rfl,rfl,rfl,rfl,rfl⟩ rfl rfl rfl rfl rfl azT Tryz.func4 (Go.Am.akF aDx aDy aDz aDA aDB aDC aDD aDE aCF aDF aDG aCG)
  aCM aCN
  (fun os aBh H enc _=>auG os aBh H enc)
theorem FnJudges_card:Rows.FnJudgesCardSaid :=
 Claim7.holds_tied_plain_at .later [] [.data, .data, .data, .data, .pinned] true (true, "f4baf30034b693a344bd2f1c99bca1e57b77a87f765c7d658e87c4d359cde80c") false
  apL (fun _ h=>by cases h) aCK (fun _ h=>by cases h) fnJudges_row_tie rfl ⟨rfl,rfl⟩ aCH rfl
  (fun f fn a b=>by
   obtain rfl:f=4:=Option.some.inj (azT.symm.trans a) |>.symm
   obtain rfl:fn=Tryz.f4:=(Option.some.inj (Tryz.func4.symm.trans b)).symm
   exact⟨aCI,fun e t c=>by
    have d:t∈Tryz.f4.params.toList:=by simpa using Array.mem_of_getElem? c
    exact(show Tryz.prog.wantsStandIn t=false by simpa using List.all_eq_true.1 aCL t d)⟩)
  aCJ
end Go.Proofs.YtpkabclplaibaaaGreatDoor
