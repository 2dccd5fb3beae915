/- FnVotesOnce holds: for every input the law returns true, and the input reads as it did; the tables that it reads are tied to the program's text. No condition. -/
import Derived.Test.YtnllfndlcahalaaGreatDoorTie
import Derived.Test.YtnllfndlcahalaaGreatDoorCards
import Derived.Test.YtnllfndlcahalaaGreatDoorQvWLawVotesO
import Derived.Test.YtnllfndlcahalaaGreatDoorQvAmHand
import Derived.Test.YtnllfndlcahalaaGreatDoorQvAmFacts
import Derived.ProofKit
import Derived.LaidMore
import Derived.Lay
import Derived.OpenShut
import Derived.Stop.Joined
import Derived.Stop.LaidErr
import Derived.SevenTiedAt
set_option linter.all false
set_option maxRecDepth 100000
namespace Go.Am.Tryz
open Go.Am Go.Proofs
def ayv:List (Ty×Bool):=[(.sl 5 (.int .u8),false)]
noncomputable def aKM:Con:=⟨ayv,[(.bool,false)],1,fun x=>na F0 x.1⟩
theorem aIO:aub Tryz.prog TB 3 aKM:=aah
theorem aLr {n:Int}(h:(Lit.int .i64 n).wf=true):I64 n:=by
 have a:IntKind.i64.min=-9223372036854775808:=rfl
 have b:IntKind.i64.max=9223372036854775807:=rfl
 simp only[Lit.wf,Bool.and_eq_true,decide_eq_true_eq,a,b]at h
 exact h
theorem aKr {n:Int}(h:(Lit.int .u8 n).wf=true):0<=n/\n<=255:=by
 have a:IntKind.u8.min=0:=rfl
 have b:IntKind.u8.max=255:=rfl
 simp only[Lit.wf,Bool.and_eq_true,decide_eq_true_eq,a,b]at h
 exact h
theorem V7 {a:List Int}(h:a.length<=maxLen/\∀x∈a,Wf (.int .u8) x):∀x∈a,0<=x/\x<=255:=fun x b=>aKr (h.2 x b)
theorem aMs {a:List Int}(h:∀x∈a,Wf (.int .i64) x):∀x∈a,I64 x:=fun x b=>aLr (h x b)
theorem aGy {P:Go.Program}(h:P.funcs.toList.any Go.Func.goes=false)(f:FuncId):P.goes f=false:=by
 have a:∀g:Nat,(P.funcs[g]?).any Go.Func.goes=false:=by
  intro g
  cases e:P.funcs[g]? with
  |none=>rfl
  |some fn =>
   rw[<-Array.getElem?_toList]at e
   have:=List.any_eq_false.1 h fn (List.mem_of_getElem? e)
   simpa using this
 have b:P.funcs.any Go.Func.goes=false:=by rw[<-Array.any_toList];exact h
 unfold Go.Program.goes
 rw[b,Bool.and_false,Bool.or_false]
 simp only[a]
 simp
theorem aBc {P:Go.Program}(h:P.funcs.toList.any Go.Func.goes=false)(c:Go.OpenClaim):false=c.goesBy P:=by
 unfold Go.OpenClaim.goesBy Go.Program.goesAt Go.Program.goesFrom
 have e:P.goes=fun _=>false:=funext (aGy h)
 rw[e]
 cases P.funcNamed c.func<;>cases c.start<;>simp
theorem aIP (x:Args ayv)(h:aBX ayv x):aKM.g x=some (true,()):=ajS x.1 (V7 h.1)
end Go.Am.Tryz
namespace Go.Proofs.YtnllfndlcahalaaGreatDoor
open Go.ChangeShapes Go.WideShapes Go.ChangeAt Go.RowKit
theorem Tryz.own:ownKnob Tryz.prog.godebug=none:=by kernel_rfl
theorem Tryz.laidOut:laidOutB Tryz.prog=true:=by kernel_rfl
theorem aLs {W:World}(a:W.ShapedOpen Tryz.prog)(h:laidMetH Tryz.prog Rows.fnVotesOnceRow.laid W):Go.Am.Tryz.TB.p W:=by
 refine⟨?_,Tryz.aHj.s1_3 W a⟩
 rw[MakeChecks.laidMetH_plain _ _ _ (by kernel_rfl)]at h
 have b : laidMet Tryz.prog (("internal/strconv.uint64pow10", Lib.tabData .u64 Lib.pow10Tab) :: Rows.fnVotesOnceRow.laid.drop 3) W := laidMet.tail (laidMet.tail (h))
 exact Lib.tabIs_of_head (g:=1) (t:=292) (e:=279) (n:=20) (by kernel_rfl) (by kernel_rfl) (by kernel_rfl) (by kernel_rfl) (by kernel_rfl) (by kernel_rfl) b
set_option maxRecDepth 100000 in
theorem aDu (os:Os)(N:os.Started)(H:Type)(enc:TypeId×Value->H) :
  ReturnsInHanded {} Tryz.checked os 3 .any (fun w args=>(Rows.fnVotesOnceSpec.pre enc Tryz.prog Tryz.f3 [] false w args/\laidMetH Tryz.prog Rows.fnVotesOnceRow.laid w)/\sizedMet enc Tryz.prog Tryz.f3 (OpenSpec.ofChange Rows.fnVotesOnceSpec) false w args)
   (Rows.fnVotesOnceSpec.post enc Tryz.prog Tryz.f3 false true false false):=by
 refine Go.Am.ajT (C:=Tryz.checked) (X:=fun w _=>laidMetH Tryz.prog Rows.fnVotesOnceRow.laid w) (fun _ _ _ k h=>h.of_heap k) Tryz.own N (by kernel_rfl) Tryz.func3
  (ChangeSpec.witness_shaped (enc:=enc) (C:=Tryz.checked) (os:=os) (X:=fun w _=>laidMetH Tryz.prog Rows.fnVotesOnceRow.laid w) false (World.laidAll Tryz.prog os Rows.fnVotesOnceRow.laid) #[.slice none 0 0] 8 (World.laidAll_os _ _ _)
   (World.shaped_of_ZipB (by kernel_rfl) (by kernel_rfl)) (by kernel_rfl) (by kernel_rfl) (by kernel_rfl)
   (by rw[MakeChecks.laidMetH_plain _ _ _ (by kernel_rfl)];exact laidMet_laidAll _ (by kernel_rfl) (by kernel_rfl))) ?_
 intro W aHb args c gs aMR l m g n
 have o:∀(a:Nat) t v,Tryz.f3.params.toList[a]?=some t->args.toList[a]?=some v->Value.okWide Tryz.prog W .any aHb t v:=fun a t v d f=>m a t v (by simpa using d) (by simpa using f)
 obtain⟨p,q,i,r,_⟩:=id g
 have s:Go.Am.aDW Tryz.prog Tryz.f3.params.toList=some Go.Am.Tryz.ayv:=by kernel_rfl
 obtain⟨x,u,y⟩:=Go.Am.aur s o i
 have z:=Go.Am.Tryz.aIP x y
 have j:=Go.Am.Tryz.aIO.2 x (true,()) z W (aLs l n) _ args.toList u
 rw[Array.toArray_toList]at j
 refine j.mono fun e O A=>?_
 obtain⟨us,rfl,B,D⟩:=A
 have E:us=[.bool true]:=by
  obtain⟨v,F,rfl,⟨cs,d,f⟩,G⟩:=(show Go.Am.ef _ _ [(.bool,false)] (true,()) us from B)
  rw[show F=[] from G,f,show cs=[.bool true] from d]
  rfl
 subst E
 have I:∃b,c=[b]:=by
  have K:=Go.Am.akd i
  have L:c.length=1:=K.trans (by kernel_rfl)
  match c,L with
  |[b],_=>exact⟨b,rfl⟩
 have M:gs=[]:=by
  cases gs with
  |nil=>rfl
  |cons _ _=>exact r.elim
 obtain⟨b,rfl⟩:=I
 subst M
 exact⟨_,rfl,Go.Am.aHd Tryz.laidOut rfl (by kernel_rfl) (tb:=4) (by kernel_rfl) Tryz.underlying4 g D rfl⟩
theorem aMb:(Rows.fnVotesOnceRow.wf (OpenSpec.ofChange Rows.fnVotesOnceSpec)&&laidOutB Tryz.checked.prog&&mapsRowed Tryz.checked.prog&&Tryz.f3.params.all (Tryz.checked.prog.readableRec ·)&&namedTie Tryz.checked.prog Rows.fnVotesOnceRow.named Rows.fnVotesOnceSpec.vars&&(Rows.fnVotesOnceRow.stops==[])&&(Tryz.checked.prog.stops==[])&&(Rows.fnVotesOnceRow.knobs==[])&&(Tryz.checked.prog.stopKnobs==[]))=true:=by kernel_rfl
theorem aMc:(Rows.fnVotesOnceRow.inPlace==Tryz.checked.prog.inPlace 3)=true:=by kernel_rfl
theorem aMd:(Rows.fnVotesOnceRow.unfollowed==Tryz.checked.prog.unfollowed 3)=true:=by kernel_rfl
theorem aMe:(Rows.fnVotesOnceRow.recurses==Tryz.checked.prog.recurses 3)=true:=by kernel_rfl
theorem aMf:(Rows.fnVotesOnceRow.named==Tryz.checked.prog.varsNamed 3)=true:=by kernel_rfl
theorem aMg:((Rows.fnVotesOnceRow.maps==(Tryz.f3.params.toList++Rows.fnVotesOnceSpec.plain.varTypes Tryz.checked.prog).any (Tryz.checked.prog.mapsRec ·))&&(Rows.fnVotesOnceRow.ifaces==(Tryz.f3.params.toList++Rows.fnVotesOnceSpec.plain.varTypes Tryz.checked.prog).any (Tryz.checked.prog.ifacesRec ·))&&(Rows.fnVotesOnceRow.mapsOut==Tryz.checked.prog.mapsAmong Tryz.f3.resultTypes.toList)&&(Rows.fnVotesOnceRow.loops==(Tryz.f3.params.toList++Rows.fnVotesOnceSpec.plain.varTypes Tryz.checked.prog).any (Tryz.checked.prog.loopsFrom ·))&&(Rows.fnVotesOnceRow.wideKeys==(Tryz.f3.params.toList++Rows.fnVotesOnceSpec.plain.varTypes Tryz.checked.prog++Tryz.f3.resultTypes.toList).any (Tryz.checked.prog.wideKeysFrom ·)))=true:=by kernel_rfl
theorem aMh:(Rows.fnVotesOnceSpec.vars.all (Tryz.checked.prog.varReadable ·)&&Tryz.f3.resultTypes.all (fun t=>Tryz.checked.prog.readableRec t&&decide (t<Tryz.checked.prog.types.size))&&(Rows.fnVotesOnceRow.ifacesOut==Tryz.f3.resultTypes.toList.any (Tryz.checked.prog.ifacesRec ·))&&(Rows.fnVotesOnceRow.loopsOut==Tryz.f3.resultTypes.toList.any (Tryz.checked.prog.loopsFrom ·))&&(Rows.fnVotesOnceRow.plainKeys==Tryz.checked.prog.plainKeys)&&Rows.fnVotesOnceRow.shortTexts.isNone)=true:=by kernel_rfl
theorem aMi:Tryz.checked.prog.stopsHeard=true:=by kernel_rfl
theorem aLt:Tryz.checked.prog.mayEnter=true:=by kernel_rfl
theorem aMj:(Rows.fnVotesOnceRow.lifted==Tryz.checked.prog.liftsFinal)=true:=by kernel_rfl
theorem aMk:((Tryz.checked.prog.make==some Rows.fnVotesOnceRow.make)&&(Rows.fnVotesOnceRow.kinds==(if Rows.fnVotesOnceRow.domain.isEmpty then [] else Tryz.f3.params.toList.map fun t=>match Tryz.checked.prog.underlying t with|some (.int k)=>some k|_=>none))&&(Rows.fnVotesOnceRow.pinned==Rows.fnVotesOnceRow.pinnedBy))=true:=by kernel_rfl
theorem aLu:((Rows.fnVotesOnceRow.veiled==(Tryz.f3.params.toList++Rows.fnVotesOnceSpec.plain.varTypes Tryz.checked.prog++Tryz.f3.resultTypes.toList).any (Tryz.checked.prog.veiledRec ·))&&Rows.fnVotesOnceRow.veiledFits Tryz.checked.prog Tryz.f3.params.toList (Tryz.f3.params.toList++Rows.fnVotesOnceSpec.plain.varTypes Tryz.checked.prog++Tryz.f3.resultTypes.toList))=true:=by kernel_rfl
theorem aIQ:Tryz.checked.prog.funcNamed Rows.fnVotesOnceRow.func=some 3:=by kernel_rfl
theorem aLv : Tryz.checked.prog.mainIs = some (true, ("4f0733a9e96f0630058d23d996673df6c32bf30a48005063c0bdd050cbeb4ba9" : String).toList) := by kernel_rfl
theorem aLw:false=Tryz.checked.prog.looks []:=by kernel_rfl
theorem aLx:false=Rows.fnVotesOnceRow.goesBy Tryz.checked.prog:=Go.Am.Tryz.aBc (by kernel_rfl) _
theorem aLy:Rows.fnVotesOnceRow.wfByText (OpenSpec.ofChange Rows.fnVotesOnceSpec)=true:=by kernel_rfl
theorem aLz:(Tryz.f3.params.toList.all fun u=> !Tryz.prog.wantsStandIn u)=true:=by kernel_rfl
theorem aLA:Tryz.f3.isInstance Tryz.checked.prog Rows.fnVotesOnceRow.origin Rows.fnVotesOnceRow.targs:=of_decide_eq_true (by kernel_rfl)
theorem aLB:Tryz.f3.isWrapper Tryz.checked.prog Rows.fnVotesOnceRow.wrapper Rows.fnVotesOnceRow.mainSum:=by unfold Func.isWrapper;first|(rw[if_pos (by decide +kernel)];kernel_rfl)|(rw[if_neg (by decide +kernel)];exact⟨rfl,rfl⟩)
theorem anp:Rows.FnVotesOnceSaid :=
 OpenClaim.holds_of_wide 3 Tryz.f3 rfl rfl rfl rfl rfl rfl rfl ⟨rfl,rfl,rfl,rfl,rfl⟩ rfl rfl rfl rfl rfl aIQ Tryz.func3 (Go.Am.ass aMb aMc aMd aMe aMf aMg aMh aMi aLt aMj aMk aLu)
  aLA aLB
  (fun os aKs H enc _=>aDu os aKs H enc)
theorem FnVotesOnce_card:Rows.FnVotesOnceCardSaid :=
 Claim7.holds_tied_plain_at .later [] [.data, .data, .data, .data, .pinned] true (true, "4f0733a9e96f0630058d23d996673df6c32bf30a48005063c0bdd050cbeb4ba9") false
  anp (fun _ h=>by cases h) aLy (fun _ h=>by cases h) fnVotesOnce_row_tie rfl ⟨rfl,rfl⟩ aLv rfl
  (fun f fn a b=>by
   obtain rfl:f=3:=Option.some.inj (aIQ.symm.trans a) |>.symm
   obtain rfl:fn=Tryz.f3:=(Option.some.inj (Tryz.func3.symm.trans b)).symm
   exact⟨aLw,fun e t c=>by
    have d:t∈Tryz.f3.params.toList:=by simpa using Array.mem_of_getElem? c
    exact(show Tryz.prog.wantsStandIn t=false by simpa using List.all_eq_true.1 aLz t d)⟩)
  aLx
end Go.Proofs.YtnllfndlcahalaaGreatDoor
