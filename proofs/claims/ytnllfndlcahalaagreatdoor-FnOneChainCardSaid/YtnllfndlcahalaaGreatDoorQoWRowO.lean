/- FnOneChain holds: for every input the law returns true, and the input reads as it did; the tables that it reads are tied to the program's text. No condition. -/
import Derived.Test.YtnllfndlcahalaaGreatDoorTie
import Derived.Test.YtnllfndlcahalaaGreatDoorCards
import Derived.Test.YtnllfndlcahalaaGreatDoorQoWLawOneC
import Derived.Test.YtnllfndlcahalaaGreatDoorQoAmHand
import Derived.Test.YtnllfndlcahalaaGreatDoorQoAmFacts
import Derived.ProofKit
import Derived.LaidMore
import Derived.Lay
import Derived.OpenShut
import Derived.Stop.Joined
import Derived.Stop.LaidErr
import Derived.SevenTiedAt
set_option linter.all false
set_option maxRecDepth 100000
namespace Go.Am.Tryz
open Go.Am Go.Proofs
def axM:List (Ty×Bool):=[(.sl 5 (.int .u8),false)]
noncomputable def aJU:Con:=⟨axM,[(.bool,false)],1,fun x=>vS F0 x.1⟩
theorem aHX:atn Tryz.prog TB 5 aJU:=acL
theorem aKA {n:Int}(h:(Lit.int .i64 n).wf=true):I64 n:=by
 have a:IntKind.i64.min=-9223372036854775808:=rfl
 have b:IntKind.i64.max=9223372036854775807:=rfl
 simp only[Lit.wf,Bool.and_eq_true,decide_eq_true_eq,a,b]at h
 exact h
theorem aJz {n:Int}(h:(Lit.int .u8 n).wf=true):0<=n/\n<=255:=by
 have a:IntKind.u8.min=0:=rfl
 have b:IntKind.u8.max=255:=rfl
 simp only[Lit.wf,Bool.and_eq_true,decide_eq_true_eq,a,b]at h
 exact h
theorem adK {a:List Int}(h:a.length<=maxLen/\∀x∈a,Wf (.int .u8) x):∀x∈a,0<=x/\x<=255:=fun x b=>aJz (h.2 x b)
theorem aLC {a:List Int}(h:∀x∈a,Wf (.int .i64) x):∀x∈a,I64 x:=fun x b=>aKA (h x b)
theorem aFH {P:Go.Program}(h:P.funcs.toList.any Go.Func.goes=false)(f:FuncId):P.goes f=false:=by
 have a:∀g:Nat,(P.funcs[g]?).any Go.Func.goes=false:=by
  intro g
  cases e:P.funcs[g]? with
  |none=>rfl
  |some fn =>
   rw[<-Array.getElem?_toList]at e
   have:=List.any_eq_false.1 h fn (List.mem_of_getElem? e)
   simpa using this
 have b:P.funcs.any Go.Func.goes=false:=by rw[<-Array.any_toList];exact h
 unfold Go.Program.goes
 rw[b,Bool.and_false,Bool.or_false]
 simp only[a]
 simp
theorem aAq {P:Go.Program}(h:P.funcs.toList.any Go.Func.goes=false)(c:Go.OpenClaim):false=c.goesBy P:=by
 unfold Go.OpenClaim.goesBy Go.Program.goesAt Go.Program.goesFrom
 have e:P.goes=fun _=>false:=funext (aFH h)
 rw[e]
 cases P.funcNamed c.func<;>cases c.start<;>simp
theorem aHY (x:Args axM)(_:aBa axM x):aJU.g x=some (true,()):=amB x.1
end Go.Am.Tryz
namespace Go.Proofs.YtnllfndlcahalaaGreatDoor
open Go.ChangeShapes Go.WideShapes Go.ChangeAt Go.RowKit
theorem Tryz.own:ownKnob Tryz.prog.godebug=none:=by kernel_rfl
theorem Tryz.laidOut:laidOutB Tryz.prog=true:=by kernel_rfl
theorem aKB {W:World}(a:W.ShapedOpen Tryz.prog)(h:laidMetH Tryz.prog Rows.fnOneChainRow.laid W):Go.Am.Tryz.TB.p W:=by
 refine⟨?_,Tryz.aGr.s1_3 W a⟩
 rw[MakeChecks.laidMetH_plain _ _ _ (by kernel_rfl)]at h
 have b : laidMet Tryz.prog (("internal/strconv.uint64pow10", Lib.tabData .u64 Lib.pow10Tab) :: Rows.fnOneChainRow.laid.drop 3) W := laidMet.tail (laidMet.tail (h))
 exact Lib.tabIs_of_head (g:=1) (t:=292) (e:=279) (n:=20) (by kernel_rfl) (by kernel_rfl) (by kernel_rfl) (by kernel_rfl) (by kernel_rfl) (by kernel_rfl) b
set_option maxRecDepth 100000 in
theorem aCG (os:Os)(N:os.Started)(H:Type)(enc:TypeId×Value->H) :
  ReturnsInHanded {} Tryz.checked os 5 .any (fun w args=>(Rows.fnOneChainSpec.pre enc Tryz.prog Tryz.f5 [] false w args/\laidMetH Tryz.prog Rows.fnOneChainRow.laid w)/\sizedMet enc Tryz.prog Tryz.f5 (OpenSpec.ofChange Rows.fnOneChainSpec) false w args)
   (Rows.fnOneChainSpec.post enc Tryz.prog Tryz.f5 false true false false):=by
 refine Go.Am.ai2 (C:=Tryz.checked) (X:=fun w _=>laidMetH Tryz.prog Rows.fnOneChainRow.laid w) (fun _ _ _ k h=>h.of_heap k) Tryz.own N (by kernel_rfl) Tryz.func5
  (ChangeSpec.witness_shaped (enc:=enc) (C:=Tryz.checked) (os:=os) (X:=fun w _=>laidMetH Tryz.prog Rows.fnOneChainRow.laid w) false (World.laidAll Tryz.prog os Rows.fnOneChainRow.laid) #[.slice none 0 0] 8 (World.laidAll_os _ _ _)
   (World.shaped_of_ZipB (by kernel_rfl) (by kernel_rfl)) (by kernel_rfl) (by kernel_rfl) (by kernel_rfl)
   (by rw[MakeChecks.laidMetH_plain _ _ _ (by kernel_rfl)];exact laidMet_laidAll _ (by kernel_rfl) (by kernel_rfl))) ?_
 intro W aGj args c gs aL1 l m g n
 have o:∀(a:Nat) t v,Tryz.f5.params.toList[a]?=some t->args.toList[a]?=some v->Value.okWide Tryz.prog W .any aGj t v:=fun a t v d f=>m a t v (by simpa using d) (by simpa using f)
 obtain⟨p,q,i,r,_⟩:=id g
 have s:Go.Am.aC8 Tryz.prog Tryz.f5.params.toList=some Go.Am.Tryz.axM:=by kernel_rfl
 obtain⟨x,u,y⟩:=Go.Am.atD s o i
 have z:=Go.Am.Tryz.aHY x y
 have j:=Go.Am.Tryz.aHX.2 x (true,()) z W (aKB l n) _ args.toList u
 rw[Array.toArray_toList]at j
 refine j.mono fun e O A=>?_
 obtain⟨us,rfl,B,D⟩:=A
 have E:us=[.bool true]:=by
  obtain⟨v,F,rfl,⟨cs,d,f⟩,G⟩:=(show Go.Am.ec _ _ [(.bool,false)] (true,()) us from B)
  rw[show F=[] from G,f,show cs=[.bool true] from d]
  rfl
 subst E
 have I:∃b,c=[b]:=by
  have K:=Go.Am.ajn i
  have L:c.length=1:=K.trans (by kernel_rfl)
  match c,L with
  |[b],_=>exact⟨b,rfl⟩
 have M:gs=[]:=by
  cases gs with
  |nil=>rfl
  |cons _ _=>exact r.elim
 obtain⟨b,rfl⟩:=I
 subst M
 exact⟨_,rfl,Go.Am.aGl Tryz.laidOut rfl (by kernel_rfl) (tb:=4) (by kernel_rfl) Tryz.underlying4 g D rfl⟩
theorem aLl:(Rows.fnOneChainRow.wf (OpenSpec.ofChange Rows.fnOneChainSpec)&&laidOutB Tryz.checked.prog&&mapsRowed Tryz.checked.prog&&Tryz.f5.params.all (Tryz.checked.prog.readableRec ·)&&namedTie Tryz.checked.prog Rows.fnOneChainRow.named Rows.fnOneChainSpec.vars&&(Rows.fnOneChainRow.stops==[])&&(Tryz.checked.prog.stops==[])&&(Rows.fnOneChainRow.knobs==[])&&(Tryz.checked.prog.stopKnobs==[]))=true:=by kernel_rfl
theorem aLm:(Rows.fnOneChainRow.inPlace==Tryz.checked.prog.inPlace 5)=true:=by kernel_rfl
theorem aLn:(Rows.fnOneChainRow.unfollowed==Tryz.checked.prog.unfollowed 5)=true:=by kernel_rfl
theorem aLo:(Rows.fnOneChainRow.recurses==Tryz.checked.prog.recurses 5)=true:=by kernel_rfl
theorem aLp:(Rows.fnOneChainRow.named==Tryz.checked.prog.varsNamed 5)=true:=by kernel_rfl
theorem aLq:((Rows.fnOneChainRow.maps==(Tryz.f5.params.toList++Rows.fnOneChainSpec.plain.varTypes Tryz.checked.prog).any (Tryz.checked.prog.mapsRec ·))&&(Rows.fnOneChainRow.ifaces==(Tryz.f5.params.toList++Rows.fnOneChainSpec.plain.varTypes Tryz.checked.prog).any (Tryz.checked.prog.ifacesRec ·))&&(Rows.fnOneChainRow.mapsOut==Tryz.checked.prog.mapsAmong Tryz.f5.resultTypes.toList)&&(Rows.fnOneChainRow.loops==(Tryz.f5.params.toList++Rows.fnOneChainSpec.plain.varTypes Tryz.checked.prog).any (Tryz.checked.prog.loopsFrom ·))&&(Rows.fnOneChainRow.wideKeys==(Tryz.f5.params.toList++Rows.fnOneChainSpec.plain.varTypes Tryz.checked.prog++Tryz.f5.resultTypes.toList).any (Tryz.checked.prog.wideKeysFrom ·)))=true:=by kernel_rfl
theorem aLr:(Rows.fnOneChainSpec.vars.all (Tryz.checked.prog.varReadable ·)&&Tryz.f5.resultTypes.all (fun t=>Tryz.checked.prog.readableRec t&&decide (t<Tryz.checked.prog.types.size))&&(Rows.fnOneChainRow.ifacesOut==Tryz.f5.resultTypes.toList.any (Tryz.checked.prog.ifacesRec ·))&&(Rows.fnOneChainRow.loopsOut==Tryz.f5.resultTypes.toList.any (Tryz.checked.prog.loopsFrom ·))&&(Rows.fnOneChainRow.plainKeys==Tryz.checked.prog.plainKeys)&&Rows.fnOneChainRow.shortTexts.isNone)=true:=by kernel_rfl
theorem aLs:Tryz.checked.prog.stopsHeard=true:=by kernel_rfl
theorem aKC:Tryz.checked.prog.mayEnter=true:=by kernel_rfl
theorem aLt:(Rows.fnOneChainRow.lifted==Tryz.checked.prog.liftsFinal)=true:=by kernel_rfl
theorem aLu:((Tryz.checked.prog.make==some Rows.fnOneChainRow.make)&&(Rows.fnOneChainRow.kinds==(if Rows.fnOneChainRow.domain.isEmpty then [] else Tryz.f5.params.toList.map fun t=>match Tryz.checked.prog.underlying t with|some (.int k)=>some k|_=>none))&&(Rows.fnOneChainRow.pinned==Rows.fnOneChainRow.pinnedBy))=true:=by kernel_rfl
theorem aKD:((Rows.fnOneChainRow.veiled==(Tryz.f5.params.toList++Rows.fnOneChainSpec.plain.varTypes Tryz.checked.prog++Tryz.f5.resultTypes.toList).any (Tryz.checked.prog.veiledRec ·))&&Rows.fnOneChainRow.veiledFits Tryz.checked.prog Tryz.f5.params.toList (Tryz.f5.params.toList++Rows.fnOneChainSpec.plain.varTypes Tryz.checked.prog++Tryz.f5.resultTypes.toList))=true:=by kernel_rfl
theorem aHZ:Tryz.checked.prog.funcNamed Rows.fnOneChainRow.func=some 5:=by kernel_rfl
theorem aKE : Tryz.checked.prog.mainIs = some (true, ("4f0733a9e96f0630058d23d996673df6c32bf30a48005063c0bdd050cbeb4ba9" : String).toList) := by kernel_rfl
theorem aKF:false=Tryz.checked.prog.looks []:=by kernel_rfl
theorem aKG:false=Rows.fnOneChainRow.goesBy Tryz.checked.prog:=Go.Am.Tryz.aAq (by kernel_rfl) _
theorem aKH:Rows.fnOneChainRow.wfByText (OpenSpec.ofChange Rows.fnOneChainSpec)=true:=by kernel_rfl
theorem aKI:(Tryz.f5.params.toList.all fun u=> !Tryz.prog.wantsStandIn u)=true:=by kernel_rfl
theorem aKJ:Tryz.f5.isInstance Tryz.checked.prog Rows.fnOneChainRow.origin Rows.fnOneChainRow.targs:=of_decide_eq_true (by kernel_rfl)
theorem aKK:Tryz.f5.isWrapper Tryz.checked.prog Rows.fnOneChainRow.wrapper Rows.fnOneChainRow.mainSum:=by unfold Func.isWrapper;first|(rw[if_pos (by decide +kernel)];kernel_rfl)|(rw[if_neg (by decide +kernel)];exact⟨rfl,rfl⟩)
theorem arG:Rows.FnOneChainSaid :=
 OpenClaim.holds_of_wide 5 Tryz.f5 rfl rfl rfl rfl rfl rfl rfl ⟨rfl,rfl,rfl,rfl,rfl⟩ rfl rfl rfl rfl rfl aHZ Tryz.func5 (Go.Am.arF aLl aLm aLn aLo aLp aLq aLr aLs aKC aLt aLu aKD)
  aKJ aKK
  (fun os aJA H enc _=>aCG os aJA H enc)
theorem FnOneChain_card:Rows.FnOneChainCardSaid :=
 Claim7.holds_tied_plain_at .later [] [.data, .data, .data, .data, .pinned] true (true, "4f0733a9e96f0630058d23d996673df6c32bf30a48005063c0bdd050cbeb4ba9") false
  arG (fun _ h=>by cases h) aKH (fun _ h=>by cases h) fnOneChain_row_tie rfl ⟨rfl,rfl⟩ aKE rfl
  (fun f fn a b=>by
   obtain rfl:f=5:=Option.some.inj (aHZ.symm.trans a) |>.symm
   obtain rfl:fn=Tryz.f5:=(Option.some.inj (Tryz.func5.symm.trans b)).symm
   exact⟨aKF,fun e t c=>by
    have d:t∈Tryz.f5.params.toList:=by simpa using Array.mem_of_getElem? c
    exact(show Tryz.prog.wantsStandIn t=false by simpa using List.all_eq_true.1 aKI t d)⟩)
  aKG
end Go.Proofs.YtnllfndlcahalaaGreatDoor
