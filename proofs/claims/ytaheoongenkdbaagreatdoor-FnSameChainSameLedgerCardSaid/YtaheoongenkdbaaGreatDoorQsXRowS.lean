/- FnSameChainSameLedger holds: for every input the law returns true, and the input reads as it did; the tables that it reads are tied to the program's text. No condition. -/
import Derived.Test.YtaheoongenkdbaaGreatDoorTie
import Derived.Test.YtaheoongenkdbaaGreatDoorCards
import Derived.Test.YtaheoongenkdbaaGreatDoorQsXLawSameL
import Derived.Test.YtaheoongenkdbaaGreatDoorQsAmHand
import Derived.Test.YtaheoongenkdbaaGreatDoorQsAmFacts
import Derived.ProofKit
import Derived.LaidMore
import Derived.Lay
import Derived.OpenShut
import Derived.Stop.Joined
import Derived.Stop.LaidErr
import Derived.SevenTiedAt
set_option linter.all false
set_option maxRecDepth 100000
namespace Go.Am.Tryz
open Go.Am Go.Proofs
def ate:List (Ty×Bool):=[(.sl 5 (.int .u8),false)]
noncomputable def aD8:Con:=⟨ate,[(.bool,false)],1,fun x=>eY F0 x.1⟩
theorem aCs:apm Tryz.prog TB 3 aD8:=Ec
theorem aEJ {n:Int}(h:(Lit.int .i64 n).wf=true):I64 n:=by
 have a:IntKind.i64.min=-9223372036854775808:=rfl
 have b:IntKind.i64.max=9223372036854775807:=rfl
 simp only[Lit.wf,Bool.and_eq_true,decide_eq_true_eq,a,b]at h
 exact h
theorem aDK {n:Int}(h:(Lit.int .u8 n).wf=true):0<=n/\n<=255:=by
 have a:IntKind.u8.min=0:=rfl
 have b:IntKind.u8.max=255:=rfl
 simp only[Lit.wf,Bool.and_eq_true,decide_eq_true_eq,a,b]at h
 exact h
theorem aaB {a:List Int}(h:a.length<=maxLen/\∀x∈a,Wf (.int .u8) x):∀x∈a,0<=x/\x<=255:=fun x b=>aDK (h.2 x b)
theorem aFN {a:List Int}(h:∀x∈a,Wf (.int .i64) x):∀x∈a,I64 x:=fun x b=>aEJ (h x b)
theorem aAu {P:Go.Program}(h:P.funcs.toList.any Go.Func.goes=false)(f:FuncId):P.goes f=false:=by
 have a:∀g:Nat,(P.funcs[g]?).any Go.Func.goes=false:=by
  intro g
  cases e:P.funcs[g]? with
  |none=>rfl
  |some fn =>
   rw[<-Array.getElem?_toList]at e
   have:=List.any_eq_false.1 h fn (List.mem_of_getElem? e)
   simpa using this
 have b:P.funcs.any Go.Func.goes=false:=by rw[<-Array.any_toList];exact h
 unfold Go.Program.goes
 rw[b,Bool.and_false,Bool.or_false]
 simp only[a]
 simp
theorem avG {P:Go.Program}(h:P.funcs.toList.any Go.Func.goes=false)(c:Go.OpenClaim):false=c.goesBy P:=by
 unfold Go.OpenClaim.goesBy Go.Program.goesAt Go.Program.goesFrom
 have e:P.goes=fun _=>false:=funext (aAu h)
 rw[e]
 cases P.funcNamed c.func<;>cases c.start<;>simp
theorem aCt (x:Args ate)(_:awp ate x):aD8.g x=some (true,()):=J1 x.1
end Go.Am.Tryz
namespace Go.Proofs.YtaheoongenkdbaaGreatDoor
open Go.ChangeShapes Go.WideShapes Go.ChangeAt Go.RowKit
theorem Tryz.own:ownKnob Tryz.prog.godebug=none:=by kernel_rfl
theorem Tryz.laidOut:laidOutB Tryz.prog=true:=by kernel_rfl
theorem aEK {W:World}(a:W.ShapedOpen Tryz.prog)(h:laidMetH Tryz.prog Rows.fnSameChainSameLedgerRow.laid W):Go.Am.Tryz.TB.p W:=by
 refine⟨?_,Tryz.aBi.s1_3 W a⟩
 rw[MakeChecks.laidMetH_plain _ _ _ (by kernel_rfl)]at h
 have b : laidMet Tryz.prog (("internal/strconv.uint64pow10", Lib.tabData .u64 Lib.pow10Tab) :: Rows.fnSameChainSameLedgerRow.laid.drop 3) W := laidMet.tail (laidMet.tail (h))
 exact Lib.tabIs_of_head (g:=3) (t:=297) (e:=278) (n:=20) (by kernel_rfl) (by kernel_rfl) (by kernel_rfl) (by kernel_rfl) (by kernel_rfl) (by kernel_rfl) b
set_option maxRecDepth 100000 in
theorem axK (os:Os)(N:os.Started)(H:Type)(enc:TypeId×Value->H) :
  ReturnsInHanded {} Tryz.checked os 3 .any (fun w args=>(Rows.fnSameChainSameLedgerSpec.pre enc Tryz.prog Tryz.f3 [] false w args/\laidMetH Tryz.prog Rows.fnSameChainSameLedgerRow.laid w)/\sizedMet enc Tryz.prog Tryz.f3 (OpenSpec.ofChange Rows.fnSameChainSameLedgerSpec) false w args)
   (Rows.fnSameChainSameLedgerSpec.post enc Tryz.prog Tryz.f3 false true false false):=by
 refine Go.Am.afz (C:=Tryz.checked) (X:=fun w _=>laidMetH Tryz.prog Rows.fnSameChainSameLedgerRow.laid w) (fun _ _ _ k h=>h.of_heap k) Tryz.own N (by kernel_rfl) Tryz.func3
  (ChangeSpec.witness_shaped (enc:=enc) (C:=Tryz.checked) (os:=os) (X:=fun w _=>laidMetH Tryz.prog Rows.fnSameChainSameLedgerRow.laid w) false (World.laidAll Tryz.prog os Rows.fnSameChainSameLedgerRow.laid) #[.slice none 0 0] 8 (World.laidAll_os _ _ _)
   (World.shaped_of_ZipB (by kernel_rfl) (by kernel_rfl)) (by kernel_rfl) (by kernel_rfl) (by kernel_rfl)
   (by rw[MakeChecks.laidMetH_plain _ _ _ (by kernel_rfl)];exact laidMet_laidAll _ (by kernel_rfl) (by kernel_rfl))) ?_
 intro W aBa args c gs aGm l m g n
 have o:∀(a:Nat) t v,Tryz.f3.params.toList[a]?=some t->args.toList[a]?=some v->Value.okWide Tryz.prog W .any aBa t v:=fun a t v d f=>m a t v (by simpa using d) (by simpa using f)
 obtain⟨p,q,i,r,_⟩:=id g
 have s:Go.Am.ayd Tryz.prog Tryz.f3.params.toList=some Go.Am.Tryz.ate:=by kernel_rfl
 obtain⟨x,u,y⟩:=Go.Am.apD s o i
 have z:=Go.Am.Tryz.aCt x y
 have j:=Go.Am.Tryz.aCs.2 x (true,()) z W (aEK l n) _ args.toList u
 rw[Array.toArray_toList]at j
 refine j.mono fun e O A=>?_
 obtain⟨us,rfl,B,D⟩:=A
 have E:us=[.bool true]:=by
  obtain⟨v,F,rfl,⟨cs,d,f⟩,G⟩:=(show Go.Am.dP _ _ [(.bool,false)] (true,()) us from B)
  rw[show F=[] from G,f,show cs=[.bool true] from d]
  rfl
 subst E
 have I:∃b,c=[b]:=by
  have K:=Go.Am.afX i
  have L:c.length=1:=K.trans (by kernel_rfl)
  match c,L with
  |[b],_=>exact⟨b,rfl⟩
 have M:gs=[]:=by
  cases gs with
  |nil=>rfl
  |cons _ _=>exact r.elim
 obtain⟨b,rfl⟩:=I
 subst M
 exact⟨_,rfl,Go.Am.aBc Tryz.laidOut rfl (by kernel_rfl) (tb:=4) (by kernel_rfl) Tryz.underlying4 g D rfl⟩
theorem aFy:(Rows.fnSameChainSameLedgerRow.wf (OpenSpec.ofChange Rows.fnSameChainSameLedgerSpec)&&laidOutB Tryz.checked.prog&&mapsRowed Tryz.checked.prog&&Tryz.f3.params.all (Tryz.checked.prog.readableRec ·)&&namedTie Tryz.checked.prog Rows.fnSameChainSameLedgerRow.named Rows.fnSameChainSameLedgerSpec.vars&&(Rows.fnSameChainSameLedgerRow.stops==[])&&(Tryz.checked.prog.stops==[])&&(Rows.fnSameChainSameLedgerRow.knobs==[])&&(Tryz.checked.prog.stopKnobs==[]))=true:=by kernel_rfl
theorem aFz:(Rows.fnSameChainSameLedgerRow.inPlace==Tryz.checked.prog.inPlace 3)=true:=by kernel_rfl
theorem aFA:(Rows.fnSameChainSameLedgerRow.unfollowed==Tryz.checked.prog.unfollowed 3)=true:=by kernel_rfl
theorem aFB:(Rows.fnSameChainSameLedgerRow.recurses==Tryz.checked.prog.recurses 3)=true:=by kernel_rfl
theorem aFC:(Rows.fnSameChainSameLedgerRow.named==Tryz.checked.prog.varsNamed 3)=true:=by kernel_rfl
theorem aFD:((Rows.fnSameChainSameLedgerRow.maps==(Tryz.f3.params.toList++Rows.fnSameChainSameLedgerSpec.plain.varTypes Tryz.checked.prog).any (Tryz.checked.prog.mapsRec ·))&&(Rows.fnSameChainSameLedgerRow.ifaces==(Tryz.f3.params.toList++Rows.fnSameChainSameLedgerSpec.plain.varTypes Tryz.checked.prog).any (Tryz.checked.prog.ifacesRec ·))&&(Rows.fnSameChainSameLedgerRow.mapsOut==Tryz.checked.prog.mapsAmong Tryz.f3.resultTypes.toList)&&(Rows.fnSameChainSameLedgerRow.loops==(Tryz.f3.params.toList++Rows.fnSameChainSameLedgerSpec.plain.varTypes Tryz.checked.prog).any (Tryz.checked.prog.loopsFrom ·))&&(Rows.fnSameChainSameLedgerRow.wideKeys==(Tryz.f3.params.toList++Rows.fnSameChainSameLedgerSpec.plain.varTypes Tryz.checked.prog++Tryz.f3.resultTypes.toList).any (Tryz.checked.prog.wideKeysFrom ·)))=true:=by kernel_rfl
theorem aFE:(Rows.fnSameChainSameLedgerSpec.vars.all (Tryz.checked.prog.varReadable ·)&&Tryz.f3.resultTypes.all (fun t=>Tryz.checked.prog.readableRec t&&decide (t<Tryz.checked.prog.types.size))&&(Rows.fnSameChainSameLedgerRow.ifacesOut==Tryz.f3.resultTypes.toList.any (Tryz.checked.prog.ifacesRec ·))&&(Rows.fnSameChainSameLedgerRow.loopsOut==Tryz.f3.resultTypes.toList.any (Tryz.checked.prog.loopsFrom ·))&&(Rows.fnSameChainSameLedgerRow.plainKeys==Tryz.checked.prog.plainKeys)&&Rows.fnSameChainSameLedgerRow.shortTexts.isNone)=true:=by kernel_rfl
theorem aFF:Tryz.checked.prog.stopsHeard=true:=by kernel_rfl
theorem aEL:Tryz.checked.prog.mayEnter=true:=by kernel_rfl
theorem aFG:(Rows.fnSameChainSameLedgerRow.lifted==Tryz.checked.prog.liftsFinal)=true:=by kernel_rfl
theorem aFH:((Tryz.checked.prog.make==some Rows.fnSameChainSameLedgerRow.make)&&(Rows.fnSameChainSameLedgerRow.kinds==(if Rows.fnSameChainSameLedgerRow.domain.isEmpty then [] else Tryz.f3.params.toList.map fun t=>match Tryz.checked.prog.underlying t with|some (.int k)=>some k|_=>none))&&(Rows.fnSameChainSameLedgerRow.pinned==Rows.fnSameChainSameLedgerRow.pinnedBy))=true:=by kernel_rfl
theorem aEM:((Rows.fnSameChainSameLedgerRow.veiled==(Tryz.f3.params.toList++Rows.fnSameChainSameLedgerSpec.plain.varTypes Tryz.checked.prog++Tryz.f3.resultTypes.toList).any (Tryz.checked.prog.veiledRec ·))&&Rows.fnSameChainSameLedgerRow.veiledFits Tryz.checked.prog Tryz.f3.params.toList (Tryz.f3.params.toList++Rows.fnSameChainSameLedgerSpec.plain.varTypes Tryz.checked.prog++Tryz.f3.resultTypes.toList))=true:=by kernel_rfl
theorem aCu:Tryz.checked.prog.funcNamed Rows.fnSameChainSameLedgerRow.func=some 3:=by kernel_rfl
theorem aEN : Tryz.checked.prog.mainIs = some (true, ("74f3fee72e0f7b80d4b7e723e10df3854df865ca88326b134cfafa05ce881808" : String).toList) := by kernel_rfl
theorem aEO:false=Tryz.checked.prog.looks []:=by kernel_rfl
theorem aEP:false=Rows.fnSameChainSameLedgerRow.goesBy Tryz.checked.prog:=Go.Am.Tryz.avG (by kernel_rfl) _
theorem aEQ:Rows.fnSameChainSameLedgerRow.wfByText (OpenSpec.ofChange Rows.fnSameChainSameLedgerSpec)=true:=by kernel_rfl
theorem aER:(Tryz.f3.params.toList.all fun u=> !Tryz.prog.wantsStandIn u)=true:=by kernel_rfl
theorem aES:Tryz.f3.isInstance Tryz.checked.prog Rows.fnSameChainSameLedgerRow.origin Rows.fnSameChainSameLedgerRow.targs:=of_decide_eq_true (by kernel_rfl)
theorem aET:Tryz.f3.isWrapper Tryz.checked.prog Rows.fnSameChainSameLedgerRow.wrapper Rows.fnSameChainSameLedgerRow.mainSum:=by unfold Func.isWrapper;first|(rw[if_pos (by decide +kernel)];kernel_rfl)|(rw[if_neg (by decide +kernel)];exact⟨rfl,rfl⟩)
theorem J4:Rows.FnSameChainSameLedgerSaid :=
 OpenClaim.holds_of_wide 3 Tryz.f3 rfl rfl rfl rfl rfl rfl rfl ⟨rfl,rfl,rfl,rfl,rfl⟩ rfl rfl rfl rfl rfl aCu Tryz.func3 (Go.Am.anE aFy aFz aFA aFB aFC aFD aFE aFF aEL aFG aFH aEM)
  aES aET
  (fun os aDL H enc _=>axK os aDL H enc)
theorem FnSameChainSameLedger_card:Rows.FnSameChainSameLedgerCardSaid :=
 Claim7.holds_tied_plain_at .later [] [.data, .data, .data, .data, .pinned] true (true, "74f3fee72e0f7b80d4b7e723e10df3854df865ca88326b134cfafa05ce881808") false
  J4 (fun _ h=>by cases h) aEQ (fun _ h=>by cases h) fnSameChainSameLedger_row_tie rfl ⟨rfl,rfl⟩ aEN rfl
  (fun f fn a b=>by
   obtain rfl:f=3:=Option.some.inj (aCu.symm.trans a) |>.symm
   obtain rfl:fn=Tryz.f3:=(Option.some.inj (Tryz.func3.symm.trans b)).symm
   exact⟨aEO,fun e t c=>by
    have d:t∈Tryz.f3.params.toList:=by simpa using Array.mem_of_getElem? c
    exact(show Tryz.prog.wantsStandIn t=false by simpa using List.all_eq_true.1 aER t d)⟩)
  aEP
end Go.Proofs.YtaheoongenkdbaaGreatDoor
