/- FnEachMoment holds: for every input the law returns true, and the input reads as it did; the tables that it reads are tied to the program's text. No condition. -/
import Derived.Test.YtaheoongenkdbaaGreatDoorTie
import Derived.Test.YtaheoongenkdbaaGreatDoorCards
import Derived.Test.YtaheoongenkdbaaGreatDoorQeXLawEach
import Derived.Test.YtaheoongenkdbaaGreatDoorQeAmHand
import Derived.Test.YtaheoongenkdbaaGreatDoorQeAmFacts
import Derived.ProofKit
import Derived.LaidMore
import Derived.Lay
import Derived.OpenShut
import Derived.Stop.Joined
import Derived.Stop.LaidErr
import Derived.SevenTiedAt
set_option linter.all false
set_option maxRecDepth 100000
namespace Go.Am.Tryz
open Go.Am Go.Proofs
def avP:List (Ty×Bool):=[(.sl 5 (.int .u8),false)]
noncomputable def aHV:Con:=⟨avP,[(.bool,false)],1,fun x=>pq F0 x.1⟩
theorem aFU:arw Tryz.prog TB 4 aHV:=Wl
theorem aIE {n:Int}(h:(Lit.int .i64 n).wf=true):I64 n:=by
 have a:IntKind.i64.min=-9223372036854775808:=rfl
 have b:IntKind.i64.max=9223372036854775807:=rfl
 simp only[Lit.wf,Bool.and_eq_true,decide_eq_true_eq,a,b]at h
 exact h
theorem aHx {n:Int}(h:(Lit.int .u8 n).wf=true):0<=n/\n<=255:=by
 have a:IntKind.u8.min=0:=rfl
 have b:IntKind.u8.max=255:=rfl
 simp only[Lit.wf,Bool.and_eq_true,decide_eq_true_eq,a,b]at h
 exact h
theorem abV {a:List Int}(h:a.length<=maxLen/\∀x∈a,Wf (.int .u8) x):∀x∈a,0<=x/\x<=255:=fun x b=>aHx (h.2 x b)
theorem aJL {a:List Int}(h:∀x∈a,Wf (.int .i64) x):∀x∈a,I64 x:=fun x b=>aIE (h x b)
theorem aDA {P:Go.Program}(h:P.funcs.toList.any Go.Func.goes=false)(f:FuncId):P.goes f=false:=by
 have a:∀g:Nat,(P.funcs[g]?).any Go.Func.goes=false:=by
  intro g
  cases e:P.funcs[g]? with
  |none=>rfl
  |some fn =>
   rw[<-Array.getElem?_toList]at e
   have:=List.any_eq_false.1 h fn (List.mem_of_getElem? e)
   simpa using this
 have b:P.funcs.any Go.Func.goes=false:=by rw[<-Array.any_toList];exact h
 unfold Go.Program.goes
 rw[b,Bool.and_false,Bool.or_false]
 simp only[a]
 simp
theorem ays {P:Go.Program}(h:P.funcs.toList.any Go.Func.goes=false)(c:Go.OpenClaim):false=c.goesBy P:=by
 unfold Go.OpenClaim.goesBy Go.Program.goesAt Go.Program.goesFrom
 have e:P.goes=fun _=>false:=funext (aDA h)
 rw[e]
 cases P.funcNamed c.func<;>cases c.start<;>simp
theorem aFV (x:Args avP)(_:azb avP x):aHV.g x=some (true,()):=aeG x.1
end Go.Am.Tryz
namespace Go.Proofs.YtaheoongenkdbaaGreatDoor
open Go.ChangeShapes Go.WideShapes Go.ChangeAt Go.RowKit
theorem Tryz.own:ownKnob Tryz.prog.godebug=none:=by kernel_rfl
theorem Tryz.laidOut:laidOutB Tryz.prog=true:=by kernel_rfl
theorem aIF {W:World}(hs:W.ShapedOpen Tryz.prog)(h:laidMetH Tryz.prog Rows.fnEachMomentRow.laid W):Go.Am.Tryz.TB.p W:=by
 refine⟨?_,Tryz.aEn.s1_3 W hs⟩
 rw[MakeChecks.laidMetH_plain _ _ _ (by kernel_rfl)]at h
 have a : laidMet Tryz.prog (("internal/strconv.uint64pow10", Lib.tabData .u64 Lib.pow10Tab) :: Rows.fnEachMomentRow.laid.drop 3) W := laidMet.tail (laidMet.tail (h))
 exact Lib.tabIs_of_head (g:=3) (t:=297) (e:=278) (n:=20) (by kernel_rfl) (by kernel_rfl) (by kernel_rfl) (by kernel_rfl) (by kernel_rfl) (by kernel_rfl) a
set_option maxRecDepth 100000 in
theorem aAy (os:Os)(N:os.Started)(H:Type)(enc:TypeId×Value->H) :
  ReturnsInHanded {} Tryz.checked os 4 .any (fun w args=>(Rows.fnEachMomentSpec.pre enc Tryz.prog Tryz.f4 [] false w args/\laidMetH Tryz.prog Rows.fnEachMomentRow.laid w)/\sizedMet enc Tryz.prog Tryz.f4 (OpenSpec.ofChange Rows.fnEachMomentSpec) false w args)
   (Rows.fnEachMomentSpec.post enc Tryz.prog Tryz.f4 false true false false):=by
 refine Go.Am.ahb (C:=Tryz.checked) (X:=fun w _=>laidMetH Tryz.prog Rows.fnEachMomentRow.laid w) (fun _ _ _ k h=>h.of_heap k) Tryz.own N (by kernel_rfl) Tryz.func4
  (ChangeSpec.witness_shaped (enc:=enc) (C:=Tryz.checked) (os:=os) (X:=fun w _=>laidMetH Tryz.prog Rows.fnEachMomentRow.laid w) false (World.laidAll Tryz.prog os Rows.fnEachMomentRow.laid) #[.slice none 0 0] 8 (World.laidAll_os _ _ _)
   (World.shaped_of_ZipB (by kernel_rfl) (by kernel_rfl)) (by kernel_rfl) (by kernel_rfl) (by kernel_rfl)
   (by rw[MakeChecks.laidMetH_plain _ _ _ (by kernel_rfl)];exact laidMet_laidAll _ (by kernel_rfl) (by kernel_rfl))) ?_
 intro W aEf args c gs aKl l m g n
 have o:∀(a:Nat) t v,Tryz.f4.params.toList[a]?=some t->args.toList[a]?=some v->Value.okWide Tryz.prog W .any aEf t v:=fun a t v d f=>m a t v (by simpa using d) (by simpa using f)
 obtain⟨p,q,i,r,_⟩:=id g
 have s:Go.Am.aA1 Tryz.prog Tryz.f4.params.toList=some Go.Am.Tryz.avP:=by kernel_rfl
 obtain⟨x,u,y⟩:=Go.Am.arM s o i
 have z:=Go.Am.Tryz.aFV x y
 have j:=Go.Am.Tryz.aFU.2 x (true,()) z W (aIF l n) _ args.toList u
 rw[Array.toArray_toList]at j
 refine j.mono fun e O A=>?_
 obtain⟨us,rfl,B,D⟩:=A
 have E:us=[.bool true]:=by
  obtain⟨v,F,rfl,⟨cs,d,f⟩,G⟩:=(show Go.Am.dS _ _ [(.bool,false)] (true,()) us from B)
  rw[show F=[] from G,f,show cs=[.bool true] from d]
  rfl
 subst E
 have I:∃b,c=[b]:=by
  have K:=Go.Am.ahA i
  have L:c.length=1:=K.trans (by kernel_rfl)
  match c,L with
  |[b],_=>exact⟨b,rfl⟩
 have M:gs=[]:=by
  cases gs with
  |nil=>rfl
  |cons _ _=>exact r.elim
 obtain⟨b,rfl⟩:=I
 subst M
 exact⟨_,rfl,Go.Am.aEh Tryz.laidOut rfl (by kernel_rfl) (tb:=4) (by kernel_rfl) Tryz.underlying4 g D rfl⟩
theorem aJv:(Rows.fnEachMomentRow.wf (OpenSpec.ofChange Rows.fnEachMomentSpec)&&laidOutB Tryz.checked.prog&&mapsRowed Tryz.checked.prog&&Tryz.f4.params.all (Tryz.checked.prog.readableRec ·)&&namedTie Tryz.checked.prog Rows.fnEachMomentRow.named Rows.fnEachMomentSpec.vars&&(Rows.fnEachMomentRow.stops==[])&&(Tryz.checked.prog.stops==[])&&(Rows.fnEachMomentRow.knobs==[])&&(Tryz.checked.prog.stopKnobs==[]))=true:=by kernel_rfl
theorem aJw:(Rows.fnEachMomentRow.inPlace==Tryz.checked.prog.inPlace 4)=true:=by kernel_rfl
theorem aJx:(Rows.fnEachMomentRow.unfollowed==Tryz.checked.prog.unfollowed 4)=true:=by kernel_rfl
theorem aJy:(Rows.fnEachMomentRow.recurses==Tryz.checked.prog.recurses 4)=true:=by kernel_rfl
theorem aJz:(Rows.fnEachMomentRow.named==Tryz.checked.prog.varsNamed 4)=true:=by kernel_rfl
theorem aJA:((Rows.fnEachMomentRow.maps==(Tryz.f4.params.toList++Rows.fnEachMomentSpec.plain.varTypes Tryz.checked.prog).any (Tryz.checked.prog.mapsRec ·))&&(Rows.fnEachMomentRow.ifaces==(Tryz.f4.params.toList++Rows.fnEachMomentSpec.plain.varTypes Tryz.checked.prog).any (Tryz.checked.prog.ifacesRec ·))&&(Rows.fnEachMomentRow.mapsOut==Tryz.checked.prog.mapsAmong Tryz.f4.resultTypes.toList)&&(Rows.fnEachMomentRow.loops==(Tryz.f4.params.toList++Rows.fnEachMomentSpec.plain.varTypes Tryz.checked.prog).any (Tryz.checked.prog.loopsFrom ·))&&(Rows.fnEachMomentRow.wideKeys==(Tryz.f4.params.toList++Rows.fnEachMomentSpec.plain.varTypes Tryz.checked.prog++Tryz.f4.resultTypes.toList).any (Tryz.checked.prog.wideKeysFrom ·)))=true:=by kernel_rfl
theorem aJB:(Rows.fnEachMomentSpec.vars.all (Tryz.checked.prog.varReadable ·)&&Tryz.f4.resultTypes.all (fun t=>Tryz.checked.prog.readableRec t&&decide (t<Tryz.checked.prog.types.size))&&(Rows.fnEachMomentRow.ifacesOut==Tryz.f4.resultTypes.toList.any (Tryz.checked.prog.ifacesRec ·))&&(Rows.fnEachMomentRow.loopsOut==Tryz.f4.resultTypes.toList.any (Tryz.checked.prog.loopsFrom ·))&&(Rows.fnEachMomentRow.plainKeys==Tryz.checked.prog.plainKeys)&&Rows.fnEachMomentRow.shortTexts.isNone)=true:=by kernel_rfl
theorem aJC:Tryz.checked.prog.stopsHeard=true:=by kernel_rfl
theorem aIG:Tryz.checked.prog.mayEnter=true:=by kernel_rfl
theorem aJD:(Rows.fnEachMomentRow.lifted==Tryz.checked.prog.liftsFinal)=true:=by kernel_rfl
theorem aJE:((Tryz.checked.prog.make==some Rows.fnEachMomentRow.make)&&(Rows.fnEachMomentRow.kinds==(if Rows.fnEachMomentRow.domain.isEmpty then [] else Tryz.f4.params.toList.map fun t=>match Tryz.checked.prog.underlying t with|some (.int k)=>some k|_=>none))&&(Rows.fnEachMomentRow.pinned==Rows.fnEachMomentRow.pinnedBy))=true:=by kernel_rfl
theorem aIH:((Rows.fnEachMomentRow.veiled==(Tryz.f4.params.toList++Rows.fnEachMomentSpec.plain.varTypes Tryz.checked.prog++Tryz.f4.resultTypes.toList).any (Tryz.checked.prog.veiledRec ·))&&Rows.fnEachMomentRow.veiledFits Tryz.checked.prog Tryz.f4.params.toList (Tryz.f4.params.toList++Rows.fnEachMomentSpec.plain.varTypes Tryz.checked.prog++Tryz.f4.resultTypes.toList))=true:=by kernel_rfl
theorem aFW:Tryz.checked.prog.funcNamed Rows.fnEachMomentRow.func=some 4:=by kernel_rfl
theorem aII : Tryz.checked.prog.mainIs = some (true, ("74f3fee72e0f7b80d4b7e723e10df3854df865ca88326b134cfafa05ce881808" : String).toList) := by kernel_rfl
theorem aIJ:false=Tryz.checked.prog.looks []:=by kernel_rfl
theorem aIK:false=Rows.fnEachMomentRow.goesBy Tryz.checked.prog:=Go.Am.Tryz.ays (by kernel_rfl) _
theorem aIL:Rows.fnEachMomentRow.wfByText (OpenSpec.ofChange Rows.fnEachMomentSpec)=true:=by kernel_rfl
theorem aIM:(Tryz.f4.params.toList.all fun u=> !Tryz.prog.wantsStandIn u)=true:=by kernel_rfl
theorem aIN:Tryz.f4.isInstance Tryz.checked.prog Rows.fnEachMomentRow.origin Rows.fnEachMomentRow.targs:=of_decide_eq_true (by kernel_rfl)
theorem aIO:Tryz.f4.isWrapper Tryz.checked.prog Rows.fnEachMomentRow.wrapper Rows.fnEachMomentRow.mainSum:=by unfold Func.isWrapper;first|(rw[if_pos (by decide +kernel)];kernel_rfl)|(rw[if_neg (by decide +kernel)];exact⟨rfl,rfl⟩)
theorem ahc:Rows.FnEachMomentSaid :=
 OpenClaim.holds_of_wide 4 Tryz.f4 rfl rfl rfl rfl rfl rfl rfl ⟨rfl,rfl,rfl,rfl,rfl⟩ rfl rfl rfl rfl rfl aFW Tryz.func4 (Go.Am.apR aJv aJw aJx aJy aJz aJA aJB aJC aIG aJD aJE aIH)
  aIN aIO
  (fun os aHy H enc _=>aAy os aHy H enc)
theorem FnEachMoment_card:Rows.FnEachMomentCardSaid :=
 Claim7.holds_tied_plain_at .later [] [.data, .data, .data, .data, .pinned] true (true, "74f3fee72e0f7b80d4b7e723e10df3854df865ca88326b134cfafa05ce881808") false
  ahc (fun _ h=>by cases h) aIL (fun _ h=>by cases h) fnEachMoment_row_tie rfl ⟨rfl,rfl⟩ aII rfl
  (fun f fn a b=>by
   obtain rfl:f=4:=Option.some.inj (aFW.symm.trans a) |>.symm
   obtain rfl:fn=Tryz.f4:=(Option.some.inj (Tryz.func4.symm.trans b)).symm
   exact⟨aIJ,fun e t c=>by
    have d:t∈Tryz.f4.params.toList:=by simpa using Array.mem_of_getElem? c
    exact(show Tryz.prog.wantsStandIn t=false by simpa using List.all_eq_true.1 aIM t d)⟩)
  aIK
end Go.Proofs.YtaheoongenkdbaaGreatDoor
