/- FnShown holds: for every input the law returns true, and the input reads as it did; the tables that it reads are tied to the program's text. No condition. -/
import Derived.Test.YtpkabclplaibaaaGreatDoorTie
import Derived.Test.YtpkabclplaibaaaGreatDoorCards
import Derived.Test.YtpkabclplaibaaaGreatDoorQhYLawShown
import Derived.Test.YtpkabclplaibaaaGreatDoorQhAmHand
import Derived.Test.YtpkabclplaibaaaGreatDoorQhAmFacts
import Derived.ProofKit
import Derived.LaidMore
import Derived.Lay
import Derived.OpenShut
import Derived.Stop.Joined
import Derived.Stop.LaidErr
import Derived.SevenTiedAt
set_option linter.all false
set_option maxRecDepth 100000
namespace Go.Am.Tryz
open Go.Am Go.Proofs
def ad5:List (Ty×Bool):=[(.sl 5 (.int .u8),false)]
noncomputable def apA:Con:=⟨ad5,[(.bool,false)],1,fun x=>A9 F0 x.1⟩
theorem anz:Wz Tryz.prog TB 3 apA:=Vx
theorem aqo {n:Int}(h:(Lit.int .i64 n).wf=true):pg n:=by
 have a:IntKind.i64.min=-9223372036854775808:=rfl
 have b:IntKind.i64.max=9223372036854775807:=rfl
 simp only[Lit.wf,Bool.and_eq_true,decide_eq_true_eq,a,b]at h
 exact h
theorem aoU {n:Int}(h:(Lit.int .u8 n).wf=true):0<=n/\n<=255:=by
 have a:IntKind.u8.min=0:=rfl
 have b:IntKind.u8.max=255:=rfl
 simp only[Lit.wf,Bool.and_eq_true,decide_eq_true_eq,a,b]at h
 exact h
theorem PD {a:List Int}(h:a.length<=maxLen/\∀x∈a,Wf (.int .u8) x):∀x∈a,0<=x/\x<=255:=fun x b=>aoU (h.2 x b)
theorem arx {a:List Int}(h:∀x∈a,Wf (.int .i64) x):∀x∈a,pg x:=fun x b=>aqo (h x b)
theorem ald {P:Go.Program}(h:P.funcs.toList.any Go.Func.goes=false)(f:FuncId):P.goes f=false:=by
 have a:∀g:Nat,(P.funcs[g]?).any Go.Func.goes=false:=by
  intro g
  cases e:P.funcs[g]? with
  |none=>rfl
  |some fn =>
   rw[<-Array.getElem?_toList]at e
   have:=List.any_eq_false.1 h fn (List.mem_of_getElem? e)
   simpa using this
 have b:P.funcs.any Go.Func.goes=false:=by rw[<-Array.any_toList];exact h
 unfold Go.Program.goes
 rw[b,Bool.and_false,Bool.or_false]
 simp only[a]
 simp
theorem agA {P:Go.Program}(h:P.funcs.toList.any Go.Func.goes=false)(c:Go.OpenClaim):false=c.goesBy P:=by
 unfold Go.OpenClaim.goesBy Go.Program.goesAt Go.Program.goesFrom
 have e:P.goes=fun _=>false:=funext (ald h)
 rw[e]
 cases P.funcNamed c.func<;>cases c.start<;>simp
theorem anA (x:Args ad5)(_:acP ad5 x):apA.g x=some (true,()):=ad4 x.1
end Go.Am.Tryz
namespace Go.Proofs.YtpkabclplaibaaaGreatDoor
open Go.ChangeShapes Go.WideShapes Go.ChangeAt Go.RowKit
theorem Tryz.own:ownKnob Tryz.prog.godebug=none:=by kernel_rfl
theorem Tryz.laidOut:laidOutB Tryz.prog=true:=by kernel_rfl
theorem aqp {W:World}(a:W.ShapedOpen Tryz.prog)(h:laidMetH Tryz.prog Rows.fnShownRow.laid W):Go.Am.Tryz.TB.p W:=by
 refine⟨?_,Tryz.al8.s1_3 W a⟩
 rw[MakeChecks.laidMetH_plain _ _ _ (by kernel_rfl)]at h
 have b : laidMet Tryz.prog (("internal/strconv.uint64pow10", Lib.tabData .u64 Lib.pow10Tab) :: Rows.fnShownRow.laid.drop 3) W := laidMet.tail (laidMet.tail (h))
 exact Lib.tabIs_of_head (g:=1) (t:=292) (e:=275) (n:=20) (by kernel_rfl) (by kernel_rfl) (by kernel_rfl) (by kernel_rfl) (by kernel_rfl) (by kernel_rfl) b
set_option maxRecDepth 100000 in
theorem aiC (os:Os)(N:os.Started)(H:Type)(enc:TypeId×Value->H) :
  ReturnsInHanded {} Tryz.checked os 3 .any (fun w args=>(Rows.fnShownSpec.pre enc Tryz.prog Tryz.f3 [] false w args/\laidMetH Tryz.prog Rows.fnShownRow.laid w)/\sizedMet enc Tryz.prog Tryz.f3 (OpenSpec.ofChange Rows.fnShownSpec) false w args)
   (Rows.fnShownSpec.post enc Tryz.prog Tryz.f3 false true false false):=by
 refine Go.Am.Ta (C:=Tryz.checked) (X:=fun w _=>laidMetH Tryz.prog Rows.fnShownRow.laid w) (fun _ _ _ k h=>h.of_heap k) Tryz.own N (by kernel_rfl) Tryz.func3
  (ChangeSpec.witness_shaped (enc:=enc) (C:=Tryz.checked) (os:=os) (X:=fun w _=>laidMetH Tryz.prog Rows.fnShownRow.laid w) false (World.laidAll Tryz.prog os Rows.fnShownRow.laid) #[.slice none 0 0] 8 (World.laidAll_os _ _ _)
   (World.shaped_of_ZipB (by kernel_rfl) (by kernel_rfl)) (by kernel_rfl) (by kernel_rfl) (by kernel_rfl)
   (by rw[MakeChecks.laidMetH_plain _ _ _ (by kernel_rfl)];exact laidMet_laidAll _ (by kernel_rfl) (by kernel_rfl))) ?_
 intro W al0 args c gs asd l m g n
 have o:∀(a:Nat) t v,Tryz.f3.params.toList[a]?=some t->args.toList[a]?=some v->Value.okWide Tryz.prog W .any al0 t v:=fun a t v d f=>m a t v (by simpa using d) (by simpa using f)
 obtain⟨p,q,i,r,_⟩:=id g
 have s:Go.Am.aeK Tryz.prog Tryz.f3.params.toList=some Go.Am.Tryz.ad5:=by kernel_rfl
 obtain⟨x,u,y⟩:=Go.Am.akv s o i
 have z:=Go.Am.Tryz.anA x y
 have j:=Go.Am.al4 Go.Am.Tryz.anz z (aqp l n) u
 rw[Array.toArray_toList]at j
 refine j.mono fun e O A=>?_
 obtain⟨us,rfl,B,D⟩:=A
 have E:us=[.bool true]:=by
  obtain⟨v,F,rfl,⟨cs,d,f⟩,G⟩:=(show @Go.Am.cT (Go.Am.ds.of W.heap.size) _ _ [(.bool,false)] (true,()) us from B)
  rw[show F=[] from G,f,show cs=[.bool true] from d]
  rfl
 subst E
 have I:∃b,c=[b]:=by
  have K:=Go.Am.TA i
  have L:c.length=1:=K.trans (by kernel_rfl)
  match c,L with
  |[b],_=>exact⟨b,rfl⟩
 have M:gs=[]:=by
  cases gs with
  |nil=>rfl
  |cons _ _=>exact r.elim
 obtain⟨b,rfl⟩:=I
 subst M
 exact⟨_,rfl,Go.Am.al2 Tryz.laidOut rfl (by kernel_rfl) (tb:=4) (by kernel_rfl) Tryz.underlying4 g D rfl⟩
theorem arf:(Rows.fnShownRow.wf (OpenSpec.ofChange Rows.fnShownSpec)&&laidOutB Tryz.checked.prog&&mapsRowed Tryz.checked.prog&&Tryz.f3.params.all (Tryz.checked.prog.readableRec ·)&&namedTie Tryz.checked.prog Rows.fnShownRow.named Rows.fnShownSpec.vars&&(Rows.fnShownRow.stops==[])&&(Tryz.checked.prog.stops==[])&&(Rows.fnShownRow.knobs==[])&&(Tryz.checked.prog.stopKnobs==[]))=true:=by kernel_rfl
theorem arh:(Rows.fnShownRow.inPlace==Tryz.checked.prog.inPlace 3)=true:=by kernel_rfl
theorem ari:(Rows.fnShownRow.unfollowed==Tryz.checked.prog.unfollowed 3)=true:=by kernel_rfl
theorem arj:(Rows.fnShownRow.recurses==Tryz.checked.prog.recurses 3)=true:=by kernel_rfl
theorem ark:(Rows.fnShownRow.named==Tryz.checked.prog.varsNamed 3)=true:=by kernel_rfl
theorem arl:((Rows.fnShownRow.maps==(Tryz.f3.params.toList++Rows.fnShownSpec.plain.varTypes Tryz.checked.prog).any (Tryz.checked.prog.mapsRec ·))&&(Rows.fnShownRow.ifaces==(Tryz.f3.params.toList++Rows.fnShownSpec.plain.varTypes Tryz.checked.prog).any (Tryz.checked.prog.ifacesRec ·))&&(Rows.fnShownRow.mapsOut==Tryz.checked.prog.mapsAmong Tryz.f3.resultTypes.toList)&&(Rows.fnShownRow.loops==(Tryz.f3.params.toList++Rows.fnShownSpec.plain.varTypes Tryz.checked.prog).any (Tryz.checked.prog.loopsFrom ·))&&(Rows.fnShownRow.wideKeys==(Tryz.f3.params.toList++Rows.fnShownSpec.plain.varTypes Tryz.checked.prog++Tryz.f3.resultTypes.toList).any (Tryz.checked.prog.wideKeysFrom ·)))=true:=by kernel_rfl
theorem arn:(Rows.fnShownSpec.vars.all (Tryz.checked.prog.varReadable ·)&&Tryz.f3.resultTypes.all (fun t=>Tryz.checked.prog.readableRec t&&decide (t<Tryz.checked.prog.types.size))&&(Rows.fnShownRow.ifacesOut==Tryz.f3.resultTypes.toList.any (Tryz.checked.prog.ifacesRec ·))&&(Rows.fnShownRow.loopsOut==Tryz.f3.resultTypes.toList.any (Tryz.checked.prog.loopsFrom ·))&&(Rows.fnShownRow.plainKeys==Tryz.checked.prog.plainKeys)&&Rows.fnShownRow.shortTexts.isNone)=true:=by kernel_rfl
theorem aro:Tryz.checked.prog.stopsHeard=true:=by kernel_rfl
theorem aqq:Tryz.checked.prog.mayEnter=true:=by kernel_rfl
theorem arp:(Rows.fnShownRow.lifted==Tryz.checked.prog.liftsFinal)=true:=by kernel_rfl
theorem arq:((Tryz.checked.prog.make==some Rows.fnShownRow.make)&&(Rows.fnShownRow.kinds==(if Rows.fnShownRow.domain.isEmpty then [] else Tryz.f3.params.toList.map fun t=>match Tryz.checked.prog.underlying t with|some (.int k)=>some k|_=>none))&&(Rows.fnShownRow.pinned==Rows.fnShownRow.pinnedBy))=true:=by kernel_rfl
theorem aqr:((Rows.fnShownRow.veiled==(Tryz.f3.params.toList++Rows.fnShownSpec.plain.varTypes Tryz.checked.prog++Tryz.f3.resultTypes.toList).any (Tryz.checked.prog.veiledRec ·))&&Rows.fnShownRow.veiledFits Tryz.checked.prog Tryz.f3.params.toList (Tryz.f3.params.toList++Rows.fnShownSpec.plain.varTypes Tryz.checked.prog++Tryz.f3.resultTypes.toList))=true:=by kernel_rfl
theorem anB:Tryz.checked.prog.funcNamed Rows.fnShownRow.func=some 3:=by kernel_rfl
theorem aqs : Tryz.checked.prog.mainIs = some (true, ("f4baf30034b693a344bd2f1c99bca1e57b77a87f765c7d658e87c4d359cde80c" : String).toList) := by kernel_rfl
theorem aqt:false=Tryz.checked.prog.looks []:=by kernel_rfl
theorem aqu:false=Rows.fnShownRow.goesBy Tryz.checked.prog:=Go.Am.Tryz.agA (by kernel_rfl) _
theorem aqv:Rows.fnShownRow.wfByText (OpenSpec.ofChange Rows.fnShownSpec)=true:=by kernel_rfl
theorem aqw:(Tryz.f3.params.toList.all fun u=> !Tryz.prog.wantsStandIn u)=true:=by kernel_rfl
theorem aqx:Tryz.f3.isInstance Tryz.checked.prog Rows.fnShownRow.origin Rows.fnShownRow.targs:=of_decide_eq_true (by kernel_rfl)
theorem aqy:Tryz.f3.isWrapper Tryz.checked.prog Rows.fnShownRow.wrapper Rows.fnShownRow.mainSum:=by unfold Func.isWrapper;first|(rw[if_pos (by decide +kernel)];kernel_rfl)|(rw[if_neg (by decide +kernel)];exact⟨rfl,rfl⟩)
theorem agB:Rows.FnShownSaid :=
 OpenClaim.holds_of_wide 3 Tryz.f3 rfl rfl rfl rfl rfl rfl rfl ⟨rfl,rfl,rfl,rfl,rfl⟩ rfl rfl rfl rfl rfl anB Tryz.func3 (Go.Am.ZH arf arh ari arj ark arl arn aro aqq arp arq aqr)
  aqx aqy
  (fun os aoV H enc _=>aiC os aoV H enc)
theorem FnShown_card:Rows.FnShownCardSaid :=
 Claim7.holds_tied_plain_at .later [] [.data, .data, .data, .data, .pinned] true (true, "f4baf30034b693a344bd2f1c99bca1e57b77a87f765c7d658e87c4d359cde80c") false
  agB (fun _ h=>by cases h) aqv (fun _ h=>by cases h) fnShown_row_tie rfl ⟨rfl,rfl⟩ aqs rfl
  (fun f fn a b=>by
   obtain rfl:f=3:=Option.some.inj (anB.symm.trans a) |>.symm
   obtain rfl:fn=Tryz.f3:=(Option.some.inj (Tryz.func3.symm.trans b)).symm
   exact⟨aqt,fun e t c=>by
    have d:t∈Tryz.f3.params.toList:=by simpa using Array.mem_of_getElem? c
    exact(show Tryz.prog.wantsStandIn t=false by simpa using List.all_eq_true.1 aqw t d)⟩)
  aqu
end Go.Proofs.YtpkabclplaibaaaGreatDoor
