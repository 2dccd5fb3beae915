/- No condition. -/
import Derived.JoinedOf
set_option linter.all false
namespace Go.Am
open Go
def ZH {P:Program}{f:FuncId}{a:Func}{s:ChangeSpec}{c:OpenClaim}
  (d:(c.wf (OpenSpec.ofChange s)&&laidOutB P&&mapsRowed P&&a.params.all (P.readableRec ·)&&namedTie P c.named s.vars&&(c.stops==[])&&(P.stops==[])&&(c.knobs==[])&&(P.stopKnobs==[]))=true)
  (i:(c.inPlace==P.inPlace f)=true) (j:(c.unfollowed==P.unfollowed f)=true) (l:(c.recurses==P.recurses f)=true) (m:(c.named==P.varsNamed f)=true)
  (e:((c.maps==(a.params.toList++s.plain.varTypes P).any (P.mapsRec ·))&&(c.ifaces==(a.params.toList++s.plain.varTypes P).any (P.ifacesRec ·))&&(c.mapsOut==P.mapsAmong a.resultTypes.toList)&&(c.loops==(a.params.toList++s.plain.varTypes P).any (P.loopsFrom ·))&&(c.wideKeys==(a.params.toList++s.plain.varTypes P++a.resultTypes.toList).any (P.wideKeysFrom ·)))=true)
  (g:(s.vars.all (P.varReadable ·)&&a.resultTypes.all (fun t=>P.readableRec t&&decide (t<P.types.size))&&(c.ifacesOut==a.resultTypes.toList.any (P.ifacesRec ·))&&(c.loopsOut==a.resultTypes.toList.any (P.loopsFrom ·))&&(c.plainKeys==P.plainKeys)&&c.shortTexts.isNone)=true)
  (n:P.stopsHeard=true) (o:P.mayEnter=true) (p:(c.lifted==P.liftsFinal)=true)
  (h:((P.make==some c.make)&&(c.kinds==(if c.domain.isEmpty then [] else a.params.toList.map fun t=>match P.underlying t with|some (.int k)=>some k|_=>none))&&(c.pinned==c.pinnedBy))=true)
  (b:((c.veiled==(a.params.toList++s.plain.varTypes P++a.resultTypes.toList).any (P.veiledRec ·))&&c.veiledFits P a.params.toList (a.params.toList++s.plain.varTypes P++a.resultTypes.toList))=true):joinedFacts P f a s c=true:=by
 unfold joinedFacts
 simp only[Bool.and_eq_true]at d e g h b ⊢
 obtain⟨⟨⟨⟨⟨⟨⟨⟨q,r⟩,u⟩,v⟩,w⟩,x⟩,y⟩,z⟩,A⟩:=d
 obtain⟨⟨⟨⟨B,C⟩,D⟩,E⟩,F⟩:=e
 obtain⟨⟨⟨⟨⟨G,H⟩,I⟩,K⟩,L⟩,M⟩:=g
 obtain⟨⟨N,O⟩,Q⟩:=h
 exact⟨⟨⟨⟨⟨⟨⟨⟨⟨⟨⟨⟨⟨⟨⟨⟨⟨⟨⟨⟨⟨⟨⟨⟨⟨⟨⟨⟨⟨⟨⟨q,r⟩,u⟩,v⟩,w⟩,x⟩,y⟩,z⟩,A⟩,i⟩,j⟩,l⟩,m⟩,B⟩,C⟩,D⟩,E⟩,F⟩,G⟩,H⟩,I⟩,K⟩,L⟩,M⟩,n⟩,o⟩,p⟩,N⟩,O⟩,Q⟩,b.1⟩,b.2⟩
end Go.Am
