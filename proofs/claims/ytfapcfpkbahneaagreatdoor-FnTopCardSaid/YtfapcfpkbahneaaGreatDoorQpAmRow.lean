/- No condition. -/
import Derived.Test.YtfapcfpkbahneaaGreatDoorQpAmOpen
set_option linter.all false
namespace Go.Am
open Go.RowKit Go.ChangeShapes Go.WideShapes
section
variable {H:Type} {enc:TypeId×Value->H} {P:Program}
def amj (P:Program)(ts:List TypeId):Bool:=ts.all fun t=>P.readableRec t&&Nat.blt t P.types.size
def Zo (hl:laidOutB P=true){W W':World}{sp':Nat->Bool}:∀{ts:List TypeId} {vs:List Value} {ds:List (DataW H)} {ps:List MemPlace},amj P ts=true ->
  DataW.TrodAll enc P W 0 (fun _=>true) true ts vs ds ps->(∀p∈ps,W.sameAt W' p)->(∀p∈ps,sp' p.block=true)->DataW.TrodAll enc P W' 0 sp' true ts vs ds ps
 |[],[],[],_,_,h,_,_=>h|t::ts,v::vs,d::ds,ps,dZ,h,hs,hp=>by
  obtain⟨p,q,h1,h2,rfl⟩:=h;simp only[amj,List.all_cons,aI]at dZ;obtain⟨⟨hr,hlt⟩,anB⟩:=dZ;exact⟨p,q,WideElems.Trod_stays hl hr (iD hlt) h1 (fun x hx=>hs x (by simp[hx])) (fun x hx=>hp x (by simp[hx])),
   Zo hl (ts:=ts) (by simpa [amj]using anB) h2 (fun x hx=>hs x (by simp[hx])) (fun x hx=>hp x (by simp[hx])),rfl⟩
 |[],_::_,_,_,_,h,_,_=>h.elim|[],[],_::_,_,_,h,_,_=>h.elim|_::_,[],_,_,_,h,_,_=>h.elim|_::_,_::_,[],_,_,h,_,_=>h.elim
def aHI (hl:laidOutB P=true){f:Func}{s:ChangeSpec}(hs:s.vars=[])(hts:amj P f.params.toList=true){tb:TypeId}(hrt:f.resultTypes=#[tb])(hb:P.underlying tb=some .bool)
  {apart fresh amk aDF:Bool} {W W':World} {args:Array Value} {ds gs:List (DataW H)} {aga:List MemPlace}
  (hW:DataW.Whole enc P f.params.toList s.vars apart W args.toList ds gs aga) (hB:Below W.heap.size W W') (hfn:s.fn H (ds++gs)={results:=[.lit (.bool true)],args:=ds}) :
  s.post enc P f apart fresh amk aDF W args (.bool true) W':=by
 have hlt:=hW.lt;obtain⟨p,q,hA,hV,rfl,hz,hn⟩:=id hW;rw[hs]at hV;cases gs with
 |cons _ _=>exact hV.elim
 |nil =>
  have hq:q=[]:=hV;subst hq;rw[iz]at hlt hz hn hW;have hsame:∀x∈p,W.sameAt W' x:=fun x hx=>hB.same (hlt x hx)
  have df:∀(b:Nat) (sp:Nat->Bool) (hd:Bool),DataW.TrodAll enc P W' b sp hd f.resultTypes.toList ((Value.bool true).resultList f.resultTypes.size) [.lit (.bool true)] []:=by intro b sp hd;rw[hrt];exact trodAll_mk1 (shut_bool hb true)
  have hargs:∀sp:Nat->Bool,(∀x∈p,sp x.block=true)->DataW.TrodAll enc P W' 0 sp true f.params.toList args.toList ds p:=fun sp Vr=>Zo hl hts hA hsame Vr
  have hold:∀x∈p,(fun b=>decide (b<W.heap.size)) x.block=true:=fun x hx=>by simpa using hlt x hx
  refine⟨ds,[],p,[],p,[],by rw[hs]at hW ⊢;exact hW,by rw[hfn];exact df _ _ _,by rw[hfn];exact hargs _ hold,by rw[hfn,hs];rfl,?_,fun _=>?_⟩
  .exact hB.frame _
  .refine⟨ok_one hrt rfl (okWide_bool_mk hb true),[.lit (.bool true)]++ds,[],[]++p++[],⟨[]++p,[],?_,by rw[hs];rfl,rfl,?_,?_⟩,?_⟩
   .exact trodAll_append (hargs (fun _=>true) fun _ _=>rfl) (df _ _ _)
   .intro b off hp;have hp:MemPlace.cell b off∈p:=by simpa using hp
    have h1:=hz b off hp;have h2:=hB.block b (hlt _ hp);unfold World.frozen? at h1 ⊢;rw[h2];exact h1
   .intro ha;simpa using hn ha
   .intro x hx _;simpa using hx
def aDG (P:Program):List TypeId->Option (List (Ty×Bool))
 |[]=>some []|t::ts=>match aiS P 20 t,aa1 P t with
  |some u,some b=>match aDG P ts with
   |some l=>some ((u,b)::l)|none=>none
  |_,_=>none
def aBF:(ps:List (Ty×Bool))->Args ps->Prop
 |[],_=>True|a::l,x=>Wf a.1 x.1/\aBF l x.2
def aHJ {w:World}{LJ b0:Nat}{sp:Nat->Bool}{avN:Bool}{n:Nat}{t:TypeId}{u:Ty}{b:Bool}(hu:aiS P n t=some u)(hb:aa1 P t=some b){v:Value}{d:DataW H}{ps:List MemPlace}{r:Reach}
  (hv:Value.okWide P w r b0 t v) (ht:DataW.Trod enc P w LJ sp avN t v d ps):∃x,ac6 w (fun _=>True) (u,b) x v/\Wf u x:=by
 obtain⟨akh,hf⟩:=ht;obtain⟨x,h1,h2⟩:=abo n t u hu _ _ _ hf;refine⟨x,?_,h2⟩;have one:v.oneCell'=true->b=false->ac6 w (fun _=>True) (u,b) x v:=by intro aa5 hbf;subst hbf;rw[acU aa5]at h1;exact⟨_,h1,rfl⟩
 cases n with
 |zero=>cases hu
 |succ n =>
  simp only[aiS]at hu;unfold aa1 at hb;split at hu
  .rename_i k hun;rw[hun]at hb;cases hb;obtain⟨m,rfl⟩:=okWide_int hun hv;exact one rfl rfl
  .rename_i hun;rw[hun]at hb;cases hb;obtain⟨m,rfl⟩:=okWide_bool hun hv;exact one rfl rfl
  .rename_i hun;rw[hun]at hb;cases hb;obtain⟨m,rfl⟩:=okWide_string hun hv;exact one rfl rfl
  .rename_i e hun;rw[hun]at hb;cases hb;obtain⟨a,len,cap,rfl⟩:=okWide_slice hun hv;exact one rfl rfl
  .rename_i fs hun;rw[hun]at hb;cases hb;obtain⟨cs,rfl,_⟩:=okWide_struct hun hv;exact⟨_,h1,by simp[Value.cells]⟩
  .cases hu
def atG {w:World}{LJ b0:Nat}{sp:Nat->Bool}{avN:Bool}{r:Reach}:∀{ts:List TypeId} {pk:List (Ty×Bool)} {vs:List Value} {ds:List (DataW H)} {ps:List MemPlace},aDG P ts=some pk ->
  (∀(j:Nat) t v,ts[j]?=some t->vs[j]?=some v->Value.okWide P w r b0 t v)->DataW.TrodAll enc P w LJ sp avN ts vs ds ps->∃x:Args pk,e8 w (fun _=>True) pk x vs/\aBF pk x
 |[],pk,[],[],_,hk,_,h=>by cases hk;exact⟨(),rfl,trivial⟩
 |t::ts,pk,v::vs,d::ds,ps,hk,hv,h=>by
  obtain⟨p,q,h1,h2,rfl⟩:=h;simp only[aDG]at hk;split at hk
  .rename_i u b hu hb;split at hk
   .rename_i l hl;cases hk;obtain⟨x,h3,h4⟩:=aHJ hu hb (hv 0 t v rfl rfl) h1;obtain⟨y,h5,h6⟩:=atG hl (fun j t' v' ht hv'=>hv (j+1) t' v' (by simpa using ht) (by simpa using hv')) h2;exact⟨(x,y),⟨v,vs,rfl,h3,h5⟩,h4,h6⟩
   .cases hk
  .cases hk
 |[],_,_::_,_,_,_,_,h=>h.elim|[],_,[],_::_,_,_,_,h=>h.elim|_::_,_,[],_,_,_,_,h=>h.elim|_::_,_,_::_,[],_,_,_,h=>h.elim
def aiT {w:World}{LJ:Nat}{sp:Nat->Bool}{avN:Bool}:∀{ts:List TypeId} {vs:List Value} {ds:List (DataW H)} {ps:List MemPlace},DataW.TrodAll enc P w LJ sp avN ts vs ds ps->ds.length=ts.length
 |[],[],[],_,_=>rfl|t::ts,v::vs,d::ds,_,h=>by obtain⟨_,_,_,h2,_⟩:=h;simp[aiT h2]
 |[],_::_,_,_,h=>h.elim|[],[],_::_,_,h=>h.elim|_::_,[],_,_,h=>h.elim|_::_,_::_,[],_,h=>h.elim
end
end Go.Am
