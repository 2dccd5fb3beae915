/- No condition. -/
import Derived.Test.YtaheoongenkdbaaGreatDoorQsAmOpen
set_option linter.all false
namespace Go.Am
open Go.RowKit Go.ChangeShapes Go.WideShapes
section
variable {H:Type} {enc:TypeId×Value->H} {P:Program}
def ajb (P:Program)(ts:List TypeId):Bool:=ts.all fun t=>P.readableRec t&&Nat.blt t P.types.size
def W7 (b:laidOutB P=true){W c:World}{e:Nat->Bool}:∀{ts:List TypeId} {vs:List Value} {ds:List (DataW H)} {ps:List MemPlace},ajb P ts=true ->
  DataW.TrodAll enc P W 0 (fun _=>true) true ts vs ds ps->(∀p∈ps,W.sameAt c p)->(∀p∈ps,e p.block=true)->DataW.TrodAll enc P c 0 e true ts vs ds ps
 |[],[],[],_,_,h,_,_=>h|t::ts,v::vs,d::ds,ps,cU,h,f,g=>by
  obtain⟨p,q,i,j,rfl⟩:=h;simp only[ajb,List.all_cons,aD]at cU;obtain⟨⟨k,hlt⟩,l⟩:=cU;exact⟨p,q,WideElems.Trod_stays b k (fV hlt) i (fun x a=>f x (by simp[a])) (fun x a=>g x (by simp[a])),
   W7 b (ts:=ts) (by simpa [ajb]using l) j (fun x a=>f x (by simp[a])) (fun x a=>g x (by simp[a])),rfl⟩
 |[],_::_,_,_,_,h,_,_=>h.elim|[],[],_::_,_,_,h,_,_=>h.elim|_::_,[],_,_,_,h,_,_=>h.elim|_::_,_::_,[],_,_,h,_,_=>h.elim
def aBc (z:laidOutB P=true){f:Func}{s:ChangeSpec}(g:s.vars=[])(A:ajb P f.params.toList=true){tb:TypeId}(m:f.resultTypes=#[tb])(n:P.underlying tb=some .bool)
  {y I K L:Bool} {W c:World} {args:Array Value} {ds l:List (DataW H)} {M:List MemPlace}
  (d:DataW.Whole enc P f.params.toList s.vars y W args.toList ds l M) (i:Below W.heap.size W c) (j:s.fn H (ds++l)={results:=[.lit (.bool true)],args:=ds}) :
  s.post enc P f y I K L W args (.bool true) c:=by
 have hlt:=d.lt;obtain⟨p,q,B,k,rfl,o,r⟩:=id d;rw[g]at k;cases l with
 |cons _ _=>exact k.elim
 |nil =>
  have C:q=[]:=k;subst C;rw[fS]at hlt o r d;have D:∀x∈p,W.sameAt c x:=fun x e=>i.same (hlt x e)
  have t:∀(b:Nat) (a:Nat->Bool) (u:Bool),DataW.TrodAll enc P c b a u f.resultTypes.toList ((Value.bool true).resultList f.resultTypes.size) [.lit (.bool true)] []:=by intro b a u;rw[m];exact trodAll_mk1 (shut_bool n true)
  have v:∀a:Nat->Bool,(∀x∈p,a x.block=true)->DataW.TrodAll enc P c 0 a true f.params.toList args.toList ds p:=fun a E=>W7 z A B D E
  have hold:∀x∈p,(fun b=>decide (b<W.heap.size)) x.block=true:=fun x e=>by simpa using hlt x e
  refine⟨ds,[],p,[],p,[],by rw[g]at d ⊢;exact d,by rw[j];exact t _ _ _,by rw[j];exact v _ hold,by rw[j,g];rfl,?_,fun _=>?_⟩
  .exact i.frame _
  .refine⟨ok_one m rfl (okWide_bool_mk n true),[.lit (.bool true)]++ds,[],[]++p++[],⟨[]++p,[],?_,by rw[g];rfl,rfl,?_,?_⟩,?_⟩
   .exact trodAll_append (v (fun _=>true) fun _ _=>rfl) (t _ _ _)
   .intro b off h;have h:MemPlace.cell b off∈p:=by simpa using h
    have w:=o b off h;have F:=i.block b (hlt _ h);unfold World.frozen? at w ⊢;rw[F];exact w
   .intro G;simpa using r G
   .intro x e _;simpa using e
def ayd (P:Program):List TypeId->Option (List (Ty×Bool))
 |[]=>some []|t::a=>match afW P 20 t,Wm P t with
  |some u,some b=>match ayd P a with
   |some l=>some ((u,b)::l)|none=>none
  |_,_=>none
def awp:(ps:List (Ty×Bool))->Args ps->Prop
 |[],_=>True|a::l,x=>Wf a.1 x.1/\awp l x.2
def aBd {w:World}{y j:Nat}{z:Nat->Bool}{A:Bool}{n:Nat}{t:TypeId}{u:Ty}{b:Bool}(g:afW P n t=some u)(f:Wm P t=some b){v:Value}{d:DataW H}{ps:List MemPlace}{r:Reach}
  (h:Value.okWide P w r j t v) (l:DataW.Trod enc P w y z A t v d ps):∃x,aaD w (fun _=>True) (u,b) x v/\Wf u x:=by
 obtain⟨aG5,o⟩:=l;obtain⟨x,i,p⟩:=Y6 n t u g _ _ _ o;refine⟨x,?_,p⟩;have one:v.oneCell'=true->b=false->aaD w (fun _=>True) (u,b) x v:=by intro q s;subst s;rw[aas q]at i;exact⟨_,i,rfl⟩
 cases n with
 |zero=>cases g
 |succ n =>
  simp only[afW]at g;unfold Wm at f;split at g
  .rename_i k c;rw[c]at f;cases f;obtain⟨m,rfl⟩:=okWide_int c h;exact one rfl rfl
  .rename_i c;rw[c]at f;cases f;obtain⟨m,rfl⟩:=okWide_bool c h;exact one rfl rfl
  .rename_i c;rw[c]at f;cases f;obtain⟨m,rfl⟩:=okWide_string c h;exact one rfl rfl
  .rename_i e c;rw[c]at f;cases f;obtain⟨a,len,cap,rfl⟩:=okWide_slice c h;exact one rfl rfl
  .rename_i B c;rw[c]at f;cases f;obtain⟨cs,rfl,_⟩:=okWide_struct c h;exact⟨_,i,by simp[Value.cells]⟩
  .cases g
def apD {w:World}{F f:Nat}{G:Nat->Bool}{I:Bool}{r:Reach}:∀{ts:List TypeId} {c:List (Ty×Bool)} {vs:List Value} {ds:List (DataW H)} {ps:List MemPlace},ayd P ts=some c ->
  (∀(j:Nat) t v,ts[j]?=some t->vs[j]?=some v->Value.okWide P w r f t v)->DataW.TrodAll enc P w F G I ts vs ds ps->∃x:Args c,dP w (fun _=>True) c x vs/\awp c x
 |[],c,[],[],_,a,_,h=>by cases a;exact⟨(),rfl,trivial⟩
 |t::ts,c,v::vs,d::ds,ps,a,e,h=>by
  obtain⟨p,q,g,i,rfl⟩:=h;simp only[ayd]at a;split at a
  .rename_i u b k m;split at a
   .rename_i l n;cases a;obtain⟨x,o,s⟩:=aBd k m (e 0 t v rfl rfl) g;obtain⟨y,z,A⟩:=apD n (fun j B C D E=>e (j+1) B C (by simpa using D) (by simpa using E)) i;exact⟨(x,y),⟨v,vs,rfl,o,z⟩,s,A⟩
   .cases a
  .cases a
 |[],_,_::_,_,_,_,_,h=>h.elim|[],_,[],_::_,_,_,_,h=>h.elim|_::_,_,[],_,_,_,_,h=>h.elim|_::_,_,_::_,[],_,_,_,h=>h.elim
def afX {w:World}{b:Nat}{c:Nat->Bool}{e:Bool}:∀{ts:List TypeId} {vs:List Value} {ds:List (DataW H)} {ps:List MemPlace},DataW.TrodAll enc P w b c e ts vs ds ps->ds.length=ts.length
 |[],[],[],_,_=>rfl|t::ts,v::vs,d::ds,_,h=>by obtain⟨_,_,_,a,_⟩:=h;simp[afX a]
 |[],_::_,_,_,h=>h.elim|[],[],_::_,_,h=>h.elim|_::_,[],_,_,h=>h.elim|_::_,_::_,[],_,h=>h.elim
end
end Go.Am
