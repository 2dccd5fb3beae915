/- No condition. -/
import Derived.Test.YtaheoongenkdbaaGreatDoorQeAmOpen
set_option linter.all false
namespace Go.Am
open Go.RowKit Go.ChangeShapes Go.WideShapes
section
variable {H:Type} {enc:TypeId×Value->H} {P:Program}
def akR (P:Program)(ts:List TypeId):Bool:=ts.all fun t=>P.readableRec t&&Nat.blt t P.types.size
def Yq (b:laidOutB P=true){W c:World}{e:Nat->Bool}:∀{ts:List TypeId} {vs:List Value} {ds:List (DataW H)} {ps:List MemPlace},akR P ts=true ->
  DataW.TrodAll enc P W 0 (fun _=>true) true ts vs ds ps->(∀p∈ps,W.sameAt c p)->(∀p∈ps,e p.block=true)->DataW.TrodAll enc P c 0 e true ts vs ds ps
 |[],[],[],_,_,h,_,_=>h|t::ts,v::vs,d::ds,ps,cW,h,f,g=>by
  obtain⟨p,q,i,j,rfl⟩:=h;simp only[akR,List.all_cons,aA]at cW;obtain⟨⟨k,hlt⟩,l⟩:=cW;exact⟨p,q,WideElems.Trod_stays b k (gq hlt) i (fun x a=>f x (by simp[a])) (fun x a=>g x (by simp[a])),
   Yq b (ts:=ts) (by simpa [akR]using l) j (fun x a=>f x (by simp[a])) (fun x a=>g x (by simp[a])),rfl⟩
 |[],_::_,_,_,_,h,_,_=>h.elim|[],[],_::_,_,_,h,_,_=>h.elim|_::_,[],_,_,_,h,_,_=>h.elim|_::_,_::_,[],_,_,h,_,_=>h.elim
def aEh (y:laidOutB P=true){f:Func}{s:ChangeSpec}(hs:s.vars=[])(z:akR P f.params.toList=true){tb:TypeId}(l:f.resultTypes=#[tb])(m:P.underlying tb=some .bool)
  {w G I K:Bool} {W c:World} {args:Array Value} {ds k:List (DataW H)} {L:List MemPlace}
  (d:DataW.Whole enc P f.params.toList s.vars w W args.toList ds k L) (h:Below W.heap.size W c) (i:s.fn H (ds++k)={results:=[.lit (.bool true)],args:=ds}) :
  s.post enc P f w G I K W args (.bool true) c:=by
 have hlt:=d.lt;obtain⟨p,q,A,j,rfl,n,o⟩:=id d;rw[hs]at j;cases k with
 |cons _ _=>exact j.elim
 |nil =>
  have B:q=[]:=j;subst B;rw[fU]at hlt n o d;have C:∀x∈p,W.sameAt c x:=fun x e=>h.same (hlt x e)
  have r:∀(b:Nat) (a:Nat->Bool) (t:Bool),DataW.TrodAll enc P c b a t f.resultTypes.toList ((Value.bool true).resultList f.resultTypes.size) [.lit (.bool true)] []:=by intro b a t;rw[l];exact trodAll_mk1 (shut_bool m true)
  have u:∀a:Nat->Bool,(∀x∈p,a x.block=true)->DataW.TrodAll enc P c 0 a true f.params.toList args.toList ds p:=fun a D=>Yq y z A C D
  have hold:∀x∈p,(fun b=>decide (b<W.heap.size)) x.block=true:=fun x e=>by simpa using hlt x e
  refine⟨ds,[],p,[],p,[],by rw[hs]at d ⊢;exact d,by rw[i];exact r _ _ _,by rw[i];exact u _ hold,by rw[i,hs];rfl,?_,fun _=>?_⟩
  .exact h.frame _
  .refine⟨ok_one l rfl (okWide_bool_mk m true),[.lit (.bool true)]++ds,[],[]++p++[],⟨[]++p,[],?_,by rw[hs];rfl,rfl,?_,?_⟩,?_⟩
   .exact trodAll_append (u (fun _=>true) fun _ _=>rfl) (r _ _ _)
   .intro b off g;have g:MemPlace.cell b off∈p:=by simpa using g
    have v:=n b off g;have E:=h.block b (hlt _ g);unfold World.frozen? at v ⊢;rw[E];exact v
   .intro F;simpa using o F
   .intro x e _;simpa using e
def aA1 (P:Program):List TypeId->Option (List (Ty×Bool))
 |[]=>some []|t::a=>match ahz P 20 t,XE P t with
  |some u,some b=>match aA1 P a with
   |some l=>some ((u,b)::l)|none=>none
  |_,_=>none
def azb:(ps:List (Ty×Bool))->Args ps->Prop
 |[],_=>True|a::l,x=>Wf a.1 x.1/\azb l x.2
def aEi {w:World}{y j:Nat}{z:Nat->Bool}{A:Bool}{n:Nat}{t:TypeId}{u:Ty}{b:Bool}(g:ahz P n t=some u)(f:XE P t=some b){v:Value}{d:DataW H}{ps:List MemPlace}{r:Reach}
  (h:Value.okWide P w r j t v) (l:DataW.Trod enc P w y z A t v d ps):∃x,abX w (fun _=>True) (u,b) x v/\Wf u x:=by
 obtain⟨aK3,o⟩:=l;obtain⟨x,i,p⟩:=aan n t u g _ _ _ o;refine⟨x,?_,p⟩;have one:v.oneCell'=true->b=false->abX w (fun _=>True) (u,b) x v:=by intro q s;subst s;rw[abM q]at i;exact⟨_,i,rfl⟩
 cases n with
 |zero=>cases g
 |succ n =>
  simp only[ahz]at g;unfold XE at f;split at g
  .rename_i k c;rw[c]at f;cases f;obtain⟨m,rfl⟩:=okWide_int c h;exact one rfl rfl
  .rename_i c;rw[c]at f;cases f;obtain⟨m,rfl⟩:=okWide_bool c h;exact one rfl rfl
  .rename_i c;rw[c]at f;cases f;obtain⟨m,rfl⟩:=okWide_string c h;exact one rfl rfl
  .rename_i e c;rw[c]at f;cases f;obtain⟨a,len,cap,rfl⟩:=okWide_slice c h;exact one rfl rfl
  .rename_i B c;rw[c]at f;cases f;obtain⟨cs,rfl,_⟩:=okWide_struct c h;exact⟨_,i,by simp[Value.cells]⟩
  .cases g
def arM {w:World}{F f:Nat}{G:Nat->Bool}{I:Bool}{r:Reach}:∀{ts:List TypeId} {c:List (Ty×Bool)} {vs:List Value} {ds:List (DataW H)} {ps:List MemPlace},aA1 P ts=some c ->
  (∀(j:Nat) t v,ts[j]?=some t->vs[j]?=some v->Value.okWide P w r f t v)->DataW.TrodAll enc P w F G I ts vs ds ps->∃x:Args c,dS w (fun _=>True) c x vs/\azb c x
 |[],c,[],[],_,a,_,h=>by cases a;exact⟨(),rfl,trivial⟩
 |t::ts,c,v::vs,d::ds,ps,a,e,h=>by
  obtain⟨p,q,g,i,rfl⟩:=h;simp only[aA1]at a;split at a
  .rename_i u b k m;split at a
   .rename_i l n;cases a;obtain⟨x,o,s⟩:=aEi k m (e 0 t v rfl rfl) g;obtain⟨y,z,A⟩:=arM n (fun j B C D E=>e (j+1) B C (by simpa using D) (by simpa using E)) i;exact⟨(x,y),⟨v,vs,rfl,o,z⟩,s,A⟩
   .cases a
  .cases a
 |[],_,_::_,_,_,_,_,h=>h.elim|[],_,[],_::_,_,_,_,h=>h.elim|_::_,_,[],_,_,_,_,h=>h.elim|_::_,_,_::_,[],_,_,_,h=>h.elim
def ahA {w:World}{b:Nat}{c:Nat->Bool}{e:Bool}:∀{ts:List TypeId} {vs:List Value} {ds:List (DataW H)} {ps:List MemPlace},DataW.TrodAll enc P w b c e ts vs ds ps->ds.length=ts.length
 |[],[],[],_,_=>rfl|t::ts,v::vs,d::ds,_,h=>by obtain⟨_,_,_,a,_⟩:=h;simp[ahA a]
 |[],_::_,_,_,h=>h.elim|[],[],_::_,_,h=>h.elim|_::_,[],_,_,h=>h.elim|_::_,_::_,[],_,h=>h.elim
end
end Go.Am
