/- No condition. -/
import Derived.Test.YtpkabclplaibaaaGreatDoorQhAmOpen
set_option linter.all false
namespace Go.Am
open Go.RowKit Go.ChangeShapes Go.WideShapes
section
variable {H:Type} {enc:TypeId×Value->H} {P:Program}
def VI (P:Program)(ts:List TypeId):Bool:=ts.all fun t=>P.readableRec t&&Nat.blt t P.types.size
def MJ (c:laidOutB P=true){W e:World}{f:Nat->Bool}:∀{ts:List TypeId} {vs:List Value} {b:List (DataW H)} {ps:List MemPlace},VI P ts=true ->
  DataW.TrodAll enc P W 0 (fun _=>true) true ts vs b ps->(∀p∈ps,W.sameAt e p)->(∀p∈ps,f p.block=true)->DataW.TrodAll enc P e 0 f true ts vs b ps
 |[],[],[],_,_,h,_,_=>h|t::ts,v::vs,d::b,ps,cR,h,g,i=>by
  obtain⟨p,q,j,k,rfl⟩:=h;simp only[VI,List.all_cons,az]at cR;obtain⟨⟨l,hlt⟩,m⟩:=cR;exact⟨p,q,WideElems.Trod_stays c l (ef hlt) j (fun x a=>g x (by simp[a])) (fun x a=>i x (by simp[a])),
   MJ c (ts:=ts) (by simpa [VI]using m) k (fun x a=>g x (by simp[a])) (fun x a=>i x (by simp[a])),rfl⟩
 |[],_::_,_,_,_,h,_,_=>h.elim|[],[],_::_,_,_,h,_,_=>h.elim|_::_,[],_,_,_,h,_,_=>h.elim|_::_,_::_,[],_,_,h,_,_=>h.elim
def al2 (A:laidOutB P=true){f:Func}{s:ChangeSpec}(h:s.vars=[])(B:VI P f.params.toList=true){tb:TypeId}(n:f.resultTypes=#[tb])(o:P.underlying tb=some .bool)
  {z K L M:Bool} {W d:World} {args:Array Value} {a m:List (DataW H)} {N:List MemPlace}
  (e:DataW.Whole enc P f.params.toList s.vars z W args.toList a m N) (j:Below W.heap.size W d) (k:s.fn H (a++m)={results:=[.lit (.bool true)],args:=a}) :
  s.post enc P f z K L M W args (.bool true) d:=by
 have hlt:=e.lt;obtain⟨p,q,C,l,rfl,r,t⟩:=id e;rw[h]at l;cases m with
 |cons _ _=>exact l.elim
 |nil =>
  have D:q=[]:=l;subst D;rw[fo]at hlt r t e;have E:∀x∈p,W.sameAt d x:=fun x g=>j.same (hlt x g)
  have u:∀(b:Nat) (c:Nat->Bool) (v:Bool),DataW.TrodAll enc P d b c v f.resultTypes.toList ((Value.bool true).resultList f.resultTypes.size) [.lit (.bool true)] []:=by intro b c v;rw[n];exact trodAll_mk1 (shut_bool o true)
  have w:∀c:Nat->Bool,(∀x∈p,c x.block=true)->DataW.TrodAll enc P d 0 c true f.params.toList args.toList a p:=fun c F=>MJ A B C E F
  have GJ:∀x∈p,(fun b=>decide (b<W.heap.size)) x.block=true:=fun x g=>by simpa using hlt x g
  refine⟨a,[],p,[],p,[],by rw[h]at e ⊢;exact e,by rw[k];exact u _ _ _,by rw[k];exact w _ GJ,by rw[k,h];rfl,?_,fun _=>?_⟩
  .exact j.frame _
  .refine⟨ok_one n rfl (okWide_bool_mk o true),[.lit (.bool true)]++a,[],[]++p++[],⟨[]++p,[],?_,by rw[h];rfl,rfl,?_,?_⟩,?_⟩
   .exact trodAll_append (w (fun _=>true) fun _ _=>rfl) (u _ _ _)
   .intro b off i;have i:MemPlace.cell b off∈p:=by simpa using i
    have y:=r b off i;have G:=j.block b (hlt _ i);unfold World.frozen? at y ⊢;rw[G];exact y
   .intro I;simpa using t I
   .intro x g _;simpa using g
def aeK (P:Program):List TypeId->Option (List (Ty×Bool))
 |[]=>some []|t::a=>match Tz P 20 t,L5 P t with
  |some u,some b=>match aeK P a with
   |some l=>some ((u,b)::l)|none=>none
  |_,_=>none
def acP:(ps:List (Ty×Bool))->Args ps->Prop
 |[],_=>True|a::l,x=>Wf a.1 x.1/\acP l x.2
def al3 [ds] {w:World} (j:w.heap.size<=ds.n) {z l:Nat} {A:Nat->Bool} {B:Bool} {n:Nat} {t:TypeId} {u:Ty} {b:Bool} (g:Tz P n t=some u) (f:L5 P t=some b) {v:Value} {d:DataW H} {ps:List MemPlace} {r:Reach}
  (h:Value.okWide P w r l t v) (o:DataW.Trod enc P w z A B t v d ps):∃x,PF w (fun _=>True) (u,b) x v/\Wf u x:=by
 obtain⟨as5,p⟩:=o;obtain⟨x,i,q⟩:=Oi j n t u g _ _ _ p;refine⟨x,?_,q⟩;have one:v.oneCell'=true->b=false->PF w (fun _=>True) (u,b) x v:=by intro s y;subst y;rw[Pu s]at i;exact⟨_,i,rfl⟩
 cases n with
 |zero=>cases g
 |succ n =>
  simp only[Tz]at g;unfold L5 at f;split at g
  .rename_i k c;rw[c]at f;cases f;obtain⟨m,rfl⟩:=okWide_int c h;exact one rfl rfl
  .rename_i c;rw[c]at f;cases f;obtain⟨m,rfl⟩:=okWide_bool c h;exact one rfl rfl
  .rename_i c;rw[c]at f;cases f;obtain⟨m,rfl⟩:=okWide_string c h;exact one rfl rfl
  .rename_i e c;rw[c]at f;cases f;obtain⟨a,len,cap,rfl⟩:=okWide_slice c h;exact one rfl rfl
  .rename_i C c;rw[c]at f;cases f;obtain⟨cs,rfl,_⟩:=okWide_struct c h;exact⟨_,i,by simp[Value.cells]⟩
  .cases g
def WX [ds] {w:World} (e:w.heap.size<=ds.n) {I i:Nat} {K:Nat->Bool} {L:Bool} {r:Reach}:∀{ts:List TypeId} {c:List (Ty×Bool)} {vs:List Value} {f:List (DataW H)} {ps:List MemPlace},aeK P ts=some c ->
  (∀(j:Nat) t v,ts[j]?=some t->vs[j]?=some v->Value.okWide P w r i t v)->DataW.TrodAll enc P w I K L ts vs f ps->∃x:Args c,cT w (fun _=>True) c x vs/\acP c x
 |[],c,[],[],_,a,_,h=>by cases a;exact⟨(),rfl,trivial⟩
 |t::ts,c,v::vs,d::f,ps,a,g,h=>by
  obtain⟨p,q,k,m,rfl⟩:=h;simp only[aeK]at a;split at a
  .rename_i u b n o;split at a
   .rename_i l s;cases a;obtain⟨x,z,A⟩:=al3 e n o (g 0 t v rfl rfl) k;obtain⟨y,B,C⟩:=WX e s (fun j D E F G=>g (j+1) D E (by simpa using F) (by simpa using G)) m;exact⟨(x,y),⟨v,vs,rfl,z,B⟩,A,C⟩
   .cases a
  .cases a
 |[],_,_::_,_,_,_,_,h=>h.elim|[],_,[],_::_,_,_,_,h=>h.elim|_::_,_,[],_,_,_,_,h=>h.elim|_::_,_,_::_,[],_,_,_,h=>h.elim
def akv {w:World}{d b:Nat}{e:Nat->Bool}{f:Bool}{r:Reach}{ts:List TypeId}{a:List (Ty×Bool)}{vs:List Value}{c:List (DataW H)}{ps:List MemPlace}(h:aeK P ts=some a)
  (g:∀(j:Nat) t v,ts[j]?=some t->vs[j]?=some v->Value.okWide P w r b t v) (i:DataW.TrodAll enc P w d e f ts vs c ps):∃x:Args a,@cT (ds.of w.heap.size) w (fun _=>True) a x vs/\acP a x :=
 @WX H enc P (ds.of w.heap.size) w (bq _) d b e f r ts a vs c ps h g i
def al4 {T:ZI}{f:FuncId}{con:Con}(h:Wz P T f con){x:Args con.ps}{r:Args con.rs}(b:con.g x=some r){w:World}(c:T.p w){vs:List Value}(d: @cT (ds.of w.heap.size) w (fun _=>True) con.ps x vs) :
  Calls P f vs.toArray w fun e a=>∃us,e=.returned (dj us)/\ @Jq (ds.of w.heap.size) (fun _=>True) w a con r us/\Below w.heap.size w a :=
 @And.right _ _ h (ds.of w.heap.size) x r b w (bq _) c _ vs d
def TA {w:World}{c:Nat}{e:Nat->Bool}{f:Bool}:∀{ts:List TypeId} {vs:List Value} {a:List (DataW H)} {ps:List MemPlace},DataW.TrodAll enc P w c e f ts vs a ps->a.length=ts.length
 |[],[],[],_,_=>rfl|t::ts,v::vs,d::a,_,h=>by obtain⟨_,_,_,b,_⟩:=h;simp[TA b]
 |[],_::_,_,_,h=>h.elim|[],[],_::_,_,h=>h.elim|_::_,[],_,_,h=>h.elim|_::_,_::_,[],_,h=>h.elim
end
end Go.Am
