/- No condition. -/
import Derived.Test.YtpkabclplaibaaaGreatDoorQwAmOps7
set_option linter.all false
namespace Go.Am
open Go.RowKit
variable [ei]
def abx (w:World)(ok:Nat->Prop)(a:Ty×Bool)(x:a.1.D)(v:Value):Prop :=
 ∃cs,Rd w ok a.1 x cs/\v=(match a.2 with|true=>.agg cs.toArray|false=>cs.headD undef)
def dp (w:World)(ok:Nat->Prop):(ps:List (Ty×Bool))->Args ps->List Value->Prop
 |[],_,b=>b=[]|a::l,x,b=>∃v c,b=v::c/\abx w ok a x.1 v/\dp w ok l x.2 c
def FrC (w:World)(okE:Nat->Prop)(own:Nat->Option Nat):(t:Ty)->t.D->Nat->List Value->Prop
 |.int k,x,_,cs=>cs=[.int k x]|.bool,x,_,cs=>cs=[.bool x]|.str,x,_,cs=>cs=[.string x]|.unit,_,_,cs=>cs=[]|.pair a b,x,c,cs=>∃d f,cs=d++f/\FrC w okE own a x.1 c d/\FrC w okE own b x.2 (c+a.n) f|.sl e t,xs,c,cs=>∃v rows,cs=[v]/\0<t.n/\w.ownsRow 0 e t.n v xs.length rows/\(∀g,v.ownBlock=some g->own g=some c)/\et w okE t rows xs
def ayz (w:World)(okE:Nat->Prop)(own:Nat->Option Nat)(a:Ty×Bool)(x:a.1.D)(j:Nat)(v:Value):Prop :=
 ∃cs,FrC w okE own a.1 x j cs/\v=(match a.2 with|true=>.agg cs.toArray|false=>cs.headD undef)
def ny (w:World)(okE:Nat->Prop)(own:Nat->Option Nat):(rs:List (Ty×Bool))->Args rs->Nat->List Value->Prop
 |[],_,_,b=>b=[]|a::l,x,c,b=>∃v d,b=v::d/\ayz w okE own a x.1 c v/\ny w okE own l x.2 (c+a.1.n) d
def ej:List Value->Value
 |[v]=>v|b=>.tuple b.toArray
def XT (ok:Nat->Prop)(w w':World)(con:Con)(r:Args con.rs)(vs:List Value):Prop :=
 match con.m with
 |0=>dp w' (fun g=>w.heap.size<=g\/ok g) con.rs r vs
 |1=>dp w' (fun g=>w.heap.size<=g) con.rs r vs
 |_=>∃own:Nat->Option Nat,(∀g b,own g=some b->w.heap.size<=g)/\ny w' (fun g=>w.heap.size<=g/\own g=none) own con.rs r 0 vs
def Xj (P : Program) (f : FuncId) : Prop := ∃ fn, P.funcs[f]? = some fn ∧ (fn.name == "runtime.NumGoroutine") = false ∧ fn.body.isNone = false
def agm (P:Program)(w0:dY)(f:FuncId)(con:Con):Prop :=
 Xj P f /\
 ∀(x:Args con.ps) (r:Args con.rs),con.g x=some r->∀(w:World),dX w0.fr w0.w w->∀(d:Nat->Prop) (b:List Value),dp w d con.ps x b ->
  Calls P f b.toArray w fun e c=>∃us,e=.returned (ej us)/\XT d w c con r us/\Below w.heap.size w c
structure Tab where
 p:World->Prop
 bl:Nat->Prop
 lt:∀w,p w->∀b,bl b->b<w.heap.size
 mono:∀w w',p w->(∀b,bl b->w'.heap[b]?=w.heap[b]?)->p w'
def aj3 (P:Program)(T:Tab)(f:FuncId)(con:Con):Prop :=
 Xj P f /\
 ∀[ei] (x:Args con.ps) (r:Args con.rs),con.g x=some r->∀(w:World),ei.n<=w.heap.size->T.p w->∀(d:Nat->Prop) (b:List Value),dp w d con.ps x b ->
  Calls P f b.toArray w fun e c=>∃us,e=.returned (ej us)/\XT d w c con r us/\Below w.heap.size w c
def Tab.keeps {T:Tab}{w0:dY}(c:T.p w0.w)(e:∀b,w0.fr b->¬T.bl b){w:World}(f:dX w0.fr w0.w w):T.p w :=
 T.mono w0.w w c fun b d=>f.block b (T.lt _ c b d) fun h=>e b h d
def nOf:List (Ty×Bool)->Nat
 |[]=>0|a::l=>a.1.n+nOf l
def aGW (w:World)(ok nw:Nat->Prop)(own:Nat->Option Nat)(g0:Nat)(pm:PM)(a:Ty×Bool)(x:a.1.D)(v:Value):Prop:=match pm with
 |.rd=>abx w ok a x v|.own f=>ayz w (fun g=>own g=none/\(nw g\/(f=false/\ok g))) own a x 0 v
 |.box=>v=.pointer (some ⟨g0,0,none⟩)/\(own g0).isSome=true/\∃cs e,w.heap[g0]?=some (.cells cs e (0,0))/\Rd w ok a.1 x cs.toList|.cur=>v=.pointer (some ⟨g0,0,none⟩)/\(own g0).isSome=true/\∃cs e,w.heap[g0]?=some (.cells cs e (0,0))/\Rd w (fun g=>own g=none/\nw g) a.1 x cs.toList
def BV (w:World)(ok nw:Nat->Prop)(own:Nat->Option Nat)(g0:Nat)(pm:PM):Nat->(ps:List (Ty×Bool))->Args ps->List Value->Value->Prop
 |0,a::l,x,c,u=>∃b,c=u::b/\aGW w ok nw own g0 pm a x.1 u/\dp w ok l x.2 b|i+1,a::l,x,c,u=>∃v b,c=v::b/\abx w ok a x.1 v/\BV w ok nw own g0 pm i l x.2 b u|_,[],_,_,_=>False
structure Handed (w:World) (B:Nat->Prop) (ok nw:Nat->Prop) (own:Nat->Option Nat):Prop where
 kC:∀g,w.heap.size<=g->nw g
 bf:∀g j,own g=some j->nw g/\g<w.heap.size/\B g
 cz:∀g,ok g->own g=none
 hb:∀g j,own g=some j->ei.n<=g
def ZG (con:Ll)(w w':World)(ok nw:Nat->Prop)(own:Nat->Option Nat)(g0:Nat)(u:Value)(r:Args con.rs×Args con.qs)(us:List Value):Prop :=
 ∃bH:Nat->Option Nat,(∀g c,bH g=some c->w.heap.size<=g\/(own g).isSome=true) /\
  (match con.pm with
   |.rd=>True|.own _=>ny w' (fun g=>bH g=none/\(nw g\/(m2 con.m=false/\ok g))) bH con.qs r.2 (nOf con.rs) (match con.qs with|[]=>[]|_=>[u])
   |.box=>(∃c,bH g0=some c/\nOf con.rs<=c)/\∃cs e,w'.heap[g0]?=some (.cells cs e (0,0))/\dp w' (fun g=>bH g=none/\(nw g\/ok g)) con.qs r.2 [.agg cs]
   |.cur=>(∃c,bH g0=some c/\nOf con.rs<=c)/\∃cs e,w'.heap[g0]?=some (.cells cs e (0,0))/\dp w' (fun g=>bH g=none/\nw g) con.qs r.2 [.agg cs]) /\
  (match con.m with
   |0=>dp w' (fun g=>bH g=none/\(nw g\/ok g)) con.rs r.1 us
   |1=>dp w' (fun g=>bH g=none/\nw g) con.rs r.1 us
   |4=>∃b cs e,us=[.pointer (some ⟨b,0,none⟩)]/\w.heap.size<=b/\(bH b).isSome=true/\w'.heap[b]?=some (.cells cs e (0,0))/\dp w' (fun g=>bH g=none/\nw g) con.rs r.1 [.agg cs]
   |5=>∃b cs e,us=[.pointer (some ⟨b,0,none⟩)]/\w.heap.size<=b/\(bH b).isSome=true/\w'.heap[b]?=some (.cells cs e (0,0))/\dp w' (fun g=>bH g=none/\(nw g\/ok g)) con.rs r.1 [.agg cs]
   |_=>ny w' (fun g=>bH g=none/\(nw g\/(m2 con.m=false/\ok g))) bH con.rs r.1 0 us)
def azQ (con:Ll):Prop:=con.qs=[]\/∃p,con.qs=[p]/\kj con.ps con.i=some p
def aBw (P:Program)(f:FuncId)(i:Idx)(W:World):Prop :=
 ∀(b:List i.a.1.D) (y:i.q.D) (s:Value) (B:Nat) (c:Array Value) (e d:TypeId),Rd W (fun _=>True) (.sl d i.a.1) b [s]->W.heap[B]?=some (.cells c e (0,0))->Rd W (fun _=>True) i.q y c.toList ->
  Calls P f #[s,.func (.func i.g) #[] #[.pointer (some ⟨B,0,none⟩)]] W fun e g=>e=.returned (.int .i64 (aBd (fun x=>i.p x y) b 0))/\Below W.heap.size W g
def aBx (P:Program)(f:FuncId)(e:TypeId)(u:Ty)(W:World):Prop :=
 ∀(s v:Value) (n m i:Nat) (c d:List Value),W.ownsRow 0 e u.n s n c->W.ownsRow 0 e u.n v m d->(∀g,s.ownBlock=some g->v.ownBlock≠some g)->1<=m->i<=n->n+m<=1073741824->(∀u∈c,u.oneCell'=true)->(∀u∈d,u.oneCell'=true) ->
  Calls P f #[s,.int .i64 i,v] W fun j h=>∃b,j=.returned b/\h.ownsRow 0 e u.n b (n+m) (c.take (i*u.n)++d++c.drop (i*u.n))/\W.grownBy h s.ownBlock/\(b.ownBlock=s.ownBlock\/∀g,b.ownBlock=some g->W.heap.size<=g)
def aBy (P:Program)(f:FuncId)(e:TypeId)(u:Ty)(W:World):Prop :=
 ∀(s:Value) (n i b:Nat) (d:List Value),W.ownsRow 0 e u.n s n d->i<=b->b<=n->(∀u∈d,u.oneCell'=true) ->
  Calls P f #[s,.int .i64 i,.int .i64 b] W fun j h=>∃c,j=.returned c/\h.ownsRow 0 e u.n c (i+(n-b)) (d.take (i*u.n)++d.drop (b*u.n))/\W.grownBy h s.ownBlock/\(c.ownBlock=s.ownBlock\/∀g,c.ownBlock=some g->W.heap.size<=g)
def ZH (P:Program)(w0:dY)(f:FuncId)(con:Ll):Prop :=
 Xj P f/\azQ con /\
 ∀(x:Args con.ps) (r:Args con.rs×Args con.qs),con.g x=some r->∀(w:World),dX w0.fr w0.w w->∀(c b:Nat->Prop) (own:Nat->Option Nat) (d:Nat) (h:List Value) (u:Value),
  Handed w (fun g=>w0.w.heap.size<=g\/w0.fr g) c b own->BV w c b own d con.pm con.i con.ps x h u ->
  Calls P f h.toArray w fun e i=>∃us,e=.returned (ej us)/\ZG con w i c b own d u r us/\dX (fun g=>(own g).isSome=true) w i
def aj4 (P:Program)(T:Tab)(f:FuncId)(con:Ll):Prop :=
 Xj P f/\azQ con /\
 ∀[ei] (x:Args con.ps) (r:Args con.rs×Args con.qs),con.g x=some r->∀(w:World),ei.n<=w.heap.size->T.p w->∀(c b:Nat->Prop) (own:Nat->Option Nat) (d:Nat) (h:List Value) (u:Value),
  Handed w (fun g=>¬T.bl g) c b own->BV w c b own d con.pm con.i con.ps x h u ->
  Calls P f h.toArray w fun e i=>∃us,e=.returned (ej us)/\ZG con w i c b own d u r us/\dX (fun g=>(own g).isSome=true) w i
def aFL (con:Sel):Ll:=⟨con.ps,con.i,.own true,[con.a,con.b],2,[],fun _=>none⟩
def aGX (con:Sel):Ll:=⟨con.ps,con.i,.own true,[con.b],2,[con.q],fun _=>none⟩
def aDU (con:Sel)(w w':World)(ok nw:Nat->Prop)(own:Nat->Option Nat)(g0:Nat)(u:Value)(r:con.a.1.D×con.b.1.D×con.q.1.D)(us:List Value):Prop :=
 ∃b d,us=[b,d]/\(match ajG con.b.1 r.2.1 with
  |true=>ZG (aFL con) w w' ok nw own g0 u ((r.1,(r.2.1,())),()) [b,d]|false=>ZG (aGX con) w w' ok nw own g0 u ((r.2.1,()),(r.2.2,())) [d]/\(con.a.2=true->∃e,b=.agg e/\e.toList.length=con.a.1.n/\∀c∈e.toList,c.oneCell'=true))
def aq6 (P:Program)(w0:dY)(f:FuncId)(con:Sel):Prop :=
 Xj P f/\kj con.ps con.i=some con.q /\
 ∀(x:Args con.ps) (r:con.a.1.D×con.b.1.D×con.q.1.D),con.g x=some r->∀(w:World),dX w0.fr w0.w w->∀(c b:Nat->Prop) (own:Nat->Option Nat) (d:Nat) (h:List Value) (u:Value),
  Handed w (fun g=>w0.w.heap.size<=g\/w0.fr g) c b own->BV w c b own d (.own true) con.i con.ps x h u ->
  Calls P f h.toArray w fun e i=>∃us,e=.returned (ej us)/\aDU con w i c b own d u r us/\dX (fun g=>(own g).isSome=true) w i
def aj5 (P:Program)(T:Tab)(f:FuncId)(con:Sel):Prop :=
 Xj P f/\kj con.ps con.i=some con.q /\
 ∀[ei] (x:Args con.ps) (r:con.a.1.D×con.b.1.D×con.q.1.D),con.g x=some r->∀(w:World),ei.n<=w.heap.size->T.p w->∀(c b:Nat->Prop) (own:Nat->Option Nat) (d:Nat) (h:List Value) (u:Value),
  Handed w (fun g=>¬T.bl g) c b own->BV w c b own d (.own true) con.i con.ps x h u ->
  Calls P f h.toArray w fun e i=>∃us,e=.returned (ej us)/\aDU con w i c b own d u r us/\dX (fun g=>(own g).isSome=true) w i
def Gs (P:Program)(T:Tab)(f:FuncId):Any->Prop
 |.one c=>aj3 P T f c|.two c=>aj4 P T f c|.sel c=>aj5 P T f c|.idx i=>Xj P f/\∀[ei] W,T.p W->aBw P f i W|.ins e u=>Xj P f/\∀W,T.p W->aBx P f e u W|.del e u=>Xj P f/\∀W,T.p W->aBy P f e u W
def Om (P:Program)(w0:dY)(f:FuncId):Any->Prop
 |.one c=>agm P w0 f c|.two c=>ZH P w0 f c|.sel c=>aq6 P w0 f c|.idx i=>Xj P f/\∀W,dX w0.fr w0.w W->aBw P f i W|.ins e u=>Xj P f/\∀W,dX w0.fr w0.w W->aBx P f e u W|.del e u=>Xj P f/\∀W,dX w0.fr w0.w W->aBy P f e u W
def aj3.at {P:Program}{T:Tab}{f:FuncId}{con:Con}(h:aj3 P T f con){w0:dY}(d:T.p w0.w)(e:∀b,w0.fr b->¬T.bl b):agm P w0 f con :=
 ⟨h.1,fun x r g w c=>h.2 x r g w (aU w0.hB c.size) (T.keeps d e c)⟩
def aj4.at {P:Program}{T:Tab}{f:FuncId}{con:Ll}(h:aj4 P T f con){w0:dY}(i:T.p w0.w)(j:∀b,w0.fr b->¬T.bl b):ZH P w0 f con :=
 ⟨h.1,h.2.1,fun x r n w l ok p own q s u c t=>h.2.2 x r n w (aU w0.hB l.size) (T.keeps i j l) ok p own q s u ⟨c.kC,fun g d e=>⟨(c.bf g d e).1,(c.bf g d e).2.1,fun m=>by
  rcases(c.bf g d e).2.2 with h1|h1
  .have:=T.lt _ i g m;omega
  .exact j g h1 m⟩,c.cz,c.hb⟩ t⟩
def aj5.at {P:Program}{T:Tab}{f:FuncId}{con:Sel}(h:aj5 P T f con){w0:dY}(i:T.p w0.w)(j:∀b,w0.fr b->¬T.bl b):aq6 P w0 f con :=
 ⟨h.1,h.2.1,fun x r n w l ok p own q s u c t=>h.2.2 x r n w (aU w0.hB l.size) (T.keeps i j l) ok p own q s u ⟨c.kC,fun g d e=>⟨(c.bf g d e).1,(c.bf g d e).2.1,fun m=>by
  rcases(c.bf g d e).2.2 with h1|h1
  .have:=T.lt _ i g m;omega
  .exact j g h1 m⟩,c.cz,c.hb⟩ t⟩
def Gs.at {P:Program}{T:Tab}{f:FuncId}{con:Any}(h:Gs P T f con){w0:dY}(d:T.p w0.w)(g:∀b,w0.fr b->¬T.bl b):Om P w0 f con:=by
 cases con with
 |one c=>exact aj3.at h d g|two c=>exact aj4.at h d g|sel c=>exact aj5.at h d g|idx i=>exact⟨h.1,fun W j=>h.2 W (T.keeps d g j)⟩
 |ins e u=>exact⟨h.1,fun W j=>h.2 W (T.keeps d g j)⟩
 |del e u=>exact⟨h.1,fun W j=>h.2 W (T.keeps d g j)⟩
section
variable {P:Program} {w0:dY} {w:World} {G:Gh} {st:St} {a:Act} {U:Type} {k:St->Option U} {r:U} {K:Act->World->Prop} {Q:Exit->Act->World->Prop} {o:Oper}
def awr (h:Inv w0 G st a w){ok:Nat->Prop}{p:Ty×Bool}{x:CV}{u:Value}{y:p.1.D}(n:dL G w st.bx st.bl x u)
  (q:∀e t c v xs,c∈x.cells->bo G w st.bx st.bl c v->cn st e t c=some xs->Rd w ok (.sl e t) xs [v]) (hi:imV st p x=some y):abx w ok p y u:=by
 unfold imV at hi;split at hi
 .rename_i l d;split at hi
  .rename_i z f;cases hi;obtain⟨cs,s,hrel⟩:=n;obtain⟨g,i,b,j,m,_⟩:=Oi (ok:=ok) q hrel f;cases i with
   |cons _ _=>exact m.elim
   |nil =>
    rw[fD]at b;refine⟨g,j,?_⟩;rw[d,s,<-b]
  .cases hi
 .rename_i c d;split at hi
  .rename_i z f;cases hi;obtain⟨g,i,b,j,m,_⟩:=Oi (ok:=ok) (l:=[c]) (vs:=[u]) q ⟨n,trivial⟩ f;cases i with
   |cons _ _=>exact m.elim
   |nil =>
    rw[fD]at b;refine⟨g,j,?_⟩;rw[d,<-b];rfl
  .cases hi
 .cases hi
def aq7 (h:Inv w0 G st a w){ok:Nat->Prop}{p:Ty×Bool}{x:Operand}{y:p.1.D}
  (b:∀e t c v xs,c∈(st.dB x).cells->bo G w st.bx st.bl c v->cn st e t c=some xs->Rd w ok (.sl e t) xs [v]) (hi:im1 st p x=some y):abx w ok p y (a.eval x) :=
 awr h (h.dB x) b hi
def ayA (h:Inv w0 G st a w){ok:Nat->Prop}:∀(ps:List (Ty×Bool)) (cs:List CV) (vs:List Value) (x:Args ps),bY (dL G w st.bx st.bl) cs vs ->
  (∀e t c v xs,c∈aQ cs->bo G w st.bx st.bl c v->cn st e t c=some xs->Rd w ok (.sl e t) xs [v])->BP st ps cs=some x->dp w ok ps x vs
 |[],[],[],x,_,_,b=>rfl|[],[],_::_,_,h,_,_=>h.elim|_,_::_,[],_,h,_,_=>h.elim|[],_::_,_::_,x,_,_,b=>by simp[BP]at b
 |_::_,[],_,x,_,_,b=>by simp[BP]at b
 |p::ps,y::os,v::vs,x,f,g,b=>by
  simp only[BP]at b;split at b
  .rename_i z i;split at b
   .rename_i j l;cases b;exact⟨v,vs,rfl,awr h f.1 (fun e t c v xs d=>g e t c v xs (by simp[aQ,d])) i,ayA h ps os vs j f.2 (fun e t c v xs d=>g e t c v xs (by simp[aQ,d])) l⟩
   .cases b
  .cases b
def I2 (h:Inv w0 G st a w){ok:Nat->Prop}:∀(ps:List (Ty×Bool)) (os:List Operand) (x:Args ps),
  (∀e t c v xs,c∈jI st os->bo G w st.bx st.bl c v->cn st e t c=some xs->Rd w ok (.sl e t) xs [v])->NL st ps os=some x->dp w ok ps x (os.map a.eval)
 |[],[],x,_,b=>rfl|[],_::_,x,_,b=>by simp[NL]at b
 |_::_,[],x,_,b=>by simp[NL]at b
 |p::ps,y::os,x,f,b=>by
  simp only[NL]at b;split at b
  .rename_i z g;split at b
   .rename_i i j;cases b;exact⟨a.eval y,os.map a.eval,rfl,aq7 h (fun e t c v xs d=>f e t c v xs (by simp[jI,d])) g,I2 h ps os i (fun e t c v xs d=>f e t c v xs (by simp[jI,d])) j⟩
   .cases b
  .cases b
def TO (h:Inv w0 G st a w):∀e t c v xs,bo G w st.bx st.bl c v->cn st e t c=some xs->Rd w (fun _=>True) (.sl e t) xs [v] :=
 fun e t c v xs b d=>jv h b d (fun _ _ _ _ _=>⟨fun _ _=>trivial,fun _ _ _=>trivial⟩) (fun _ _ _ _ _ _ _=>trivial)
structure aGY (w:World) (okE:Nat->Prop) (f:Bool) (own:Nat->Option Nat) (id:Nat) (z:Nat×eF×Value):Prop where
 wr:z.2.1.w=true
 nf:z.2.1.f=(f || flat z.2.1.t)
 pos:0<z.2.1.t.n
 row:∃rows,w.ownsRow 0 z.2.1.e z.2.1.t.n z.2.2 z.2.1.xs.length rows/\et w okE z.2.1.t rows z.2.1.xs
 oi:∀g,z.2.2.ownBlock=some g->own g=some (z.1-id*64)
def sQ (L:List (Nat×eF×Value)):AC->Value->Prop
 |.int k n,v=>v=.int k n|.bool b,v=>v=.bool b|.str s,v=>v=.string s|.own i none,v=>∃b,(i,b,v)∈L|_,_=>False
def sQ.Ji {L L':List (Nat×eF×Value)}(h:∀z∈L,z∈L'):∀{c:AC} {v:Value},sQ L c v->sQ L' c v
 |.int _ _,_,d=>d|.bool _,_,d=>d|.str _,_,d=>d|.own i none,v,⟨b,e⟩=>⟨b,h _ e⟩|.own i (some l),v,d=>d.elim|.none,_,d=>d.elim|.nil,_,d=>d.elim|.ro _ _ _ _,_,d=>d.elim|.ptr _ _,_,d=>d.elim|.wS _ _ _,_,d=>d.elim|.Qd _ _ _ _,_,d=>d.elim|.fnp _ _,_,d=>d.elim|.any,_,d=>d.elim
structure Fr (w:World) (okE:Nat->Prop) (f:Bool) (own:Nat->Option Nat) (id lo hi:Nat) (q:List (Nat×Option eF)) (L:List (Nat×eF×Value)):Prop where
 q:q=L.map fun z=>(z.1,some z.2.1)
 rows:∀z∈L,id*64+lo<=z.1/\z.1<id*64+hi/\aGY w okE f own id z
 uniq:∀z∈L,∀z'∈L,z.1=z'.1->z=z'
def Fr.nil {w:World}{okE:Nat->Prop}{f:Bool}{own:Nat->Option Nat}{id lo hi:Nat}:Fr w okE f own id lo hi [] []:=⟨rfl,fun z b=>by simp at b,fun z b=>by simp at b⟩
def Fr.app {w:World}{okE:Nat->Prop}{f:Bool}{own:Nat->Option Nat}{id lo mid hi:Nat}{q i:List (Nat×Option eF)}{L L':List (Nat×eF×Value)}(h:Fr w okE f own id lo mid q L)(d:Fr w okE f own id mid hi i L')(n:lo<=mid)(p:mid<=hi) :
  Fr w okE f own id lo hi (q++i) (L++L'):=by
 refine⟨by rw[h.q,d.q,Zv],fun z b=>?_,fun z b e c j=>?_⟩
 .rcases eK.1 b with b|b
  .obtain⟨l,m,g⟩:=h.rows z b;exact⟨l,by omega,g⟩
  .obtain⟨l,m,g⟩:=d.rows z b;exact⟨by omega,m,g⟩
 .rcases eK.1 b with b|b<;>rcases eK.1 c with c|c
  .exact h.uniq z b e c j
  .have:=(h.rows z b).2.1;have:=(d.rows e c).1;omega
  .have:=(d.rows z b).1;have:=(h.rows e c).2.1;omega
  .exact d.uniq z b e c j
def aws {w:World}{okE:Nat->Prop}{f:Bool}{own:Nat->Option Nat}{id:Nat}:∀{t:Ty} {x:t.D} {j:Nat} {cs:List Value},FrC w okE own t x j cs ->
  ∃L,Fr w okE f own id j (j+t.n) (exR id f t x j).2 L/\bY (sQ L) (exR id f t x j).1 cs
 |.int k,x,j,cs,h=>⟨[],.nil,by rw[show cs=_ from h];exact⟨rfl,trivial⟩⟩
 |.bool,x,j,cs,h=>⟨[],.nil,by rw[show cs=_ from h];exact⟨rfl,trivial⟩⟩
 |.str,x,j,cs,h=>⟨[],.nil,by rw[show cs=_ from h];exact⟨rfl,trivial⟩⟩
 |.unit,x,j,cs,h=>⟨[],.nil,by rw[show cs=_ from h];trivial⟩
 |.pair a b,x,j,cs,h=>by obtain⟨E,F,rfl,i,l⟩:=h;obtain⟨m,n,p⟩:=aws (id:=id) i;obtain⟨q,s,u⟩:=aws (id:=id) l;refine⟨m++q,?_,bY.app (p.imp fun _ _=>sQ.Ji fun z c=>by simp[c]) (u.imp fun _ _=>sQ.Ji fun z c=>by simp[c])⟩;have:=n.app s (by omega) (by omega);rw[Tp]at this;exact this
 |.sl e t,xs,j,cs,h=>by
  obtain⟨v,rows,rfl,y,A,B,C⟩:=h;refine⟨[(id*64+j,⟨e,t,xs,f || flat t,true⟩,v)],⟨rfl,fun z c=>?_,fun z c H d _=>?_⟩,⟨⟨e,t,xs,f || flat t,true⟩,by simp⟩,trivial⟩
  .simp at c;subst c;refine⟨bh _,by simp[Ty.n],rfl,rfl,y,⟨rows,A,C⟩,fun g D=>?_⟩;rw[B g D]
   congr 1
   omega
  .simp at c d;rw[c,d]
def atr (L:List (Nat×eF×Value)):CV->Value->Prop
 |.c x,v=>sQ L x v|.agg l,v=>∃cs,v=.agg cs/\bY (sQ L) l cs.toList
def atr.Ji {L L':List (Nat×eF×Value)}(h:∀z∈L,z∈L'){c:CV}{v:Value}(b:atr L c v):atr L' c v:=by
 cases c with
 |c x=>exact sQ.Ji h b
 |agg l =>
  obtain⟨cs,d,e⟩:=b;exact⟨cs,d,e.imp fun _ _=>sQ.Ji h⟩
def aBz {w:World}{okE:Nat->Prop}{f:Bool}{own:Nat->Option Nat}{id:Nat}{p:Ty×Bool}{x:p.1.D}{j:Nat}{v:Value}(h:ayz w okE own p x j v)(n:p.2=true\/p.1.n=1) :
  ∃L,Fr w okE f own id j (j+p.1.n) (ex1 id f p x j).2 L/\atr L (ex1 id f p x j).1 v:=by
 obtain⟨d,i,m⟩:=h;obtain⟨L,q,g⟩:=aws (id:=id) i;refine⟨L,q,?_⟩;obtain⟨t,s⟩:=p;cases s with
 |true=>exact⟨d.toArray,m,g⟩
 |false =>
  have y:t.n=1:=by simpa using n
  have:d.length=1:=by
   have z:∀{t:Ty} {x:t.D} {j:Nat} {d:List Value},FrC w okE own t x j d->d.length=t.n:=by
    intro t
    induction t with
    |int k=>intro x j d h;rw[show d=_ from h];rfl
    |bool=>intro x j d h;rw[show d=_ from h];rfl
    |str=>intro x j d h;rw[show d=_ from h];rfl
    |unit=>intro x j d h;rw[show d=_ from h];rfl
    |pair a b A B =>
     intro x j d h;obtain⟨C,D,rfl,i,m⟩:=h;simp[Ty.n,A i,B m]
    |sl e t _ =>
     intro x j d h;obtain⟨v,rows,rfl,_⟩:=h;rfl
   rw[z i];exact y
  obtain⟨u,rfl⟩:∃u,d=[u]:=by
   cases d with
   |nil=>simp at this
   |cons u d =>
    cases d with
    |nil=>exact⟨u,rfl⟩|cons _ _=>simp at this
  show sQ L (match (exR id f t x j).1 with|[c]=>c|_=>.none) v;rw[show v=u from m]
  revert g
  generalize (exR id f t x j).1=l;intro g;cases l with
  |nil=>exact g.elim
  |cons c l =>
   cases l with
   |nil=>exact g.1|cons _ _=>exact g.2.elim
def aby {w:World}{okE:Nat->Prop}{f:Bool}{own:Nat->Option Nat}{id:Nat}:∀{rs:List (Ty×Bool)} {x:Args rs} {j:Nat} {vs:List Value},dM rs=true->ny w okE own rs x j vs ->
  ∃L,Fr w okE f own id j (j+nOf rs) (kB id f rs x j).2 L/\bY (atr L) (kB id f rs x j).1 vs
 |[],x,j,vs,_,h=>⟨[],.nil,by rw[show vs=[] from h];trivial⟩
 |a::l,x,j,vs,b,h=>by obtain⟨v,t,rfl,e,g⟩:=h;simp only[dM,aE,jH]at b;obtain⟨i,m,n⟩:=aBz (id:=id) (f:=f) e (b.1.imp_right aK);obtain⟨p,q,s⟩:=aby (id:=id) (f:=f) b.2 g;have d:=m.app q (by omega) (by omega);rw[Tp]at d;exact⟨i++p,d,n.Ji fun z c=>by simp[c],s.imp fun _ _=>atr.Ji fun z c=>by simp[c]⟩
def abz {L:List (Nat×eF×Value)}{i:Nat}:∀{b:eF},look (L.map fun z=>(z.1,some z.2.1)) i=some (some b)->∃v,(i,b,v)∈L:=by
 induction L with
 |nil=>intro b h;simp[look]at h
 |cons z L d =>
  intro b h;rw[sE,ar]at h;by_cases c:z.1=i
  .simp only[c,gr]at h;cases h;refine⟨z.2.2,?_⟩;rw[<-c];simp
  .simp only[c,fG]at h;obtain⟨v,e⟩:=d h;exact⟨v,by simp[e]⟩
def jM {L:List (Nat×eF×Value)}{z:Nat×eF×Value}(h:z∈L):(look (L.map fun z=>(z.1,some z.2.1)) z.1).isSome=true:=by
 induction L with
 |nil=>simp at h
 |cons y L c =>
  rw[sE,ar];by_cases b:y.1=z.1
  .simp[b]
  .simp only[b,fG];rcases cK.1 h with rfl|h
   .exact absurd rfl b
   .exact c h
def hvL (L:List (Nat×eF×Value))(i:Nat):Value:=match L.find? (·.1==i) with|some z=>z.2.2|none=>undef
def WH {L:List (Nat×eF×Value)}(d:∀z∈L,∀c∈L,z.1=c.1->z=c){z:Nat×eF×Value}(h:z∈L):hvL L z.1=z.2.2:=by
 unfold hvL;cases b:L.find? (·.1==z.1) with
 |none =>
  have:=ajx.1 b z h;simp at this
 |some y =>
  have e:=age b;have f:=XP b;have:=d y f z h (by simpa using e);rw[this]
def CT:∀{q:List (Nat×Option eF)},fq q st=true->∀id,(look q id).isSome=true->look st.bl id=none
 |[],_,id,h=>by simp[look]at h
 |(i,b)::q,c,id,h=>by
  simp only[fq,aE]at c;rw[ar]at h;by_cases d:i=id
  .subst d;cases e:look st.bl i with
   |none=>rfl|some x=>rw[e]at c;simp at c
  .simp only[d,fG]at h;exact CT c.2 id h
def wY {R:CV->Value->Prop}{G:Gh}{w:World}{bx:List (Nat×List AC)}{bl:List (Nat×Option eF)}{cs:List CV}{vs:List Value}(h:bY (dL G w bx bl) cs vs) :
  gu G w bx bl (Jf cs) (ej vs):=by
 cases cs with
 |nil =>
  cases vs with
  |nil=>exact⟨_,rfl,trivial⟩|cons _ _=>exact h.elim
 |cons c cs =>
  cases vs with
  |nil=>exact h.elim
  |cons v vs =>
   cases cs with
   |nil =>
    cases vs with
    |nil=>exact h.1|cons _ _=>exact h.2.elim
   |cons b cs =>
    cases vs with
    |nil=>exact h.2.elim|cons d vs=>exact⟨_,rfl,h⟩
def CU {f:Bool}{G:Gh}{w:World}{bx:List (Nat×List AC)}{bl:List (Nat×Option eF)}:∀{rs:List (Ty×Bool)} {x:Args rs} {vs:List Value},dM rs=true->dp w (RO G f) rs x vs ->
  bY (dL G w bx bl) (exF f rs x) vs
 |[],x,vs,_,h=>by rw[show vs=[] from h];trivial
 |a::l,x,vs,b,h=>by
  obtain⟨v,p,rfl,⟨cs,e,g⟩,i⟩:=h;simp only[dM,aE,jH]at b;have j:=CU (bx:=bx) (bl:=bl) b.2 i;have hrel:=TJ (bx:=bx) (bl:=bl) e;refine⟨?_,j⟩;obtain⟨t,m⟩:=a;cases m with
  |true=>exact⟨cs.toArray,g,hrel⟩
  |false =>
   have n:t.n=1:=by
    rcases b.1 with h|h
    .cases h
    .exact aK h
   obtain⟨u,rfl⟩:=Jm e n;show bo G w bx bl (match ex f t x.1 with|[c]=>c|_=>.none) v;rw[show v=u from g]
   revert hrel
   generalize ex f t x.1=d;intro hrel;cases d with
   |nil=>exact hrel.elim
   |cons c d =>
    cases d with
    |nil=>exact hrel.1|cons _ _=>exact hrel.2.elim
def eu {w:World}{ok c:Nat->Prop}(h:∀g,ok g->c g):∀{ps:List (Ty×Bool)} {x:Args ps} {vs:List Value},dp w ok ps x vs->dp w c ps x vs
 |[],_,_,b=>b|a::l,x,vs,b=>by obtain⟨v,d,rfl,⟨cs,e,f⟩,i⟩:=b;exact⟨v,d,rfl,⟨cs,gv h e,f⟩,eu h i⟩
def aBA {rs:List (Ty×Bool)}(Z:dM rs=true){w':World}(h:Inv w0 G st a w)(F:Below w.heap.size w w'){y:Args rs}{us:List Value}
  (qd:∃own:Nat->Option Nat,(∀g O,own g=some O->w.heap.size<=g)/\ny w' (fun g=>w.heap.size<=g/\own g=none) own rs y 0 us) {d:Tmp} (qe:Nat.blt d st.nt=true) (qf:fq (kB d true rs y 0).2 st=true)
  (qg:(k {(st.put d (Jf (kB d true rs y 0).1)) with bl:=(kB d true rs y 0).2++st.bl})=some r) (qh:q9 w0 k r K) :
  K (a.put (some d) (ej us)) w':=by
 have e:w.grownBy w' none:=⟨F.os,F.tape,F.output,F.size,fun k qi _=>F.block k qi⟩
 .obtain⟨own,bf,hfr⟩:=qd;obtain⟨L,q,qj⟩:=aby (id:=d) (f:=true) Z hfr;have S:=q.q
  let j:Nat->Option Nat:=fun g=>match own g with
   |some O=>match L.find? (·.1==d*64+O) with
    |some z=>if z.2.2.ownBlock=some g then some z.1 else none|none=>none
   |none=>none
  have hnw:∀g id,j g=some id->∃z∈L,z.1=id/\z.2.2.ownBlock=some g:=by
   intro g id m;simp only[j]at m;split at m
   .split at m
    .rename_i z p;split at m
     .cases m;exact⟨z,XP p,rfl,by assumption⟩
     .cases m
    .cases m
   .cases m
  have qk:∀z∈L,∀g,z.2.2.ownBlock=some g->j g=some z.1:=by
   intro z p g e;have u:=(q.rows z p).2.2.oi g e;have ql:=(q.rows z p).1;simp only[j,u];have qm:d*64+(z.1-d*64)=z.1:=Nat.add_sub_of_le ql;rw[qm];cases H:L.find? (·.1==z.1) with
   |none =>
    have:=ajx.1 H z p;simp at this
   |some y =>
    have T:=age H;have I:=XP H;have:=q.uniq y I z p (by simpa using T);subst this;simp[e]
  have qn:∀g,own g=none->j g=none:=by intro g e;simp only[j,e]
  have qv:=h.atq none e (fun g e=>by cases e) (kB d true rs y 0).2 (hvL L) j (fun g id m=>by obtain⟨z,p,_,B⟩:=hnw g id m;exact .inl (bf g _ ((q.rows z p).2.2.oi g B)))
  have qo:∀g,w.heap.size<=g/\own g=none->RO (G.grow none (kB d true rs y 0).2 (hvL L) j) true g:=by
   intro g e;refine⟨?_,.inl <| h.atk e.1⟩;have:G.own g=none:=by
    cases C:G.own g with
    |none=>rfl|some k=>have:=(h.own _ _ C).2.1;omega
   simp[Gh.grow,qn g e.2,this]
  obtain⟨hinv,_,qw⟩:=h.grow none e (fun g e=>by cases e) (kB d true rs y 0).2 (hvL L) j (fun id E=>CT qf id E)
   (fun g id m=>by
    obtain⟨z,p,rfl,B⟩:=hnw g id m;obtain⟨T,I,D⟩:=q.rows z p;refine⟨by rw[S];exact jM p,by rw[WH q.uniq p];exact B,?_,.inl (bf g _ (D.oi g B))⟩;obtain⟨rows,C,_⟩:=D.row;rcases C.2 with ⟨t,_⟩|⟨N,cap,cur,t,_,qp,_⟩
    .rw[t]at B;simp[Value.ownBlock]at B
    .rw[t]at B;have:N=g:=by simpa [Value.ownBlock]using B
     subst this;exact(sC.1 qp).1)
   (fun id b u=>by
    have qq:=u;rw[S]at u;obtain⟨v,W⟩:=abz u;obtain⟨T,I,D⟩:=q.rows _ W;have M:(G.grow none (kB d true rs y 0).2 (hvL L) j).hv id=v:=by
     have:(look (kB d true rs y 0).2 id).isSome=true:=by rw[qq];rfl
     simp only[Gh.grow,this,gr];exact WH q.uniq W
    obtain⟨rows,C,qt⟩:=D.row;refine⟨fun _=>⟨rows,?_,?_,?_⟩,fun Y=>?_,D.pos⟩
    .rw[M];refine⟨C.1,?_⟩;rcases C.2 with qu|⟨N,cap,cur,t,qx,r⟩
     .exact .inl qu
     .exact .inr ⟨N,cap,cur,t,a7 _,r⟩
    .rw[M];intro g e;have:=qk _ W g e;simp[Gh.grow,this]
    .have H:b.f=true:=by rw[show b.f=_ from D.nf];rfl
     rw[H];exact kY qo qt
    .have:=D.wr;rw[show b.w=true from this]at Y;cases Y)
  have hrel:bY (dL (G.grow none (kB d true rs y 0).2 (hvL L) j) w' st.bx ((kB d true rs y 0).2++st.bl)) (kB d true rs y 0).1 us:=by
   have cell:∀c v,sQ L c v->bo (G.grow none (kB d true rs y 0).2 (hvL L) j) w' st.bx ((kB d true rs y 0).2++st.bl) c v:=by
    intro c v A;cases c with
    |own i len =>
     cases len with
     |some l=>exact A.elim
     |none =>
      obtain⟨b,u⟩:=A;have E:=jM u;rw[<-S]at E;have M:(G.grow none (kB d true rs y 0).2 (hvL L) j).hv i=v:=by simp only[Gh.grow,E,gr];exact WH q.uniq u
      refine⟨?_,?_,M.symm⟩
      .rw[c6];cases X:look (kB d true rs y 0).2 i with
       |none=>rw[X]at E;cases E|some x=>rfl
      .rw[M];obtain⟨rows,C,_⟩:=(q.rows _ u).2.2.row;rcases C.2 with ⟨t,_⟩|⟨N,cap,cur,t,_⟩
       .exact⟨_,_,_,t⟩
       .exact⟨_,_,_,t⟩
    |int k n=>exact A|bool b=>exact A|str s=>exact A|_=>exact A.elim
   refine qj.imp fun c v A=>?_
   cases c with
   |c x=>exact cell x v A
   |agg l =>
    obtain⟨cs,t,X⟩:=A;exact⟨cs,t,X.imp cell⟩
  have I:=hinv.put d (fs qe) (wY (R:=fun _ _=>True) hrel);exact qh _ _ _ _ I qg
def ayB {rs:List (Ty×Bool)}(i:dM rs=true){w':World}(h:Inv w0 G st a w)(e:Below w.heap.size w w'){y:Args rs}{us:List Value}{f:Bool}{ok:Nat->Prop}
  (j:dp w' ok rs y us) (cz:∀g,ok g->w.heap.size<=g\/RO G f g) {d:Tmp} (l:Nat.blt d st.nt=true)
  (m:k (st.put d (Jf (exF f rs y)))=some r) (n:q9 w0 k r K) :
  K (a.put (some d) (ej us)) w':=by
 have c:w.grownBy w' none:=⟨e.os,e.tape,e.output,e.size,fun k p _=>e.block k p⟩;obtain⟨hinv,A,B⟩:=h.grow none c (fun g c=>by cases c) [] G.hv (fun _=>none) (fun id q=>by simp[look]at q) (fun g id s=>by cases s) (fun id b t=>by simp[look]at t);have u:∀g,ok g->RO (G.grow none [] G.hv (fun _=>none)) f g:=by
  intro g c;rcases cz g c with c|c
  .refine⟨?_,.inl <| h.atk c⟩;have:G.own g=none:=by
    cases v:G.own g with
    |none=>rfl|some k=>have:=(h.own _ _ v).2.1;omega
   simp[Gh.grow,this]
  .exact⟨by simp[Gh.grow,c.1],c.2⟩
 have x:=CU (G:=G.grow none [] G.hv (fun _=>none)) (bx:=st.bx) (bl:=[]++st.bl) i (eu u j);have z:=hinv.put d (fs l) (wY (R:=fun _ _=>True) x);exact n _ _ _ _ z m
def On:∀{l:List Nat} {n:Nat},NK l n=true↔n∈l
 |[],n=>by simp[NK]
 |x::l,n=>by
  simp only[NK];split
  .rename_i b;have:=aK b;subst this;simp
  .rename_i b;have:n≠x:=by rintro rfl;simp at b
   rw[On];simp[this]
def TP:List AC->Nat->Nat->Option Nat
 |[],_,_=>none|.own i _::l,id,k=>if i=id then some k else TP l id (k+1)|_::l,id,k=>TP l id (k+1)
def ats {id:Nat}{len:Option Int}{l:List AC}:∀{pre:List AC} {k:Nat},(∀len,AC.own id len ∉ pre)->TP (pre++.own id len::l) id k=some (k+pre.length)
 |[],k,_=>by simp[TP]
 |c::pre,k,h=>by
  have b:∀len,AC.own id len ∉ pre:=fun len d=>h len (by simp[d])
  have e:=ats (len:=len) (l:=l) (k:=k+1) b;have f:TP ((c::pre)++.own id len::l) id k=TP (pre++.own id len::l) id (k+1):=by
   cases c with
   |own i g =>
    have:i≠id:=by rintro rfl;exact h g (by simp)
    simp[TP,this]
   |_=>rfl
  rw[f,e];simp;omega
def b1 (G:Gh)(all:List AC)(g:Nat):Option Nat:=match G.own g with
 |some (.bl id)=>TP all id 0|_=>none
def aBB {m:Nat}(hm:m=2\/m=3){okE:Nat->Prop}(N:∀g,RO G (m2 m) g->okE g)(h:Inv w0 G st a w)(all T:List AC):∀{t:Ty} {pre L L' C:List AC} {seen:List Nat} {vs:List Value} {x:t.D},all=pre++(L++T)->(∀s len,AC.own s len∈pre->s∈seen)->fU st m seen (L++T)=true ->
  Fx st t L=some C->im st t L=some (x,L')->bY (bo G w st.bx st.bl) L vs ->
  ∃H I O Z,L=H++L'/\H.length=t.n/\C=L'/\vs=I++O/\FrC w okE (b1 G all) t x pre.length I/\bY (bo G w st.bx st.bl) L' O/\fU st m Z (L'++T)=true/\(∀s len,AC.own s len∈pre++H->s∈Z)
 |.int k,pre,L,L',C,seen,vs,x,D,u,cz,j,d,hrel=>by
  cases L with
  |nil=>simp[im]at d
  |cons c L =>
   cases c with
   |int l n =>
    simp only[im]at d;cases vs with
    |nil=>exact hrel.elim
    |cons v vs =>
     simp only[Fx]at j;cases j;have A:v=.int l n:=hrel.1;split at d
     .cases d;have E:=abf ‹_›;refine⟨[.int l x],[v],vs,seen,rfl,rfl,rfl,rfl,by rw[A,E];rfl,hrel.2,cz,?_⟩;intro s len hm;simp at hm;exact u s len hm
     .cases d
   |_=>simp[im]at d
 |.bool,pre,L,L',C,seen,vs,x,D,u,cz,j,d,hrel=>by
  cases L with
  |nil=>simp[im]at d
  |cons c L =>
   cases c with
   |bool b =>
    simp only[im]at d;cases vs with
    |nil=>exact hrel.elim
    |cons v vs =>
     simp only[Fx]at j;cases j;have A:v=.bool b:=hrel.1;cases d;refine⟨[.bool x],[v],vs,seen,rfl,rfl,rfl,rfl,by rw[A];rfl,hrel.2,cz,?_⟩;intro s len hm;simp at hm;exact u s len hm
   |_=>simp[im]at d
 |.str,pre,L,L',C,seen,vs,x,D,u,cz,j,d,hrel=>by
  cases L with
  |nil=>simp[im]at d
  |cons c L =>
   cases c with
   |str b =>
    simp only[im]at d;cases vs with
    |nil=>exact hrel.elim
    |cons v vs =>
     simp only[Fx]at j;cases j;have A:v=.string b:=hrel.1;cases d;refine⟨[.str x],[v],vs,seen,rfl,rfl,rfl,rfl,by rw[A];rfl,hrel.2,cz,?_⟩;intro s len hm;simp at hm;exact u s len hm
   |_=>simp[im]at d
 |.unit,pre,L,L',C,seen,vs,x,D,u,cz,j,d,hrel=>by simp only[im]at d;cases d;simp only[Fx]at j;cases j;exact⟨[],[],vs,seen,rfl,rfl,rfl,rfl,rfl,hrel,cz,by simpa using u⟩
 |.pair p q,pre,L,L',C,seen,vs,x,D,u,cz,j,d,hrel=>by
  simp only[im]at d;split at d
  .rename_i y qM qi;split at d
   .rename_i z qN R;cases d;simp only[Fx]at j;split at j
    .rename_i qO qj;obtain⟨H,I,O,qP,A,E,S,qk,ql,qm,qn,qo⟩:=aBB hm N h all T D u cz qj qi hrel;subst S;obtain⟨qp,qd,qq,qt,qu,qv,qw,qx,qe,qy,qz,qA⟩:=aBB hm N h all T (pre:=pre++H) (by rw[D,A,ku,ku]) qo qn j R qm;refine⟨H++qp,I++qd,qq,qt,by rw[A,qu,ku],by simp[Ty.n,E,qv],qw,by rw[qk,qx,ku],⟨I,qd,rfl,ql,?_⟩,qy,qz,by rw[<-ku];exact qA⟩;rw[aN,E]at qe;exact qe
    .cases j
   .cases d
  .cases d
 |.sl e t,pre,L,L',C,seen,vs,x,D,u,cz,j,d,hrel=>by
  cases L with
  |nil=>simp[im]at d
  |cons c L =>
   simp only[im]at d;split at d
   .rename_i xs B;cases d;cases vs with
    |nil=>exact hrel.elim
    |cons v vs =>
     cases c with
     |own s len =>
      simp only[Gp,fU]at cz;split at cz
      .rename_i b W;have qB:((b.f=true\/m=0)\/m=3)/\b.w=true/\(!NK seen s)=true/\len.isNone=true/\fU st m (s::seen) (L'++T)=true:=by
        have hlen:∀l:Option Int,(match l with|none=>true|some _=>false)=true->l.isNone=true:=by
         intro l qC;cases l with
         |none=>rfl|some _=>cases qC
        rcases hm with rfl|rfl
        .simp only[aE,jH]at cz;exact⟨.inl (.inl (cz.1.1.elim (fun h=>h.elim (fun h=>h) (fun h=>by cases h)) (fun h=>by cases h))),cz.1.2.1.1,cz.1.2.1.2,hlen _ cz.1.2.2,cz.2⟩
        .simp only[aE]at cz;exact⟨.inr rfl,cz.1.2.1.1,cz.1.2.1.2,hlen _ cz.1.2.2,cz.2⟩
       obtain⟨X,qD,qf,hlen,qE⟩:=qB;have X:m2 m=true->b.f=true:=by
        intro E;have:m=2:=aK E;rcases X with (h|h)|h
        .exact h
        .omega
        .omega
       cases len with
       |some l=>simp at hlen
       |none =>
        simp only[Fx,W]at j;split at j
        .rename_i M;cases j;have M:=aK M;simp only[cn,W,M,adW]at B;split at B
         .rename_i qF;have B:=eh B;have qg:=h.bl s b (dm W);obtain⟨rows,A,E,S⟩:=qg.wr qD;have qG:=qg.pos;obtain⟨be,qQ,bxs,qR,qS⟩:=b;dsimp only at *;have qH:=Ty.beq_eq qF;subst qH;subst M;have B:bxs=x:=B;subst B;have qI:∀len,AC.own s len ∉ pre:=by intro len hm;have:=u s len hm;rw[<-On]at this;rw[this]at qf;cases qf
          have qK:TP all s 0=some pre.length:=by rw[D,Gp,ats qI,vS]
          refine⟨[.own s none],[v],vs,s::seen,rfl,rfl,rfl,rfl,⟨v,rows,rfl,qG,?_,?_,?_⟩,hrel.2,qE,?_⟩
          .rw[hrel.1.2.2];exact A
          .intro g F;rw[hrel.1.2.2]at F;simp only[b1,E g F,qK]
          .exact kY (fun g F=>N g (RO.Ji X F)) S
          .intro i Y hm;rcases eK.1 hm with hm|hm
           .exact jG _ (u i Y hm)
           .simp at hm;rw[hm.1];simp
         .cases B
        .cases j
      .cases cz
     |nil =>
      simp only[cn]at B;cases B;simp only[Fx]at j;split at j
      .cases j
      .rename_i qh;cases j;have A:v=.slice none 0 0:=hrel.1;refine⟨[.nil],[v],vs,seen,rfl,rfl,rfl,rfl,⟨v,[],rfl,?_,?_,?_,?_⟩,hrel.2,cz,?_⟩
       .cases R:t.n with
        |zero=>rw[R]at qh;simp at qh|succ n=>omega
       .rw[A];exact⟨by simp,.inl ⟨rfl,rfl⟩⟩
       .intro g F;rw[A]at F;simp[Value.ownBlock]at F
       .intro qT x qL;simp at qL
       .intro i Y hm;simp at hm;exact u i Y hm
     |ro f qW qX qY=>rcases hm with rfl|rfl<;>simp[fU]at cz
     |_=>simp[cn]at B
   .cases d
def Hz {m:Nat}(u:m=2\/m=3){okE:Nat->Prop}(A:∀g,RO G (m2 m) g->okE g)(h:Inv w0 G st a w)(all T:List AC):∀(rs:List (Ty×Bool)) (l:List CV) (us:List Value) (r:Args rs) {pre:List AC} {seen:List Nat},bY (dL G w st.bx st.bl) l us->all=pre++(aQ l++T)->(∀id len,AC.own id len∈pre->id∈seen) ->
  fU st m seen (aQ l++T)=true->wT st rs l=true->BP st rs l=some r->ny w okE (b1 G all) rs r pre.length us/\∃j,fU st m j T=true/\(∀id len,AC.own id len∈pre++aQ l->id∈j)/\(aQ l).length=nOf rs
 |[],[],[],r,_,seen,_,_,i,I,_,_=>⟨rfl,seen,I,by simpa [aQ]using i,rfl⟩
 |_,[],_::_,_,_,_,f,_,_,_,_,_=>f.elim|_,_::_,[],_,_,_,f,_,_,_,_,_=>f.elim|[],_::_,_::_,_,_,_,_,_,_,_,_,b=>by simp[BP]at b
 |_::_,[],[],_,_,_,_,_,_,_,_,b=>by simp[BP]at b
 |p::rs,o::l,v::us,r,pre,seen,f,q,L,cz,B,b=>by
  simp only[BP]at b;split at b
  .rename_i x d;split at b
   .rename_i y M;cases b;simp only[wT,aE]at B;obtain⟨C,N⟩:=B;have O:Fx st p.1 o.cells=some []:=by
     split at C
     .assumption
     .cases C
    have D:=f.1;have R:∃e,im st p.1 o.cells=some (x,[])/\bY (bo G w st.bx st.bl) o.cells e/\v=(match p.2 with|true=>.agg e.toArray|false=>e.headD undef):=by
     unfold imV at d;split at d
     .rename_i cs i;split at d
      .rename_i z s;cases d;obtain⟨e,S,hrel⟩:=D;refine⟨e.toList,s,hrel,by rw[i,S,wQ]⟩
      .cases d
     .rename_i c i;split at d
      .rename_i z s;cases d;exact⟨[v],s,⟨D,trivial⟩,by rw[i];rfl⟩
      .cases d
     .cases d
    obtain⟨e,W,hrel,X⟩:=R;have t:aQ (o::l)=o.cells++aQ l:=rfl;rw[t,ku]at q cz;obtain⟨qj,qk,Y,ql,n,E,qm,F,Z,qd,qe,qf⟩:=aBB u A h all (aQ l++T) q L cz O W hrel;rw[fD]at n;cases Y with
    |cons _ _=>exact qd.elim
    |nil =>
     rw[fD]at F;subst F;obtain⟨H,j,qg,qh,qi⟩:=Hz u A h all T rs l us y (pre:=pre++o.cells) f.2 (by rw[q,ku]) (by rw[n];exact qf) qe N M;rw[aN,n,E]at H;refine⟨⟨v,us,rfl,⟨e,Z,X⟩,H⟩,j,qg,?_,?_⟩
     .rw[t,<-ku];exact qh
     .rw[t,aN,qi,n,E];rfl
   .cases b
  .cases b
end
end Go.Am
