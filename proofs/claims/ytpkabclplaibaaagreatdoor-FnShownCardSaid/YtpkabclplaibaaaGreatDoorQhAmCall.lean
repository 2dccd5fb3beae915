/- No condition. -/
import Derived.Test.YtpkabclplaibaaaGreatDoorQhAmOps7
set_option linter.all false
namespace Go.Am
open Go.RowKit
variable [ds]
def PF (w:World)(ok:Nat->Prop)(a:Ty×Bool)(x:a.1.D)(v:Value):Prop :=
 ∃cs,Rd w ok a.1 x cs/\v=(match a.2 with|true=>.agg cs.toArray|false=>cs.headD undef)
def cT (w:World)(ok:Nat->Prop):(ps:List (Ty×Bool))->Args ps->List Value->Prop
 |[],_,b=>b=[]|a::l,x,b=>∃v c,b=v::c/\PF w ok a x.1 v/\cT w ok l x.2 c
def FrC (w:World)(okE:Nat->Prop)(own:Nat->Option Nat):(t:Ty)->t.D->Nat->List Value->Prop
 |.int k,x,_,cs=>cs=[.int k x]|.bool,x,_,cs=>cs=[.bool x]|.str,x,_,cs=>cs=[.string x]|.unit,_,_,cs=>cs=[]|.pair a b,x,c,cs=>∃d f,cs=d++f/\FrC w okE own a x.1 c d/\FrC w okE own b x.2 (c+a.n) f|.sl e t,xs,c,cs=>∃v rows,cs=[v]/\0<t.n/\w.ownsRow 0 e t.n v xs.length rows/\(∀g,v.ownBlock=some g->own g=some c)/\dx w okE t rows xs
def ai0 (w:World)(okE:Nat->Prop)(own:Nat->Option Nat)(a:Ty×Bool)(x:a.1.D)(j:Nat)(v:Value):Prop :=
 ∃cs,FrC w okE own a.1 x j cs/\v=(match a.2 with|true=>.agg cs.toArray|false=>cs.headD undef)
def j5 (w:World)(okE:Nat->Prop)(own:Nat->Option Nat):(rs:List (Ty×Bool))->Args rs->Nat->List Value->Prop
 |[],_,_,b=>b=[]|a::l,x,c,b=>∃v d,b=v::d/\ai0 w okE own a x.1 c v/\j5 w okE own l x.2 (c+a.1.n) d
def dj:List Value->Value
 |[v]=>v|b=>.tuple b.toArray
def Jq (ok:Nat->Prop)(w w':World)(con:Con)(r:Args con.rs)(vs:List Value):Prop :=
 match con.m with
 |0=>cT w' (fun g=>w.heap.size<=g\/ok g) con.rs r vs
 |1=>cT w' (fun g=>w.heap.size<=g) con.rs r vs
 |_=>∃own:Nat->Option Nat,(∀g b,own g=some b->w.heap.size<=g)/\j5 w' (fun g=>w.heap.size<=g/\own g=none) own con.rs r 0 vs
def L6 (P : Program) (f : FuncId) : Prop := ∃ fn, P.funcs[f]? = some fn ∧ (fn.name == "runtime.NumGoroutine") = false ∧ fn.body.isNone = false
def Tp (P:Program)(w0:di)(f:FuncId)(con:Con):Prop :=
 L6 P f /\
 ∀(x:Args con.ps) (r:Args con.rs),con.g x=some r->∀(w:World),dh w0.fr w0.w w->∀(d:Nat->Prop) (b:List Value),cT w d con.ps x b ->
  Calls P f b.toArray w fun e c=>∃us,e=.returned (dj us)/\Jq d w c con r us/\Below w.heap.size w c
structure ZI where
 p:World->Prop
 bl:Nat->Prop
 lt:∀w,p w->∀b,bl b->b<w.heap.size
 mono:∀w w',p w->(∀b,bl b->w'.heap[b]?=w.heap[b]?)->p w'
def Wz (P:Program)(T:ZI)(f:FuncId)(con:Con):Prop :=
 L6 P f /\
 ∀[ds] (x:Args con.ps) (r:Args con.rs),con.g x=some r->∀(w:World),ds.n<=w.heap.size->T.p w->∀(d:Nat->Prop) (b:List Value),cT w d con.ps x b ->
  Calls P f b.toArray w fun e c=>∃us,e=.returned (dj us)/\Jq d w c con r us/\Below w.heap.size w c
def ZI.keeps {T:ZI}{w0:di}(c:T.p w0.w)(e:∀b,w0.fr b->¬T.bl b){w:World}(f:dh w0.fr w0.w w):T.p w :=
 T.mono w0.w w c fun b d=>f.block b (T.lt _ c b d) fun h=>e b h d
def Tq:List (Ty×Bool)->Nat
 |[]=>0|a::l=>a.1.n+Tq l
def aqL (w:World)(ok nw:Nat->Prop)(own:Nat->Option Nat)(g0:Nat)(pm:PM)(a:Ty×Bool)(x:a.1.D)(v:Value):Prop:=match pm with
 |.rd=>PF w ok a x v|.own f=>ai0 w (fun g=>own g=none/\(nw g\/(f=false/\ok g))) own a x 0 v
 |.box=>v=.pointer (some ⟨g0,0,none⟩)/\(own g0).isSome=true/\∃cs e,w.heap[g0]?=some (.cells cs e (0,0))/\Rd w ok a.1 x cs.toList|.cur=>v=.pointer (some ⟨g0,0,none⟩)/\(own g0).isSome=true/\∃cs e,w.heap[g0]?=some (.cells cs e (0,0))/\Rd w (fun g=>own g=none/\nw g) a.1 x cs.toList
def tY (w:World)(ok nw:Nat->Prop)(own:Nat->Option Nat)(g0:Nat)(pm:PM):Nat->(ps:List (Ty×Bool))->Args ps->List Value->Value->Prop
 |0,a::l,x,c,u=>∃b,c=u::b/\aqL w ok nw own g0 pm a x.1 u/\cT w ok l x.2 b|i+1,a::l,x,c,u=>∃v b,c=v::b/\PF w ok a x.1 v/\tY w ok nw own g0 pm i l x.2 b u|_,[],_,_,_=>False
structure Handed (w:World) (B:Nat->Prop) (ok nw:Nat->Prop) (own:Nat->Option Nat):Prop where
 hz:∀g,w.heap.size<=g->nw g
 aS:∀g j,own g=some j->nw g/\g<w.heap.size/\B g
 cR:∀g,ok g->own g=none
 hb:∀g j,own g=some j->ds.n<=g
def N6 (con:CW)(w w':World)(ok nw:Nat->Prop)(own:Nat->Option Nat)(g0:Nat)(u:Value)(r:Args con.rs×Args con.qs)(us:List Value):Prop :=
 ∃bm:Nat->Option Nat,(∀g c,bm g=some c->w.heap.size<=g\/(own g).isSome=true) /\
  (match con.pm with
   |.rd=>True|.own _=>j5 w' (fun g=>bm g=none/\(nw g\/(m2 con.m=false/\ok g))) bm con.qs r.2 (Tq con.rs) (match con.qs with|[]=>[]|_=>[u])
   |.box=>(∃c,bm g0=some c/\Tq con.rs<=c)/\∃cs e,w'.heap[g0]?=some (.cells cs e (0,0))/\cT w' (fun g=>bm g=none/\(nw g\/ok g)) con.qs r.2 [.agg cs]
   |.cur=>(∃c,bm g0=some c/\Tq con.rs<=c)/\∃cs e,w'.heap[g0]?=some (.cells cs e (0,0))/\cT w' (fun g=>bm g=none/\nw g) con.qs r.2 [.agg cs]) /\
  (match con.m with
   |0=>cT w' (fun g=>bm g=none/\(nw g\/ok g)) con.rs r.1 us
   |1=>cT w' (fun g=>bm g=none/\nw g) con.rs r.1 us
   |4=>∃b cs e,us=[.pointer (some ⟨b,0,none⟩)]/\w.heap.size<=b/\(bm b).isSome=true/\w'.heap[b]?=some (.cells cs e (0,0))/\cT w' (fun g=>bm g=none/\nw g) con.rs r.1 [.agg cs]
   |5=>∃b cs e,us=[.pointer (some ⟨b,0,none⟩)]/\w.heap.size<=b/\(bm b).isSome=true/\w'.heap[b]?=some (.cells cs e (0,0))/\cT w' (fun g=>bm g=none/\(nw g\/ok g)) con.rs r.1 [.agg cs]
   |_=>j5 w' (fun g=>bm g=none/\(nw g\/(m2 con.m=false/\ok g))) bm con.rs r.1 0 us)
def akd (con:CW):Prop:=con.qs=[]\/∃p,con.qs=[p]/\gU con.ps con.i=some p
def alB (P:Program)(f:FuncId)(i:Idx)(W:World):Prop :=
 ∀(b:List i.a.1.D) (y:i.q.D) (s:Value) (B:Nat) (c:Array Value) (e d:TypeId),Rd W (fun _=>True) (.sl d i.a.1) b [s]->W.heap[B]?=some (.cells c e (0,0))->Rd W (fun _=>True) i.q y c.toList ->
  Calls P f #[s,.func (.func i.g) #[] #[.pointer (some ⟨B,0,none⟩)]] W fun e g=>e=.returned (.int .i64 (alg (fun x=>i.p x y) b 0))/\Below W.heap.size W g
def alC (P:Program)(f:FuncId)(e:TypeId)(u:Ty)(W:World):Prop :=
 ∀(s v:Value) (n m i:Nat) (c d:List Value),W.ownsRow 0 e u.n s n c->W.ownsRow 0 e u.n v m d->(∀g,s.ownBlock=some g->v.ownBlock≠some g)->1<=m->i<=n->n+m<=1073741824->(∀u∈c,u.oneCell'=true)->(∀u∈d,u.oneCell'=true) ->
  Calls P f #[s,.int .i64 i,v] W fun j h=>∃b,j=.returned b/\h.ownsRow 0 e u.n b (n+m) (c.take (i*u.n)++d++c.drop (i*u.n))/\W.grownBy h s.ownBlock/\(b.ownBlock=s.ownBlock\/∀g,b.ownBlock=some g->W.heap.size<=g)
def alD (P:Program)(f:FuncId)(e:TypeId)(u:Ty)(W:World):Prop :=
 ∀(s:Value) (n i b:Nat) (d:List Value),W.ownsRow 0 e u.n s n d->i<=b->b<=n->(∀u∈d,u.oneCell'=true) ->
  Calls P f #[s,.int .i64 i,.int .i64 b] W fun j h=>∃c,j=.returned c/\h.ownsRow 0 e u.n c (i+(n-b)) (d.take (i*u.n)++d.drop (b*u.n))/\W.grownBy h s.ownBlock/\(c.ownBlock=s.ownBlock\/∀g,c.ownBlock=some g->W.heap.size<=g)
def N7 (P:Program)(w0:di)(f:FuncId)(con:CW):Prop :=
 L6 P f/\akd con /\
 ∀(x:Args con.ps) (r:Args con.rs×Args con.qs),con.g x=some r->∀(w:World),dh w0.fr w0.w w->∀(c b:Nat->Prop) (own:Nat->Option Nat) (d:Nat) (h:List Value) (u:Value),
  Handed w (fun g=>w0.w.heap.size<=g\/w0.fr g) c b own->tY w c b own d con.pm con.i con.ps x h u ->
  Calls P f h.toArray w fun e i=>∃us,e=.returned (dj us)/\N6 con w i c b own d u r us/\dh (fun g=>(own g).isSome=true) w i
def WA (P:Program)(T:ZI)(f:FuncId)(con:CW):Prop :=
 L6 P f/\akd con /\
 ∀[ds] (x:Args con.ps) (r:Args con.rs×Args con.qs),con.g x=some r->∀(w:World),ds.n<=w.heap.size->T.p w->∀(c b:Nat->Prop) (own:Nat->Option Nat) (d:Nat) (h:List Value) (u:Value),
  Handed w (fun g=>¬T.bl g) c b own->tY w c b own d con.pm con.i con.ps x h u ->
  Calls P f h.toArray w fun e i=>∃us,e=.returned (dj us)/\N6 con w i c b own d u r us/\dh (fun g=>(own g).isSome=true) w i
def apI (con:Sel):CW:=⟨con.ps,con.i,.own true,[con.a,con.b],2,[],fun _=>none⟩
def aqM (con:Sel):CW:=⟨con.ps,con.i,.own true,[con.b],2,[con.q],fun _=>none⟩
def anX (con:Sel)(w w':World)(ok nw:Nat->Prop)(own:Nat->Option Nat)(g0:Nat)(u:Value)(r:con.a.1.D×con.b.1.D×con.q.1.D)(us:List Value):Prop :=
 ∃b d,us=[b,d]/\(match Wa con.b.1 r.2.1 with
  |true=>N6 (apI con) w w' ok nw own g0 u ((r.1,(r.2.1,())),()) [b,d]|false=>N6 (aqM con) w w' ok nw own g0 u ((r.2.1,()),(r.2.2,())) [d]/\(con.a.2=true->∃e,b=.agg e/\e.toList.length=con.a.1.n/\∀c∈e.toList,c.oneCell'=true))
def acq (P:Program)(w0:di)(f:FuncId)(con:Sel):Prop :=
 L6 P f/\gU con.ps con.i=some con.q /\
 ∀(x:Args con.ps) (r:con.a.1.D×con.b.1.D×con.q.1.D),con.g x=some r->∀(w:World),dh w0.fr w0.w w->∀(c b:Nat->Prop) (own:Nat->Option Nat) (d:Nat) (h:List Value) (u:Value),
  Handed w (fun g=>w0.w.heap.size<=g\/w0.fr g) c b own->tY w c b own d (.own true) con.i con.ps x h u ->
  Calls P f h.toArray w fun e i=>∃us,e=.returned (dj us)/\anX con w i c b own d u r us/\dh (fun g=>(own g).isSome=true) w i
def WB (P:Program)(T:ZI)(f:FuncId)(con:Sel):Prop :=
 L6 P f/\gU con.ps con.i=some con.q /\
 ∀[ds] (x:Args con.ps) (r:con.a.1.D×con.b.1.D×con.q.1.D),con.g x=some r->∀(w:World),ds.n<=w.heap.size->T.p w->∀(c b:Nat->Prop) (own:Nat->Option Nat) (d:Nat) (h:List Value) (u:Value),
  Handed w (fun g=>¬T.bl g) c b own->tY w c b own d (.own true) con.i con.ps x h u ->
  Calls P f h.toArray w fun e i=>∃us,e=.returned (dj us)/\anX con w i c b own d u r us/\dh (fun g=>(own g).isSome=true) w i
def wi (P:Program)(T:ZI)(f:FuncId):Any->Prop
 |.one c=>Wz P T f c|.two c=>WA P T f c|.sel c=>WB P T f c|.idx i=>L6 P f/\∀[ds] W,T.p W->alB P f i W|.ins e u=>L6 P f/\∀W,T.p W->alC P f e u W|.del e u=>L6 P f/\∀W,T.p W->alD P f e u W
def Fi (P:Program)(w0:di)(f:FuncId):Any->Prop
 |.one c=>Tp P w0 f c|.two c=>N7 P w0 f c|.sel c=>acq P w0 f c|.idx i=>L6 P f/\∀W,dh w0.fr w0.w W->alB P f i W|.ins e u=>L6 P f/\∀W,dh w0.fr w0.w W->alC P f e u W|.del e u=>L6 P f/\∀W,dh w0.fr w0.w W->alD P f e u W
def Wz.at {P:Program}{T:ZI}{f:FuncId}{con:Con}(h:Wz P T f con){w0:di}(d:T.p w0.w)(e:∀b,w0.fr b->¬T.bl b):Tp P w0 f con :=
 ⟨h.1,fun x r g w c=>h.2 x r g w (aL w0.hB c.size) (T.keeps d e c)⟩
def WA.at {P:Program}{T:ZI}{f:FuncId}{con:CW}(h:WA P T f con){w0:di}(i:T.p w0.w)(j:∀b,w0.fr b->¬T.bl b):N7 P w0 f con :=
 ⟨h.1,h.2.1,fun x r p w l ok q own s t u c v=>h.2.2 x r p w (aL w0.hB l.size) (T.keeps i j l) ok q own s t u ⟨c.hz,fun g d e=>⟨(c.aS g d e).1,(c.aS g d e).2.1,fun m=>by
  rcases(c.aS g d e).2.2 with n|n
  .have:=T.lt _ i g m;omega
  .exact j g n m⟩,c.cR,c.hb⟩ v⟩
def WB.at {P:Program}{T:ZI}{f:FuncId}{con:Sel}(h:WB P T f con){w0:di}(i:T.p w0.w)(j:∀b,w0.fr b->¬T.bl b):acq P w0 f con :=
 ⟨h.1,h.2.1,fun x r p w l ok q own s t u c v=>h.2.2 x r p w (aL w0.hB l.size) (T.keeps i j l) ok q own s t u ⟨c.hz,fun g d e=>⟨(c.aS g d e).1,(c.aS g d e).2.1,fun m=>by
  rcases(c.aS g d e).2.2 with n|n
  .have:=T.lt _ i g m;omega
  .exact j g n m⟩,c.cR,c.hb⟩ v⟩
def wi.at {P:Program}{T:ZI}{f:FuncId}{con:Any}(h:wi P T f con){w0:di}(d:T.p w0.w)(g:∀b,w0.fr b->¬T.bl b):Fi P w0 f con:=by
 cases con with
 |one c=>exact Wz.at h d g|two c=>exact WA.at h d g|sel c=>exact WB.at h d g|idx i=>exact⟨h.1,fun W j=>h.2 W (T.keeps d g j)⟩
 |ins e u=>exact⟨h.1,fun W j=>h.2 W (T.keeps d g j)⟩
 |del e u=>exact⟨h.1,fun W j=>h.2 W (T.keeps d g j)⟩
section
variable {P:Program} {w0:di} {w:World} {G:Gh} {st:St} {a:Act} {U:Type} {k:St->Option U} {r:U} {K:Act->World->Prop} {Q:Exit->Act->World->Prop} {o:Oper}
def ag4 (h:Inv w0 G st a w){ok:Nat->Prop}{p:Ty×Bool}{x:CV}{u:Value}{y:p.1.D}(q:da G w st.bx st.bl x u)
  (s:∀e t c v xs,c∈x.cells->a7 G w st.bx st.bl c v->bU st e t c=some xs->Rd w ok (.sl e t) xs [v]) (b:Ua st p x=some y):PF w ok p y u:=by
 unfold Ua at b;split at b
 .rename_i l f;split at b
  .rename_i z g;cases b;obtain⟨cs,A,hrel⟩:=q;obtain⟨i,j,d,m,n,_⟩:=Fe (ok:=ok) s hrel g;cases j with
   |cons _ _=>exact n.elim
   |nil =>
    rw[fo]at d;refine⟨i,m,?_⟩;rw[f,A,<-d]
  .cases b
 .rename_i c f;split at b
  .rename_i z g;cases b;obtain⟨i,j,d,m,n,_⟩:=Fe (ok:=ok) (l:=[c]) (vs:=[u]) s ⟨q,trivial⟩ g;cases j with
   |cons _ _=>exact n.elim
   |nil =>
    rw[fo]at d;refine⟨i,m,?_⟩;rw[f,<-d];rfl
  .cases b
 .cases b
def acr (h:Inv w0 G st a w){ok:Nat->Prop}{p:Ty×Bool}{x:Operand}{y:p.1.D}
  (b:∀e t c v xs,c∈(st.c6 x).cells->a7 G w st.bx st.bl c v->bU st e t c=some xs->Rd w ok (.sl e t) xs [v]) (d:im1 st p x=some y):PF w ok p y (a.eval x) :=
 ag4 h (h.c6 x) b d
def ai1 (h:Inv w0 G st a w){ok:Nat->Prop}:∀(ps:List (Ty×Bool)) (cs:List CV) (vs:List Value) (x:Args ps),bD (da G w st.bx st.bl) cs vs ->
  (∀e t c v xs,c∈aF cs->a7 G w st.bx st.bl c v->bU st e t c=some xs->Rd w ok (.sl e t) xs [v])->tT st ps cs=some x->cT w ok ps x vs
 |[],[],[],x,_,_,b=>rfl|[],[],_::_,_,h,_,_=>h.elim|_,_::_,[],_,h,_,_=>h.elim|[],_::_,_::_,x,_,_,b=>by simp[tT]at b
 |_::_,[],_,x,_,_,b=>by simp[tT]at b
 |p::ps,y::os,v::vs,x,f,g,b=>by
  simp only[tT]at b;split at b
  .rename_i z i;split at b
   .rename_i j l;cases b;exact⟨v,vs,rfl,ag4 h f.1 (fun e t c v xs d=>g e t c v xs (by simp[aF,d])) i,ai1 h ps os vs j f.2 (fun e t c v xs d=>g e t c v xs (by simp[aF,d])) l⟩
   .cases b
  .cases b
def Bm (h:Inv w0 G st a w){ok:Nat->Prop}:∀(ps:List (Ty×Bool)) (os:List Operand) (x:Args ps),
  (∀e t c v xs,c∈gr st os->a7 G w st.bx st.bl c v->bU st e t c=some xs->Rd w ok (.sl e t) xs [v])->EN st ps os=some x->cT w ok ps x (os.map a.eval)
 |[],[],x,_,b=>rfl|[],_::_,x,_,b=>by simp[EN]at b
 |_::_,[],x,_,b=>by simp[EN]at b
 |p::ps,y::os,x,f,b=>by
  simp only[EN]at b;split at b
  .rename_i z g;split at b
   .rename_i i j;cases b;exact⟨a.eval y,os.map a.eval,rfl,acr h (fun e t c v xs d=>f e t c v xs (by simp[gr,d])) g,Bm h ps os i (fun e t c v xs d=>f e t c v xs (by simp[gr,d])) j⟩
   .cases b
  .cases b
def Jr (h:Inv w0 G st a w):∀e t c v xs,a7 G w st.bx st.bl c v->bU st e t c=some xs->Rd w (fun _=>True) (.sl e t) xs [v] :=
 fun e t c v xs b d=>gi h b d (fun _ _ _ _ _=>⟨fun _ _=>trivial,fun _ _ _=>trivial⟩) (fun _ _ _ _ _ _ _=>trivial)
structure aqN (w:World) (okE:Nat->Prop) (f:Bool) (own:Nat->Option Nat) (id:Nat) (z:Nat×dD×Value):Prop where
 wr:z.2.1.w=true
 nf:z.2.1.f=(f || flat z.2.1.t)
 pos:0<z.2.1.t.n
 row:∃rows,w.ownsRow 0 z.2.1.e z.2.1.t.n z.2.2 z.2.1.xs.length rows/\dx w okE z.2.1.t rows z.2.1.xs
 kA:∀g,z.2.2.ownBlock=some g->own g=some (z.1-id*64)
def ns (L:List (Nat×dD×Value)):AC->Value->Prop
 |.int k n,v=>v=.int k n|.bool b,v=>v=.bool b|.str s,v=>v=.string s|.own i none,v=>∃b,(i,b,v)∈L|_,_=>False
def ns.BD {L L':List (Nat×dD×Value)}(h:∀z∈L,z∈L'):∀{c:AC} {v:Value},ns L c v->ns L' c v
 |.int _ _,_,d=>d|.bool _,_,d=>d|.str _,_,d=>d|.own i none,v,⟨b,e⟩=>⟨b,h _ e⟩|.own i (some l),v,d=>d.elim|.none,_,d=>d.elim|.nil,_,d=>d.elim|.ro _ _ _ _,_,d=>d.elim|.ptr _ _,_,d=>d.elim|.qV _ _ _,_,d=>d.elim|.IS _ _ _ _,_,d=>d.elim|.fnp _ _,_,d=>d.elim|.any,_,d=>d.elim
structure Fr (w:World) (okE:Nat->Prop) (f:Bool) (own:Nat->Option Nat) (id lo hi:Nat) (q:List (Nat×Option dD)) (L:List (Nat×dD×Value)):Prop where
 q:q=L.map fun z=>(z.1,some z.2.1)
 rows:∀z∈L,id*64+lo<=z.1/\z.1<id*64+hi/\aqN w okE f own id z
 uniq:∀z∈L,∀z'∈L,z.1=z'.1->z=z'
def Fr.nil {w:World}{okE:Nat->Prop}{f:Bool}{own:Nat->Option Nat}{id lo c:Nat}:Fr w okE f own id lo c [] []:=⟨rfl,fun z b=>by simp at b,fun z b=>by simp at b⟩
def Fr.app {w:World}{okE:Nat->Prop}{f:Bool}{own:Nat->Option Nat}{id lo mid g:Nat}{q j:List (Nat×Option dD)}{L L':List (Nat×dD×Value)}(h:Fr w okE f own id lo mid q L)(d:Fr w okE f own id mid g j L')(p:lo<=mid)(s:mid<=g) :
  Fr w okE f own id lo g (q++j) (L++L'):=by
 refine⟨by rw[h.q,d.q,My],fun z b=>?_,fun z b e c l=>?_⟩
 .rcases en.1 b with b|b
  .obtain⟨m,n,i⟩:=h.rows z b;exact⟨m,by omega,i⟩
  .obtain⟨m,n,i⟩:=d.rows z b;exact⟨by omega,n,i⟩
 .rcases en.1 b with b|b<;>rcases en.1 c with c|c
  .exact h.uniq z b e c l
  .have:=(h.rows z b).2.1;have:=(d.rows e c).1;omega
  .have:=(d.rows z b).1;have:=(h.rows e c).2.1;omega
  .exact d.uniq z b e c l
def ag5 {w:World}{okE:Nat->Prop}{f:Bool}{own:Nat->Option Nat}{id:Nat}:∀{t:Ty} {x:t.D} {j:Nat} {cs:List Value},FrC w okE own t x j cs ->
  ∃L,Fr w okE f own id j (j+t.n) (exR id f t x j).2 L/\bD (ns L) (exR id f t x j).1 cs
 |.int k,x,j,cs,h=>⟨[],.nil,by rw[show cs=_ from h];exact⟨rfl,trivial⟩⟩
 |.bool,x,j,cs,h=>⟨[],.nil,by rw[show cs=_ from h];exact⟨rfl,trivial⟩⟩
 |.str,x,j,cs,h=>⟨[],.nil,by rw[show cs=_ from h];exact⟨rfl,trivial⟩⟩
 |.unit,x,j,cs,h=>⟨[],.nil,by rw[show cs=_ from h];trivial⟩
 |.pair a b,x,j,cs,h=>by obtain⟨E,F,rfl,i,l⟩:=h;obtain⟨m,n,p⟩:=ag5 (id:=id) i;obtain⟨q,s,u⟩:=ag5 (id:=id) l;refine⟨m++q,?_,bD.app (p.imp fun _ _=>ns.BD fun z c=>by simp[c]) (u.imp fun _ _=>ns.BD fun z c=>by simp[c])⟩;have:=n.app s (by omega) (by omega);rw[I8]at this;exact this
 |.sl e t,xs,j,cs,h=>by
  obtain⟨v,rows,rfl,y,A,B,C⟩:=h;refine⟨[(id*64+j,⟨e,t,xs,f || flat t,true⟩,v)],⟨rfl,fun z c=>?_,fun z c H d _=>?_⟩,⟨⟨e,t,xs,f || flat t,true⟩,by simp⟩,trivial⟩
  .simp at c;subst c;refine⟨bq _,by simp[Ty.n],rfl,rfl,y,⟨rows,A,C⟩,fun g D=>?_⟩;rw[B g D]
   congr 1
   omega
  .simp at c d;rw[c,d]
def aep (L:List (Nat×dD×Value)):CV->Value->Prop
 |.c x,v=>ns L x v|.agg l,v=>∃cs,v=.agg cs/\bD (ns L) l cs.toList
def aep.BD {L L':List (Nat×dD×Value)}(h:∀z∈L,z∈L'){c:CV}{v:Value}(b:aep L c v):aep L' c v:=by
 cases c with
 |c x=>exact ns.BD h b
 |agg l =>
  obtain⟨cs,d,e⟩:=b;exact⟨cs,d,e.imp fun _ _=>ns.BD h⟩
def alE {w:World}{okE:Nat->Prop}{f:Bool}{own:Nat->Option Nat}{id:Nat}{p:Ty×Bool}{x:p.1.D}{j:Nat}{v:Value}(h:ai0 w okE own p x j v)(n:p.2=true\/p.1.n=1) :
  ∃L,Fr w okE f own id j (j+p.1.n) (ex1 id f p x j).2 L/\aep L (ex1 id f p x j).1 v:=by
 obtain⟨d,i,m⟩:=h;obtain⟨L,q,g⟩:=ag5 (id:=id) i;refine⟨L,q,?_⟩;obtain⟨t,s⟩:=p;cases s with
 |true=>exact⟨d.toArray,m,g⟩
 |false =>
  have y:t.n=1:=by simpa using n
  have:d.length=1:=by
   have z:∀{t:Ty} {x:t.D} {j:Nat} {d:List Value},FrC w okE own t x j d->d.length=t.n:=by
    intro t
    induction t with
    |int k=>intro x j d h;rw[show d=_ from h];rfl
    |bool=>intro x j d h;rw[show d=_ from h];rfl
    |str=>intro x j d h;rw[show d=_ from h];rfl
    |unit=>intro x j d h;rw[show d=_ from h];rfl
    |pair a b A B =>
     intro x j d h;obtain⟨C,D,rfl,i,m⟩:=h;simp[Ty.n,A i,B m]
    |sl e t _ =>
     intro x j d h;obtain⟨v,rows,rfl,_⟩:=h;rfl
   rw[z i];exact y
  obtain⟨u,rfl⟩:∃u,d=[u]:=by
   cases d with
   |nil=>simp at this
   |cons u d =>
    cases d with
    |nil=>exact⟨u,rfl⟩|cons _ _=>simp at this
  show ns L (match (exR id f t x j).1 with|[c]=>c|_=>.none) v;rw[show v=u from m]
  revert g
  generalize (exR id f t x j).1=l;intro g;cases l with
  |nil=>exact g.elim
  |cons c l =>
   cases l with
   |nil=>exact g.1|cons _ _=>exact g.2.elim
def PG {w:World}{okE:Nat->Prop}{f:Bool}{own:Nat->Option Nat}{id:Nat}:∀{rs:List (Ty×Bool)} {x:Args rs} {j:Nat} {vs:List Value},db rs=true->j5 w okE own rs x j vs ->
  ∃L,Fr w okE f own id j (j+Tq rs) (hy id f rs x j).2 L/\bD (aep L) (hy id f rs x j).1 vs
 |[],x,j,vs,_,h=>⟨[],.nil,by rw[show vs=[] from h];trivial⟩
 |a::l,x,j,vs,b,h=>by obtain⟨v,t,rfl,e,g⟩:=h;simp only[db,az,hh]at b;obtain⟨i,m,n⟩:=alE (id:=id) (f:=f) e (b.1.imp_right aA);obtain⟨p,q,s⟩:=PG (id:=id) (f:=f) b.2 g;have d:=m.app q (by omega) (by omega);rw[I8]at d;exact⟨i++p,d,n.BD fun z c=>by simp[c],s.imp fun _ _=>aep.BD fun z c=>by simp[c]⟩
def PH {L:List (Nat×dD×Value)}{i:Nat}:∀{b:dD},look (L.map fun z=>(z.1,some z.2.1)) i=some (some b)->∃v,(i,b,v)∈L:=by
 induction L with
 |nil=>intro b h;simp[look]at h
 |cons z L d =>
  intro b h;rw[kL,ai]at h;by_cases c:z.1=i
  .simp only[c,eJ]at h;cases h;refine⟨z.2.2,?_⟩;rw[<-c];simp
  .simp only[c,eo]at h;obtain⟨v,e⟩:=d h;exact⟨v,by simp[e]⟩
def gx {L:List (Nat×dD×Value)}{z:Nat×dD×Value}(h:z∈L):(look (L.map fun z=>(z.1,some z.2.1)) z.1).isSome=true:=by
 induction L with
 |nil=>simp at h
 |cons y L c =>
  rw[kL,ai];by_cases b:y.1=z.1
  .simp[b]
  .simp only[b,eo];rcases c7.1 h with rfl|h
   .exact absurd rfl b
   .exact c h
def hvL (L:List (Nat×dD×Value))(i:Nat):Value:=match L.find? (·.1==i) with|some z=>z.2.2|none=>undef
def LF {L:List (Nat×dD×Value)}(d:∀z∈L,∀c∈L,z.1=c.1->z=c){z:Nat×dD×Value}(h:z∈L):hvL L z.1=z.2.2:=by
 unfold hvL;cases b:L.find? (·.1==z.1) with
 |none =>
  have:=aec.1 b z h;simp at this
 |some y =>
  have e:=Tf b;have f:=Mv b;have:=d y f z h (by simpa using e);rw[this]
def u2:∀{q:List (Nat×Option dD)},ee q st=true->∀id,(look q id).isSome=true->look st.bl id=none
 |[],_,id,h=>by simp[look]at h
 |(i,b)::q,c,id,h=>by
  simp only[ee,az]at c;rw[ai]at h;by_cases d:i=id
  .subst d;cases e:look st.bl i with
   |none=>rfl|some x=>rw[e]at c;simp at c
  .simp only[d,eo]at h;exact u2 c.2 id h
def q7 {R:CV->Value->Prop}{G:Gh}{w:World}{bx:List (Nat×List AC)}{bl:List (Nat×Option dD)}{cs:List CV}{vs:List Value}(h:bD (da G w bx bl) cs vs) :
  eK G w bx bl (BA cs) (dj vs):=by
 cases cs with
 |nil =>
  cases vs with
  |nil=>exact⟨_,rfl,trivial⟩|cons _ _=>exact h.elim
 |cons c cs =>
  cases vs with
  |nil=>exact h.elim
  |cons v vs =>
   cases cs with
   |nil =>
    cases vs with
    |nil=>exact h.1|cons _ _=>exact h.2.elim
   |cons b cs =>
    cases vs with
    |nil=>exact h.2.elim|cons d vs=>exact⟨_,rfl,h⟩
def u3 {f:Bool}{G:Gh}{w:World}{bx:List (Nat×List AC)}{bl:List (Nat×Option dD)}:∀{rs:List (Ty×Bool)} {x:Args rs} {vs:List Value},db rs=true->cT w (RO G f) rs x vs ->
  bD (da G w bx bl) (exF f rs x) vs
 |[],x,vs,_,h=>by rw[show vs=[] from h];trivial
 |a::l,x,vs,b,h=>by
  obtain⟨v,p,rfl,⟨cs,e,g⟩,i⟩:=h;simp only[db,az,hh]at b;have j:=u3 (bx:=bx) (bl:=bl) b.2 i;have hrel:=Jl (bx:=bx) (bl:=bl) e;refine⟨?_,j⟩;obtain⟨t,m⟩:=a;cases m with
  |true=>exact⟨cs.toArray,g,hrel⟩
  |false =>
   have n:t.n=1:=by
    rcases b.1 with h|h
    .cases h
    .exact aA h
   obtain⟨u,rfl⟩:=BH e n;show a7 G w bx bl (match ex f t x.1 with|[c]=>c|_=>.none) v;rw[show v=u from g]
   revert hrel
   generalize ex f t x.1=d;intro hrel;cases d with
   |nil=>exact hrel.elim
   |cons c d =>
    cases d with
    |nil=>exact hrel.1|cons _ _=>exact hrel.2.elim
def dy {w:World}{ok c:Nat->Prop}(h:∀g,ok g->c g):∀{ps:List (Ty×Bool)} {x:Args ps} {vs:List Value},cT w ok ps x vs->cT w c ps x vs
 |[],_,_,b=>b|a::l,x,vs,b=>by obtain⟨v,d,rfl,⟨cs,e,f⟩,i⟩:=b;exact⟨v,d,rfl,⟨cs,eL h e,f⟩,dy h i⟩
def alF {rs:List (Ty×Bool)}(Z:db rs=true){w':World}(h:Inv w0 G st a w)(F:Below w.heap.size w w'){y:Args rs}{us:List Value}
  (qa:∃own:Nat->Option Nat,(∀g O,own g=some O->w.heap.size<=g)/\j5 w' (fun g=>w.heap.size<=g/\own g=none) own rs y 0 us) {d:Tmp} (qb:Nat.blt d st.nt=true) (qd:ee (hy d true rs y 0).2 st=true)
  (qe:(k {(st.put d (BA (hy d true rs y 0).1)) with bl:=(hy d true rs y 0).2++st.bl})=some r) (qf:l4 w0 k r K) :
  K (a.put (some d) (dj us)) w':=by
 have e:w.grownBy w' none:=⟨F.os,F.tape,F.output,F.size,fun k qg _=>F.block k qg⟩
 .obtain⟨own,aS,Ud⟩:=qa;obtain⟨L,q,qh⟩:=PG (id:=d) (f:=true) Z Ud;have S:=q.q
  let j:Nat->Option Nat:=fun g=>match own g with
   |some O=>match L.find? (·.1==d*64+O) with
    |some z=>if z.2.2.ownBlock=some g then some z.1 else none|none=>none
   |none=>none
  have Rz:∀g id,j g=some id->∃z∈L,z.1=id/\z.2.2.ownBlock=some g:=by
   intro g id m;simp only[j]at m;split at m
   .split at m
    .rename_i z p;split at m
     .cases m;exact⟨z,Mv p,rfl,by assumption⟩
     .cases m
    .cases m
   .cases m
  have qi:∀z∈L,∀g,z.2.2.ownBlock=some g->j g=some z.1:=by
   intro z p g e;have u:=(q.rows z p).2.2.kA g e;have qj:=(q.rows z p).1;simp only[j,u];have qk:d*64+(z.1-d*64)=z.1:=Nat.add_sub_of_le qj;rw[qk];cases H:L.find? (·.1==z.1) with
   |none =>
    have:=aec.1 H z p;simp at this
   |some y =>
    have T:=Tf H;have I:=Mv H;have:=q.uniq y I z p (by simpa using T);subst this;simp[e]
  have ql:∀g,own g=none->j g=none:=by intro g e;simp only[j,e]
  have qt:=h.aeo none e (fun g e=>by cases e) (hy d true rs y 0).2 (hvL L) j (fun g id m=>by obtain⟨z,p,_,B⟩:=Rz g id m;exact .inl (aS g _ ((q.rows z p).2.2.kA g B)))
  have qm:∀g,w.heap.size<=g/\own g=none->RO (G.grow none (hy d true rs y 0).2 (hvL L) j) true g:=by
   intro g e;refine⟨?_,.inl <| h.aei e.1⟩;have:G.own g=none:=by
    cases C:G.own g with
    |none=>rfl|some k=>have:=(h.own _ _ C).2.1;omega
   simp[Gh.grow,ql g e.2,this]
  obtain⟨hinv,_,qu⟩:=h.grow none e (fun g e=>by cases e) (hy d true rs y 0).2 (hvL L) j (fun id E=>u2 qd id E)
   (fun g id m=>by
    obtain⟨z,p,rfl,B⟩:=Rz g id m;obtain⟨T,I,D⟩:=q.rows z p;refine⟨by rw[S];exact gx p,by rw[LF q.uniq p];exact B,?_,.inl (aS g _ (D.kA g B))⟩;obtain⟨rows,C,_⟩:=D.row;rcases C.2 with ⟨t,_⟩|⟨N,cap,cur,t,_,qn,_⟩
    .rw[t]at B;simp[Value.ownBlock]at B
    .rw[t]at B;have:N=g:=by simpa [Value.ownBlock]using B
     subst this;exact(nj.1 qn).1)
   (fun id b u=>by
    have qo:=u;rw[S]at u;obtain⟨v,W⟩:=PH u;obtain⟨T,I,D⟩:=q.rows _ W;have M:(G.grow none (hy d true rs y 0).2 (hvL L) j).hv id=v:=by
     have:(look (hy d true rs y 0).2 id).isSome=true:=by rw[qo];rfl
     simp only[Gh.grow,this,eJ];exact LF q.uniq W
    obtain⟨rows,C,qp⟩:=D.row;refine⟨fun _=>⟨rows,?_,?_,?_⟩,fun Y=>?_,D.pos⟩
    .rw[M];refine⟨C.1,?_⟩;rcases C.2 with qq|⟨N,cap,cur,t,qv,r⟩
     .exact .inl qq
     .exact .inr ⟨N,cap,cur,t,a1 _,r⟩
    .rw[M];intro g e;have:=qi _ W g e;simp[Gh.grow,this]
    .have H:b.f=true:=by rw[show b.f=_ from D.nf];rfl
     rw[H];exact ic qm qp
    .have:=D.wr;rw[show b.w=true from this]at Y;cases Y)
  have hrel:bD (da (G.grow none (hy d true rs y 0).2 (hvL L) j) w' st.bx ((hy d true rs y 0).2++st.bl)) (hy d true rs y 0).1 us:=by
   have cell:∀c v,ns L c v->a7 (G.grow none (hy d true rs y 0).2 (hvL L) j) w' st.bx ((hy d true rs y 0).2++st.bl) c v:=by
    intro c v A;cases c with
    |own i len =>
     cases len with
     |some l=>exact A.elim
     |none =>
      obtain⟨b,u⟩:=A;have E:=gx u;rw[<-S]at E;have M:(G.grow none (hy d true rs y 0).2 (hvL L) j).hv i=v:=by simp only[Gh.grow,E,eJ];exact LF q.uniq u
      refine⟨?_,?_,M.symm⟩
      .rw[cK];cases X:look (hy d true rs y 0).2 i with
       |none=>rw[X]at E;cases E|some x=>rfl
      .rw[M];obtain⟨rows,C,_⟩:=(q.rows _ u).2.2.row;rcases C.2 with ⟨t,_⟩|⟨N,cap,cur,t,_⟩
       .exact⟨_,_,_,t⟩
       .exact⟨_,_,_,t⟩
    |int k n=>exact A|bool b=>exact A|str s=>exact A|_=>exact A.elim
   refine qh.imp fun c v A=>?_
   cases c with
   |c x=>exact cell x v A
   |agg l =>
    obtain⟨cs,t,X⟩:=A;exact⟨cs,t,X.imp cell⟩
  have I:=hinv.put d (ef qb) (q7 (R:=fun _ _=>True) hrel);exact qf _ _ _ _ I qe
def ai2 {rs:List (Ty×Bool)}(i:db rs=true){w':World}(h:Inv w0 G st a w)(e:Below w.heap.size w w'){y:Args rs}{us:List Value}{f:Bool}{ok:Nat->Prop}
  (j:cT w' ok rs y us) (cR:∀g,ok g->w.heap.size<=g\/RO G f g) {d:Tmp} (l:Nat.blt d st.nt=true)
  (m:k (st.put d (BA (exF f rs y)))=some r) (n:l4 w0 k r K) :
  K (a.put (some d) (dj us)) w':=by
 have c:w.grownBy w' none:=⟨e.os,e.tape,e.output,e.size,fun k p _=>e.block k p⟩;obtain⟨hinv,A,B⟩:=h.grow none c (fun g c=>by cases c) [] G.hv (fun _=>none) (fun id q=>by simp[look]at q) (fun g id s=>by cases s) (fun id b t=>by simp[look]at t);have u:∀g,ok g->RO (G.grow none [] G.hv (fun _=>none)) f g:=by
  intro g c;rcases cR g c with c|c
  .refine⟨?_,.inl <| h.aei c⟩;have:G.own g=none:=by
    cases v:G.own g with
    |none=>rfl|some k=>have:=(h.own _ _ v).2.1;omega
   simp[Gh.grow,this]
  .exact⟨by simp[Gh.grow,c.1],c.2⟩
 have x:=u3 (G:=G.grow none [] G.hv (fun _=>none)) (bx:=st.bx) (bl:=[]++st.bl) i (dy u j);have z:=hinv.put d (ef l) (q7 (R:=fun _ _=>True) x);exact n _ _ _ _ z m
def Fj:∀{l:List Nat} {n:Nat},EM l n=true↔n∈l
 |[],n=>by simp[EM]
 |x::l,n=>by
  simp only[EM];split
  .rename_i b;have:=aA b;subst this;simp
  .rename_i b;have:n≠x:=by rintro rfl;simp at b
   rw[Fj];simp[this]
def Js:List AC->Nat->Nat->Option Nat
 |[],_,_=>none|.own i _::l,id,k=>if i=id then some k else Js l id (k+1)|_::l,id,k=>Js l id (k+1)
def aeq {id:Nat}{len:Option Int}{l:List AC}:∀{pre:List AC} {k:Nat},(∀len,AC.own id len ∉ pre)->Js (pre++.own id len::l) id k=some (k+pre.length)
 |[],k,_=>by simp[Js]
 |c::pre,k,h=>by
  have b:∀len,AC.own id len ∉ pre:=fun len d=>h len (by simp[d])
  have e:=aeq (len:=len) (l:=l) (k:=k+1) b;have f:Js ((c::pre)++.own id len::l) id k=Js (pre++.own id len::l) id (k+1):=by
   cases c with
   |own i g =>
    have:i≠id:=by rintro rfl;exact h g (by simp)
    simp[Js,this]
   |_=>rfl
  rw[f,e];simp;omega
def bG (G:Gh)(all:List AC)(g:Nat):Option Nat:=match G.own g with
 |some (.bl id)=>Js all id 0|_=>none
def alG {m:Nat}(hm:m=2\/m=3){okE:Nat->Prop}(N:∀g,RO G (m2 m) g->okE g)(h:Inv w0 G st a w)(all T:List AC):∀{t:Ty} {pre L L' C:List AC} {seen:List Nat} {vs:List Value} {x:t.D},all=pre++(L++T)->(∀s len,AC.own s len∈pre->s∈seen)->eA st m seen (L++T)=true ->
  x2 st t L=some C->im st t L=some (x,L')->bD (a7 G w st.bx st.bl) L vs ->
  ∃H I O Z,L=H++L'/\H.length=t.n/\C=L'/\vs=I++O/\FrC w okE (bG G all) t x pre.length I/\bD (a7 G w st.bx st.bl) L' O/\eA st m Z (L'++T)=true/\(∀s len,AC.own s len∈pre++H->s∈Z)
 |.int k,pre,L,L',C,seen,vs,x,D,u,cR,j,d,hrel=>by
  cases L with
  |nil=>simp[im]at d
  |cons c L =>
   cases c with
   |int l n =>
    simp only[im]at d;cases vs with
    |nil=>exact hrel.elim
    |cons v vs =>
     simp only[x2]at j;cases j;have A:v=.int l n:=hrel.1;split at d
     .cases d;have E:=Po ‹_›;refine⟨[.int l x],[v],vs,seen,rfl,rfl,rfl,rfl,by rw[A,E];rfl,hrel.2,cR,?_⟩;intro s len hm;simp at hm;exact u s len hm
     .cases d
   |_=>simp[im]at d
 |.bool,pre,L,L',C,seen,vs,x,D,u,cR,j,d,hrel=>by
  cases L with
  |nil=>simp[im]at d
  |cons c L =>
   cases c with
   |bool b =>
    simp only[im]at d;cases vs with
    |nil=>exact hrel.elim
    |cons v vs =>
     simp only[x2]at j;cases j;have A:v=.bool b:=hrel.1;cases d;refine⟨[.bool x],[v],vs,seen,rfl,rfl,rfl,rfl,by rw[A];rfl,hrel.2,cR,?_⟩;intro s len hm;simp at hm;exact u s len hm
   |_=>simp[im]at d
 |.str,pre,L,L',C,seen,vs,x,D,u,cR,j,d,hrel=>by
  cases L with
  |nil=>simp[im]at d
  |cons c L =>
   cases c with
   |str b =>
    simp only[im]at d;cases vs with
    |nil=>exact hrel.elim
    |cons v vs =>
     simp only[x2]at j;cases j;have A:v=.string b:=hrel.1;cases d;refine⟨[.str x],[v],vs,seen,rfl,rfl,rfl,rfl,by rw[A];rfl,hrel.2,cR,?_⟩;intro s len hm;simp at hm;exact u s len hm
   |_=>simp[im]at d
 |.unit,pre,L,L',C,seen,vs,x,D,u,cR,j,d,hrel=>by simp only[im]at d;cases d;simp only[x2]at j;cases j;exact⟨[],[],vs,seen,rfl,rfl,rfl,rfl,rfl,hrel,cR,by simpa using u⟩
 |.pair p q,pre,L,L',C,seen,vs,x,D,u,cR,j,d,hrel=>by
  simp only[im]at d;split at d
  .rename_i y qK qg;split at d
   .rename_i z qL R;cases d;simp only[x2]at j;split at j
    .rename_i qM qh;obtain⟨H,I,O,qN,A,E,S,qi,qj,qk,ql,qm⟩:=alG hm N h all T D u cR qh qg hrel;subst S;obtain⟨qn,qa,qo,qp,qq,qt,qu,qv,qb,qw,qx,qy⟩:=alG hm N h all T (pre:=pre++H) (by rw[D,A,ha,ha]) qm ql j R qk;refine⟨H++qn,I++qa,qo,qp,by rw[A,qq,ha],by simp[Ty.n,E,qt],qu,by rw[qi,qv,ha],⟨I,qa,rfl,qj,?_⟩,qw,qx,by rw[<-ha];exact qy⟩;rw[aB,E]at qb;exact qb
    .cases j
   .cases d
  .cases d
 |.sl e t,pre,L,L',C,seen,vs,x,D,u,cR,j,d,hrel=>by
  cases L with
  |nil=>simp[im]at d
  |cons c L =>
   simp only[im]at d;split at d
   .rename_i xs B;cases d;cases vs with
    |nil=>exact hrel.elim
    |cons v vs =>
     cases c with
     |own s len =>
      simp only[pE,eA]at cR;split at cR
      .rename_i b W;have qz:((b.f=true\/m=0)\/m=3)/\b.w=true/\(!EM seen s)=true/\len.isNone=true/\eA st m (s::seen) (L'++T)=true:=by
        have hlen:∀l:Option Int,(match l with|none=>true|some _=>false)=true->l.isNone=true:=by
         intro l qA;cases l with
         |none=>rfl|some _=>cases qA
        rcases hm with rfl|rfl
        .simp only[az,hh]at cR;exact⟨.inl (.inl (cR.1.1.elim (fun h=>h.elim (fun h=>h) (fun h=>by cases h)) (fun h=>by cases h))),cR.1.2.1.1,cR.1.2.1.2,hlen _ cR.1.2.2,cR.2⟩
        .simp only[az]at cR;exact⟨.inr rfl,cR.1.2.1.1,cR.1.2.1.2,hlen _ cR.1.2.2,cR.2⟩
       obtain⟨X,qB,qd,hlen,qC⟩:=qz;have X:m2 m=true->b.f=true:=by
        intro E;have:m=2:=aA E;rcases X with (h|h)|h
        .exact h
        .omega
        .omega
       cases len with
       |some l=>simp at hlen
       |none =>
        simp only[x2,W]at j;split at j
        .rename_i M;cases j;have M:=aA M;simp only[bU,W,M,Ru]at B;split at B
         .rename_i qD;have B:=dI B;have qe:=h.bl s b (cV W);obtain⟨rows,A,E,S⟩:=qe.wr qB;have qE:=qe.pos;obtain⟨be,qO,bxs,qP,qQ⟩:=b;dsimp only at *;have qF:=Ty.beq_eq qD;subst qF;subst M;have B:bxs=x:=B;subst B;have qG:∀len,AC.own s len ∉ pre:=by intro len hm;have:=u s len hm;rw[<-Fj]at this;rw[this]at qd;cases qd
          have qH:Js all s 0=some pre.length:=by rw[D,pE,aeq qG,pF]
          refine⟨[.own s none],[v],vs,s::seen,rfl,rfl,rfl,rfl,⟨v,rows,rfl,qE,?_,?_,?_⟩,hrel.2,qC,?_⟩
          .rw[hrel.1.2.2];exact A
          .intro g F;rw[hrel.1.2.2]at F;simp only[bG,E g F,qH]
          .exact ic (fun g F=>N g (RO.BD X F)) S
          .intro i Y hm;rcases en.1 hm with hm|hm
           .exact h8 _ (u i Y hm)
           .simp at hm;rw[hm.1];simp
         .cases B
        .cases j
      .cases cR
     |nil =>
      simp only[bU]at B;cases B;simp only[x2]at j;split at j
      .cases j
      .rename_i qf;cases j;have A:v=.slice none 0 0:=hrel.1;refine⟨[.nil],[v],vs,seen,rfl,rfl,rfl,rfl,⟨v,[],rfl,?_,?_,?_,?_⟩,hrel.2,cR,?_⟩
       .cases R:t.n with
        |zero=>rw[R]at qf;simp at qf|succ n=>omega
       .rw[A];exact⟨by simp,.inl ⟨rfl,rfl⟩⟩
       .intro g F;rw[A]at F;simp[Value.ownBlock]at F
       .intro qR x qI;simp at qI
       .intro i Y hm;simp at hm;exact u i Y hm
     |ro f qS qT qW=>rcases hm with rfl|rfl<;>simp[eA]at cR
     |_=>simp[bU]at B
   .cases d
def Ag {m:Nat}(u:m=2\/m=3){okE:Nat->Prop}(A:∀g,RO G (m2 m) g->okE g)(h:Inv w0 G st a w)(all T:List AC):∀(rs:List (Ty×Bool)) (l:List CV) (us:List Value) (r:Args rs) {pre:List AC} {seen:List Nat},bD (da G w st.bx st.bl) l us->all=pre++(aF l++T)->(∀id len,AC.own id len∈pre->id∈seen) ->
  eA st m seen (aF l++T)=true->q0 st rs l=true->tT st rs l=some r->j5 w okE (bG G all) rs r pre.length us/\∃j,eA st m j T=true/\(∀id len,AC.own id len∈pre++aF l->id∈j)/\(aF l).length=Tq rs
 |[],[],[],r,_,seen,_,_,i,I,_,_=>⟨rfl,seen,I,by simpa [aF]using i,rfl⟩
 |_,[],_::_,_,_,_,f,_,_,_,_,_=>f.elim|_,_::_,[],_,_,_,f,_,_,_,_,_=>f.elim|[],_::_,_::_,_,_,_,_,_,_,_,_,b=>by simp[tT]at b
 |_::_,[],[],_,_,_,_,_,_,_,_,b=>by simp[tT]at b
 |p::rs,o::l,v::us,r,pre,seen,f,q,L,cR,B,b=>by
  simp only[tT]at b;split at b
  .rename_i x d;split at b
   .rename_i y M;cases b;simp only[q0,az]at B;obtain⟨C,N⟩:=B;have O:x2 st p.1 o.cells=some []:=by
     split at C
     .assumption
     .cases C
    have D:=f.1;have R:∃e,im st p.1 o.cells=some (x,[])/\bD (a7 G w st.bx st.bl) o.cells e/\v=(match p.2 with|true=>.agg e.toArray|false=>e.headD undef):=by
     unfold Ua at d;split at d
     .rename_i cs i;split at d
      .rename_i z s;cases d;obtain⟨e,S,hrel⟩:=D;refine⟨e.toList,s,hrel,by rw[i,S,qU]⟩
      .cases d
     .rename_i c i;split at d
      .rename_i z s;cases d;exact⟨[v],s,⟨D,trivial⟩,by rw[i];rfl⟩
      .cases d
     .cases d
    obtain⟨e,W,hrel,X⟩:=R;have t:aF (o::l)=o.cells++aF l:=rfl;rw[t,ha]at q cR;obtain⟨qh,qi,Y,qj,n,E,qk,F,Z,qa,qb,qd⟩:=alG u A h all (aF l++T) q L cR O W hrel;rw[fo]at n;cases Y with
    |cons _ _=>exact qa.elim
    |nil =>
     rw[fo]at F;subst F;obtain⟨H,j,qe,qf,qg⟩:=Ag u A h all T rs l us y (pre:=pre++o.cells) f.2 (by rw[q,ha]) (by rw[n];exact qd) qb N M;rw[aB,n,E]at H;refine⟨⟨v,us,rfl,⟨e,Z,X⟩,H⟩,j,qe,?_,?_⟩
     .rw[t,<-ha];exact qf
     .rw[t,aB,qg,n,E];rfl
   .cases b
  .cases b
end
end Go.Am
