/- No condition. -/
import Derived.Test.YtpkabclplaibaaaGreatDoorQjAmOps7
set_option linter.all false
namespace Go.Am
open Go.RowKit
variable [ec]
def Zf (w:World)(ok:Nat->Prop)(a:Ty×Bool)(x:a.1.D)(v:Value):Prop :=
 ∃cs,Rd w ok a.1 x cs/\v=(match a.2 with|true=>.agg cs.toArray|false=>cs.headD undef)
def dk (w:World)(ok:Nat->Prop):(ps:List (Ty×Bool))->Args ps->List Value->Prop
 |[],_,b=>b=[]|a::l,x,b=>∃v c,b=v::c/\Zf w ok a x.1 v/\dk w ok l x.2 c
def FrC (w:World)(okE:Nat->Prop)(own:Nat->Option Nat):(t:Ty)->t.D->Nat->List Value->Prop
 |.int k,x,_,cs=>cs=[.int k x]|.bool,x,_,cs=>cs=[.bool x]|.str,x,_,cs=>cs=[.string x]|.unit,_,_,cs=>cs=[]|.pair a b,x,c,cs=>∃d f,cs=d++f/\FrC w okE own a x.1 c d/\FrC w okE own b x.2 (c+a.n) f|.sl e t,xs,c,cs=>∃v rows,cs=[v]/\0<t.n/\w.ownsRow 0 e t.n v xs.length rows/\(∀g,v.ownBlock=some g->own g=some c)/\ek w okE t rows xs
def au3 (w:World)(okE:Nat->Prop)(own:Nat->Option Nat)(a:Ty×Bool)(x:a.1.D)(j:Nat)(v:Value):Prop :=
 ∃cs,FrC w okE own a.1 x j cs/\v=(match a.2 with|true=>.agg cs.toArray|false=>cs.headD undef)
def mS (w:World)(okE:Nat->Prop)(own:Nat->Option Nat):(rs:List (Ty×Bool))->Args rs->Nat->List Value->Prop
 |[],_,_,b=>b=[]|a::l,x,c,b=>∃v d,b=v::d/\au3 w okE own a x.1 c v/\mS w okE own l x.2 (c+a.1.n) d
def ed:List Value->Value
 |[v]=>v|b=>.tuple b.toArray
def VI (ok:Nat->Prop)(w w':World)(con:Con)(r:Args con.rs)(vs:List Value):Prop :=
 match con.m with
 |0=>dk w' (fun g=>w.heap.size<=g\/ok g) con.rs r vs
 |1=>dk w' (fun g=>w.heap.size<=g) con.rs r vs
 |_=>∃own:Nat->Option Nat,(∀g b,own g=some b->w.heap.size<=g)/\mS w' (fun g=>w.heap.size<=g/\own g=none) own con.rs r 0 vs
def UY (P : Program) (f : FuncId) : Prop := ∃ fn, P.funcs[f]? = some fn ∧ (fn.name == "runtime.NumGoroutine") = false ∧ fn.body.isNone = false
def adI (P:Program)(w0:dU)(f:FuncId)(con:Con):Prop :=
 UY P f /\
 ∀(x:Args con.ps) (r:Args con.rs),con.g x=some r->∀(w:World),dS w0.fr w0.w w->∀(d:Nat->Prop) (b:List Value),dk w d con.ps x b ->
  Calls P f b.toArray w fun e c=>∃us,e=.returned (ed us)/\VI d w c con r us/\Below w.heap.size w c
structure Tab where
 p:World->Prop
 bl:Nat->Prop
 lt:∀w,p w->∀b,bl b->b<w.heap.size
 mono:∀w w',p w->(∀b,bl b->w'.heap[b]?=w.heap[b]?)->p w'
def ag8 (P:Program)(T:Tab)(f:FuncId)(con:Con):Prop :=
 UY P f /\
 ∀[ec] (x:Args con.ps) (r:Args con.rs),con.g x=some r->∀(w:World),ec.n<=w.heap.size->T.p w->∀(d:Nat->Prop) (b:List Value),dk w d con.ps x b ->
  Calls P f b.toArray w fun e c=>∃us,e=.returned (ed us)/\VI d w c con r us/\Below w.heap.size w c
def Tab.keeps {T:Tab}{w0:dU}(c:T.p w0.w)(e:∀b,w0.fr b->¬T.bl b){w:World}(f:dS w0.fr w0.w w):T.p w :=
 T.mono w0.w w c fun b d=>f.block b (T.lt _ c b d) fun h=>e b h d
def nOf:List (Ty×Bool)->Nat
 |[]=>0|a::l=>a.1.n+nOf l
def aC2 (w:World)(ok nw:Nat->Prop)(own:Nat->Option Nat)(g0:Nat)(pm:PM)(a:Ty×Bool)(x:a.1.D)(v:Value):Prop:=match pm with
 |.rd=>Zf w ok a x v|.own f=>au3 w (fun g=>own g=none/\(nw g\/(f=false/\ok g))) own a x 0 v
 |.box=>v=.pointer (some ⟨g0,0,none⟩)/\(own g0).isSome=true/\∃cs e,w.heap[g0]?=some (.cells cs e (0,0))/\Rd w ok a.1 x cs.toList|.cur=>v=.pointer (some ⟨g0,0,none⟩)/\(own g0).isSome=true/\∃cs e,w.heap[g0]?=some (.cells cs e (0,0))/\Rd w (fun g=>own g=none/\nw g) a.1 x cs.toList
def AD (w:World)(ok nw:Nat->Prop)(own:Nat->Option Nat)(g0:Nat)(pm:PM):Nat->(ps:List (Ty×Bool))->Args ps->List Value->Value->Prop
 |0,a::l,x,c,u=>∃b,c=u::b/\aC2 w ok nw own g0 pm a x.1 u/\dk w ok l x.2 b|i+1,a::l,x,c,u=>∃v b,c=v::b/\Zf w ok a x.1 v/\AD w ok nw own g0 pm i l x.2 b u|_,[],_,_,_=>False
structure Handed (w:World) (B:Nat->Prop) (ok nw:Nat->Prop) (own:Nat->Option Nat):Prop where
 ku:∀g,w.heap.size<=g->nw g
 a1:∀g j,own g=some j->nw g/\g<w.heap.size/\B g
 cX:∀g,ok g->own g=none
 hb:∀g j,own g=some j->ec.n<=g
def Xq (con:JD)(w w':World)(ok nw:Nat->Prop)(own:Nat->Option Nat)(g0:Nat)(u:Value)(r:Args con.rs×Args con.qs)(us:List Value):Prop :=
 ∃bC:Nat->Option Nat,(∀g c,bC g=some c->w.heap.size<=g\/(own g).isSome=true) /\
  (match con.pm with
   |.rd=>True|.own _=>mS w' (fun g=>bC g=none/\(nw g\/(m2 con.m=false/\ok g))) bC con.qs r.2 (nOf con.rs) (match con.qs with|[]=>[]|_=>[u])
   |.box=>(∃c,bC g0=some c/\nOf con.rs<=c)/\∃cs e,w'.heap[g0]?=some (.cells cs e (0,0))/\dk w' (fun g=>bC g=none/\(nw g\/ok g)) con.qs r.2 [.agg cs]
   |.cur=>(∃c,bC g0=some c/\nOf con.rs<=c)/\∃cs e,w'.heap[g0]?=some (.cells cs e (0,0))/\dk w' (fun g=>bC g=none/\nw g) con.qs r.2 [.agg cs]) /\
  (match con.m with
   |0=>dk w' (fun g=>bC g=none/\(nw g\/ok g)) con.rs r.1 us
   |1=>dk w' (fun g=>bC g=none/\nw g) con.rs r.1 us
   |4=>∃b cs e,us=[.pointer (some ⟨b,0,none⟩)]/\w.heap.size<=b/\(bC b).isSome=true/\w'.heap[b]?=some (.cells cs e (0,0))/\dk w' (fun g=>bC g=none/\nw g) con.rs r.1 [.agg cs]
   |5=>∃b cs e,us=[.pointer (some ⟨b,0,none⟩)]/\w.heap.size<=b/\(bC b).isSome=true/\w'.heap[b]?=some (.cells cs e (0,0))/\dk w' (fun g=>bC g=none/\(nw g\/ok g)) con.rs r.1 [.agg cs]
   |_=>mS w' (fun g=>bC g=none/\(nw g\/(m2 con.m=false/\ok g))) bC con.rs r.1 0 us)
def awf (con:JD):Prop:=con.qs=[]\/∃p,con.qs=[p]/\kb con.ps con.i=some p
def axT (P:Program)(f:FuncId)(i:Idx)(W:World):Prop :=
 ∀(b:List i.a.1.D) (y:i.q.D) (s:Value) (B:Nat) (c:Array Value) (e d:TypeId),Rd W (fun _=>True) (.sl d i.a.1) b [s]->W.heap[B]?=some (.cells c e (0,0))->Rd W (fun _=>True) i.q y c.toList ->
  Calls P f #[s,.func (.func i.g) #[] #[.pointer (some ⟨B,0,none⟩)]] W fun e g=>e=.returned (.int .i64 (axA (fun x=>i.p x y) b 0))/\Below W.heap.size W g
def axU (P:Program)(f:FuncId)(e:TypeId)(u:Ty)(W:World):Prop :=
 ∀(s v:Value) (n m i:Nat) (c d:List Value),W.ownsRow 0 e u.n s n c->W.ownsRow 0 e u.n v m d->(∀g,s.ownBlock=some g->v.ownBlock≠some g)->1<=m->i<=n->n+m<=1073741824->(∀u∈c,u.oneCell'=true)->(∀u∈d,u.oneCell'=true) ->
  Calls P f #[s,.int .i64 i,v] W fun j h=>∃b,j=.returned b/\h.ownsRow 0 e u.n b (n+m) (c.take (i*u.n)++d++c.drop (i*u.n))/\W.grownBy h s.ownBlock/\(b.ownBlock=s.ownBlock\/∀g,b.ownBlock=some g->W.heap.size<=g)
def axV (P:Program)(f:FuncId)(e:TypeId)(u:Ty)(W:World):Prop :=
 ∀(s:Value) (n i b:Nat) (d:List Value),W.ownsRow 0 e u.n s n d->i<=b->b<=n->(∀u∈d,u.oneCell'=true) ->
  Calls P f #[s,.int .i64 i,.int .i64 b] W fun j h=>∃c,j=.returned c/\h.ownsRow 0 e u.n c (i+(n-b)) (d.take (i*u.n)++d.drop (b*u.n))/\W.grownBy h s.ownBlock/\(c.ownBlock=s.ownBlock\/∀g,c.ownBlock=some g->W.heap.size<=g)
def Xr (P:Program)(w0:dU)(f:FuncId)(con:JD):Prop :=
 UY P f/\awf con /\
 ∀(x:Args con.ps) (r:Args con.rs×Args con.qs),con.g x=some r->∀(w:World),dS w0.fr w0.w w->∀(c b:Nat->Prop) (own:Nat->Option Nat) (d:Nat) (h:List Value) (u:Value),
  Handed w (fun g=>w0.w.heap.size<=g\/w0.fr g) c b own->AD w c b own d con.pm con.i con.ps x h u ->
  Calls P f h.toArray w fun e i=>∃us,e=.returned (ed us)/\Xq con w i c b own d u r us/\dS (fun g=>(own g).isSome=true) w i
def ag9 (P:Program)(T:Tab)(f:FuncId)(con:JD):Prop :=
 UY P f/\awf con /\
 ∀[ec] (x:Args con.ps) (r:Args con.rs×Args con.qs),con.g x=some r->∀(w:World),ec.n<=w.heap.size->T.p w->∀(c b:Nat->Prop) (own:Nat->Option Nat) (d:Nat) (h:List Value) (u:Value),
  Handed w (fun g=>¬T.bl g) c b own->AD w c b own d con.pm con.i con.ps x h u ->
  Calls P f h.toArray w fun e i=>∃us,e=.returned (ed us)/\Xq con w i c b own d u r us/\dS (fun g=>(own g).isSome=true) w i
def aB1 (con:Sel):JD:=⟨con.ps,con.i,.own true,[con.a,con.b],2,[],fun _=>none⟩
def aC3 (con:Sel):JD:=⟨con.ps,con.i,.own true,[con.b],2,[con.q],fun _=>none⟩
def aAg (con:Sel)(w w':World)(ok nw:Nat->Prop)(own:Nat->Option Nat)(g0:Nat)(u:Value)(r:con.a.1.D×con.b.1.D×con.q.1.D)(us:List Value):Prop :=
 ∃b d,us=[b,d]/\(match agL con.b.1 r.2.1 with
  |true=>Xq (aB1 con) w w' ok nw own g0 u ((r.1,(r.2.1,())),()) [b,d]|false=>Xq (aC3 con) w w' ok nw own g0 u ((r.2.1,()),(r.2.2,())) [d]/\(con.a.2=true->∃e,b=.agg e/\e.toList.length=con.a.1.n/\∀c∈e.toList,c.oneCell'=true))
def anT (P:Program)(w0:dU)(f:FuncId)(con:Sel):Prop :=
 UY P f/\kb con.ps con.i=some con.q /\
 ∀(x:Args con.ps) (r:con.a.1.D×con.b.1.D×con.q.1.D),con.g x=some r->∀(w:World),dS w0.fr w0.w w->∀(c b:Nat->Prop) (own:Nat->Option Nat) (d:Nat) (h:List Value) (u:Value),
  Handed w (fun g=>w0.w.heap.size<=g\/w0.fr g) c b own->AD w c b own d (.own true) con.i con.ps x h u ->
  Calls P f h.toArray w fun e i=>∃us,e=.returned (ed us)/\aAg con w i c b own d u r us/\dS (fun g=>(own g).isSome=true) w i
def aha (P:Program)(T:Tab)(f:FuncId)(con:Sel):Prop :=
 UY P f/\kb con.ps con.i=some con.q /\
 ∀[ec] (x:Args con.ps) (r:con.a.1.D×con.b.1.D×con.q.1.D),con.g x=some r->∀(w:World),ec.n<=w.heap.size->T.p w->∀(c b:Nat->Prop) (own:Nat->Option Nat) (d:Nat) (h:List Value) (u:Value),
  Handed w (fun g=>¬T.bl g) c b own->AD w c b own d (.own true) con.i con.ps x h u ->
  Calls P f h.toArray w fun e i=>∃us,e=.returned (ed us)/\aAg con w i c b own d u r us/\dS (fun g=>(own g).isSome=true) w i
def EY (P:Program)(T:Tab)(f:FuncId):Any->Prop
 |.one c=>ag8 P T f c|.two c=>ag9 P T f c|.sel c=>aha P T f c|.idx i=>UY P f/\∀[ec] W,T.p W->axT P f i W|.ins e u=>UY P f/\∀W,T.p W->axU P f e u W|.del e u=>UY P f/\∀W,T.p W->axV P f e u W
def My (P:Program)(w0:dU)(f:FuncId):Any->Prop
 |.one c=>adI P w0 f c|.two c=>Xr P w0 f c|.sel c=>anT P w0 f c|.idx i=>UY P f/\∀W,dS w0.fr w0.w W->axT P f i W|.ins e u=>UY P f/\∀W,dS w0.fr w0.w W->axU P f e u W|.del e u=>UY P f/\∀W,dS w0.fr w0.w W->axV P f e u W
def ag8.at {P:Program}{T:Tab}{f:FuncId}{con:Con}(h:ag8 P T f con){w0:dU}(d:T.p w0.w)(e:∀b,w0.fr b->¬T.bl b):adI P w0 f con :=
 ⟨h.1,fun x r g w c=>h.2 x r g w (aR w0.hB c.size) (T.keeps d e c)⟩
def ag9.at {P:Program}{T:Tab}{f:FuncId}{con:JD}(h:ag9 P T f con){w0:dU}(i:T.p w0.w)(j:∀b,w0.fr b->¬T.bl b):Xr P w0 f con :=
 ⟨h.1,h.2.1,fun x r p w l ok q own s t u c v=>h.2.2 x r p w (aR w0.hB l.size) (T.keeps i j l) ok q own s t u ⟨c.ku,fun g d e=>⟨(c.a1 g d e).1,(c.a1 g d e).2.1,fun m=>by
  rcases(c.a1 g d e).2.2 with n|n
  .have:=T.lt _ i g m;omega
  .exact j g n m⟩,c.cX,c.hb⟩ v⟩
def aha.at {P:Program}{T:Tab}{f:FuncId}{con:Sel}(h:aha P T f con){w0:dU}(i:T.p w0.w)(j:∀b,w0.fr b->¬T.bl b):anT P w0 f con :=
 ⟨h.1,h.2.1,fun x r p w l ok q own s t u c v=>h.2.2 x r p w (aR w0.hB l.size) (T.keeps i j l) ok q own s t u ⟨c.ku,fun g d e=>⟨(c.a1 g d e).1,(c.a1 g d e).2.1,fun m=>by
  rcases(c.a1 g d e).2.2 with n|n
  .have:=T.lt _ i g m;omega
  .exact j g n m⟩,c.cX,c.hb⟩ v⟩
def EY.at {P:Program}{T:Tab}{f:FuncId}{con:Any}(h:EY P T f con){w0:dU}(d:T.p w0.w)(g:∀b,w0.fr b->¬T.bl b):My P w0 f con:=by
 cases con with
 |one c=>exact ag8.at h d g|two c=>exact ag9.at h d g|sel c=>exact aha.at h d g|idx i=>exact⟨h.1,fun W j=>h.2 W (T.keeps d g j)⟩
 |ins e u=>exact⟨h.1,fun W j=>h.2 W (T.keeps d g j)⟩
 |del e u=>exact⟨h.1,fun W j=>h.2 W (T.keeps d g j)⟩
section
variable {P:Program} {w0:dU} {w:World} {G:Gh} {st:St} {a:Act} {U:Type} {k:St->Option U} {r:U} {K:Act->World->Prop} {Q:Exit->Act->World->Prop} {o:Oper}
def asT (h:Inv w0 G st a w){ok:Nat->Prop}{p:Ty×Bool}{x:CV}{u:Value}{y:p.1.D}(q:dG G w st.bx st.bl x u)
  (s:∀e t c v xs,c∈x.cells->bf G w st.bx st.bl c v->b8 st e t c=some xs->Rd w ok (.sl e t) xs [v]) (b:imV st p x=some y):Zf w ok p y u:=by
 unfold imV at b;split at b
 .rename_i l f;split at b
  .rename_i z g;cases b;obtain⟨cs,A,hrel⟩:=q;obtain⟨i,j,d,m,n,_⟩:=Mu (ok:=ok) s hrel g;cases j with
   |cons _ _=>exact n.elim
   |nil =>
    rw[gO]at d;refine⟨i,m,?_⟩;rw[f,A,<-d]
  .cases b
 .rename_i c f;split at b
  .rename_i z g;cases b;obtain⟨i,j,d,m,n,_⟩:=Mu (ok:=ok) (l:=[c]) (vs:=[u]) s ⟨q,trivial⟩ g;cases j with
   |cons _ _=>exact n.elim
   |nil =>
    rw[gO]at d;refine⟨i,m,?_⟩;rw[f,<-d];rfl
  .cases b
 .cases b
def anU (h:Inv w0 G st a w){ok:Nat->Prop}{p:Ty×Bool}{x:Operand}{y:p.1.D}
  (b:∀e t c v xs,c∈(st.dB x).cells->bf G w st.bx st.bl c v->b8 st e t c=some xs->Rd w ok (.sl e t) xs [v]) (d:im1 st p x=some y):Zf w ok p y (a.eval x) :=
 asT h (h.dB x) b d
def au4 (h:Inv w0 G st a w){ok:Nat->Prop}:∀(ps:List (Ty×Bool)) (cs:List CV) (vs:List Value) (x:Args ps),bO (dG G w st.bx st.bl) cs vs ->
  (∀e t c v xs,c∈aN cs->bf G w st.bx st.bl c v->b8 st e t c=some xs->Rd w ok (.sl e t) xs [v])->Ax st ps cs=some x->dk w ok ps x vs
 |[],[],[],x,_,_,b=>rfl|[],[],_::_,_,h,_,_=>h.elim|_,_::_,[],_,h,_,_=>h.elim|[],_::_,_::_,x,_,_,b=>by simp[Ax]at b
 |_::_,[],_,x,_,_,b=>by simp[Ax]at b
 |p::ps,y::os,v::vs,x,f,g,b=>by
  simp only[Ax]at b;split at b
  .rename_i z i;split at b
   .rename_i j l;cases b;exact⟨v,vs,rfl,asT h f.1 (fun e t c v xs d=>g e t c v xs (by simp[aN,d])) i,au4 h ps os vs j f.2 (fun e t c v xs d=>g e t c v xs (by simp[aN,d])) l⟩
   .cases b
  .cases b
def Ht (h:Inv w0 G st a w){ok:Nat->Prop}:∀(ps:List (Ty×Bool)) (os:List Operand) (x:Args ps),
  (∀e t c v xs,c∈js st os->bf G w st.bx st.bl c v->b8 st e t c=some xs->Rd w ok (.sl e t) xs [v])->LZ st ps os=some x->dk w ok ps x (os.map a.eval)
 |[],[],x,_,b=>rfl|[],_::_,x,_,b=>by simp[LZ]at b
 |_::_,[],x,_,b=>by simp[LZ]at b
 |p::ps,y::os,x,f,b=>by
  simp only[LZ]at b;split at b
  .rename_i z g;split at b
   .rename_i i j;cases b;exact⟨a.eval y,os.map a.eval,rfl,anU h (fun e t c v xs d=>f e t c v xs (by simp[js,d])) g,Ht h ps os i (fun e t c v xs d=>f e t c v xs (by simp[js,d])) j⟩
   .cases b
  .cases b
def RD (h:Inv w0 G st a w):∀e t c v xs,bf G w st.bx st.bl c v->b8 st e t c=some xs->Rd w (fun _=>True) (.sl e t) xs [v] :=
 fun e t c v xs b d=>iS h b d (fun _ _ _ _ _=>⟨fun _ _=>trivial,fun _ _ _=>trivial⟩) (fun _ _ _ _ _ _ _=>trivial)
structure aC4 (w:World) (okE:Nat->Prop) (f:Bool) (own:Nat->Option Nat) (id:Nat) (z:Nat×eC×Value):Prop where
 wr:z.2.1.w=true
 nf:z.2.1.f=(f || flat z.2.1.t)
 pos:0<z.2.1.t.n
 row:∃rows,w.ownsRow 0 z.2.1.e z.2.1.t.n z.2.2 z.2.1.xs.length rows/\ek w okE z.2.1.t rows z.2.1.xs
 nO:∀g,z.2.2.ownBlock=some g->own g=some (z.1-id*64)
def rT (L:List (Nat×eC×Value)):AC->Value->Prop
 |.int k n,v=>v=.int k n|.bool b,v=>v=.bool b|.str s,v=>v=.string s|.own i none,v=>∃b,(i,b,v)∈L|_,_=>False
def rT.HI {L L':List (Nat×eC×Value)}(h:∀z∈L,z∈L'):∀{c:AC} {v:Value},rT L c v->rT L' c v
 |.int _ _,_,d=>d|.bool _,_,d=>d|.str _,_,d=>d|.own i none,v,⟨b,e⟩=>⟨b,h _ e⟩|.own i (some l),v,d=>d.elim|.none,_,d=>d.elim|.nil,_,d=>d.elim|.ro _ _ _ _,_,d=>d.elim|.ptr _ _,_,d=>d.elim|.vt _ _ _,_,d=>d.elim|.Oc _ _ _ _,_,d=>d.elim|.fnp _ _,_,d=>d.elim|.any,_,d=>d.elim
structure Fr (w:World) (okE:Nat->Prop) (f:Bool) (own:Nat->Option Nat) (id lo hi:Nat) (q:List (Nat×Option eC)) (L:List (Nat×eC×Value)):Prop where
 q:q=L.map fun z=>(z.1,some z.2.1)
 rows:∀z∈L,id*64+lo<=z.1/\z.1<id*64+hi/\aC4 w okE f own id z
 uniq:∀z∈L,∀z'∈L,z.1=z'.1->z=z'
def Fr.nil {w:World}{okE:Nat->Prop}{f:Bool}{own:Nat->Option Nat}{id lo c:Nat}:Fr w okE f own id lo c [] []:=⟨rfl,fun z b=>by simp at b,fun z b=>by simp at b⟩
def Fr.app {w:World}{okE:Nat->Prop}{f:Bool}{own:Nat->Option Nat}{id lo mid g:Nat}{q j:List (Nat×Option eC)}{L L':List (Nat×eC×Value)}(h:Fr w okE f own id lo mid q L)(d:Fr w okE f own id mid g j L')(p:lo<=mid)(s:mid<=g) :
  Fr w okE f own id lo g (q++j) (L++L'):=by
 refine⟨by rw[h.q,d.q,agz],fun z b=>?_,fun z b e c l=>?_⟩
 .rcases fM.1 b with b|b
  .obtain⟨m,n,i⟩:=h.rows z b;exact⟨m,by omega,i⟩
  .obtain⟨m,n,i⟩:=d.rows z b;exact⟨by omega,n,i⟩
 .rcases fM.1 b with b|b<;>rcases fM.1 c with c|c
  .exact h.uniq z b e c l
  .have:=(h.rows z b).2.1;have:=(d.rows e c).1;omega
  .have:=(d.rows z b).1;have:=(h.rows e c).2.1;omega
  .exact d.uniq z b e c l
def asU {w:World}{okE:Nat->Prop}{f:Bool}{own:Nat->Option Nat}{id:Nat}:∀{t:Ty} {x:t.D} {j:Nat} {cs:List Value},FrC w okE own t x j cs ->
  ∃L,Fr w okE f own id j (j+t.n) (exR id f t x j).2 L/\bO (rT L) (exR id f t x j).1 cs
 |.int k,x,j,cs,h=>⟨[],.nil,by rw[show cs=_ from h];exact⟨rfl,trivial⟩⟩
 |.bool,x,j,cs,h=>⟨[],.nil,by rw[show cs=_ from h];exact⟨rfl,trivial⟩⟩
 |.str,x,j,cs,h=>⟨[],.nil,by rw[show cs=_ from h];exact⟨rfl,trivial⟩⟩
 |.unit,x,j,cs,h=>⟨[],.nil,by rw[show cs=_ from h];trivial⟩
 |.pair a b,x,j,cs,h=>by obtain⟨E,F,rfl,i,l⟩:=h;obtain⟨m,n,p⟩:=asU (id:=id) i;obtain⟨q,s,u⟩:=asU (id:=id) l;refine⟨m++q,?_,bO.app (p.imp fun _ _=>rT.HI fun z c=>by simp[c]) (u.imp fun _ _=>rT.HI fun z c=>by simp[c])⟩;have:=n.app s (by omega) (by omega);rw[Rl]at this;exact this
 |.sl e t,xs,j,cs,h=>by
  obtain⟨v,rows,rfl,y,A,B,C⟩:=h;refine⟨[(id*64+j,⟨e,t,xs,f || flat t,true⟩,v)],⟨rfl,fun z c=>?_,fun z c H d _=>?_⟩,⟨⟨e,t,xs,f || flat t,true⟩,by simp⟩,trivial⟩
  .simp at c;subst c;refine⟨bu _,by simp[Ty.n],rfl,rfl,y,⟨rows,A,C⟩,fun g D=>?_⟩;rw[B g D]
   congr 1
   omega
  .simp at c d;rw[c,d]
def ap1 (L:List (Nat×eC×Value)):CV->Value->Prop
 |.c x,v=>rT L x v|.agg l,v=>∃cs,v=.agg cs/\bO (rT L) l cs.toList
def ap1.HI {L L':List (Nat×eC×Value)}(h:∀z∈L,z∈L'){c:CV}{v:Value}(b:ap1 L c v):ap1 L' c v:=by
 cases c with
 |c x=>exact rT.HI h b
 |agg l =>
  obtain⟨cs,d,e⟩:=b;exact⟨cs,d,e.imp fun _ _=>rT.HI h⟩
def axW {w:World}{okE:Nat->Prop}{f:Bool}{own:Nat->Option Nat}{id:Nat}{p:Ty×Bool}{x:p.1.D}{j:Nat}{v:Value}(h:au3 w okE own p x j v)(n:p.2=true\/p.1.n=1) :
  ∃L,Fr w okE f own id j (j+p.1.n) (ex1 id f p x j).2 L/\ap1 L (ex1 id f p x j).1 v:=by
 obtain⟨d,i,m⟩:=h;obtain⟨L,q,g⟩:=asU (id:=id) i;refine⟨L,q,?_⟩;obtain⟨t,s⟩:=p;cases s with
 |true=>exact⟨d.toArray,m,g⟩
 |false =>
  have y:t.n=1:=by simpa using n
  have:d.length=1:=by
   have z:∀{t:Ty} {x:t.D} {j:Nat} {d:List Value},FrC w okE own t x j d->d.length=t.n:=by
    intro t
    induction t with
    |int k=>intro x j d h;rw[show d=_ from h];rfl
    |bool=>intro x j d h;rw[show d=_ from h];rfl
    |str=>intro x j d h;rw[show d=_ from h];rfl
    |unit=>intro x j d h;rw[show d=_ from h];rfl
    |pair a b A B =>
     intro x j d h;obtain⟨C,D,rfl,i,m⟩:=h;simp[Ty.n,A i,B m]
    |sl e t _ =>
     intro x j d h;obtain⟨v,rows,rfl,_⟩:=h;rfl
   rw[z i];exact y
  obtain⟨u,rfl⟩:∃u,d=[u]:=by
   cases d with
   |nil=>simp at this
   |cons u d =>
    cases d with
    |nil=>exact⟨u,rfl⟩|cons _ _=>simp at this
  show rT L (match (exR id f t x j).1 with|[c]=>c|_=>.none) v;rw[show v=u from m]
  revert g
  generalize (exR id f t x j).1=l;intro g;cases l with
  |nil=>exact g.elim
  |cons c l =>
   cases l with
   |nil=>exact g.1|cons _ _=>exact g.2.elim
def Zg {w:World}{okE:Nat->Prop}{f:Bool}{own:Nat->Option Nat}{id:Nat}:∀{rs:List (Ty×Bool)} {x:Args rs} {j:Nat} {vs:List Value},dH rs=true->mS w okE own rs x j vs ->
  ∃L,Fr w okE f own id j (j+nOf rs) (kt id f rs x j).2 L/\bO (ap1 L) (kt id f rs x j).1 vs
 |[],x,j,vs,_,h=>⟨[],.nil,by rw[show vs=[] from h];trivial⟩
 |a::l,x,j,vs,b,h=>by obtain⟨v,t,rfl,e,g⟩:=h;simp only[dH,aD,kl]at b;obtain⟨i,m,n⟩:=axW (id:=id) (f:=f) e (b.1.imp_right aH);obtain⟨p,q,s⟩:=Zg (id:=id) (f:=f) b.2 g;have d:=m.app q (by omega) (by omega);rw[Rl]at d;exact⟨i++p,d,n.HI fun z c=>by simp[c],s.imp fun _ _=>ap1.HI fun z c=>by simp[c]⟩
def Zh {L:List (Nat×eC×Value)}{i:Nat}:∀{b:eC},look (L.map fun z=>(z.1,some z.2.1)) i=some (some b)->∃v,(i,b,v)∈L:=by
 induction L with
 |nil=>intro b h;simp[look]at h
 |cons z L d =>
  intro b h;rw[rI,aq]at h;by_cases c:z.1=i
  .simp only[c,gg]at h;cases h;refine⟨z.2.2,?_⟩;rw[<-c];simp
  .simp only[c,fz]at h;obtain⟨v,e⟩:=d h;exact⟨v,by simp[e]⟩
def jw {L:List (Nat×eC×Value)}{z:Nat×eC×Value}(h:z∈L):(look (L.map fun z=>(z.1,some z.2.1)) z.1).isSome=true:=by
 induction L with
 |nil=>simp at h
 |cons y L c =>
  rw[rI,aq];by_cases b:y.1=z.1
  .simp[b]
  .simp only[b,fz];rcases dK.1 h with rfl|h
   .exact absurd rfl b
   .exact c h
def hvL (L:List (Nat×eC×Value))(i:Nat):Value:=match L.find? (·.1==i) with|some z=>z.2.2|none=>undef
def Uq {L:List (Nat×eC×Value)}(d:∀z∈L,∀c∈L,z.1=c.1->z=c){z:Nat×eC×Value}(h:z∈L):hvL L z.1=z.2.2:=by
 unfold hvL;cases b:L.find? (·.1==z.1) with
 |none =>
  have:=agD.1 b z h;simp at this
 |some y =>
  have e:=adB b;have f:=VB b;have:=d y f z h (by simpa using e);rw[this]
def BC:∀{q:List (Nat×Option eC)},fg q st=true->∀id,(look q id).isSome=true->look st.bl id=none
 |[],_,id,h=>by simp[look]at h
 |(i,b)::q,c,id,h=>by
  simp only[fg,aD]at c;rw[aq]at h;by_cases d:i=id
  .subst d;cases e:look st.bl i with
   |none=>rfl|some x=>rw[e]at c;simp at c
  .simp only[d,fz]at h;exact BC c.2 id h
def vz {R:CV->Value->Prop}{G:Gh}{w:World}{bx:List (Nat×List AC)}{bl:List (Nat×Option eC)}{cs:List CV}{vs:List Value}(h:bO (dG G w bx bl) cs vs) :
  gh G w bx bl (HF cs) (ed vs):=by
 cases cs with
 |nil =>
  cases vs with
  |nil=>exact⟨_,rfl,trivial⟩|cons _ _=>exact h.elim
 |cons c cs =>
  cases vs with
  |nil=>exact h.elim
  |cons v vs =>
   cases cs with
   |nil =>
    cases vs with
    |nil=>exact h.1|cons _ _=>exact h.2.elim
   |cons b cs =>
    cases vs with
    |nil=>exact h.2.elim|cons d vs=>exact⟨_,rfl,h⟩
def BD {f:Bool}{G:Gh}{w:World}{bx:List (Nat×List AC)}{bl:List (Nat×Option eC)}:∀{rs:List (Ty×Bool)} {x:Args rs} {vs:List Value},dH rs=true->dk w (RO G f) rs x vs ->
  bO (dG G w bx bl) (exF f rs x) vs
 |[],x,vs,_,h=>by rw[show vs=[] from h];trivial
 |a::l,x,vs,b,h=>by
  obtain⟨v,p,rfl,⟨cs,e,g⟩,i⟩:=h;simp only[dH,aD,kl]at b;have j:=BD (bx:=bx) (bl:=bl) b.2 i;have hrel:=Ry (bx:=bx) (bl:=bl) e;refine⟨?_,j⟩;obtain⟨t,m⟩:=a;cases m with
  |true=>exact⟨cs.toArray,g,hrel⟩
  |false =>
   have n:t.n=1:=by
    rcases b.1 with h|h
    .cases h
    .exact aH h
   obtain⟨u,rfl⟩:=HM e n;show bf G w bx bl (match ex f t x.1 with|[c]=>c|_=>.none) v;rw[show v=u from g]
   revert hrel
   generalize ex f t x.1=d;intro hrel;cases d with
   |nil=>exact hrel.elim
   |cons c d =>
    cases d with
    |nil=>exact hrel.1|cons _ _=>exact hrel.2.elim
def en {w:World}{ok c:Nat->Prop}(h:∀g,ok g->c g):∀{ps:List (Ty×Bool)} {x:Args ps} {vs:List Value},dk w ok ps x vs->dk w c ps x vs
 |[],_,_,b=>b|a::l,x,vs,b=>by obtain⟨v,d,rfl,⟨cs,e,f⟩,i⟩:=b;exact⟨v,d,rfl,⟨cs,gi h e,f⟩,en h i⟩
def axX {rs:List (Ty×Bool)}(Z:dH rs=true){w':World}(h:Inv w0 G st a w)(F:Below w.heap.size w w'){y:Args rs}{us:List Value}
  (qa:∃own:Nat->Option Nat,(∀g O,own g=some O->w.heap.size<=g)/\mS w' (fun g=>w.heap.size<=g/\own g=none) own rs y 0 us) {d:Tmp} (qb:Nat.blt d st.nt=true) (qd:fg (kt d true rs y 0).2 st=true)
  (qe:(k {(st.put d (HF (kt d true rs y 0).1)) with bl:=(kt d true rs y 0).2++st.bl})=some r) (qf:pK w0 k r K) :
  K (a.put (some d) (ed us)) w':=by
 have e:w.grownBy w' none:=⟨F.os,F.tape,F.output,F.size,fun k qg _=>F.block k qg⟩
 .obtain⟨own,a1,hfr⟩:=qa;obtain⟨L,q,qh⟩:=Zg (id:=d) (f:=true) Z hfr;have S:=q.q
  let j:Nat->Option Nat:=fun g=>match own g with
   |some O=>match L.find? (·.1==d*64+O) with
    |some z=>if z.2.2.ownBlock=some g then some z.1 else none|none=>none
   |none=>none
  have hnw:∀g id,j g=some id->∃z∈L,z.1=id/\z.2.2.ownBlock=some g:=by
   intro g id m;simp only[j]at m;split at m
   .split at m
    .rename_i z p;split at m
     .cases m;exact⟨z,VB p,rfl,by assumption⟩
     .cases m
    .cases m
   .cases m
  have qi:∀z∈L,∀g,z.2.2.ownBlock=some g->j g=some z.1:=by
   intro z p g e;have u:=(q.rows z p).2.2.nO g e;have qj:=(q.rows z p).1;simp only[j,u];have qk:d*64+(z.1-d*64)=z.1:=Nat.add_sub_of_le qj;rw[qk];cases H:L.find? (·.1==z.1) with
   |none =>
    have:=agD.1 H z p;simp at this
   |some y =>
    have T:=adB H;have I:=VB H;have:=q.uniq y I z p (by simpa using T);subst this;simp[e]
  have ql:∀g,own g=none->j g=none:=by intro g e;simp only[j,e]
  have qt:=h.ap0 none e (fun g e=>by cases e) (kt d true rs y 0).2 (hvL L) j (fun g id m=>by obtain⟨z,p,_,B⟩:=hnw g id m;exact .inl (a1 g _ ((q.rows z p).2.2.nO g B)))
  have qm:∀g,w.heap.size<=g/\own g=none->RO (G.grow none (kt d true rs y 0).2 (hvL L) j) true g:=by
   intro g e;refine⟨?_,.inl <| h.apU e.1⟩;have:G.own g=none:=by
    cases C:G.own g with
    |none=>rfl|some k=>have:=(h.own _ _ C).2.1;omega
   simp[Gh.grow,ql g e.2,this]
  obtain⟨hinv,_,qu⟩:=h.grow none e (fun g e=>by cases e) (kt d true rs y 0).2 (hvL L) j (fun id E=>BC qd id E)
   (fun g id m=>by
    obtain⟨z,p,rfl,B⟩:=hnw g id m;obtain⟨T,I,D⟩:=q.rows z p;refine⟨by rw[S];exact jw p,by rw[Uq q.uniq p];exact B,?_,.inl (a1 g _ (D.nO g B))⟩;obtain⟨rows,C,_⟩:=D.row;rcases C.2 with ⟨t,_⟩|⟨N,cap,cur,t,_,qn,_⟩
    .rw[t]at B;simp[Value.ownBlock]at B
    .rw[t]at B;have:N=g:=by simpa [Value.ownBlock]using B
     subst this;exact(rG.1 qn).1)
   (fun id b u=>by
    have qo:=u;rw[S]at u;obtain⟨v,W⟩:=Zh u;obtain⟨T,I,D⟩:=q.rows _ W;have M:(G.grow none (kt d true rs y 0).2 (hvL L) j).hv id=v:=by
     have:(look (kt d true rs y 0).2 id).isSome=true:=by rw[qo];rfl
     simp only[Gh.grow,this,gg];exact Uq q.uniq W
    obtain⟨rows,C,qp⟩:=D.row;refine⟨fun _=>⟨rows,?_,?_,?_⟩,fun Y=>?_,D.pos⟩
    .rw[M];refine⟨C.1,?_⟩;rcases C.2 with qq|⟨N,cap,cur,t,qv,r⟩
     .exact .inl qq
     .exact .inr ⟨N,cap,cur,t,aX _,r⟩
    .rw[M];intro g e;have:=qi _ W g e;simp[Gh.grow,this]
    .have H:b.f=true:=by rw[show b.f=_ from D.nf];rfl
     rw[H];exact kQ qm qp
    .have:=D.wr;rw[show b.w=true from this]at Y;cases Y)
  have hrel:bO (dG (G.grow none (kt d true rs y 0).2 (hvL L) j) w' st.bx ((kt d true rs y 0).2++st.bl)) (kt d true rs y 0).1 us:=by
   have cell:∀c v,rT L c v->bf (G.grow none (kt d true rs y 0).2 (hvL L) j) w' st.bx ((kt d true rs y 0).2++st.bl) c v:=by
    intro c v A;cases c with
    |own i len =>
     cases len with
     |some l=>exact A.elim
     |none =>
      obtain⟨b,u⟩:=A;have E:=jw u;rw[<-S]at E;have M:(G.grow none (kt d true rs y 0).2 (hvL L) j).hv i=v:=by simp only[Gh.grow,E,gg];exact Uq q.uniq u
      refine⟨?_,?_,M.symm⟩
      .rw[c2];cases X:look (kt d true rs y 0).2 i with
       |none=>rw[X]at E;cases E|some x=>rfl
      .rw[M];obtain⟨rows,C,_⟩:=(q.rows _ u).2.2.row;rcases C.2 with ⟨t,_⟩|⟨N,cap,cur,t,_⟩
       .exact⟨_,_,_,t⟩
       .exact⟨_,_,_,t⟩
    |int k n=>exact A|bool b=>exact A|str s=>exact A|_=>exact A.elim
   refine qh.imp fun c v A=>?_
   cases c with
   |c x=>exact cell x v A
   |agg l =>
    obtain⟨cs,t,X⟩:=A;exact⟨cs,t,X.imp cell⟩
  have I:=hinv.put d (fh qb) (vz (R:=fun _ _=>True) hrel);exact qf _ _ _ _ I qe
def au5 {rs:List (Ty×Bool)}(i:dH rs=true){w':World}(h:Inv w0 G st a w)(e:Below w.heap.size w w'){y:Args rs}{us:List Value}{f:Bool}{ok:Nat->Prop}
  (j:dk w' ok rs y us) (cX:∀g,ok g->w.heap.size<=g\/RO G f g) {d:Tmp} (l:Nat.blt d st.nt=true)
  (m:k (st.put d (HF (exF f rs y)))=some r) (n:pK w0 k r K) :
  K (a.put (some d) (ed us)) w':=by
 have c:w.grownBy w' none:=⟨e.os,e.tape,e.output,e.size,fun k p _=>e.block k p⟩;obtain⟨hinv,A,B⟩:=h.grow none c (fun g c=>by cases c) [] G.hv (fun _=>none) (fun id q=>by simp[look]at q) (fun g id s=>by cases s) (fun id b t=>by simp[look]at t);have u:∀g,ok g->RO (G.grow none [] G.hv (fun _=>none)) f g:=by
  intro g c;rcases cX g c with c|c
  .refine⟨?_,.inl <| h.apU c⟩;have:G.own g=none:=by
    cases v:G.own g with
    |none=>rfl|some k=>have:=(h.own _ _ v).2.1;omega
   simp[Gh.grow,this]
  .exact⟨by simp[Gh.grow,c.1],c.2⟩
 have x:=BD (G:=G.grow none [] G.hv (fun _=>none)) (bx:=st.bx) (bl:=[]++st.bl) i (en u j);have z:=hinv.put d (fh l) (vz (R:=fun _ _=>True) x);exact n _ _ _ _ z m
def Mz:∀{l:List Nat} {n:Nat},LY l n=true↔n∈l
 |[],n=>by simp[LY]
 |x::l,n=>by
  simp only[LY];split
  .rename_i b;have:=aH b;subst this;simp
  .rename_i b;have:n≠x:=by rintro rfl;simp at b
   rw[Mz];simp[this]
def RE:List AC->Nat->Nat->Option Nat
 |[],_,_=>none|.own i _::l,id,k=>if i=id then some k else RE l id (k+1)|_::l,id,k=>RE l id (k+1)
def ap2 {id:Nat}{len:Option Int}{l:List AC}:∀{pre:List AC} {k:Nat},(∀len,AC.own id len ∉ pre)->RE (pre++.own id len::l) id k=some (k+pre.length)
 |[],k,_=>by simp[RE]
 |c::pre,k,h=>by
  have b:∀len,AC.own id len ∉ pre:=fun len d=>h len (by simp[d])
  have e:=ap2 (len:=len) (l:=l) (k:=k+1) b;have f:RE ((c::pre)++.own id len::l) id k=RE (pre++.own id len::l) id (k+1):=by
   cases c with
   |own i g =>
    have:i≠id:=by rintro rfl;exact h g (by simp)
    simp[RE,this]
   |_=>rfl
  rw[f,e];simp;omega
def bR (G:Gh)(all:List AC)(g:Nat):Option Nat:=match G.own g with
 |some (.bl id)=>RE all id 0|_=>none
def axY {m:Nat}(hm:m=2\/m=3){okE:Nat->Prop}(N:∀g,RO G (m2 m) g->okE g)(h:Inv w0 G st a w)(all T:List AC):∀{t:Ty} {pre L L' C:List AC} {seen:List Nat} {vs:List Value} {x:t.D},all=pre++(L++T)->(∀s len,AC.own s len∈pre->s∈seen)->fN st m seen (L++T)=true ->
  Ec st t L=some C->im st t L=some (x,L')->bO (bf G w st.bx st.bl) L vs ->
  ∃H I O Z,L=H++L'/\H.length=t.n/\C=L'/\vs=I++O/\FrC w okE (bR G all) t x pre.length I/\bO (bf G w st.bx st.bl) L' O/\fN st m Z (L'++T)=true/\(∀s len,AC.own s len∈pre++H->s∈Z)
 |.int k,pre,L,L',C,seen,vs,x,D,u,cX,j,d,hrel=>by
  cases L with
  |nil=>simp[im]at d
  |cons c L =>
   cases c with
   |int l n =>
    simp only[im]at d;cases vs with
    |nil=>exact hrel.elim
    |cons v vs =>
     simp only[Ec]at j;cases j;have A:v=.int l n:=hrel.1;split at d
     .cases d;have E:=YY ‹_›;refine⟨[.int l x],[v],vs,seen,rfl,rfl,rfl,rfl,by rw[A,E];rfl,hrel.2,cX,?_⟩;intro s len hm;simp at hm;exact u s len hm
     .cases d
   |_=>simp[im]at d
 |.bool,pre,L,L',C,seen,vs,x,D,u,cX,j,d,hrel=>by
  cases L with
  |nil=>simp[im]at d
  |cons c L =>
   cases c with
   |bool b =>
    simp only[im]at d;cases vs with
    |nil=>exact hrel.elim
    |cons v vs =>
     simp only[Ec]at j;cases j;have A:v=.bool b:=hrel.1;cases d;refine⟨[.bool x],[v],vs,seen,rfl,rfl,rfl,rfl,by rw[A];rfl,hrel.2,cX,?_⟩;intro s len hm;simp at hm;exact u s len hm
   |_=>simp[im]at d
 |.str,pre,L,L',C,seen,vs,x,D,u,cX,j,d,hrel=>by
  cases L with
  |nil=>simp[im]at d
  |cons c L =>
   cases c with
   |str b =>
    simp only[im]at d;cases vs with
    |nil=>exact hrel.elim
    |cons v vs =>
     simp only[Ec]at j;cases j;have A:v=.string b:=hrel.1;cases d;refine⟨[.str x],[v],vs,seen,rfl,rfl,rfl,rfl,by rw[A];rfl,hrel.2,cX,?_⟩;intro s len hm;simp at hm;exact u s len hm
   |_=>simp[im]at d
 |.unit,pre,L,L',C,seen,vs,x,D,u,cX,j,d,hrel=>by simp only[im]at d;cases d;simp only[Ec]at j;cases j;exact⟨[],[],vs,seen,rfl,rfl,rfl,rfl,rfl,hrel,cX,by simpa using u⟩
 |.pair p q,pre,L,L',C,seen,vs,x,D,u,cX,j,d,hrel=>by
  simp only[im]at d;split at d
  .rename_i y qK qg;split at d
   .rename_i z qL R;cases d;simp only[Ec]at j;split at j
    .rename_i qM qh;obtain⟨H,I,O,qN,A,E,S,qi,qj,qk,ql,qm⟩:=axY hm N h all T D u cX qh qg hrel;subst S;obtain⟨qn,qa,qo,qp,qq,qt,qu,qv,qb,qw,qx,qy⟩:=axY hm N h all T (pre:=pre++H) (by rw[D,A,mP,mP]) qm ql j R qk;refine⟨H++qn,I++qa,qo,qp,by rw[A,qq,mP],by simp[Ty.n,E,qt],qu,by rw[qi,qv,mP],⟨I,qa,rfl,qj,?_⟩,qw,qx,by rw[<-mP];exact qy⟩;rw[aW,E]at qb;exact qb
    .cases j
   .cases d
  .cases d
 |.sl e t,pre,L,L',C,seen,vs,x,D,u,cX,j,d,hrel=>by
  cases L with
  |nil=>simp[im]at d
  |cons c L =>
   simp only[im]at d;split at d
   .rename_i xs B;cases d;cases vs with
    |nil=>exact hrel.elim
    |cons v vs =>
     cases c with
     |own s len =>
      simp only[EX,fN]at cX;split at cX
      .rename_i b W;have qz:((b.f=true\/m=0)\/m=3)/\b.w=true/\(!LY seen s)=true/\len.isNone=true/\fN st m (s::seen) (L'++T)=true:=by
        have hlen:∀l:Option Int,(match l with|none=>true|some _=>false)=true->l.isNone=true:=by
         intro l qA;cases l with
         |none=>rfl|some _=>cases qA
        rcases hm with rfl|rfl
        .simp only[aD,kl]at cX;exact⟨.inl (.inl (cX.1.1.elim (fun h=>h.elim (fun h=>h) (fun h=>by cases h)) (fun h=>by cases h))),cX.1.2.1.1,cX.1.2.1.2,hlen _ cX.1.2.2,cX.2⟩
        .simp only[aD]at cX;exact⟨.inr rfl,cX.1.2.1.1,cX.1.2.1.2,hlen _ cX.1.2.2,cX.2⟩
       obtain⟨X,qB,qd,hlen,qC⟩:=qz;have X:m2 m=true->b.f=true:=by
        intro E;have:m=2:=aH E;rcases X with (h|h)|h
        .exact h
        .omega
        .omega
       cases len with
       |some l=>simp at hlen
       |none =>
        simp only[Ec,W]at j;split at j
        .rename_i M;cases j;have M:=aH M;simp only[b8,W,M,abq]at B;split at B
         .rename_i qD;have B:=eE B;have qe:=h.bl s b (dj W);obtain⟨rows,A,E,S⟩:=qe.wr qB;have qE:=qe.pos;obtain⟨be,qO,bxs,qP,qQ⟩:=b;dsimp only at *;have qF:=Ty.beq_eq qD;subst qF;subst M;have B:bxs=x:=B;subst B;have qG:∀len,AC.own s len ∉ pre:=by intro len hm;have:=u s len hm;rw[<-Mz]at this;rw[this]at qd;cases qd
          have qH:RE all s 0=some pre.length:=by rw[D,EX,ap2 qG,uP]
          refine⟨[.own s none],[v],vs,s::seen,rfl,rfl,rfl,rfl,⟨v,rows,rfl,qE,?_,?_,?_⟩,hrel.2,qC,?_⟩
          .rw[hrel.1.2.2];exact A
          .intro g F;rw[hrel.1.2.2]at F;simp only[bR,E g F,qH]
          .exact kQ (fun g F=>N g (RO.HI X F)) S
          .intro i Y hm;rcases fM.1 hm with hm|hm
           .exact rH _ (u i Y hm)
           .simp at hm;rw[hm.1];simp
         .cases B
        .cases j
      .cases cX
     |nil =>
      simp only[b8]at B;cases B;simp only[Ec]at j;split at j
      .cases j
      .rename_i qf;cases j;have A:v=.slice none 0 0:=hrel.1;refine⟨[.nil],[v],vs,seen,rfl,rfl,rfl,rfl,⟨v,[],rfl,?_,?_,?_,?_⟩,hrel.2,cX,?_⟩
       .cases R:t.n with
        |zero=>rw[R]at qf;simp at qf|succ n=>omega
       .rw[A];exact⟨by simp,.inl ⟨rfl,rfl⟩⟩
       .intro g F;rw[A]at F;simp[Value.ownBlock]at F
       .intro qR x qI;simp at qI
       .intro i Y hm;simp at hm;exact u i Y hm
     |ro f qS qT qW=>rcases hm with rfl|rfl<;>simp[fN]at cX
     |_=>simp[b8]at B
   .cases d
def F5 {m:Nat}(u:m=2\/m=3){okE:Nat->Prop}(A:∀g,RO G (m2 m) g->okE g)(h:Inv w0 G st a w)(all T:List AC):∀(rs:List (Ty×Bool)) (l:List CV) (us:List Value) (r:Args rs) {pre:List AC} {seen:List Nat},bO (dG G w st.bx st.bl) l us->all=pre++(aN l++T)->(∀id len,AC.own id len∈pre->id∈seen) ->
  fN st m seen (aN l++T)=true->vu st rs l=true->Ax st rs l=some r->mS w okE (bR G all) rs r pre.length us/\∃j,fN st m j T=true/\(∀id len,AC.own id len∈pre++aN l->id∈j)/\(aN l).length=nOf rs
 |[],[],[],r,_,seen,_,_,i,I,_,_=>⟨rfl,seen,I,by simpa [aN]using i,rfl⟩
 |_,[],_::_,_,_,_,f,_,_,_,_,_=>f.elim|_,_::_,[],_,_,_,f,_,_,_,_,_=>f.elim|[],_::_,_::_,_,_,_,_,_,_,_,_,b=>by simp[Ax]at b
 |_::_,[],[],_,_,_,_,_,_,_,_,b=>by simp[Ax]at b
 |p::rs,o::l,v::us,r,pre,seen,f,q,L,cX,B,b=>by
  simp only[Ax]at b;split at b
  .rename_i x d;split at b
   .rename_i y M;cases b;simp only[vu,aD]at B;obtain⟨C,N⟩:=B;have O:Ec st p.1 o.cells=some []:=by
     split at C
     .assumption
     .cases C
    have D:=f.1;have R:∃e,im st p.1 o.cells=some (x,[])/\bO (bf G w st.bx st.bl) o.cells e/\v=(match p.2 with|true=>.agg e.toArray|false=>e.headD undef):=by
     unfold imV at d;split at d
     .rename_i cs i;split at d
      .rename_i z s;cases d;obtain⟨e,S,hrel⟩:=D;refine⟨e.toList,s,hrel,by rw[i,S,vq]⟩
      .cases d
     .rename_i c i;split at d
      .rename_i z s;cases d;exact⟨[v],s,⟨D,trivial⟩,by rw[i];rfl⟩
      .cases d
     .cases d
    obtain⟨e,W,hrel,X⟩:=R;have t:aN (o::l)=o.cells++aN l:=rfl;rw[t,mP]at q cX;obtain⟨qh,qi,Y,qj,n,E,qk,F,Z,qa,qb,qd⟩:=axY u A h all (aN l++T) q L cX O W hrel;rw[gO]at n;cases Y with
    |cons _ _=>exact qa.elim
    |nil =>
     rw[gO]at F;subst F;obtain⟨H,j,qe,qf,qg⟩:=F5 u A h all T rs l us y (pre:=pre++o.cells) f.2 (by rw[q,mP]) (by rw[n];exact qd) qb N M;rw[aW,n,E]at H;refine⟨⟨v,us,rfl,⟨e,Z,X⟩,H⟩,j,qe,?_,?_⟩
     .rw[t,<-mP];exact qf
     .rw[t,aW,qg,n,E];rfl
   .cases b
  .cases b
end
end Go.Am
