/- No condition. -/
import Derived.Test.YtaheoongenkdbaaGreatDoorQsAmOps5
import Derived.Lib.AppendStr
set_option linter.all false
namespace Go.Am
open Go.RowKit
section
variable {N:Nat} {P:Program} {w0:eA} {w:World} {G:Gh} {st:St} {a:Act} {U:Type} {k:St->Option U} {r:U} {K:Act->World->Prop} {Q:Exit->Act->World->Prop} {o:Oper}
def Inv.atr {w':World}(h:Inv w0 G st a w)(d:Option Nat)(j:w.grownBy w' d)
  (n:∀g,d=some g->∃id,G.own g=some (.bl id)/\look st.bl id=some none)
  (q:List (Nat×Option fa)) (l:Nat->Value) (nw:Nat->Option Nat)
  (p:∀g id,nw g=some id->(w.heap.size<=g\/d=some g)):VE G w (G.grow d q l nw) w':=by
 have key:∀b x,b<w.heap.size->G.own b=x->(∀id,x≠some (.bl id))->(G.grow d q l nw).own b=x/\w'.heap[b]?=w.heap[b]?:=by
  intro b x f c s;have i:d≠some b:=by intro e;obtain⟨id,t,_⟩:=n b e;exact s id (c.symm.trans t)
  refine⟨?_,j.block b f (fun e=>i e.symm)⟩;unfold Gh.grow;dsimp only;cases hnw:nw b with
  |none=>simp[i,c]
  |some id =>
   rcases p b id hnw with m|m
   .omega
   .exact absurd m i
 exact⟨rfl,rfl,j.size,fun b f c=>key b _ f c (by simp),fun b f c=>key b _ f c (by simp)⟩
def Nn {w':World}(h:Inv w0 G st a w)(j:Option Nat)(y:w.grownBy w' j)(z:∀g,j=some g->∃id,G.own g=some (.bl id)/\look st.bl id=some none)
  (d:Tmp) (b:fa) (E:b.w=true) (F:0<b.t.n) (c:Value) (cs:List Value) (p:w'.ownsRow 0 b.e b.t.n c b.xs.length cs)
  (kE:∀g,c.ownBlock=some g->w.heap.size<=g\/j=some g) (H:eJ w (RO G b.f) b.t cs b.xs)
  (e:st.row d b k=some r) (I:pD w0 k r K):K (a.put (some d) c) w':=by
 unfold St.row at e;cases q:look st.bl (d*64) with
 |some x=>rw[q]at e;cases e
 |none =>
  rw[q]at e;obtain⟨L,e⟩:=aR e;have B:∀id,(look [(d*64,some b)] id).isSome=true->id=d*64:=by
   intro id i;rw[ar]at i;by_cases l:d*64=id
   .exact l.symm
   .simp[l,look]at i
  have M:=h.atr j y z [(d*64,some b)] (fun _=>c) (fun g=>if c.ownBlock=some g then some (d*64) else none) (by
   intro g id f;split at f
   .exact kE g ‹_›
   .cases f)
  obtain⟨hinv,_,i⟩:=h.grow j y z [(d*64,some b)] (fun _=>c) (fun g=>if c.ownBlock=some g then some (d*64) else none)
   (fun id i=>by rw[B id i];exact q)
   (fun g id f=>by
    split at f
    .rename_i m;cases f;refine⟨by simp[ar],m,?_,kE g m⟩;rcases p.2 with ⟨rfl,_⟩|⟨C,cap,cur,rfl,_,O,_⟩
     .simp[Value.ownBlock]at m
     .have:C=g:=by simpa [Value.ownBlock]using m
      subst this;exact(vQ.1 O).1
    .cases f)
   (fun id T s=>by
    have l:=B id (by rw[s];rfl);subst l;simp[ar]at s;subst s;refine⟨fun _=>⟨cs,?_,?_,H.mono M⟩,(fun D=>by rw[E]at D;exact Bool.noConfusion D),F⟩
    .simpa [Gh.grow,ar]using p
    .intro g t;have t:c.ownBlock=some g:=by simpa [Gh.grow,ar]using t
     simp[Gh.grow,t])
  have R:∃A n cap,c=.slice A n cap:=by
   rcases p.2 with ⟨rfl,_⟩|⟨C,cap,cur,rfl,_⟩
   .exact⟨_,_,_,rfl⟩
   .exact⟨_,_,_,rfl⟩
  have S:=hinv.put d (fV L) (v:=.v (.c (.own (d*64) none))) (u:=c) (by
   refine⟨by simp[de,ar],?_,?_⟩
   .simpa [Gh.grow,ar]using R
   .simp[Gh.grow,ar])
  exact I _ _ _ _ S e
def afL {ok:Nat->Prop}{e:TypeId}{t:Ty}(v:0<t.n){ys:List t.D}{A:Option Addr}{m R:Nat}(h:Rd w ok (.sl e t) ys [.slice A m R]) :
  m=ys.length/\m<=9223372036854775807/\∃news:List Value,news.length=m*t.n/\eJ w ok t news ys/\(∀u∈news,u.oneCell'=true)/\(0<m->∃b o,A=some ⟨b,o,none⟩/\cW w b o news):=by
 obtain⟨S,T,n,W,D,E⟩:=h;have n:=(vS n).1;injection n with F H I
 subst F H I;refine⟨rfl,D,?_⟩;rcases apb ys.length with p|p
 .refine⟨[],by simp[p],fun l x f=>?_,by simp,fun h=>by omega⟩;have:=(u9.1 f).1;omega
 .obtain⟨b,o,L,_,_,y⟩:=E p;have z:∀q,q<ys.length*t.n->∃u,w.cell? ⟨b,o+q,none⟩=some u/\u.oneCell'=true:=by
   intro q g;have f:q/t.n<ys.length:=by rw[avN v];exact g
   obtain⟨c,j,s⟩:=y (q/t.n) _ (getD_some f t.aq);have B:q%t.n<c.length:=by rw[j.len];exact YN _ v
   have d:=lS B;refine⟨_,?_,j.one _ (cy B)⟩;have:=s (q%t.n) _ d;have e:q/t.n*t.n+q%t.n=q:=Nat.div_add_mod' q t.n
   rwa [e]at this
  refine⟨(List.range (ys.length*t.n)).map fun q=>(w.cell? ⟨b,o+q,none⟩).getD undef,by simp,fun l x f=>?_,fun u d=>?_,fun _=>⟨b,o,L,fun q u d=>?_⟩⟩
  .obtain⟨c,j,s⟩:=y l x f;refine⟨c,j,fun i u d=>?_⟩;have X:=(u9.1 f).1;have M:=(u9.1 d).1;rw[j.len]at M;have:l*t.n+i<ys.length*t.n:=by have:(l+1)*t.n<=ys.length*t.n:=Fa _ (by omega);rw[J7,Px]at this;omega
   simp[this,s i u d]
  .simp only[HY,il]at d;obtain⟨q,g,rfl⟩:=d;obtain⟨u,d,O⟩:=z q g;rw[d];exact O
  .have g:q<ys.length*t.n:=by have:=(u9.1 d).1;simpa using this
   obtain⟨Y,C,_⟩:=z q g;simp[g,C]at d;rw[C,<-d]
def kF {ok b:Nat->Prop}(h:∀g,ok g->b g){t:Ty}{cs:List Value}{xs:List t.D}(d:eJ w ok t cs xs):eJ w b t cs xs:=by intro e x f;obtain⟨c,i,j⟩:=d e x f;exact⟨c,gS h i,j⟩
def ai8 {ok e:Nat->Prop}:∀{t:Ty} {x:t.D} {cs:List Value},flat t=true->Rd w ok t x cs->Rd w e t x cs
 |.int _,_,_,_,h=>h|.bool,_,_,_,h=>h|.str,_,_,_,h=>h|.unit,_,_,_,h=>h|.pair a b,_,_,c,h=>by obtain⟨f,g,rfl,i,j⟩:=h;have d:(flat a&&flat b)=true:=c;rw[aD]at d;exact⟨f,g,rfl,ai8 d.1 i,ai8 d.2 j⟩
 |.sl _ _,_,_,c,_=>by cases c
def ajU {ok b:Nat->Prop}{t:Ty}(d:flat t=true){cs:List Value}{xs:List t.D}(e:eJ w ok t cs xs):eJ w b t cs xs:=by intro f x g;obtain⟨c,h,i⟩:=e f x g;exact⟨c,ai8 d h,i⟩
def adn {ok:Nat->Prop}{t u:Ty}(h:t=u){xs:List t.D}{cs:List Value}(b:eJ w ok t cs xs):eJ w ok u cs (WX h xs):=by subst h;exact b
def HJ {t u:Ty}(h:t=u){xs:List t.D}:(WX h xs).length=xs.length:=by subst h;rfl
def ado {ok b:Nat->Prop}{t:Ty}(h:flat t=false->∀g,ok g->b g){cs:List Value}{xs:List t.D}(d:eJ w ok t cs xs):eJ w b t cs xs:=by
 cases e:flat t with
 |true =>
  intro f x i;obtain⟨c,j,l⟩:=d f x i;exact⟨c,ai8 e j,l⟩
 |false=>exact kF (h e) d
def api {id:Nat}{b:fa}(f:Dm G w id b){A:Option Addr}{n M:Nat}(i:G.hv id=.slice A n M) :
  n=b.xs.length/\n<=9223372036854775807/\∃news:List Value,news.length=n*b.t.n/\eJ w (RO G b.f) b.t news b.xs/\(∀u∈news,u.oneCell'=true)/\(0<n->∃b o,A=some ⟨b,o,none⟩/\cW w b o news):=by
 cases p:b.w with
 |false =>
  have:=f.rd p;rw[i]at this;exact afL f.pos this
 |true =>
  obtain⟨cs,C,_,j⟩:=f.wr p;obtain⟨l,D⟩:=C;have s:∀u∈cs,u.oneCell'=true:=by
   intro u d;obtain⟨q,t,rfl⟩:=aqD.1 d;have v:=f.pos;have E:q/b.t.n<b.xs.length:=by rw[avN v,<-l];exact t
   obtain⟨c,x,F⟩:=j (q/b.t.n) _ (getD_some E b.t.aq);have y:q%b.t.n<c.length:=by rw[x.len];exact YN _ v
   have:=F (q%b.t.n) _ (lS y);rw[Nat.div_add_mod' q b.t.n,lS t]at this;rw[eO this];exact x.one _ (cy y)
  rcases D with ⟨e,z⟩|⟨g,O,cur,e,_,H,R,S,T,I⟩
  .rw[i]at e;injection e with B m L
   subst m;refine⟨z.symm,by omega,cs,by rw[l,z],j,s,fun h=>by omega⟩
  .rw[i]at e;injection e with B m L
   subst m;have:maxLen=9223372036854775807:=rfl;refine⟨rfl,by omega,cs,l,j,s,fun _=>⟨g,0,B,fun q u d=>?_⟩⟩;rw[vd,cell_of_row w g q cur b.e (0,0) H];rw[<-I,Nc]at d;split at d
   .simpa using d
   .cases d
def ajV {ok:Nat->Prop}{t:Ty}{cs:List Value}{xs:List t.D}(g:eJ w ok t cs xs)(m:Nat):eJ w ok t (cs.take (m*t.n)) (xs.take m):=by
 intro d x b;rw[Nc]at b;split at b
 .rename_i h;obtain⟨c,e,j⟩:=g d x b;refine⟨c,e,fun i u f=>?_⟩;have l:=(u9.1 f).1;rw[e.len]at l;have:(d+1)*t.n<=m*t.n:=Fa _ h;rw[J7,Px]at this;rw[Nc,ah (by omega)];exact j i u f
 .cases b
def aaA (h:Inv w0 G st a w){u:Ty}(L:0<u.n){x:AC}{v:Value}(C:bm G w st.bx st.bl x v){ys:List u.D}{g:Bool}(d:VD st u x=some (ys,g)) :
  ∃A cap,v=.slice A ys.length cap/\ys.length<=9223372036854775807/\∃news:List Value,news.length=ys.length*u.n/\eJ w (RO G g) u news ys/\(∀z∈news,z.oneCell'=true)/\(0<ys.length->∃b o,A=some ⟨b,o,none⟩/\cW w b o news):=by
 cases x with
 |nil =>
  simp only[VD]at d;cases d;exact⟨none,0,C,by simp,[],by simp,fun qb x M=>by simp at M,by simp,fun h=>by simp at h⟩
 |ro f e t O =>
  simp only[VD]at d;split at d
  .rename_i R j;cases d;have D:=iV (ok:=RO G g) h (c:=.ro g e t O) C j (fun _ _ _ l=>by cases l) (fun qd qe qf qg l=>by cases l;exact fun _ h=>h) 0;obtain⟨A,cap,i,_⟩:=id D;have i:=(vS i).1;rw[i]at D;obtain⟨_,E,news,p,q,s,y⟩:=afL L D;exact⟨A,cap,i,E,news,p,q,s,y⟩
  .cases d
 |own id len =>
  simp only[VD]at d;split at d
  .rename_i R b j F;cases d;simp only[cz,F]at j;split at j
   .rename_i S;cases j;have T:=dx F;have H:=h.bl id b T;have B:=Ty.beq_eq S;cases len with
    |none =>
     obtain⟨_,⟨A,n,cap,i⟩,W⟩:=C;obtain⟨d,E,news,p,q,s,y⟩:=api H i;refine⟨A,cap,?_,?_,news,?_,adn B q,s,?_⟩
     .rw[W,i];simp[HZ,HJ,d]
     .simp[HZ,HJ];omega
     .simp[HZ,HJ,<-B,p,d]
     .intro I;simp[HZ,HJ]at I;exact y (by omega)
    |some m =>
     obtain⟨_,I,A,n,cap,i,qh,rfl⟩:=C;obtain⟨d,E,news,p,q,s,y⟩:=api H i;have hlen:(HZ (WX B b.xs) (some m)).length=m.toNat:=by simp[HZ,HJ];omega
     rw[hlen];refine⟨A,cap,rfl,by omega,news.take (m.toNat*u.n),?_,?_,fun z X=>s z (ajr X),fun qi=>?_⟩
     .rw[bz,p,<-B];have:m.toNat*b.t.n<=n*b.t.n:=Fa _ (by omega);omega
     .exact ajV (adn B q) m.toNat
     .obtain⟨Y,Z,qa,l⟩:=y (by omega);exact⟨Y,Z,qa,l.take⟩
   .cases j
  .cases d
 |_=>simp[VD]at d
def ag8 {f:Nat}{t h e:TypeId}{i:TypeInfo}{j:Nat}(b:P.underlying t=some (.slice e))(hi:P.info? e=some i){v:Value}{n:Nat}{xs:List Value}(bd:w.ownsRow f e j v n xs)(c:Nat) :
  (Builtin.append_ #[t,t] h #[v,.slice none 0 c]).run P w=.ok v w:=by
 rcases bd.2 with ⟨rfl,rfl⟩|⟨g,cap,cur,rfl,_,l,d,_⟩
 .simp[Builtin.append_,run_underlying b,sizeOf,typeInfo,hi,Builtin.lenOf,Builtin.firstCells]
 .simp[Builtin.append_,run_underlying b,sizeOf,typeInfo,hi,Builtin.lenOf,Builtin.firstCells,d,storeCells]
def PG (h:Inv w0 G st a w){e:TypeId}{u:Ty}{s:AC}{v:Value}(j:bm G w st.bx st.bl s v){xs:List u.D}{f:Bool}{d:St}(c:SU st e u s=some (xs,f,d))(F:0<u.n) :
  Inv w0 G d a w/\d.nt=st.nt/\d.bx=st.bx/\(∃cs,w.ownsRow 0 e u.n v xs.length cs/\eJ w (RO G f) u cs xs)/\(∀g,v.ownBlock=some g->∃id,G.own g=some (.bl id)/\look d.bl id=some none):=by
 cases s with
 |nil =>
  simp only[SU]at c;cases c;rw[show v=_ from j];exact⟨h,rfl,rfl,⟨[],World.ownsRow_nil w _ _ _,fun H x t=>by simp at t⟩,fun g i=>by simp[Value.ownBlock]at i⟩
 |own id len =>
  cases len with
  |some l=>simp[SU]at c
  |none =>
   simp only[SU]at c;cases m:st.nS id with
   |none=>rw[m]at c;cases c
   |some b =>
    rw[m]at c;dsimp only at c;split at c
    .rename_i n;rw[aD]at n;split at c
     .rename_i y;cases c;have p:=dx m;have z:=h.bl id b p;obtain⟨cs,A,B,C⟩:=z.wr n.1;obtain⟨D,_⟩:=h.kill id (by rw[p];rfl);have q:=Ty.beq_eq y;have E:=aI n.2;refine⟨D,rfl,rfl,⟨cs,?_,adn q C⟩,fun g i=>⟨id,?_,by simp[ar]⟩⟩
      .rw[j.2.2,HJ,<-E,<-q];exact A
      .rw[j.2.2]at i;exact B g i
     .cases c
    .cases c
 |_=>simp[SU]at c
def VG {ok:Nat->Prop}{t:Ty}{cs ds:List Value}{xs ys:List t.D}(j:cs.length=xs.length*t.n)(l:eJ w ok t cs xs)(m:eJ w ok t ds ys):eJ w ok t (cs++ds) (xs++ys):=by
 intro b x d;rw[aqC]at d;split at d
 .rename_i hlt;obtain⟨c,h,f⟩:=l b x d;refine⟨c,h,fun i u g=>?_⟩;have:=f i u g;have n:=(u9.1 this).1;rw[aqC,ah n];exact this
 .rename_i p;obtain⟨c,h,f⟩:=m _ x d;refine⟨c,h,fun i u g=>?_⟩;have:=f i u g;have:xs.length*t.n<=b*t.n:=Fa _ (by omega);rw[aqC,af (by omega),j];have e:b*t.n+i-xs.length*t.n=(b-xs.length)*t.n+i:=by rw[Nat.sub_mul];omega
  rw[e];exact f i u g
def aaB {e:TypeId}{i:TypeInfo}(h:P.info? e=some i):P.bytesOf e=i.bytes/\P.cellsOf e=i.size:=by simp[Program.bytesOf,Program.cellsOf,h]
def bytesOf_length (s:ByteArray):(bytesOf s).length=s.size:=by rw[bytesOf,r7,Array.length_toList];rfl
def azm {ok:Nat->Prop}(s:ByteArray):eJ w ok (.int .u8) (Lib.strCells s) (bytesOf s):=by
 intro f x c;refine⟨[.int .u8 x],rfl,fun i u e=>?_⟩;cases i with
 |succ i=>simp at e
 |zero =>
  cases e;simp only[bytesOf,List.getElem?_map]at c;cases d:s.data.toList[f]? with
  |none=>rw[d]at c;cases c
  |some b =>
   rw[d]at c;cases c;simp[Lib.strCells,Ty.n,d]
def anN {E:Nat}{t c f e:TypeId}{i:TypeInfo}(h:P.underlying t=some (.slice e))(j:P.underlying c=some .string)(hi:P.info? e=some i)(q:i.zero=some (.int .u8 0))(l:i.size=1)(x:i.bytes=1)
  {v:Value} {n:Nat} {cs:List Value} (bd:w.ownsRow E e 1 v n cs) {s:ByteArray} (F:n+s.size<=140737488355328) {m:Value} {w':World} (b:(Builtin.append_ #[t,c] f #[v,.string s]).run P w=.ok m w') :
  m.ownBlock=v.ownBlock\/m.ownBlock=some w.heap.size:=by
 rcases bd.2 with ⟨rfl,rfl⟩|⟨g,cap,cur,rfl,_,A,H,p,B,I⟩
 .by_cases p:s.size=0
  .have y:=Lib.run_firstCells_string (P:=P) w 1 s;rw[p]at y;have:(Builtin.append_ #[t,c] f #[.slice none 0 0,.string s]).run P w=.ok (.slice none 0 0) w:=by simp[Builtin.append_,run_underlying h,run_underlying j,sizeOf,typeInfo,hi,l,Builtin.lenOf,p,y]
   rw[this]at b;cases b;exact .inl rfl
  .have d:=run_append_nil_string (P:=P) w t c f e i (.int .u8 0) h j hi q s (by omega) (by omega) (by rw[x];omega);rw[d]at b;cases b;exact .inr rfl
 .by_cases C:n+s.size<=cap
  .have L:cur.size=cap:=by simpa using B
   have d:=Lib.run_append_room_string (P:=P) w t c f e i h j hi l g n cap cur A s C (by omega);rw[d]at b;cases b;exact .inl rfl
  .have D:cs.length=n:=by simpa using bd.1
   have holds:∀z u,cs[z]?=some u->w.cell? ((⟨g,0,none⟩:Addr).add z)=some u:=bd.cells (g:=g) rfl;have d:=Lib.run_append_grow_string (P:=P) w t c f e i (.int .u8 0) h j hi q ⟨g,0,none⟩ n cap cs (by rw[l];simpa using D) holds s (by omega) (by omega) (by rw[x];exact growslice_fits (by omega) (by omega));rw[d]at b;cases b;exact .inr rfl
def aq3 (h:Inv w0 G st a w){args:Array Operand}{ts:Array TypeId}(qA:o.op=.call {callee:=.builtin .append,args:=args,argTypes:=ts}){d:Tmp}(qk:o.dst=some d){s x:Operand}(qB:args.toList=[s,x])
  {t C:TypeId} (qC:ts.toList=[t,C]) {e:TypeId} (L:Dl P t=some e) {u:Ty} {z:CV} (qD:rW P e=some z)
  (j:Ng P (nT.J9 N) st d (st.ac s) (st.ac x) t C e u z k=some r) (ql:pD w0 k r K):o.wp P a w K Q:=by
 have qE:args=#[s,x]:=by rw[<-vR (xs:=args),qB]
 have qF:ts=#[t,C]:=by rw[<-vR (xs:=ts),qC]
 subst qE qF;have y:P.underlying t=some (.slice e):=by
  unfold Dl at L;split at L
  .rename_i xn y;cases L;exact y
  .cases L
 obtain⟨i,p,D,S,rfl⟩:=hJ qD;obtain⟨T,qm⟩:=aaB D;have qn:=h.ac s;have W:=h.ac x;unfold Ng at j;split at j
 .rename_i xs f xp hold;have qo:(execOp a.eval o).run P w=((Builtin.append_ #[t,C] o.type #[a.eval s,a.eval x]).run P w).andThen fun v w'=>.ok (.value v) w':=by unfold execOp;rw[qA];simp[resolve,invoke,builtin]
  split at j
  ·
   rename_i str qG;split at j
   .rename_i qp;have qH:=Ty.beq_eq qp;subst qH;split at j
    .rename_i qq;obtain⟨E,M⟩:=aR j;simp only[aD]at E;obtain⟨⟨⟨X,Y⟩,F⟩,Z⟩:=E;have qt:i.bytes=1:=by rw[<-T];exact aI Y
     have qu:i.size=1:=by rw[<-qm];exact aI X
     have qI:p=.int .u8 0:=by
      have B:ei G w st.bx st.bl (J8 p) p:=oM p;unfold axP at F;split at F
      .rename_i qK;rw[qK]at B;exact B
      .cases F
     subst qI;obtain⟨B,qL,qM,⟨cs,bd,qa⟩,qb⟩:=PG h qn hold (by simp[Ty.n]);rw[qG]at W;have qd:a.eval x=.string str:=W;have hlen:=lT Z;have qe:0<=w.heap.size:=aQ _;obtain⟨c,w',H,qf,qg,l⟩:∃c w',(Builtin.append_ #[t,C] o.type #[a.eval s,a.eval x]).run P w=.ok c w'/\w'.ownsRow 0 e 1 c (xs.length+str.size) (cs++Lib.strCells str)/\w.grownBy w' (a.eval s).ownBlock/\(c.ownBlock=(a.eval s).ownBlock\/c.ownBlock=some w.heap.size):=by rw[qd];have qN:maxLen=9223372036854775807:=rfl;obtain⟨c,w',O,qh,qO,_⟩:=Lib.run_append_own_string (P:=P) w 0 t C o.type e i y qq D S qu qt (a.eval s) xs.length cs (by simpa [Ty.n]using bd) str (by omega) (by omega) qe;refine⟨c,w',O,qh,qO,?_⟩;exact anN y qq D S qu qt (by simpa [Ty.n]using bd) (by omega) O
     refine H5 (v:=c) (w':=w') (by rw[qo,H];rfl) ?_;rw[qk];have qP:WX (Ty.beq_eq qp) xs=xs:=rfl;rw[qP]at M;refine Nn B (a.eval s).ownBlock qg qb d ⟨e,.int .u8,xs++bytesOf str,f,true⟩ rfl (by simp[Ty.n]) c (cs++Lib.strCells str) (by simpa [Ty.n,bytesOf_length]using qf) ?_ (VG (by simpa [Ty.n]using bd.1) qa (azm str)) M ql;intro q m;rcases l with l|l
     .exact .inr (l▸m)
     .rw[l]at m;cases m;exact .inl (bP _)
    .cases j
   .cases j
  .split at j
   .rename_i n g kE;obtain⟨E,M⟩:=aR j;simp only[aD]at E;obtain⟨⟨⟨⟨⟨⟨X,Y⟩,F⟩,Z⟩,qQ⟩,qR⟩,qS⟩:=E;have qT:=aI X;subst qT;have qW:i.size=u.n:=by rw[<-qm];exact aI Y
    have R:0<u.n:=SO (bu qQ);have qX:0<i.bytes:=by rw[<-T];exact SO (bu qR)
    have hlen:=lT qS;rw[T]at hlen;have qY:=((oM (G:=G) (w:=w) (bx:=st.bx) (bl:=st.bl) p).cells Z).len;have qZ:p.cells.size=u.n:=by have:=aI F;simp at qY;omega
    obtain⟨B,qL,qM,⟨cs,bd,qa⟩,qb⟩:=PG h qn hold R;obtain⟨A,cap,qd,xq,news,qi,qv,xa,qw⟩:=aaA h R W kE;have qe:0<=w.heap.size:=aQ _;have qx:(xs.length+n.length)*i.bytes<=140737488355328:=by
     have:(((xs.length+n.length)*i.bytes:Nat):Int)<=140737488355328:=by rw[Int.natCast_mul];exact hlen
     omega
    have xr:xs.length+n.length<=140737488355328:=cj (aqz _ qX) qx;have qN:maxLen=9223372036854775807:=rfl;obtain⟨c,w',H,qf,qg,l⟩:∃c w',(Builtin.append_ #[t,t] o.type #[a.eval s,a.eval x]).run P w=.ok c w'/\w'.ownsRow 0 e u.n c (xs.length+n.length) (cs++news)/\w.grownBy w' (a.eval s).ownBlock/\(c.ownBlock=(a.eval s).ownBlock\/c.ownBlock=some w.heap.size):=by
     rw[qd];cases A with
     |none =>
      have qy:n.length=0:=by
       rcases apb n.length with h|h
       .exact h
       .obtain⟨b,xb,qj,_⟩:=qw h;cases qj
      have xc:news=[]:=WS (by rw[qi,qy,ajy]);subst xc;rw[qy];exact⟨_,w,ag8 y D bd cap,by simpa using bd,⟨rfl,rfl,rfl,bP _,fun _ _ _=>rfl⟩,.inl rfl⟩
     |some xd =>
      obtain⟨c,w',H,O,qh,_,xe⟩:=run_append_own_at (P:=P) w 0 t o.type e i p u.n i.bytes y D S qW rfl qZ R (a.eval s) xs.length cs bd xd n.length cap news qi (fun xf xg qz=>by
       have xh:0<n.length:=by
        rcases apb n.length with h|h
        .have:=(u9.1 qz).1;rw[qi,h,ajy]at this;omega
        .exact h
       obtain⟨b,xb,qj,xi⟩:=qw xh;cases qj;rw[S3];exact xi xf xg qz) xa (by omega) qx qe
      exact⟨c,w',H,O,qh,xe⟩
    refine H5 (v:=c) (w':=w') (by rw[qo,H];rfl) ?_;rw[qk];have xj:∀q,RO G f q->RO G (f&&(g || flat u)) q:=fun q m=>m.H4 fun I=>by rw[aD]at I;exact I.1
    have xk:eJ w (RO G (f&&(g || flat u))) u news n:=by
     cases xm:flat u with
     |true=>exact ajU xm qv|false=>exact kF (fun q m=>m.H4 fun I=>by simp at I;exact I.2) qv
    refine Nn B (a.eval s).ownBlock qg qb d ⟨e,u,xs++n,f&&(g || flat u),true⟩ rfl R c (cs++news) (by simpa using qf) ?_ (VG bd.1 (kF xj qa) xk) M ql;intro q m;rcases l with l|l
    .exact .inr (l▸m)
    .rw[l]at m;cases m;exact .inl (bP _)
   .cases j
 .cases j
def av9 (h:Inv w0 G st a w){args:Array Operand}{ts:Array TypeId}(M:o.op=.call {callee:=.builtin .append,args:=args,argTypes:=ts}){s x:Operand}(O:args.toList=[s,x])
  {t:TypeId} (R:ts.toList=[t,t]) {e:TypeId} (q:Dl P t=some e) {u:Ty} {z:CV} (S:rW P e=some z) {d:Tmp} {j:Nat} (T:a.eval s=.slice (some ⟨j,0,none⟩) 0 0)
  (c:Ng P (nT.J9 N) st d (st.ac s) (st.ac x) t t e u z k=some r):∃v y,(execOp a.eval o).run P w=.ok (.value v) y/\Below w.heap.size w y:=by
 have W:args=#[s,x]:=by rw[<-vR (xs:=args),O]
 have X:ts=#[t,t]:=by rw[<-vR (xs:=ts),R]
 subst W X;have l:P.underlying t=some (.slice e):=by
  unfold Dl at q;split at q
  .rename_i qw l;cases q;exact l
  .cases q
 obtain⟨i,Y,B,Z,rfl⟩:=hJ S;obtain⟨E,qa⟩:=aaB B;have qx:=h.ac s;have qb:=h.ac x;unfold Ng at c;split at c
 .rename_i xs f qy hold;have m:(execOp a.eval o).run P w=((Builtin.append_ #[t,t] o.type #[a.eval s,a.eval x]).run P w).andThen fun v y=>.ok (.value v) y:=by unfold execOp;rw[M];simp[resolve,invoke,builtin]
  split at c
  ·
   split at c
   .split at c
    .rename_i F;rw[l]at F;cases F
    .cases c
   .cases c
  .split at c
   .rename_i n g kE;obtain⟨H,_⟩:=aR c;simp only[aD]at H;obtain⟨⟨⟨⟨⟨⟨_,qd⟩,qz⟩,qA⟩,qe⟩,qf⟩,qg⟩:=H;have qh:i.size=u.n:=by rw[<-qa];exact aI qd
    have qi:0<u.n:=SO (bu qe);have qj:0<i.bytes:=by rw[<-E];exact SO (bu qf)
    have hlen:=lT qg;rw[E]at hlen;have qk:(xs.length+n.length)*i.bytes<=140737488355328:=by
     have:(((xs.length+n.length)*i.bytes:Nat):Int)<=140737488355328:=by rw[Int.natCast_mul];exact hlen
     omega
    have I:n.length*i.bytes<=140737488355328:=cj (Fa _ (Nat.le_add_left _ _)) qk;have qB:n.length<=140737488355328:=cj (aqz _ qj) I;obtain⟨A,cap,ql,qC,news,qm,qD,qE,qn⟩:=aaA h qi qb kE;rw[T,ql]at m;rcases apb n.length with C|C
    .rw[C]at m;cases A with
     |none =>
      have:(Builtin.append_ #[t,t] o.type #[.slice (some ⟨j,0,none⟩) 0 0,.slice none 0 cap]).run P w=.ok (.slice (some ⟨j,0,none⟩) 0 0) w:=by simp[Builtin.append_,run_underlying l,sizeOf,typeInfo,B,Builtin.lenOf,Builtin.firstCells,storeCells]
      exact⟨_,w,by rw[m,this];rfl,Below.refl _ w⟩
     |some L =>
      have qo:=run_firstCells_some (P:=P) w i.size 0 L 0 cap [] (by simp) (fun D v p=>by simp at p);have:(Builtin.append_ #[t,t] o.type #[.slice (some ⟨j,0,none⟩) 0 0,.slice (some L) 0 cap]).run P w=.ok (.slice (some ⟨j,0,none⟩) 0 0) w:=by simp[Builtin.append_,run_underlying l,sizeOf,typeInfo,B,Builtin.lenOf,qo,storeCells]
      exact⟨_,w,by rw[m,this];rfl,Below.refl _ w⟩
    .obtain⟨b,qp,rfl,qq⟩:=qn C;have qF:maxLen=9223372036854775807:=rfl;have qt:=run_append_grow (P:=P) w t o.type e i Y l B Z ⟨j,0,none⟩ 0 0 [] (by simp) (fun D v p=>by simp at p) ⟨b,qp,none⟩ n.length cap news (by rw[qh];exact qm) (fun D qu p=>by rw[S3];exact qq D qu p) (by omega) (by omega) (growslice_fits (by omega) (by simpa using I))
     rw[qt]at m;exact⟨_,_,m,⟨rfl,rfl,rfl,by simp,fun k qv=>heap_alloc_old w.drew _ qv⟩⟩
   .cases c
 .cases c
end
end Go.Am
