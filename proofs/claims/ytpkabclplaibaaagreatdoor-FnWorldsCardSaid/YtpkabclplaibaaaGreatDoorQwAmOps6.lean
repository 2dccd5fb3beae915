/- No condition. -/
import Derived.Test.YtpkabclplaibaaaGreatDoorQwAmOps5
import Derived.Lib.AppendStr
set_option linter.all false
namespace Go.Am
open Go.RowKit
variable [ei]
section
variable {N:Nat} {P:Program} {w0:dY} {w:World} {G:Gh} {st:St} {a:Act} {U:Type} {k:St->Option U} {r:U} {K:Act->World->Prop} {Q:Exit->Act->World->Prop} {o:Oper}
def Inv.atq {w':World}(h:Inv w0 G st a w)(d:Option Nat)(j:w.grownBy w' d)
  (n:∀g,d=some g->∃id,G.own g=some (.bl id)/\look st.bl id=some none)
  (q:List (Nat×Option eF)) (l:Nat->Value) (nw:Nat->Option Nat)
  (p:∀g id,nw g=some id->(w.heap.size<=g\/d=some g)):WD G w (G.grow d q l nw) w':=by
 have key:∀b x,b<w.heap.size->G.own b=x->(∀id,x≠some (.bl id))->(G.grow d q l nw).own b=x/\w'.heap[b]?=w.heap[b]?:=by
  intro b x f c s;have i:d≠some b:=by intro e;obtain⟨id,t,_⟩:=n b e;exact s id (c.symm.trans t)
  refine⟨?_,j.block b f (fun e=>i e.symm)⟩;unfold Gh.grow;dsimp only;cases hnw:nw b with
  |none=>simp[i,c]
  |some id =>
   rcases p b id hnw with m|m
   .omega
   .exact absurd m i
 exact⟨rfl,rfl,j.size,fun b f c=>key b _ f c (by simp),fun b f c=>key b _ f c (by simp)⟩
def Ol {w':World}(h:Inv w0 G st a w)(j:Option Nat)(y:w.grownBy w' j)(z:∀g,j=some g->∃id,G.own g=some (.bl id)/\look st.bl id=some none)
  (d:Tmp) (b:eF) (E:b.w=true) (F:0<b.t.n) (c:Value) (cs:List Value) (p:w'.ownsRow 0 b.e b.t.n c b.xs.length cs)
  (kC:∀g,c.ownBlock=some g->w.heap.size<=g\/j=some g) (H:et w (RO G b.f) b.t cs b.xs)
  (e:st.row d b k=some r) (I:q9 w0 k r K):K (a.put (some d) c) w':=by
 unfold St.row at e;cases q:look st.bl (d*64) with
 |some x=>rw[q]at e;cases e
 |none =>
  rw[q]at e;obtain⟨L,e⟩:=aT e;have B:∀id,(look [(d*64,some b)] id).isSome=true->id=d*64:=by
   intro id i;rw[ar]at i;by_cases l:d*64=id
   .exact l.symm
   .simp[l,look]at i
  have M:=h.atq j y z [(d*64,some b)] (fun _=>c) (fun g=>if c.ownBlock=some g then some (d*64) else none) (by
   intro g id f;split at f
   .exact kC g ‹_›
   .cases f)
  obtain⟨hinv,_,i⟩:=h.grow j y z [(d*64,some b)] (fun _=>c) (fun g=>if c.ownBlock=some g then some (d*64) else none)
   (fun id i=>by rw[B id i];exact q)
   (fun g id f=>by
    split at f
    .rename_i m;cases f;refine⟨by simp[ar],m,?_,kC g m⟩;rcases p.2 with ⟨rfl,_⟩|⟨C,cap,cur,rfl,_,O,_⟩
     .simp[Value.ownBlock]at m
     .have:C=g:=by simpa [Value.ownBlock]using m
      subst this;exact(sC.1 O).1
    .cases f)
   (fun id T s=>by
    have l:=B id (by rw[s];rfl);subst l;simp[ar]at s;subst s;refine⟨fun _=>⟨cs,?_,?_,H.mono M⟩,(fun D=>by rw[E]at D;exact Bool.noConfusion D),F⟩
    .simpa [Gh.grow,ar]using p
    .intro g t;have t:c.ownBlock=some g:=by simpa [Gh.grow,ar]using t
     simp[Gh.grow,t])
  have R:∃A n cap,c=.slice A n cap:=by
   rcases p.2 with ⟨rfl,_⟩|⟨C,cap,cur,rfl,_⟩
   .exact⟨_,_,_,rfl⟩
   .exact⟨_,_,_,rfl⟩
  have S:=hinv.put d (fs L) (v:=.v (.c (.own (d*64) none))) (u:=c) (by
   refine⟨by simp[c6,ar],?_,?_⟩
   .simpa [Gh.grow,ar]using R
   .simp[Gh.grow,ar])
  exact I _ _ _ _ S e
def agl {ok:Nat->Prop}{e:TypeId}{t:Ty}(s:0<t.n){ys:List t.D}{A:Option Addr}{m R:Nat}(h:Rd w ok (.sl e t) ys [.slice A m R]) :
  m=ys.length/\m<=9223372036854775807/\∃Ba:List Value,Ba.length=m*t.n/\et w ok t Ba ys/\(∀u∈Ba,u.oneCell'=true)/\(0<m->∃b o,A=some ⟨b,o,none⟩/\cX w b o Ba):=by
 obtain⟨S,T,n,W,D,E⟩:=h;have n:=(sD n).1;injection n with F H I
 subst F H I;refine⟨rfl,D,?_⟩;rcases aga ys.length with v|v
 .refine⟨[],by simp[v],fun l x f=>?_,by simp,fun h=>by omega⟩;have:=(oC.1 f).1;omega
 .obtain⟨b,o,L,_,_,_,y⟩:=E (.inl (by omega));have z:∀q,q<ys.length*t.n->∃u,w.cell? ⟨b,o+q,none⟩=some u/\u.oneCell'=true:=by
   intro q g;have f:q/t.n<ys.length:=by rw[av6 s];exact g
   obtain⟨c,j,p⟩:=y (q/t.n) _ (BS f t.az);have B:q%t.n<c.length:=by rw[j.len];exact adY _ s
   have d:=nu B;refine⟨_,?_,j.one _ (bT B)⟩;have:=p (q%t.n) _ d;have e:q/t.n*t.n+q%t.n=q:=Nat.div_add_mod' q t.n
   rwa [e]at this
  refine⟨(List.range (ys.length*t.n)).map fun q=>(w.cell? ⟨b,o+q,none⟩).getD undef,by simp,fun l x f=>?_,fun u d=>?_,fun _=>⟨b,o,L,fun q u d=>?_⟩⟩
  .obtain⟨c,j,p⟩:=y l x f;refine⟨c,j,fun i u d=>?_⟩;have X:=(oC.1 f).1;have M:=(oC.1 d).1;rw[j.len]at M;have:l*t.n+i<ys.length*t.n:=by have:(l+1)*t.n<=ys.length*t.n:=Bb _ (by omega);rw[Jd,NJ]at this;omega
   simp[this,p i u d]
  .simp only[Ey,dk]at d;obtain⟨q,g,rfl⟩:=d;obtain⟨u,d,O⟩:=z q g;rw[d];exact O
  .have g:q<ys.length*t.n:=by have:=(oC.1 d).1;simpa using this
   obtain⟨Y,C,_⟩:=z q g;simp[g,C]at d;rw[C,<-d]
def kY {ok b:Nat->Prop}(h:∀g,ok g->b g){t:Ty}{cs:List Value}{xs:List t.D}(d:et w ok t cs xs):et w b t cs xs:=by intro e x f;obtain⟨c,i,j⟩:=d e x f;exact⟨c,gv h i,j⟩
def ajc {ok e:Nat->Prop}:∀{t:Ty} {x:t.D} {cs:List Value},flat t=true->Rd w ok t x cs->Rd w e t x cs
 |.int _,_,_,_,h=>h|.bool,_,_,_,h=>h|.str,_,_,_,h=>h|.unit,_,_,_,h=>h|.pair a b,_,_,c,h=>by obtain⟨f,g,rfl,i,j⟩:=h;have d:(flat a&&flat b)=true:=c;rw[aE]at d;exact⟨f,g,rfl,ajc d.1 i,ajc d.2 j⟩
 |.sl _ _,_,_,c,_=>by cases c
def aj1 {ok b:Nat->Prop}{t:Ty}(d:flat t=true){cs:List Value}{xs:List t.D}(e:et w ok t cs xs):et w b t cs xs:=by intro f x g;obtain⟨c,h,i⟩:=e f x g;exact⟨c,ajc d h,i⟩
def ad2 {ok:Nat->Prop}{t u:Ty}(h:t=u){xs:List t.D}{cs:List Value}(b:et w ok t cs xs):et w ok u cs (Tx h xs):=by subst h;exact b
def I1 {t u:Ty}(h:t=u){xs:List t.D}:(Tx h xs).length=xs.length:=by subst h;rfl
def ad3 {ok b:Nat->Prop}{t:Ty}(h:flat t=false->∀g,ok g->b g){cs:List Value}{xs:List t.D}(d:et w ok t cs xs):et w b t cs xs:=by
 cases e:flat t with
 |true =>
  intro f x i;obtain⟨c,j,l⟩:=d f x i;exact⟨c,ajc e j,l⟩
 |false=>exact kY (h e) d
def apg {id:Nat}{b:eF}(f:EB G w id b){A:Option Addr}{n M:Nat}(i:G.hv id=.slice A n M) :
  n=b.xs.length/\n<=9223372036854775807/\∃Ba:List Value,Ba.length=n*b.t.n/\et w (RO G b.f) b.t Ba b.xs/\(∀u∈Ba,u.oneCell'=true)/\(0<n->∃b o,A=some ⟨b,o,none⟩/\cX w b o Ba):=by
 cases p:b.w with
 |false =>
  have:=f.rd p;rw[i]at this;exact agl f.pos this
 |true =>
  obtain⟨cs,C,_,j⟩:=f.wr p;obtain⟨l,D⟩:=C;have s:∀u∈cs,u.oneCell'=true:=by
   intro u d;obtain⟨q,t,rfl⟩:=aqC.1 d;have v:=f.pos;have E:q/b.t.n<b.xs.length:=by rw[av6 v,<-l];exact t
   obtain⟨c,x,F⟩:=j (q/b.t.n) _ (BS E b.t.az);have y:q%b.t.n<c.length:=by rw[x.len];exact adY _ v
   have:=F (q%b.t.n) _ (nu y);rw[Nat.div_add_mod' q b.t.n,nu t]at this;rw[eh this];exact x.one _ (bT y)
  rcases D with ⟨e,z⟩|⟨g,O,cur,e,_,H,R,S,T,I⟩
  .rw[i]at e;injection e with B m L
   subst m;refine⟨z.symm,by omega,cs,by rw[l,z],j,s,fun h=>by omega⟩
  .rw[i]at e;injection e with B m L
   subst m;have:maxLen=9223372036854775807:=rfl;refine⟨rfl,by omega,cs,l,j,s,fun _=>⟨g,0,B,fun q u d=>?_⟩⟩;rw[vS,cell_of_row w g q cur b.e (0,0) H];rw[<-I,Ls]at d;split at d
   .simpa using d
   .cases d
def aj2 {ok:Nat->Prop}{t:Ty}{cs:List Value}{xs:List t.D}(g:et w ok t cs xs)(m:Nat):et w ok t (cs.take (m*t.n)) (xs.take m):=by
 intro d x b;rw[Ls]at b;split at b
 .rename_i h;obtain⟨c,e,j⟩:=g d x b;refine⟨c,e,fun i u f=>?_⟩;have l:=(oC.1 f).1;rw[e.len]at l;have:(d+1)*t.n<=m*t.n:=Bb _ h;rw[Jd,NJ]at this;rw[Ls,ak (by omega)];exact j i u f
 .cases b
def abu (h:Inv w0 G st a w){e:TypeId}{u:Ty}(M:0<u.n){x:AC}{v:Value}(C:bo G w st.bx st.bl x v){ys:List u.D}{g:Bool}(d:WC st e u x=some (ys,g)) :
  ∃A cap,v=.slice A ys.length cap/\ys.length<=9223372036854775807/\∃Ba:List Value,Ba.length=ys.length*u.n/\et w (RO G g) u Ba ys/\(∀z∈Ba,z.oneCell'=true)/\(0<ys.length->∃b o,A=some ⟨b,o,none⟩/\cX w b o Ba):=by
 cases x with
 |nil =>
  simp only[WC]at d;cases d;exact⟨none,0,C,by simp,[],by simp,fun qg x O=>by simp at O,by simp,fun h=>by simp at h⟩
 |ro f F t R =>
  simp only[WC]at d;split at d
  .rename_i S j;cases d;have D:=jv (ok:=RO G g) h (c:=.ro g F t R) C j (fun _ _ _ l=>by cases l) (fun qh F qi qj l=>by cases l;exact fun _ h=>h);obtain⟨A,cap,i,_⟩:=id D;have i:=(sD i).1;rw[i]at D;obtain⟨_,E,Ba,p,q,s,y⟩:=agl M D;exact⟨A,cap,i,E,Ba,p,q,s,y⟩
  .cases d
 |own id len =>
  simp only[WC]at d;split at d
  .rename_i S b j H;cases d;simp only[cn,H]at j;split at j
   .rename_i T;cases aK T;split at j
    .rename_i W;cases j;have X:=dm H;have I:=h.bl id b X;have B:=Ty.beq_eq W;cases len with
     |none =>
      obtain⟨_,⟨A,n,cap,i⟩,Y⟩:=C;obtain⟨d,E,Ba,p,q,s,y⟩:=apg I i;refine⟨A,cap,?_,?_,Ba,?_,ad2 B q,s,?_⟩
      .rw[Y,i];simp[Je,I1,d]
      .simp[Je,I1];omega
      .simp[Je,I1,<-B,p,d]
      .intro L;simp[Je,I1]at L;exact y (by omega)
     |some m =>
      obtain⟨_,L,A,n,cap,i,qk,rfl⟩:=C;obtain⟨d,E,Ba,p,q,s,y⟩:=apg I i;have hlen:(Je (Tx B b.xs) (some m)).length=m.toNat:=by simp[Je,I1];omega
      rw[hlen];refine⟨A,cap,rfl,by omega,Ba.take (m.toNat*u.n),?_,?_,fun z Z=>s z (XQ Z),fun ql=>?_⟩
      .rw[bQ,p,<-B];have:m.toNat*b.t.n<=n*b.t.n:=Bb _ (by omega);omega
      .exact aj2 (ad2 B q) m.toNat
      .obtain⟨qd,qe,qf,l⟩:=y (by omega);exact⟨qd,qe,qf,l.take⟩
    .cases j
   .cases j
  .cases d
 |_=>simp[WC]at d
def aho {f:Nat}{t h e:TypeId}{i:TypeInfo}{j:Nat}(b:P.underlying t=some (.slice e))(hi:P.info? e=some i){v:Value}{n:Nat}{xs:List Value}(bf:w.ownsRow f e j v n xs)(c:Nat) :
  (Builtin.append_ #[t,t] h #[v,.slice none 0 c]).run P w=.ok v w:=by
 rcases bf.2 with ⟨rfl,rfl⟩|⟨g,cap,cur,rfl,_,l,d,_⟩
 .simp[Builtin.append_,run_underlying b,sizeOf,typeInfo,hi,Builtin.lenOf,Builtin.firstCells]
 .simp[Builtin.append_,run_underlying b,sizeOf,typeInfo,hi,Builtin.lenOf,Builtin.firstCells,d,storeCells]
def Qo (h:Inv w0 G st a w){e:TypeId}{u:Ty}{s:AC}{v:Value}(j:bo G w st.bx st.bl s v){xs:List u.D}{f:Bool}{d:St}(c:Tz st e u s=some (xs,f,d))(F:0<u.n) :
  Inv w0 G d a w/\d.nt=st.nt/\d.bx=st.bx/\(∃cs,w.ownsRow 0 e u.n v xs.length cs/\et w (RO G f) u cs xs)/\(∀g,v.ownBlock=some g->∃id,G.own g=some (.bl id)/\look d.bl id=some none):=by
 cases s with
 |nil =>
  simp only[Tz]at c;cases c;rw[show v=_ from j];exact⟨h,rfl,rfl,⟨[],World.ownsRow_nil w _ _ _,fun H x t=>by simp at t⟩,fun g i=>by simp[Value.ownBlock]at i⟩
 |own id len =>
  cases len with
  |some l=>simp[Tz]at c
  |none =>
   simp only[Tz]at c;cases m:st.oi id with
   |none=>rw[m]at c;cases c
   |some b =>
    rw[m]at c;dsimp only at c;split at c
    .rename_i n;rw[aE]at n;split at c
     .rename_i y;cases c;have p:=dm m;have z:=h.bl id b p;obtain⟨cs,A,B,C⟩:=z.wr n.1;obtain⟨D,_⟩:=h.kill id (by rw[p];rfl);have q:=Ty.beq_eq y;have E:=aK n.2;refine⟨D,rfl,rfl,⟨cs,?_,ad2 q C⟩,fun g i=>⟨id,?_,by simp[ar]⟩⟩
      .rw[j.2.2,I1,<-E,<-q];exact A
      .rw[j.2.2]at i;exact B g i
     .cases c
    .cases c
 |_=>simp[Tz]at c
def WG {ok:Nat->Prop}{t:Ty}{cs j:List Value}{xs ys:List t.D}(l:cs.length=xs.length*t.n)(m:et w ok t cs xs)(n:et w ok t j ys):et w ok t (cs++j) (xs++ys):=by
 intro b x d;rw[aqB]at d;split at d
 .rename_i hlt;obtain⟨c,h,f⟩:=m b x d;refine⟨c,h,fun i u g=>?_⟩;have:=f i u g;have p:=(oC.1 this).1;rw[aqB,ak p];exact this
 .rename_i q;obtain⟨c,h,f⟩:=n _ x d;refine⟨c,h,fun i u g=>?_⟩;have:=f i u g;have:xs.length*t.n<=b*t.n:=Bb _ (by omega);rw[aqB,ag (by omega),l];have e:b*t.n+i-xs.length*t.n=(b-xs.length)*t.n+i:=by rw[Nat.sub_mul];omega
  rw[e];exact f i u g
def abv {e:TypeId}{i:TypeInfo}(h:P.info? e=some i):P.bytesOf e=i.bytes/\P.cellsOf e=i.size:=by simp[Program.bytesOf,Program.cellsOf,h]
def pz (s:ByteArray):(bytesOf s).length=s.size:=by rw[bytesOf,pw,Array.length_toList];rfl
def azP {ok:Nat->Prop}(s:ByteArray):et w ok (.int .u8) (Lib.strCells s) (bytesOf s):=by
 intro f x c;refine⟨[.int .u8 x],rfl,fun i u e=>?_⟩;cases i with
 |succ i=>simp at e
 |zero =>
  cases e;simp only[bytesOf,List.getElem?_map]at c;cases d:s.data.toList[f]? with
  |none=>rw[d]at c;cases c
  |some b =>
   rw[d]at c;cases c;simp[Lib.strCells,Ty.n,d]
def anQ {E:Nat}{t c f e:TypeId}{i:TypeInfo}(h:P.underlying t=some (.slice e))(j:P.underlying c=some .string)(hi:P.info? e=some i)(q:i.zero=some (.int .u8 0))(l:i.size=1)(x:i.bytes=1)
  {v:Value} {n:Nat} {cs:List Value} (bf:w.ownsRow E e 1 v n cs) {s:ByteArray} (F:n+s.size<=140737488355328) {m:Value} {w':World} (b:(Builtin.append_ #[t,c] f #[v,.string s]).run P w=.ok m w') :
  m.ownBlock=v.ownBlock\/m.ownBlock=some w.heap.size:=by
 rcases bf.2 with ⟨rfl,rfl⟩|⟨g,cap,cur,rfl,_,A,H,p,B,I⟩
 .by_cases p:s.size=0
  .have y:=Lib.run_firstCells_string (P:=P) w 1 s;rw[p]at y;have:(Builtin.append_ #[t,c] f #[.slice none 0 0,.string s]).run P w=.ok (.slice none 0 0) w:=by simp[Builtin.append_,run_underlying h,run_underlying j,sizeOf,typeInfo,hi,l,Builtin.lenOf,p,y]
   rw[this]at b;cases b;exact .inl rfl
  .have d:=run_append_nil_string (P:=P) w t c f e i (.int .u8 0) h j hi q s (by omega) (by omega) (by rw[x];omega);rw[d]at b;cases b;exact .inr rfl
 .by_cases C:n+s.size<=cap
  .have L:cur.size=cap:=by simpa using B
   have d:=Lib.run_append_room_string (P:=P) w t c f e i h j hi l g n cap cur A s C (by omega);rw[d]at b;cases b;exact .inl rfl
  .have D:cs.length=n:=by simpa using bf.1
   have holds:∀z u,cs[z]?=some u->w.cell? ((⟨g,0,none⟩:Addr).add z)=some u:=bf.cells (g:=g) rfl;have d:=Lib.run_append_grow_string (P:=P) w t c f e i (.int .u8 0) h j hi q ⟨g,0,none⟩ n cap cs (by rw[l];simpa using D) holds s (by omega) (by omega) (by rw[x];exact growslice_fits (by omega) (by omega));rw[d]at b;cases b;exact .inr rfl
def aq4 (h:Inv w0 G st a w){args:Array Operand}{ts:Array TypeId}(qC:o.op=.call {callee:=.builtin .append,args:=args,argTypes:=ts}){d:Tmp}(qm:o.dst=some d){s x:Operand}(qD:args.toList=[s,x])
  {t C:TypeId} (qE:ts.toList=[t,C]) {e:TypeId} (L:EA P t=some e) {u:Ty} {z:CV} (qF:sO P e=some z)
  (j:Of P (nY.Lm N) st d (st.ac s) (st.ac x) t C e u z k=some r) (qn:q9 w0 k r K):o.wp P a w K Q:=by
 have qG:args=#[s,x]:=by rw[<-wQ (xs:=args),qD]
 have qH:ts=#[t,C]:=by rw[<-wQ (xs:=ts),qE]
 subst qG qH;have y:P.underlying t=some (.slice e):=by
  unfold EA at L;split at L
  .rename_i xq y;cases L;exact y
  .cases L
 obtain⟨i,p,D,S,rfl⟩:=hN qF;obtain⟨T,qo⟩:=abv D;have qp:=h.ac s;have W:=h.ac x;unfold Of at j;split at j
 .rename_i xs f xr Qi;have qq:(execOp a.eval o).run P w=((Builtin.append_ #[t,C] o.type #[a.eval s,a.eval x]).run P w).andThen fun v w'=>.ok (.value v) w':=by unfold execOp;rw[qC];simp[resolve,invoke,builtin]
  split at j
  ·
   rename_i str qI;split at j
   .rename_i qt;have qK:=Ty.beq_eq qt;subst qK;split at j
    .rename_i qu;obtain⟨E,M⟩:=aT j;simp only[aE]at E;obtain⟨⟨⟨X,Y⟩,F⟩,Z⟩:=E;have qv:i.bytes=1:=by rw[<-T];exact aK Y
     have qw:i.size=1:=by rw[<-qo];exact aK X
     have qL:p=.int .u8 0:=by
      have B:dL G w st.bx st.bl (Lw p) p:=py p;unfold ayi at F;split at F
      .rename_i qM;rw[qM]at B;exact B
      .cases F
     subst qL;obtain⟨B,qN,qO,⟨cs,bf,qd⟩,qe⟩:=Qo h qp Qi (by simp[Ty.n]);rw[qI]at W;have qf:a.eval x=.string str:=W;have hlen:=s3 Z;have qg:0<=w.heap.size:=a7 _;obtain⟨c,w',H,qh,qi,l⟩:∃c w',(Builtin.append_ #[t,C] o.type #[a.eval s,a.eval x]).run P w=.ok c w'/\w'.ownsRow 0 e 1 c (xs.length+str.size) (cs++Lib.strCells str)/\w.grownBy w' (a.eval s).ownBlock/\(c.ownBlock=(a.eval s).ownBlock\/c.ownBlock=some w.heap.size):=by rw[qf];have qP:maxLen=9223372036854775807:=rfl;obtain⟨c,w',O,qj,qQ,_⟩:=Lib.run_append_own_string (P:=P) w 0 t C o.type e i y qu D S qw qv (a.eval s) xs.length cs (by simpa [Ty.n]using bf) str (by omega) (by omega) qg;refine⟨c,w',O,qj,qQ,?_⟩;exact anQ y qu D S qw qv (by simpa [Ty.n]using bf) (by omega) O
     refine Jj (v:=c) (w':=w') (by rw[qq,H];rfl) ?_;rw[qm];have qR:Tx (Ty.beq_eq qt) xs=xs:=rfl;rw[qR]at M;refine Ol B (a.eval s).ownBlock qi qe d ⟨e,.int .u8,xs++bytesOf str,f,true⟩ rfl (by simp[Ty.n]) c (cs++Lib.strCells str) (by simpa [Ty.n,pz]using qh) ?_ (WG (by simpa [Ty.n]using bf.1) qd (azP str)) M qn;intro q m;rcases l with l|l
     .exact .inr (l▸m)
     .rw[l]at m;cases m;exact .inl (bh _)
    .cases j
   .cases j
  .split at j
   .rename_i n g kC;obtain⟨E,M⟩:=aT j;simp only[aE]at E;obtain⟨⟨⟨⟨⟨⟨X,Y⟩,F⟩,Z⟩,qS⟩,qT⟩,qW⟩:=E;have qX:=aK X;subst qX;have qY:i.size=u.n:=by rw[<-qo];exact aK Y
    have R:0<u.n:=To (bu qS);have qZ:0<i.bytes:=by rw[<-T];exact To (bu qT)
    have hlen:=s3 qW;rw[T]at hlen;have xa:=((py (G:=G) (w:=w) (bx:=st.bx) (bl:=st.bl) p).cells Z).len;have xb:p.cells.size=u.n:=by have:=aK F;simp at xa;omega
    obtain⟨B,qN,qO,⟨cs,bf,qd⟩,qe⟩:=Qo h qp Qi R;obtain⟨A,cap,qf,xu,Ba,qk,qx,xc,qy⟩:=abu h R W kC;have qg:0<=w.heap.size:=a7 _;have qz:(xs.length+n.length)*i.bytes<=140737488355328:=by
     have:(((xs.length+n.length)*i.bytes:Nat):Int)<=140737488355328:=by rw[Int.natCast_mul];exact hlen
     omega
    have xv:xs.length+n.length<=140737488355328:=aU (aqz _ qZ) qz;have qP:maxLen=9223372036854775807:=rfl;obtain⟨c,w',H,qh,qi,l⟩:∃c w',(Builtin.append_ #[t,t] o.type #[a.eval s,a.eval x]).run P w=.ok c w'/\w'.ownsRow 0 e u.n c (xs.length+n.length) (cs++Ba)/\w.grownBy w' (a.eval s).ownBlock/\(c.ownBlock=(a.eval s).ownBlock\/c.ownBlock=some w.heap.size):=by
     rw[qf];cases A with
     |none =>
      have qA:n.length=0:=by
       rcases aga n.length with h|h
       .exact h
       .obtain⟨b,xd,ql,_⟩:=qy h;cases ql
      have xe:Ba=[]:=XO (by rw[qk,qA,ajD]);subst xe;rw[qA];exact⟨_,w,aho y D bf cap,by simpa using bf,⟨rfl,rfl,rfl,bh _,fun _ _ _=>rfl⟩,.inl rfl⟩
     |some xf =>
      obtain⟨c,w',H,O,qj,_,xg⟩:=run_append_own_at (P:=P) w 0 t o.type e i p u.n i.bytes y D S qY rfl xb R (a.eval s) xs.length cs bf xf n.length cap Ba qk (fun xh xi qB=>by
       have xj:0<n.length:=by
        rcases aga n.length with h|h
        .have:=(oC.1 qB).1;rw[qk,h,ajD]at this;omega
        .exact h
       obtain⟨b,xd,ql,xk⟩:=qy xj;cases ql;rw[TK];exact xk xh xi qB) xc (by omega) qz qg
      exact⟨c,w',H,O,qj,xg⟩
    refine Jj (v:=c) (w':=w') (by rw[qq,H];rfl) ?_;rw[qm];have xm:∀q,RO G f q->RO G (f&&(g || flat u)) q:=fun q m=>m.Ji fun I=>by rw[aE]at I;exact I.1
    have xn:et w (RO G (f&&(g || flat u))) u Ba n:=by
     cases xp:flat u with
     |true=>exact aj1 xp qx|false=>exact kY (fun q m=>m.Ji fun I=>by simp at I;exact I.2) qx
    refine Ol B (a.eval s).ownBlock qi qe d ⟨e,u,xs++n,f&&(g || flat u),true⟩ rfl R c (cs++Ba) (by simpa using qh) ?_ (WG bf.1 (kY xm qd) xn) M qn;intro q m;rcases l with l|l
    .exact .inr (l▸m)
    .rw[l]at m;cases m;exact .inl (bh _)
   .cases j
 .cases j
def awq (h:Inv w0 G st a w){args:Array Operand}{ts:Array TypeId}(M:o.op=.call {callee:=.builtin .append,args:=args,argTypes:=ts}){s x:Operand}(O:args.toList=[s,x])
  {t:TypeId} (R:ts.toList=[t,t]) {e:TypeId} (q:EA P t=some e) {u:Ty} {z:CV} (S:sO P e=some z) {d:Tmp} {j:Nat} (T:a.eval s=.slice (some ⟨j,0,none⟩) 0 0)
  (c:Of P (nY.Lm N) st d (st.ac s) (st.ac x) t t e u z k=some r):∃v y,(execOp a.eval o).run P w=.ok (.value v) y/\Below w.heap.size w y:=by
 have W:args=#[s,x]:=by rw[<-wQ (xs:=args),O]
 have X:ts=#[t,t]:=by rw[<-wQ (xs:=ts),R]
 subst W X;have l:P.underlying t=some (.slice e):=by
  unfold EA at q;split at q
  .rename_i qy l;cases q;exact l
  .cases q
 obtain⟨i,Y,B,Z,rfl⟩:=hN S;obtain⟨E,qd⟩:=abv B;have qz:=h.ac s;have qe:=h.ac x;unfold Of at c;split at c
 .rename_i xs f qA Qi;have m:(execOp a.eval o).run P w=((Builtin.append_ #[t,t] o.type #[a.eval s,a.eval x]).run P w).andThen fun v y=>.ok (.value v) y:=by unfold execOp;rw[M];simp[resolve,invoke,builtin]
  split at c
  ·
   split at c
   .split at c
    .rename_i F;rw[l]at F;cases F
    .cases c
   .cases c
  .split at c
   .rename_i n g kC;obtain⟨H,_⟩:=aT c;simp only[aE]at H;obtain⟨⟨⟨⟨⟨⟨_,qf⟩,qB⟩,qC⟩,qg⟩,qh⟩,qi⟩:=H;have qj:i.size=u.n:=by rw[<-qd];exact aK qf
    have qk:0<u.n:=To (bu qg);have ql:0<i.bytes:=by rw[<-E];exact To (bu qh)
    have hlen:=s3 qi;rw[E]at hlen;have qm:(xs.length+n.length)*i.bytes<=140737488355328:=by
     have:(((xs.length+n.length)*i.bytes:Nat):Int)<=140737488355328:=by rw[Int.natCast_mul];exact hlen
     omega
    have I:n.length*i.bytes<=140737488355328:=aU (Bb _ (Nat.le_add_left _ _)) qm;have qD:n.length<=140737488355328:=aU (aqz _ ql) I;obtain⟨A,cap,qn,qE,Ba,qo,qF,qG,qp⟩:=abu h qk qe kC;rw[T,qn]at m;rcases aga n.length with C|C
    .rw[C]at m;cases A with
     |none =>
      have:(Builtin.append_ #[t,t] o.type #[.slice (some ⟨j,0,none⟩) 0 0,.slice none 0 cap]).run P w=.ok (.slice (some ⟨j,0,none⟩) 0 0) w:=by simp[Builtin.append_,run_underlying l,sizeOf,typeInfo,B,Builtin.lenOf,Builtin.firstCells,storeCells]
      exact⟨_,w,by rw[m,this];rfl,Below.refl _ w⟩
     |some L =>
      have qq:=run_firstCells_some (P:=P) w i.size 0 L 0 cap [] (by simp) (fun D v p=>by simp at p);have:(Builtin.append_ #[t,t] o.type #[.slice (some ⟨j,0,none⟩) 0 0,.slice (some L) 0 cap]).run P w=.ok (.slice (some ⟨j,0,none⟩) 0 0) w:=by simp[Builtin.append_,run_underlying l,sizeOf,typeInfo,B,Builtin.lenOf,qq,storeCells]
      exact⟨_,w,by rw[m,this];rfl,Below.refl _ w⟩
    .obtain⟨b,qt,rfl,qu⟩:=qp C;have qH:maxLen=9223372036854775807:=rfl;have qv:=run_append_grow (P:=P) w t o.type e i Y l B Z ⟨j,0,none⟩ 0 0 [] (by simp) (fun D v p=>by simp at p) ⟨b,qt,none⟩ n.length cap Ba (by rw[qj];exact qo) (fun D qw p=>by rw[TK];exact qu D qw p) (by omega) (by omega) (growslice_fits (by omega) (by simpa using I))
     rw[qv]at m;exact⟨_,_,m,⟨rfl,rfl,rfl,by simp,fun k qx=>heap_alloc_old w.drew _ qx⟩⟩
   .cases c
 .cases c
end
end Go.Am
