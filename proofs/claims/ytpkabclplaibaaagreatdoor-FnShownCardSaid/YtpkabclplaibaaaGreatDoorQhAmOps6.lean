/- No condition. -/
import Derived.Test.YtpkabclplaibaaaGreatDoorQhAmOps5
import Derived.Lib.AppendStr
set_option linter.all false
namespace Go.Am
open Go.RowKit
variable [ds]
section
variable {N:Nat} {P:Program} {w0:di} {w:World} {G:Gh} {st:St} {a:Act} {U:Type} {k:St->Option U} {r:U} {K:Act->World->Prop} {Q:Exit->Act->World->Prop} {o:Oper}
def Inv.aeo {w':World}(h:Inv w0 G st a w)(d:Option Nat)(j:w.grownBy w' d)
  (m:∀g,d=some g->∃id,G.own g=some (.bl id)/\look st.bl id=some none)
  (q:List (Nat×Option dD)) (l:Nat->Value) (nw:Nat->Option Nat)
  (n:∀g id,nw g=some id->(w.heap.size<=g\/d=some g)):LB G w (G.grow d q l nw) w':=by
 have key:∀b x,b<w.heap.size->G.own b=x->(∀id,x≠some (.bl id))->(G.grow d q l nw).own b=x/\w'.heap[b]?=w.heap[b]?:=by
  intro b x f c p;have i:d≠some b:=by intro e;obtain⟨id,s,_⟩:=m b e;exact p id (c.symm.trans s)
  refine⟨?_,j.block b f (fun e=>i e.symm)⟩;unfold Gh.grow;dsimp only;cases Rz:nw b with
  |none=>simp[i,c]
  |some id =>
   rcases n b id Rz with h4|h4
   .omega
   .exact absurd h4 i
 exact⟨rfl,rfl,j.size,fun b f c=>key b _ f c (by simp),fun b f c=>key b _ f c (by simp)⟩
def Fh {w':World}(h:Inv w0 G st a w)(j:Option Nat)(y:w.grownBy w' j)(z:∀g,j=some g->∃id,G.own g=some (.bl id)/\look st.bl id=some none)
  (d:Tmp) (b:dD) (E:b.w=true) (F:0<b.t.n) (c:Value) (cs:List Value) (p:w'.ownsRow 0 b.e b.t.n c b.xs.length cs)
  (hz:∀g,c.ownBlock=some g->w.heap.size<=g\/j=some g) (H:dx w (RO G b.f) b.t cs b.xs)
  (e:st.row d b k=some r) (I:l4 w0 k r K):K (a.put (some d) c) w':=by
 unfold St.row at e;cases q:look st.bl (d*64) with
 |some x=>rw[q]at e;cases e
 |none =>
  rw[q]at e;obtain⟨L,e⟩:=aG e;have B:∀id,(look [(d*64,some b)] id).isSome=true->id=d*64:=by
   intro id i;rw[ai]at i;by_cases l:d*64=id
   .exact l.symm
   .simp[l,look]at i
  have M:=h.aeo j y z [(d*64,some b)] (fun _=>c) (fun g=>if c.ownBlock=some g then some (d*64) else none) (by
   intro g id f;split at f
   .exact hz g ‹_›
   .cases f)
  obtain⟨hinv,_,i⟩:=h.grow j y z [(d*64,some b)] (fun _=>c) (fun g=>if c.ownBlock=some g then some (d*64) else none)
   (fun id i=>by rw[B id i];exact q)
   (fun g id f=>by
    split at f
    .rename_i m;cases f;refine⟨by simp[ai],m,?_,hz g m⟩;rcases p.2 with ⟨rfl,_⟩|⟨C,cap,cur,rfl,_,O,_⟩
     .simp[Value.ownBlock]at m
     .have:C=g:=by simpa [Value.ownBlock]using m
      subst this;exact(nj.1 O).1
    .cases f)
   (fun id T s=>by
    have l:=B id (by rw[s];rfl);subst l;simp[ai]at s;subst s;refine⟨fun _=>⟨cs,?_,?_,H.mono M⟩,(fun D=>by rw[E]at D;exact Bool.noConfusion D),F⟩
    .simpa [Gh.grow,ai]using p
    .intro g t;have t:c.ownBlock=some g:=by simpa [Gh.grow,ai]using t
     simp[Gh.grow,t])
  have R:∃A n cap,c=.slice A n cap:=by
   rcases p.2 with ⟨rfl,_⟩|⟨C,cap,cur,rfl,_⟩
   .exact⟨_,_,_,rfl⟩
   .exact⟨_,_,_,rfl⟩
  have S:=hinv.put d (ef L) (v:=.v (.c (.own (d*64) none))) (u:=c) (by
   refine⟨by simp[cK,ai],?_,?_⟩
   .simpa [Gh.grow,ai]using R
   .simp[Gh.grow,ai])
  exact I _ _ _ _ S e
def To {ok:Nat->Prop}{e:TypeId}{t:Ty}(s:0<t.n){ys:List t.D}{A:Option Addr}{m R:Nat}(h:Rd w ok (.sl e t) ys [.slice A m R]) :
  m=ys.length/\m<=9223372036854775807/\∃tr:List Value,tr.length=m*t.n/\dx w ok t tr ys/\(∀u∈tr,u.oneCell'=true)/\(0<m->∃b o,A=some ⟨b,o,none⟩/\cA w b o tr):=by
 obtain⟨S,T,n,W,D,E⟩:=h;have n:=(we n).1;injection n with F H I
 subst F H I;refine⟨rfl,D,?_⟩;rcases Tc ys.length with v|v
 .refine⟨[],by simp[v],fun l x f=>?_,by simp,fun h=>by omega⟩;have:=(lu.1 f).1;omega
 .obtain⟨b,o,L,_,_,_,y⟩:=E (.inl (by omega));have z:∀q,q<ys.length*t.n->∃u,w.cell? ⟨b,o+q,none⟩=some u/\u.oneCell'=true:=by
   intro q g;have f:q/t.n<ys.length:=by rw[agK s];exact g
   obtain⟨c,j,p⟩:=y (q/t.n) _ (tW f t.aI);have B:q%t.n<c.length:=by rw[j.len];exact Ry _ s
   have d:=kK B;refine⟨_,?_,j.one _ (dH B)⟩;have:=p (q%t.n) _ d;have e:q/t.n*t.n+q%t.n=q:=Nat.div_add_mod' q t.n
   rwa [e]at this
  refine⟨(List.range (ys.length*t.n)).map fun q=>(w.cell? ⟨b,o+q,none⟩).getD undef,by simp,fun l x f=>?_,fun u d=>?_,fun _=>⟨b,o,L,fun q u d=>?_⟩⟩
  .obtain⟨c,j,p⟩:=y l x f;refine⟨c,j,fun i u d=>?_⟩;have X:=(lu.1 f).1;have M:=(lu.1 d).1;rw[j.len]at M;have:l*t.n+i<ys.length*t.n:=by have:(l+1)*t.n<=ys.length*t.n:=tt _ (by omega);rw[By,MA]at this;omega
   simp[this,p i u d]
  .simp only[Bx,gd]at d;obtain⟨q,g,rfl⟩:=d;obtain⟨u,d,O⟩:=z q g;rw[d];exact O
  .have g:q<ys.length*t.n:=by have:=(lu.1 d).1;simpa using this
   obtain⟨Y,C,_⟩:=z q g;simp[g,C]at d;rw[C,<-d]
def ic {ok b:Nat->Prop}(h:∀g,ok g->b g){t:Ty}{cs:List Value}{xs:List t.D}(d:dx w ok t cs xs):dx w b t cs xs:=by intro e x f;obtain⟨c,i,j⟩:=d e x f;exact⟨c,eL h i,j⟩
def VF {ok e:Nat->Prop}:∀{t:Ty} {x:t.D} {cs:List Value},flat t=true->Rd w ok t x cs->Rd w e t x cs
 |.int _,_,_,_,h=>h|.bool,_,_,_,h=>h|.str,_,_,_,h=>h|.unit,_,_,_,h=>h|.pair a b,_,_,c,h=>by obtain⟨f,g,rfl,i,j⟩:=h;have d:(flat a&&flat b)=true:=c;rw[az]at d;exact⟨f,g,rfl,VF d.1 i,VF d.2 j⟩
 |.sl _ _,_,_,c,_=>by cases c
def Wx {ok b:Nat->Prop}{t:Ty}(d:flat t=true){cs:List Value}{xs:List t.D}(e:dx w ok t cs xs):dx w b t cs xs:=by intro f x g;obtain⟨c,h,i⟩:=e f x g;exact⟨c,VF d h,i⟩
def RC {ok:Nat->Prop}{t u:Ty}(h:t=u){xs:List t.D}{cs:List Value}(b:dx w ok t cs xs):dx w ok u cs (Jc h xs):=by subst h;exact b
def Bl {t u:Ty}(h:t=u){xs:List t.D}:(Jc h xs).length=xs.length:=by subst h;rfl
def RD {ok b:Nat->Prop}{t:Ty}(h:flat t=false->∀g,ok g->b g){cs:List Value}{xs:List t.D}(d:dx w ok t cs xs):dx w b t cs xs:=by
 cases e:flat t with
 |true =>
  intro f x i;obtain⟨c,j,l⟩:=d f x i;exact⟨c,VF e j,l⟩
 |false=>exact ic (h e) d
def aaQ {id:Nat}{b:dD}(f:wh G w id b){A:Option Addr}{n M:Nat}(i:G.hv id=.slice A n M) :
  n=b.xs.length/\n<=9223372036854775807/\∃tr:List Value,tr.length=n*b.t.n/\dx w (RO G b.f) b.t tr b.xs/\(∀u∈tr,u.oneCell'=true)/\(0<n->∃b o,A=some ⟨b,o,none⟩/\cA w b o tr):=by
 cases p:b.w with
 |false =>
  have:=f.rd p;rw[i]at this;exact To f.pos this
 |true =>
  obtain⟨cs,C,_,j⟩:=f.wr p;obtain⟨l,D⟩:=C;have s:∀u∈cs,u.oneCell'=true:=by
   intro u d;obtain⟨q,t,rfl⟩:=agL.1 d;have v:=f.pos;have E:q/b.t.n<b.xs.length:=by rw[agK v,<-l];exact t
   obtain⟨c,x,F⟩:=j (q/b.t.n) _ (tW E b.t.aI);have y:q%b.t.n<c.length:=by rw[x.len];exact Ry _ v
   have:=F (q%b.t.n) _ (kK y);rw[Nat.div_add_mod' q b.t.n,kK t]at this;rw[dI this];exact x.one _ (dH y)
  rcases D with ⟨e,z⟩|⟨g,O,cur,e,_,H,R,S,T,I⟩
  .rw[i]at e;injection e with B m L
   subst m;refine⟨z.symm,by omega,cs,by rw[l,z],j,s,fun h=>by omega⟩
  .rw[i]at e;injection e with B m L
   subst m;have:maxLen=9223372036854775807:=rfl;refine⟨rfl,by omega,cs,l,j,s,fun _=>⟨g,0,B,fun q u d=>?_⟩⟩;rw[pF,cell_of_row w g q cur b.e (0,0) H];rw[<-I,C1]at d;split at d
   .simpa using d
   .cases d
def Wy {ok:Nat->Prop}{t:Ty}{cs:List Value}{xs:List t.D}(g:dx w ok t cs xs)(m:Nat):dx w ok t (cs.take (m*t.n)) (xs.take m):=by
 intro d x b;rw[C1]at b;split at b
 .rename_i h;obtain⟨c,e,j⟩:=g d x b;refine⟨c,e,fun i u f=>?_⟩;have l:=(lu.1 f).1;rw[e.len]at l;have:(d+1)*t.n<=m*t.n:=tt _ h;rw[By,MA]at this;rw[C1,aj (by omega)];exact j i u f
 .cases b
def PC (h:Inv w0 G st a w){e:TypeId}{u:Ty}(M:0<u.n){x:AC}{v:Value}(C:a7 G w st.bx st.bl x v){ys:List u.D}{g:Bool}(d:LA st e u x=some (ys,g)) :
  ∃A cap,v=.slice A ys.length cap/\ys.length<=9223372036854775807/\∃tr:List Value,tr.length=ys.length*u.n/\dx w (RO G g) u tr ys/\(∀z∈tr,z.oneCell'=true)/\(0<ys.length->∃b o,A=some ⟨b,o,none⟩/\cA w b o tr):=by
 cases x with
 |nil =>
  simp only[LA]at d;cases d;exact⟨none,0,C,by simp,[],by simp,fun qe x O=>by simp at O,by simp,fun h=>by simp at h⟩
 |ro f F t R =>
  simp only[LA]at d;split at d
  .rename_i S j;cases d;have D:=gi (ok:=RO G g) h (c:=.ro g F t R) C j (fun _ _ _ l=>by cases l) (fun qf F qg qh l=>by cases l;exact fun _ h=>h);obtain⟨A,cap,i,_⟩:=id D;have i:=(we i).1;rw[i]at D;obtain⟨_,E,tr,p,q,s,y⟩:=To M D;exact⟨A,cap,i,E,tr,p,q,s,y⟩
  .cases d
 |own id len =>
  simp only[LA]at d;split at d
  .rename_i S b j H;cases d;simp only[bU,H]at j;split at j
   .rename_i T;cases aA T;split at j
    .rename_i W;cases j;have X:=cV H;have I:=h.bl id b X;have B:=Ty.beq_eq W;cases len with
     |none =>
      obtain⟨_,⟨A,n,cap,i⟩,Y⟩:=C;obtain⟨d,E,tr,p,q,s,y⟩:=aaQ I i;refine⟨A,cap,?_,?_,tr,?_,RC B q,s,?_⟩
      .rw[Y,i];simp[Bz,Bl,d]
      .simp[Bz,Bl];omega
      .simp[Bz,Bl,<-B,p,d]
      .intro L;simp[Bz,Bl]at L;exact y (by omega)
     |some m =>
      obtain⟨_,L,A,n,cap,i,qi,rfl⟩:=C;obtain⟨d,E,tr,p,q,s,y⟩:=aaQ I i;have hlen:(Bz (Jc B b.xs) (some m)).length=m.toNat:=by simp[Bz,Bl];omega
      rw[hlen];refine⟨A,cap,rfl,by omega,tr.take (m.toNat*u.n),?_,?_,fun z Z=>s z (Bw Z),fun qj=>?_⟩
      .rw[bQ,p,<-B];have:m.toNat*b.t.n<=n*b.t.n:=tt _ (by omega);omega
      .exact Wy (RC B q) m.toNat
      .obtain⟨qa,qb,qd,l⟩:=y (by omega);exact⟨qa,qb,qd,l.take⟩
    .cases j
   .cases j
  .cases d
 |_=>simp[LA]at d
def Uf {h:Nat}{t j e:TypeId}{i:TypeInfo}{l:Nat}(b:P.underlying t=some (.slice e))(d:P.info? e=some i){v:Value}{n:Nat}{xs:List Value}(aS:w.ownsRow h e l v n xs)(c:Nat) :
  (Builtin.append_ #[t,t] j #[v,.slice none 0 c]).run P w=.ok v w:=by
 rcases aS.2 with ⟨rfl,rfl⟩|⟨g,cap,cur,rfl,_,m,f,_⟩
 .simp[Builtin.append_,run_underlying b,sizeOf,typeInfo,d,Builtin.lenOf,Builtin.firstCells]
 .simp[Builtin.append_,run_underlying b,sizeOf,typeInfo,d,Builtin.lenOf,Builtin.firstCells,f,storeCells]
def GP (h:Inv w0 G st a w){e:TypeId}{u:Ty}{s:AC}{v:Value}(j:a7 G w st.bx st.bl s v){xs:List u.D}{f:Bool}{d:St}(c:Jd st e u s=some (xs,f,d))(F:0<u.n) :
  Inv w0 G d a w/\d.nt=st.nt/\d.bx=st.bx/\(∃cs,w.ownsRow 0 e u.n v xs.length cs/\dx w (RO G f) u cs xs)/\(∀g,v.ownBlock=some g->∃id,G.own g=some (.bl id)/\look d.bl id=some none):=by
 cases s with
 |nil =>
  simp only[Jd]at c;cases c;rw[show v=_ from j];exact⟨h,rfl,rfl,⟨[],World.ownsRow_nil w _ _ _,fun H x t=>by simp at t⟩,fun g i=>by simp[Value.ownBlock]at i⟩
 |own id len =>
  cases len with
  |some l=>simp[Jd]at c
  |none =>
   simp only[Jd]at c;cases m:st.kA id with
   |none=>rw[m]at c;cases c
   |some b =>
    rw[m]at c;dsimp only at c;split at c
    .rename_i n;rw[az]at n;split at c
     .rename_i y;cases c;have p:=cV m;have z:=h.bl id b p;obtain⟨cs,A,B,C⟩:=z.wr n.1;obtain⟨D,_⟩:=h.kill id (by rw[p];rfl);have q:=Ty.beq_eq y;have E:=aA n.2;refine⟨D,rfl,rfl,⟨cs,?_,RC q C⟩,fun g i=>⟨id,?_,by simp[ai]⟩⟩
      .rw[j.2.2,Bl,<-E,<-q];exact A
      .rw[j.2.2]at i;exact B g i
     .cases c
    .cases c
 |_=>simp[Jd]at c
def LD {ok:Nat->Prop}{t:Ty}{cs j:List Value}{xs ys:List t.D}(l:cs.length=xs.length*t.n)(m:dx w ok t cs xs)(n:dx w ok t j ys):dx w ok t (cs++j) (xs++ys):=by
 intro b x d;rw[abS]at d;split at d
 .rename_i hlt;obtain⟨c,h,f⟩:=m b x d;refine⟨c,h,fun i u g=>?_⟩;have:=f i u g;have p:=(lu.1 this).1;rw[abS,aj p];exact this
 .rename_i q;obtain⟨c,h,f⟩:=n _ x d;refine⟨c,h,fun i u g=>?_⟩;have:=f i u g;have:xs.length*t.n<=b*t.n:=tt _ (by omega);rw[abS,ag (by omega),l];have e:b*t.n+i-xs.length*t.n=(b-xs.length)*t.n+i:=by rw[Nat.sub_mul];omega
  rw[e];exact f i u g
def PD {e:TypeId}{i:TypeInfo}(h:P.info? e=some i):P.bytesOf e=i.bytes/\P.cellsOf e=i.size:=by simp[Program.bytesOf,Program.cellsOf,h]
def ly (s:ByteArray):(bytesOf s).length=s.size:=by rw[bytesOf,fB,Array.length_toList];rfl
def akc {ok:Nat->Prop}(s:ByteArray):dx w ok (.int .u8) (Lib.strCells s) (bytesOf s):=by
 intro f x c;refine⟨[.int .u8 x],rfl,fun i u e=>?_⟩;cases i with
 |succ i=>simp at e
 |zero =>
  cases e;simp only[bytesOf,List.getElem?_map]at c;cases d:s.data.toList[f]? with
  |none=>rw[d]at c;cases c
  |some b =>
   rw[d]at c;cases c;simp[Lib.strCells,Ty.n,d]
def ZQ {F:Nat}{t c f e:TypeId}{i:TypeInfo}(h:P.underlying t=some (.slice e))(j:P.underlying c=some .string)(l:P.info? e=some i)(x:i.zero=some (.int .u8 0))(m:i.size=1)(y:i.bytes=1)
  {v:Value} {n:Nat} {cs:List Value} (aS:w.ownsRow F e 1 v n cs) {s:ByteArray} (H:n+s.size<=140737488355328) {p:Value} {w':World} (b:(Builtin.append_ #[t,c] f #[v,.string s]).run P w=.ok p w') :
  p.ownBlock=v.ownBlock\/p.ownBlock=some w.heap.size:=by
 rcases aS.2 with ⟨rfl,rfl⟩|⟨g,cap,cur,rfl,_,B,I,q,C,L⟩
 .by_cases q:s.size=0
  .have z:=Lib.run_firstCells_string (P:=P) w 1 s;rw[q]at z;have:(Builtin.append_ #[t,c] f #[.slice none 0 0,.string s]).run P w=.ok (.slice none 0 0) w:=by simp[Builtin.append_,run_underlying h,run_underlying j,sizeOf,typeInfo,l,m,Builtin.lenOf,q,z]
   rw[this]at b;cases b;exact .inl rfl
  .have d:=run_append_nil_string (P:=P) w t c f e i (.int .u8 0) h j l x s (by omega) (by omega) (by rw[y];omega);rw[d]at b;cases b;exact .inr rfl
 .by_cases D:n+s.size<=cap
  .have M:cur.size=cap:=by simpa using C
   have d:=Lib.run_append_room_string (P:=P) w t c f e i h j l m g n cap cur B s D (by omega);rw[d]at b;cases b;exact .inl rfl
  .have E:cs.length=n:=by simpa using aS.1
   have holds:∀A u,cs[A]?=some u->w.cell? ((⟨g,0,none⟩:Addr).add A)=some u:=aS.cells (g:=g) rfl;have d:=Lib.run_append_grow_string (P:=P) w t c f e i (.int .u8 0) h j l x ⟨g,0,none⟩ n cap cs (by rw[m];simpa using E) holds s (by omega) (by omega) (by rw[y];exact growslice_fits (by omega) (by omega));rw[d]at b;cases b;exact .inr rfl
def aco (h:Inv w0 G st a w){args:Array Operand}{ts:Array TypeId}(qA:o.op=.call {callee:=.builtin .append,args:=args,argTypes:=ts}){d:Tmp}(qk:o.dst=some d){s x:Operand}(qB:args.toList=[s,x])
  {t C:TypeId} (qC:ts.toList=[t,C]) {e:TypeId} (L:wg P t=some e) {u:Ty} {z:CV} (qD:nq P e=some z)
  (j:Fa P (kk.CX N) st d (st.ac s) (st.ac x) t C e u z k=some r) (ql:l4 w0 k r K):o.wp P a w K Q:=by
 have qE:args=#[s,x]:=by rw[<-qU (xs:=args),qB]
 have qF:ts=#[t,C]:=by rw[<-qU (xs:=ts),qC]
 subst qE qF;have y:P.underlying t=some (.slice e):=by
  unfold wg at L;split at L
  .rename_i xn y;cases L;exact y
  .cases L
 obtain⟨i,p,D,S,rfl⟩:=fp qD;obtain⟨T,qm⟩:=PD D;have qn:=h.ac s;have W:=h.ac x;unfold Fa at j;split at j
 .rename_i xs f xo GJ;have qo:(execOp a.eval o).run P w=((Builtin.append_ #[t,C] o.type #[a.eval s,a.eval x]).run P w).andThen fun v w'=>.ok (.value v) w':=by unfold execOp;rw[qA];simp[resolve,invoke,builtin]
  split at j
  ·
   rename_i str qG;split at j
   .rename_i qp;have qH:=Ty.beq_eq qp;subst qH;split at j
    .rename_i qq;obtain⟨E,M⟩:=aG j;simp only[az]at E;obtain⟨⟨⟨X,Y⟩,F⟩,Z⟩:=E;have qt:i.bytes=1:=by rw[<-T];exact aA Y
     have qu:i.size=1:=by rw[<-qm];exact aA X
     have qI:p=.int .u8 0:=by
      have B:da G w st.bx st.bl (C3 p) p:=lx p;unfold aiJ at F;split at F
      .rename_i qK;rw[qK]at B;exact B
      .cases F
     subst qI;obtain⟨B,qL,qM,⟨cs,aS,qa⟩,qb⟩:=GP h qn GJ (by simp[Ty.n]);rw[qG]at W;have qd:a.eval x=.string str:=W;have hlen:=wb Z;have qe:0<=w.heap.size:=a1 _;obtain⟨c,w',H,qf,qg,l⟩:∃c w',(Builtin.append_ #[t,C] o.type #[a.eval s,a.eval x]).run P w=.ok c w'/\w'.ownsRow 0 e 1 c (xs.length+str.size) (cs++Lib.strCells str)/\w.grownBy w' (a.eval s).ownBlock/\(c.ownBlock=(a.eval s).ownBlock\/c.ownBlock=some w.heap.size):=by rw[qd];have qN:maxLen=9223372036854775807:=rfl;obtain⟨c,w',O,qh,qO,_⟩:=Lib.run_append_own_string (P:=P) w 0 t C o.type e i y qq D S qu qt (a.eval s) xs.length cs (by simpa [Ty.n]using aS) str (by omega) (by omega) qe;refine⟨c,w',O,qh,qO,?_⟩;exact ZQ y qq D S qu qt (by simpa [Ty.n]using aS) (by omega) O
     refine BE (v:=c) (w':=w') (by rw[qo,H];rfl) ?_;rw[qk];have qP:Jc (Ty.beq_eq qp) xs=xs:=rfl;rw[qP]at M;refine Fh B (a.eval s).ownBlock qg qb d ⟨e,.int .u8,xs++bytesOf str,f,true⟩ rfl (by simp[Ty.n]) c (cs++Lib.strCells str) (by simpa [Ty.n,ly]using qf) ?_ (LD (by simpa [Ty.n]using aS.1) qa (akc str)) M ql;intro q m;rcases l with l|l
     .exact .inr (l▸m)
     .rw[l]at m;cases m;exact .inl (bq _)
    .cases j
   .cases j
  .split at j
   .rename_i n g hz;obtain⟨E,M⟩:=aG j;simp only[az]at E;obtain⟨⟨⟨⟨⟨⟨X,Y⟩,F⟩,Z⟩,qQ⟩,qR⟩,qS⟩:=E;have qT:=aA X;subst qT;have qW:i.size=u.n:=by rw[<-qm];exact aA Y
    have R:0<u.n:=I7 (ba qQ);have qX:0<i.bytes:=by rw[<-T];exact I7 (ba qR)
    have hlen:=wb qS;rw[T]at hlen;have qY:=((lx (G:=G) (w:=w) (bx:=st.bx) (bl:=st.bl) p).cells Z).len;have qZ:p.cells.size=u.n:=by have:=aA F;simp at qY;omega
    obtain⟨B,qL,qM,⟨cs,aS,qa⟩,qb⟩:=GP h qn GJ R;obtain⟨A,cap,qd,xp,tr,qi,qv,xa,qw⟩:=PC h R W hz;have qe:0<=w.heap.size:=a1 _;have qx:(xs.length+n.length)*i.bytes<=140737488355328:=by
     have:(((xs.length+n.length)*i.bytes:Nat):Int)<=140737488355328:=by rw[Int.natCast_mul];exact hlen
     omega
    have xq:xs.length+n.length<=140737488355328:=aL (aiF _ qX) qx;have qN:maxLen=9223372036854775807:=rfl;obtain⟨c,w',H,qf,qg,l⟩:∃c w',(Builtin.append_ #[t,t] o.type #[a.eval s,a.eval x]).run P w=.ok c w'/\w'.ownsRow 0 e u.n c (xs.length+n.length) (cs++tr)/\w.grownBy w' (a.eval s).ownBlock/\(c.ownBlock=(a.eval s).ownBlock\/c.ownBlock=some w.heap.size):=by
     rw[qd];cases A with
     |none =>
      have qy:n.length=0:=by
       rcases Tc n.length with h|h
       .exact h
       .obtain⟨b,xb,qj,_⟩:=qw h;cases qj
      have xc:tr=[]:=Pn (by rw[qi,qy,V7]);subst xc;rw[qy];exact⟨_,w,Uf y D aS cap,by simpa using aS,⟨rfl,rfl,rfl,bq _,fun _ _ _=>rfl⟩,.inl rfl⟩
     |some xd =>
      obtain⟨c,w',H,O,qh,_,xe⟩:=run_append_own_at (P:=P) w 0 t o.type e i p u.n i.bytes y D S qW rfl qZ R (a.eval s) xs.length cs aS xd n.length cap tr qi (fun xf xg qz=>by
       have xh:0<n.length:=by
        rcases Tc n.length with h|h
        .have:=(lu.1 qz).1;rw[qi,h,V7]at this;omega
        .exact h
       obtain⟨b,xb,qj,xi⟩:=qw xh;cases qj;rw[Jm];exact xi xf xg qz) xa (by omega) qx qe
      exact⟨c,w',H,O,qh,xe⟩
    refine BE (v:=c) (w':=w') (by rw[qo,H];rfl) ?_;rw[qk];have xj:∀q,RO G f q->RO G (f&&(g || flat u)) q:=fun q m=>m.BD fun I=>by rw[az]at I;exact I.1
    have xk:dx w (RO G (f&&(g || flat u))) u tr n:=by
     cases xm:flat u with
     |true=>exact Wx xm qv|false=>exact ic (fun q m=>m.BD fun I=>by simp at I;exact I.2) qv
    refine Fh B (a.eval s).ownBlock qg qb d ⟨e,u,xs++n,f&&(g || flat u),true⟩ rfl R c (cs++tr) (by simpa using qf) ?_ (LD aS.1 (ic xj qa) xk) M ql;intro q m;rcases l with l|l
    .exact .inr (l▸m)
    .rw[l]at m;cases m;exact .inl (bq _)
   .cases j
 .cases j
def ag3 (h:Inv w0 G st a w){args:Array Operand}{ts:Array TypeId}(M:o.op=.call {callee:=.builtin .append,args:=args,argTypes:=ts}){s x:Operand}(O:args.toList=[s,x])
  {t:TypeId} (R:ts.toList=[t,t]) {e:TypeId} (q:wg P t=some e) {u:Ty} {z:CV} (S:nq P e=some z) {d:Tmp} {j:Nat} (T:a.eval s=.slice (some ⟨j,0,none⟩) 0 0)
  (c:Fa P (kk.CX N) st d (st.ac s) (st.ac x) t t e u z k=some r):∃v y,(execOp a.eval o).run P w=.ok (.value v) y/\Below w.heap.size w y:=by
 have W:args=#[s,x]:=by rw[<-qU (xs:=args),O]
 have X:ts=#[t,t]:=by rw[<-qU (xs:=ts),R]
 subst W X;have l:P.underlying t=some (.slice e):=by
  unfold wg at q;split at q
  .rename_i qw l;cases q;exact l
  .cases q
 obtain⟨i,Y,B,Z,rfl⟩:=fp S;obtain⟨E,qa⟩:=PD B;have qx:=h.ac s;have qb:=h.ac x;unfold Fa at c;split at c
 .rename_i xs f qy GJ;have m:(execOp a.eval o).run P w=((Builtin.append_ #[t,t] o.type #[a.eval s,a.eval x]).run P w).andThen fun v y=>.ok (.value v) y:=by unfold execOp;rw[M];simp[resolve,invoke,builtin]
  split at c
  ·
   split at c
   .split at c
    .rename_i F;rw[l]at F;cases F
    .cases c
   .cases c
  .split at c
   .rename_i n g hz;obtain⟨H,_⟩:=aG c;simp only[az]at H;obtain⟨⟨⟨⟨⟨⟨_,qd⟩,qz⟩,qA⟩,qe⟩,qf⟩,qg⟩:=H;have qh:i.size=u.n:=by rw[<-qa];exact aA qd
    have qi:0<u.n:=I7 (ba qe);have qj:0<i.bytes:=by rw[<-E];exact I7 (ba qf)
    have hlen:=wb qg;rw[E]at hlen;have qk:(xs.length+n.length)*i.bytes<=140737488355328:=by
     have:(((xs.length+n.length)*i.bytes:Nat):Int)<=140737488355328:=by rw[Int.natCast_mul];exact hlen
     omega
    have I:n.length*i.bytes<=140737488355328:=aL (tt _ (Nat.le_add_left _ _)) qk;have qB:n.length<=140737488355328:=aL (aiF _ qj) I;obtain⟨A,cap,ql,qC,tr,qm,qD,qE,qn⟩:=PC h qi qb hz;rw[T,ql]at m;rcases Tc n.length with C|C
    .rw[C]at m;cases A with
     |none =>
      have:(Builtin.append_ #[t,t] o.type #[.slice (some ⟨j,0,none⟩) 0 0,.slice none 0 cap]).run P w=.ok (.slice (some ⟨j,0,none⟩) 0 0) w:=by simp[Builtin.append_,run_underlying l,sizeOf,typeInfo,B,Builtin.lenOf,Builtin.firstCells,storeCells]
      exact⟨_,w,by rw[m,this];rfl,Below.refl _ w⟩
     |some L =>
      have qo:=run_firstCells_some (P:=P) w i.size 0 L 0 cap [] (by simp) (fun D v p=>by simp at p);have:(Builtin.append_ #[t,t] o.type #[.slice (some ⟨j,0,none⟩) 0 0,.slice (some L) 0 cap]).run P w=.ok (.slice (some ⟨j,0,none⟩) 0 0) w:=by simp[Builtin.append_,run_underlying l,sizeOf,typeInfo,B,Builtin.lenOf,qo,storeCells]
      exact⟨_,w,by rw[m,this];rfl,Below.refl _ w⟩
    .obtain⟨b,qp,rfl,qq⟩:=qn C;have qF:maxLen=9223372036854775807:=rfl;have qt:=run_append_grow (P:=P) w t o.type e i Y l B Z ⟨j,0,none⟩ 0 0 [] (by simp) (fun D v p=>by simp at p) ⟨b,qp,none⟩ n.length cap tr (by rw[qh];exact qm) (fun D qu p=>by rw[Jm];exact qq D qu p) (by omega) (by omega) (growslice_fits (by omega) (by simpa using I))
     rw[qt]at m;exact⟨_,_,m,⟨rfl,rfl,rfl,by simp,fun k qv=>heap_alloc_old w.drew _ qv⟩⟩
   .cases c
 .cases c
end
end Go.Am
