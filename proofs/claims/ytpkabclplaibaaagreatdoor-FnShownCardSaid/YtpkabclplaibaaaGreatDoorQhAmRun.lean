/- No condition. -/
import Derived.Test.YtpkabclplaibaaaGreatDoorQhAmTwo
set_option linter.all false
namespace Go.Am
open Go.RowKit
variable [ds]
def ahc {y:Bool}(h:(!y)=true):y=false:=by cases y<;>simp at h ⊢
def alN {x y:Bool}(h:(x || !y)=true):x=true\/y=false:=by cases x<;>cases y<;>simp at h ⊢
section
variable {N:Nat} {P:Program} {w0:di} {w:World} {G:Gh} {st:St} {a:Act} {U:Type} {k:St->Option U} {r:U} {K:Act->World->Prop} {Q:Exit->Act->World->Prop} {o:Oper}
def GQ (h:Inv w0 G st a w)(w1:World)(e:Bool)(d:IntKind):∀(l:List Operand) (x y:Int),NW e st x l=some y ->
  ((l.map a.eval).foldlM (if e then Builtin.max2 else Builtin.min2) (.int d x)).run P w1=.ok (.int d y) w1
 |[],x,y,c=>by cases c;rfl
 |o::l,x,y,c=>by
  simp only[NW]at c;split at c
  .rename_i f b g;have i:a.eval o=.int f b:=by have:=h.ac o;rw[g]at this;exact this
   rw[kL,List.foldlM_cons,i];cases e with
   |true =>
    have:=GQ h w1 true d l _ y c;simp only[eJ]at this ⊢;rw[Sem.run_bind];exact this
   |false =>
    have:=GQ h w1 false d l _ y c;simp only[aaJ,eo]at this ⊢;rw[Sem.run_bind];exact this
  .cases c
def WG (h:Inv w0 G st a w){args:Array Operand}{ts:Array TypeId}(d:o.op=.call {callee:=.builtin .max,args:=args,argTypes:=ts}){x:Operand}{l:List Operand}(e:args.toList=x::l)
  {b:IntKind} {n y:Int} (f:st.ac x=.int b n) (g:NW true st n l=some y) (i:st.pk o.dst (.v (.c (.int b y))) k=some r):a8 P w0 w a o k r:=by
 have j:args=(x::l).toArray:=by rw[<-qU (xs:=args),e]
 subst j;have m:a.eval x=.int b n:=by have:=h.ac x;rw[f]at this;exact this
 refine cJ (u:=.int b y) h (v:=.v (.c (.int b y))) rfl i fun p q=>?_
 have c:=GQ (P:=P) h p true b l n y g;simp only[eJ]at c;unfold execOp;rw[d];simp only[resolve,Sem.run_bind,Sem.run_pure,Result.andThen_ok,invoke,builtin,Builtin.max_,List.map_toArray,kL,m];rw[c];rfl
def WH (h:Inv w0 G st a w){args:Array Operand}{ts:Array TypeId}(d:o.op=.call {callee:=.builtin .min,args:=args,argTypes:=ts}){x:Operand}{l:List Operand}(e:args.toList=x::l)
  {b:IntKind} {n y:Int} (f:st.ac x=.int b n) (g:NW false st n l=some y) (i:st.pk o.dst (.v (.c (.int b y))) k=some r):a8 P w0 w a o k r:=by
 have j:args=(x::l).toArray:=by rw[<-qU (xs:=args),e]
 subst j;have m:a.eval x=.int b n:=by have:=h.ac x;rw[f]at this;exact this
 refine cJ (u:=.int b y) h (v:=.v (.c (.int b y))) rfl i fun p q=>?_
 have c:=GQ (P:=P) h p false b l n y g;simp only[aaJ,eo]at c;unfold execOp;rw[d];simp only[resolve,Sem.run_bind,Sem.run_pure,Result.andThen_ok,invoke,builtin,Builtin.min_,List.map_toArray,kL,m];rw[c];rfl
def Ts {f:FuncId}{con:Con}(C:Tp P w0 f con)(h:Inv w0 G st a w){args:Array Operand}{ts:Array TypeId}(R:o.op=.call {callee:=.value (.func f),args:=args,argTypes:=ts})
  (b:Lz con st o.dst args.toList k=some r) (E:∀D bV j p,Inv w0 D bV j p->k bV=some r->Below w.heap.size w p->K j p):o.wp P a w K Q:=by
 unfold Oper.wp;rw[BJ C.1 R];unfold Lz at b;split at b
 .rename_i x F;cases q:con.g x with
  |none=>rw[q]at b;cases b
  |some y =>
   rw[q]at b;simp only[V5]at b;have S:(args.map a.eval)=(args.toList.map a.eval).toArray:=by rw[<-Td,qU]
   show Calls P f _ w _;rw[S];cases M:o.dst with
   |none=>rw[M]at b;cases b
   |some d =>
    rw[M]at b;dsimp only at b;split at b
    .rename_i H;obtain⟨i,b⟩:=aG b;simp only[az]at i;obtain⟨T,I,Y,Z,L⟩:=h.freeze (gr st args.toList);have u:=Bm (ok:=RO T (kB st (gr st args.toList)&&bI (gr st args.toList))) I con.ps args.toList x
      (fun e t c v xs O=>N8 I (fun z=>by rw[az]at z;exact z.1) (fun z=>by rw[az]at z;exact z.2) e t c v xs (by rw[ET L]at O;exact O))
      (by rw[Tr L];exact F)
     refine Calls.mono (C.2 x y q w h.below _ _ u) fun e p l=>?_
     obtain⟨us,rfl,m,s⟩:=l;unfold Jq at m;rw[H]at m;exact ai2 (K:=fun j n=>n=p->K j n) i.2 I s m (fun g q=>q) (by rw[L.nt];exact i.1) b (fun D bV j n A B l=>E _ _ _ _ A B (l▸s)) rfl
    .rename_i H;obtain⟨i,b⟩:=aG b;simp only[az]at i;have u:=Bm (ok:=fun _=>True) h con.ps args.toList x (fun e t c v xs _=>Jr h e t c v xs) F;refine Calls.mono (C.2 x y q w h.below _ _ u) fun e p l=>?_
     obtain⟨us,rfl,m,s⟩:=l;unfold Jq at m;rw[H]at m;exact ai2 (K:=fun j n=>n=p->K j n) (f:=true) i.2 h s m (fun g q=>.inl q) i.1 b (fun D bV j n A B l=>E _ _ _ _ A B (l▸s)) rfl
    .rename_i W X;obtain⟨i,b⟩:=aG b;simp only[az]at i;have u:=Bm (ok:=fun _=>True) h con.ps args.toList x (fun e t c v xs _=>Jr h e t c v xs) F;refine Calls.mono (C.2 x y q w h.below _ _ u) fun e p l=>?_
     obtain⟨us,rfl,m,s⟩:=l;unfold Jq at m;split at m
     .exact absurd ‹_› W
     .exact absurd ‹_› X
     .exact alF (K:=fun j n=>n=p->K j n) i.2 h s m i.1.2 i.1.1 b (fun D bV j n A B l=>E _ _ _ _ A B (l▸s)) rfl
 .cases b
def ahd {f:FuncId}{con:Con}(b:Tp P w0 f con)(h:Inv w0 G st a w){args:Array Operand}{ts:Array TypeId}(c:o.op=.call {callee:=.value (.func f),args:=args,argTypes:=ts})
  (d:Lz con st o.dst args.toList k=some r) (e:l4 w0 k r K):o.wp P a w K Q:=Ts b h c d fun j bV l m g i _=>e _ _ _ _ g i
def Inv.more (h:Inv w0 G st a w){w1:World}(c:Below w.heap.size w w1):Inv w0 G st a w1:=by
 have f:=aj7 h c;have j:=gw.refl G st.bx st.bl;have y:=h.below.size;refine⟨h.nw,h.Pt,h.below.step c.os c.tape c.output c.size fun k p _=>c.block k (by omega),h.defers,h.size,h.sp.mono f j,h.x3 f,fun t v s=>(h.tm t v s).mono f j,?_,?_,?_⟩
 .intro d l u;obtain⟨cs,e,m,i,n⟩:=h.bx d l u;have hlt:=(h.own _ _ i).2.1;exact⟨cs,e,(c.block _ hlt).trans m,i,n.imp fun _ _=>a7.mono f j⟩
 .intro id b x;exact(h.bl id b x).mono f rfl fun z g A q=>⟨q,c.block _ (h.own _ _ q).2.1⟩
 .intro g k p;obtain⟨m,i,n⟩:=h.own g k p;exact⟨m,wa i c.size,n⟩
def ZT {f:FuncId}{i:Idx}(z:L6 P f)(A:∀W,dh w0.fr w0.w W->alB P f i W)(h:Inv w0 G st a w){args:Array Operand}{ts:Array TypeId}(B:o.op=.call {callee:=.value (.func f),args:=args,argTypes:=ts})
  (d:ab3 i st o.dst args.toList k=some r) (C:l4 w0 k r K):o.wp P a w K Q:=by
 unfold Oper.wp;rw[BJ z B];unfold ab3 at d;split at d
 .rename_i s x D;split at d
  .rename_i g b E;split at d
   .rename_i j;have j:=aA j;split at d
    .rename_i l F;split at d
     .rename_i y H;split at d
      .rename_i xs I;have L:args.map a.eval=#[a.eval s,a.eval x]:=by
        have M:args=#[s,x]:=by rw[<-qU (xs:=args),D]
        rw[M];simp
       have m:=h.ac x;rw[E]at m;have O:a.eval x=.func (.func i.g) #[] #[.pointer (some ⟨G.hb b,0,none⟩)]:=by rw[<-j];exact m.2
       obtain⟨cs,e,R,aS,hrel⟩:=h.bx b l F;obtain⟨qb,n,p,q,S,_⟩:=Fe (ok:=fun _=>True) (fun e t c v T _=>Jr h e t c v T) hrel H;have X:n=[]:=by
        cases n with
        |nil=>rfl|cons _ _=>exact S.elim
       subst X;rw[fo]at p;rw[<-p]at q;have Y:=Jr h _ i.a.1 (st.ac s) (a.eval s) xs (h.ac s) I;show Calls P f _ w _;rw[L,O];refine Calls.mono (A w h.below xs y (a.eval s) (G.hb b) cs e _ Y R q) fun qd qe Z=>?_
       obtain⟨rfl,qa⟩:=Z;exact q4 (h.more qa) (v:=.v (.c (.int .i64 (alg (fun x=>i.p x y) xs 0)))) (u:=.int .i64 (alg (fun x=>i.p x y) xs 0)) rfl d C
      .cases d
     .cases d
    .cases d
   .cases d
  .cases d
 .cases d
def acu {ok:Nat->Prop}{t:Ty}{cs:List Value}{xs:List t.D}(b:0<t.n)(n:cs.length=xs.length*t.n)(h:dx w ok t cs xs):∀u∈cs,u.oneCell'=true:=by
 intro u i;obtain⟨q,j,rfl⟩:=agL.1 i;have l:q/t.n<xs.length:=by rw[agK b];omega
 obtain⟨c,d,m⟩:=h (q/t.n) xs[q/t.n] (kK l);have f:q%t.n<c.length:=by rw[d.len];exact Ry _ b
 have g:=m (q%t.n) c[q%t.n] (kK f);have e:q/t.n*t.n+q%t.n=q:=by rw[Nat.mul_comm];exact Nat.div_add_mod q t.n
 rw[e,kK j]at g;rw[dI g];exact d.one _ (dH f)
def aev {ok:Nat->Prop}{t:Ty}{cs:List Value}{xs:List t.D}(d:dx w ok t cs xs)(m:Nat):dx w ok t (cs.drop (m*t.n)) (xs.drop m):=by intro e x b;rw[Tb]at b;obtain⟨c,f,g⟩:=d (m+e) x b;refine⟨c,f,fun i u h=>?_⟩;rw[Tb,<-I8,<-By];exact g i u h
def akh {f:FuncId}{e:TypeId}{u:Ty}(qa:L6 P f)(qb:∀W,dh w0.fr w0.w W->alC P f e u W)(h:Inv w0 G st a w){args:Array Operand}{ts:Array TypeId}(qd:o.op=.call {callee:=.value (.func f),args:=args,argTypes:=ts})
  (c:agQ e u st o.dst args.toList k=some r) (qe:l4 w0 k r K):o.wp P a w K Q:=by
 unfold Oper.wp;rw[BJ qa qd];unfold agQ at c;split at c
 .rename_i d s i v qf qg;split at c
  .rename_i n F qh qi;split at c
   .rename_i b qj;split at c
    .rename_i z;rw[az]at z;split at c
     .rename_i H;split at c
      .rename_i xs t qE GJ;split at c
       .rename_i qF qk;obtain⟨I,c⟩:=aG c;simp only[az,bu]at I;obtain⟨⟨⟨⟨ql,qm⟩,qG⟩,qn⟩,qo⟩:=I;obtain⟨be,j,bxs,A,qH⟩:=b;dsimp only at z H c qn qo;have qp:=Ty.beq_eq H;subst qp;obtain⟨qq,B⟩:=z;have B:=aA B;subst B;have x:0<j.n:=I7 (ba ql);have qt:args.map a.eval=#[a.eval s,.int .i64 ((n.toNat:Nat):Int),a.eval v]:=by
         have qu:args=#[s,i,v]:=by rw[<-qU (xs:=args),qg]
         have y:=h.ac i;rw[qh]at y;have y:a.eval i=.int .i64 n:=y;rw[qu,aea qm,<-y];simp
        have L:=h.ac v;rw[qi]at L;have M:a.eval v=G.hv F:=L.2.2;obtain⟨C,hd1,qv,D⟩:=(h.bl F _ (cV qj)).wr qq;obtain⟨qw,qI,qK,⟨cs,aS,O⟩,R⟩:=GP h (h.ac s) GJ x;have qx:∀g,(a.eval s).ownBlock=some g->(a.eval v).ownBlock≠some g:=by intro g E S;obtain⟨id,T,X⟩:=R g E;rw[M]at S;rw[qv g S]at T;cases T;rw[qk]at X;cases X
        show Calls P f _ w _;rw[qt];refine Calls.mono (qb w h.below (a.eval s) (a.eval v) xs.length bxs.length n.toNat cs C aS (by rw[M];exact hd1) qx (by omega) (by omega) (by omega) (acu x aS.1 O) (acu x hd1.1 D)) fun qL qy qz=>?_
        obtain⟨Y,rfl,qA,E,m⟩:=qz;have qB:∀q,RO G t q->RO G (t&&(A || flat j)) q:=fun q l=>l.BD fun p=>by rw[az]at p;exact p.1
        have qC:dx w (RO G (t&&(A || flat j))) j C bxs:=by
         cases qD:flat j with
         |true=>exact Wx qD D|false=>exact ic (fun q l=>l.BD fun p=>by simp at p;exact p.2) D
        have Z:=ic qB O;have hlt:(cs.take (n.toNat*j.n)).length=(xs.take n.toNat).length*j.n:=by rw[bQ,bQ,aS.1,Rt (tt _ (by omega)),Rt (by omega)]
        rw[qf];refine Fh qw (a.eval s).ownBlock E R d ⟨be,j,xs.take n.toNat++bxs++xs.drop n.toNat,t&&(A || flat j),true⟩ rfl x Y (cs.take (n.toNat*j.n)++C++cs.drop (n.toNat*j.n)) ?_ ?_ (LD ?_ (LD hlt (Wy Z _) qC) (aev Z _)) c qe
        .have:(xs.take n.toNat++bxs++xs.drop n.toNat).length=xs.length+bxs.length:=by simp only[aB,bQ,bT];omega
         show qy.ownsRow 0 be j.n Y (xs.take n.toNat++bxs++xs.drop n.toNat).length _;rw[this];exact qA
        .intro q l;rcases m with m|m
         .exact .inr (m▸l)
         .exact .inl (m q l)
        .rw[aB,hlt,hd1.1,aB,By]
       .cases c
      .cases c
     .cases c
    .cases c
   .cases c
  .cases c
 .cases c
def aki {f:FuncId}{e:TypeId}{u:Ty}(z:L6 P f)(A:∀W,dh w0.fr w0.w W->alD P f e u W)(h:Inv w0 G st a w){args:Array Operand}{ts:Array TypeId}(B:o.op=.call {callee:=.value (.func f),args:=args,argTypes:=ts})
  (b:agR e u st o.dst args.toList k=some r) (C:l4 w0 k r K):o.wp P a w K Q:=by
 unfold Oper.wp;rw[BJ z B];unfold agR at b;split at b
 .rename_i d s i l D E;split at b
  .rename_i n m F H;split at b
   .rename_i xs I qb GJ;obtain⟨v,b⟩:=aG b;simp only[az,bu]at v;obtain⟨⟨⟨L,M⟩,qd⟩,qe⟩:=v;have p:0<u.n:=I7 (ba L);have O:args.map a.eval=#[a.eval s,.int .i64 ((n.toNat:Nat):Int),.int .i64 ((m.toNat:Nat):Int)]:=by
     have R:args=#[s,i,l]:=by rw[<-qU (xs:=args),E]
     have g:=h.ac i;rw[F]at g;have g:a.eval i=.int .i64 n:=g;have j:=h.ac l;rw[H]at j;have j:a.eval l=.int .i64 m:=j;rw[R,aea M,aea (by omega),<-g,<-j];simp
    obtain⟨S,qf,qg,⟨cs,aS,t⟩,T⟩:=GP h (h.ac s) GJ p;show Calls P f _ w _;rw[O];refine Calls.mono (A w h.below (a.eval s) xs.length n.toNat m.toNat cs aS (by omega) (by omega) (acu p aS.1 t)) fun qh X Y=>?_
    obtain⟨x,rfl,Z,qa,c⟩:=Y;have hlt:(cs.take (n.toNat*u.n)).length=(xs.take n.toNat).length*u.n:=by rw[bQ,bQ,aS.1,Rt (tt _ (by omega)),Rt (by omega)]
    rw[D];refine Fh S (a.eval s).ownBlock qa T d ⟨e,u,xs.take n.toNat++xs.drop m.toNat,I,true⟩ rfl p x (cs.take (n.toNat*u.n)++cs.drop (m.toNat*u.n)) ?_ ?_ (LD hlt (Wy t _) (aev t _)) b C
    .have:(xs.take n.toNat++xs.drop m.toNat).length=n.toNat+(xs.length-m.toNat):=by simp only[aB,bQ,bT];omega
     show X.ownsRow 0 e u.n x (xs.take n.toNat++xs.drop m.toNat).length _;rw[this];exact Z
    .intro q y;rcases c with c|c
     .exact .inr (c▸y)
     .exact .inl (c q y)
   .cases b
  .cases b
 .cases b
def aew (h:Inv w0 G st a w)(t:TypeId)(x:Operand)(s:o.op=.box t x){d:Tmp}(z:o.dst=some d){u:Ty}{y:u.D}(A:im st u (st.c6 x).cells=some (y,[]))
  (B:ck (Nat.blt d st.nt&&(st.c6 x).kn&&kB st (st.c6 x).cells) (k ((st.freeze (st.c6 x).cells).put d (.v (.c (.IS (bI (st.c6 x).cells) u y 0)))))=some r) (C:l4 w0 k r K):o.wp P a w K Q:=by
 obtain⟨l,f⟩:=aG B;simp only[az]at l;obtain⟨⟨D,E⟩,F⟩:=l;refine BE (v:=.pointer (some ⟨w.heap.size,0,none⟩)) (w':=w.alloc (.cells (a.eval x).cells t)) ?_ ?_
 .unfold execOp;rw[s];simp[Instr.box,tV]
 .rw[z];obtain⟨g,c,H,I,m⟩:=Inv.freeze (st.c6 x).cells h;have L:=((h.c6 x).cells E).imp fun _ _=>a7.mono H I
  obtain⟨W,n,e,p,M,_⟩:=Fe (ok:=RO g (bI (st.c6 x).cells)) (Fg (bx:=st.bx) c F fun h=>h) L (by rw[nY m];exact A);have O:n=[]:=by
   cases n with
   |nil=>rfl|cons _ _=>exact M.elim
  subst O;rw[fo]at e;rw[<-e]at p;have j:Below w.heap.size w (w.alloc (.cells (a.eval x).cells t)):=⟨rfl,rfl,rfl,by simp,fun k f=>Below.heap_alloc _ _ _ f⟩;have R:=c.more j;have aS:g.own w.heap.size=none:=by
   cases S:g.own w.heap.size with
   |none=>rfl|some q=>exact absurd (c.own _ q S).2.1 (Ti _)
  refine C _ _ _ _ (R.put d (by rw[m.nt];exact ef D) (v:=.v (.c (.IS (bI (st.c6 x).cells) u y 0))) ?_) f;refine⟨w.heap.size,0,(a.eval x).cells.toList,by simp,by simp,⟨aS,.inl (c.aei (bq _))⟩,p.mono j.size fun b T cR=>⟨cR,j.block b T⟩,fun i v e=>?_⟩;rw[cell_of_row _ w.heap.size (0+i) (a.eval x).cells t (0,0) (heap_alloc_new w _),pF];simpa using e
def pK {C:FuncId->Option Any}(E:∀f B,C f=some B->Fi P w0 f B)(h:Inv w0 G st a w)(j:ec P C (kk.CX N) o st k=some r)(z:l4 w0 k r K):o.wp P a w K Q:=by
 unfold ec at j;split at j
 .exact bf (Bj h _ (.inl ‹_›) j) z
 .exact bf (Bj h _ (.inr ‹_›) j) z
 ·
  rename_i c x y m;split at j
  .exact bf (RA h c x y m ‹_› j) z
  .cases j
 ·
  rename_i t x m;split at j
  .rename_i d I;split at j
   .split at j
    .split at j
     .exact aew h t x m I ‹_› j z
     .cases j
    .cases j
   .split at j
    .exact aj8 h t x m I ‹_› j z
    .cases j
  .cases j
 ·
  rename_i t m;split at j
  .rename_i d I;split at j
   .split at j
    .exact ael h t m I ‹_› ‹_› j z
    .cases j
   .cases j
  .cases j
 ·
  rename_i t parts m;split at j
  .split at j
   .exact bf (N4 h t parts m ‹_› ‹_› ‹_› ‹_› j) z
   .cases j
  .cases j
 ·
  rename_i t len parts m;split at j
  .split at j
   .split at j
    .split at j
     .exact RF h t len parts m ‹_› ‹_› ‹_› ‹_› j z
     .cases j
    .cases j
   .cases j
  .cases j
 ·
  rename_i t x m;split at j
  .rename_i l off W;dsimp only at j;split at j
   .rename_i F;split at j
    .exact bf (Bk h t x m W F (b:=true) ‹_› (v:=.agg _) rfl j) z
    .split at j
     .rename_i O _ y R;exact bf (Bk h t x m W F (b:=false) O (v:=.c y) ⟨y,R,rfl⟩ j) z
     .cases j
    .cases j
   .cases j
  .cases j
 ·
  rename_i t x y m;split at j
  .rename_i n;simp only[az]at n;obtain⟨⟨⟨X,Y⟩,Z⟩,qa⟩:=n;split at j
   .split at j
    .split at j
     .exact Wt h t x y m X Y (aA Z) qa ‹_› ‹_› (tU ‹_›) j z
     .cases j
    .cases j
   .split at j
    .split at j
     .rename_i L;simp only[az]at L;split at j
      .exact Ue h t x y m X Y (aA Z) qa ‹_› ‹_› L.1.1 L.1.2 L.2 ‹_› j z
      .cases j
     .cases j
    .cases j
   .cases j
  .cases j
 ·
  rename_i x m;split at j
  .exact bf (EO h x m ‹_› j) z
  .cases j
 ·
  rename_i op S x y T m;split at j
  .exact bf (N1 h op S x y T m ‹_› ‹_› j) z
  .split at j
   .exact bf (kl h _ S x y T m ‹_› ‹_› ‹_› (.inl ⟨rfl,rfl⟩) j) z
   .exact bf (kl h _ S x y T m ‹_› ‹_› ‹_› (.inr ⟨rfl,rfl⟩) j) z
   .cases j
  .cases j
 ·
  rename_i op t x m;split at j
  .exact bf (Wp h t x m ‹_› j) z
  .exact bf (Wq h t x m ‹_› j) z
  .cases j
 ·
  rename_i src dst x m;split at j
  .exact bf (GL h src dst x m ‹_› ‹_› ‹_› j) z
  .exact bf (GM h src dst x m ‹_› ‹_› ‹_› j) z
  .split at j
   .obtain⟨n,j⟩:=aG j;exact ZS h src dst x m ‹_› ‹_› ‹_› ‹_› (by have:=wb n;dsimp only[kk.CX]at this;omega) j z
   .cases j
  .split at j
   .exact bf (N5 h src dst x m ‹_› ‹_› ‹_› ‹_› j) z
   .cases j
  .cases j
 ·
  rename_i t p q m;split at j
  .split at j
   .split at j
    .obtain⟨n,j⟩:=aG j;exact Uh h t p q m ‹_› ‹_› ‹_› ‹_› ‹_› ‹_› n j z
    .cases j
   .cases j
  .cases j
 ·
  rename_i t x qb A m;split at j
  .split at j
   .split at j
    .obtain⟨n,j⟩:=aG j;simp only[az,bu]at n;exact bf (Jn h t x qb A m ‹_› ‹_› ‹_› ‹_› n.1.1 n.1.2 n.2 j) z
    .cases j
   .cases j
  .split at j
   .split at j
    .obtain⟨n,j⟩:=aG j;simp only[az,bu]at n;exact bf (N3 h t x qb A m ‹_› ‹_› (aA n.1.1.1) (ba n.1.1.2) (alN n.1.2) ‹_› ‹_› n.2.1.1 n.2.1.2 n.2.2 j) z
    .cases j
   .split at j
    .split at j
     .obtain⟨n,j⟩:=aG j;simp only[az,bu]at n;exact bf (Jo h t x A m ‹_› ‹_› ‹_› (aA n.1) ‹_› n.2.1 n.2.2 j) z
     .cases j
    .split at j
     .obtain⟨n,j⟩:=aG j;simp only[az,bu]at n;exact bf (ES h t x _ A m ‹_› ‹_› ‹_› (aA n.1.1) (ahc n.1.2) ‹_› ‹_› n.2.1.1 n.2.1.2 n.2.2 j) z
     .cases j
    .cases j
   .cases j
  .cases j
 ·
  rename_i t x f m;split at j
  .split at j
   .exact bf (dJ h t x f m ‹_› ‹_› (by exact rfl) j) z
   .split at j
    .exact bf (dJ h t x f m ‹_› ‹_› (by exact⟨rfl,_,cV ‹_›⟩) j) z
    .cases j
   .exact bf (dJ h t x f m ‹_› ‹_› (by exact rfl) j) z
   .cases j
  .cases j
 ·
  rename_i t x i m;split at j
  .split at j
   .split at j
    .split at j
     .split at j
      .obtain⟨n,j⟩:=aG j;simp only[az,bu]at n;exact bf (EP h t x i m ‹_› ‹_› ‹_› ‹_› ‹_› (aA n.1) n.2.1 n.2.2 j) z
      .cases j
     .cases j
    .obtain⟨n,j⟩:=aG j;simp only[az,bu]at n;exact bf (GN h t x i m ‹_› ‹_› ‹_› (aA n.1.1) (ba n.1.2) n.2.1 n.2.2 j) z
    .cases j
   .split at j
    .obtain⟨n,j⟩:=aG j;simp only[az,bu]at n;exact bf (ER h t x i m ‹_› ‹_› ‹_› (ba n.1) n.2.1 n.2.2 j) z
    .cases j
   .cases j
  .cases j
 ·
  rename_i t x i m;split at j
  .obtain⟨n,j⟩:=aG j;simp only[az,bu]at n;exact bf (N2 h t x i m ‹_› ‹_› ‹_› n.1 n.2 j) z
  .cases j
 ·
  rename_i t x f m;split at j
  .rename_i qd H;dsimp only at j;split at j
   .rename_i F;split at j
    .exact bf (tX h t x f m qd H F (b:=true) ‹_› (v:=.agg _) rfl j) z
    .split at j
     .rename_i O _ y R;exact bf (tX h t x f m qd H F (b:=false) O (v:=.c y) ⟨y,R,rfl⟩ j) z
     .cases j
    .cases j
   .cases j
  .cases j
 ·
  rename_i x i m;split at j
  .split at j
   .exact bf (GK h x i m ‹_› ‹_› j) z
   .cases j
  .cases j
 ·
  rename_i f args M m;split at j
  .rename_i B D;exact ahd (show Tp P w0 f B from E f (.one B) D) h m j z
  .rename_i B D;exact aes (show N7 P w0 f B from E f (.two B) D) h m j z
  .rename_i B D;exact aeu (show acq P w0 f B from E f (.sel B) D) h m j z
  .rename_i i D;have A:=E f (.idx i) D;exact ZT A.1 A.2 h m j z
  .rename_i e u D;have A:=E f (.ins e u) D;exact akh A.1 A.2 h m j z
  .rename_i e u D;have A:=E f (.del e u) D;exact aki A.1 A.2 h m j z
  .cases j
 ·
  rename_i args M m;split at j
  .rename_i x t H qe;split at j
   .split at j
    .exact bf (Fc h x t m H qe ‹_› (.inl ⟨by assumption,_,by assumption⟩) j) z
    .cases j
   .split at j
    .cases j
    .rename_i qf;exact bf (Fc h x t m H qe ‹_› (.inr ⟨⟨_,by assumption⟩,fun s qg=>qf s qg⟩) j) z
   .cases j
  .cases j
 ·
  rename_i args M m;split at j
  .split at j
   .split at j
    .exact bf (WG h m ‹_› ‹_› ‹_› j) z
    .cases j
   .cases j
  .cases j
 ·
  rename_i args M m;split at j
  .split at j
   .split at j
    .exact bf (WH h m ‹_› ‹_› ‹_› j) z
    .cases j
   .cases j
  .cases j
 ·
  rename_i args M m;split at j
  .split at j
   .split at j
    .exact aco h m ‹_› ‹_› ‹_› ‹_› ‹_› j z
    .cases j
   .cases j
  .cases j
 ·
  rename_i g first qh m
  split at j
  .split at j
   .exact bf (ZO h g first qh m ‹_› ‹_› ‹_› j) z
   .cases j
  .cases j
 .cases j
end
end Go.Am
