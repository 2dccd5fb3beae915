/- No condition. -/
import Derived.Test.YtnllfndlcahalaaGreatDoorQvAmTwo
set_option linter.all false
namespace Go.Am
open Go.RowKit
section
variable {N:Nat} {P:Program} {w0:fh} {w:World} {G:Gh} {st:St} {a:Act} {U:Type} {k:St->Option U} {r:U} {K:Act->World->Prop} {Q:Exit->Act->World->Prop} {o:Oper}
def Sm (h:Inv w0 G st a w)(w1:World)(e:Bool)(d:IntKind):∀(l:List Operand) (x y:Int),acn e st x l=some y ->
  ((l.map a.eval).foldlM (if e then Builtin.max2 else Builtin.min2) (.int d x)).run P w1=.ok (.int d y) w1
 |[],x,y,c=>by cases c;rfl
 |o::l,x,y,c=>by
  simp only[acn]at c;split at c
  .rename_i f b g;have i:a.eval o=.int f b:=by have:=h.ac o;rw[g]at this;exact this
   rw[tf,List.foldlM_cons,i];cases e with
   |true =>
    have:=Sm h w1 true d l _ y c;simp only[gR]at this ⊢;rw[Sem.run_bind];exact this
   |false =>
    have:=Sm h w1 false d l _ y c;simp only[ahh,gA]at this ⊢;rw[Sem.run_bind];exact this
  .cases c
def aos (h:Inv w0 G st a w){args:Array Operand}{ts:Array TypeId}(d:o.op=.call {callee:=.builtin .max,args:=args,argTypes:=ts}){x:Operand}{l:List Operand}(e:args.toList=x::l)
  {b:IntKind} {n y:Int} (f:st.ac x=.int b n) (g:acn true st n l=some y) (i:st.pk o.dst (.v (.c (.int b y))) k=some r):bu P w0 w a o k r:=by
 have j:args=(x::l).toArray:=by rw[<-yb (xs:=args),e]
 subst j;have m:a.eval x=.int b n:=by have:=h.ac x;rw[f]at this;exact this
 refine dk (u:=.int b y) h (v:=.v (.c (.int b y))) rfl i fun p q=>?_
 have c:=Sm (P:=P) h p true b l n y g;simp only[gR]at c;unfold execOp;rw[d];simp only[resolve,Sem.run_bind,Sem.run_pure,Result.andThen_ok,invoke,builtin,Builtin.max_,List.map_toArray,tf,m];rw[c];rfl
def aot (h:Inv w0 G st a w){args:Array Operand}{ts:Array TypeId}(d:o.op=.call {callee:=.builtin .min,args:=args,argTypes:=ts}){x:Operand}{l:List Operand}(e:args.toList=x::l)
  {b:IntKind} {n y:Int} (f:st.ac x=.int b n) (g:acn false st n l=some y) (i:st.pk o.dst (.v (.c (.int b y))) k=some r):bu P w0 w a o k r:=by
 have j:args=(x::l).toArray:=by rw[<-yb (xs:=args),e]
 subst j;have m:a.eval x=.int b n:=by have:=h.ac x;rw[f]at this;exact this
 refine dk (u:=.int b y) h (v:=.v (.c (.int b y))) rfl i fun p q=>?_
 have c:=Sm (P:=P) h p false b l n y g;simp only[ahh,gA]at c;unfold execOp;rw[d];simp only[resolve,Sem.run_bind,Sem.run_pure,Result.andThen_ok,invoke,builtin,Builtin.min_,List.map_toArray,tf,m];rw[c];rfl
def aj6 {f:FuncId}{con:Con}(C:aj3 P w0 f con)(h:Inv w0 G st a w){args:Array Operand}{ts:Array TypeId}(R:o.op=.call {callee:=.value (.func f),args:=args,argTypes:=ts})
  (b:Y1 con st o.dst args.toList k=some r) (E:∀D da j p,Inv w0 D da j p->k da=some r->Below w.heap.size w p->K j p):o.wp P a w K Q:=by
 unfold Oper.wp;rw[Kq C.1 R];unfold Y1 at b;split at b
 .rename_i x F;cases q:con.g x with
  |none=>rw[q]at b;cases b
  |some y =>
   rw[q]at b;simp only[anW]at b;have S:(args.map a.eval)=(args.toList.map a.eval).toArray:=by rw[<-aea,yb]
   show Calls P f _ w _;rw[S];cases M:o.dst with
   |none=>rw[M]at b;cases b
   |some d =>
    rw[M]at b;dsimp only at b;split at b
    .rename_i H;obtain⟨i,b⟩:=aX b;simp only[aG]at i;obtain⟨T,I,Y,Z,L⟩:=h.freeze (kL st args.toList);have u:=JX (ok:=RO T (pc st (kL st args.toList)&&cj (kL st args.toList))) I con.ps args.toList x
      (fun t c v xs O=>acx I (fun z=>by rw[aG]at z;exact z.1) (fun z=>by rw[aG]at z;exact z.2) t c v xs (by rw[Pk L]at O;exact O))
      (by rw[aj5 L];exact F)
     refine Calls.mono (C.2 x y q w h.below _ _ u) fun e p l=>?_
     obtain⟨us,rfl,m,s⟩:=l;unfold aas at m;rw[H]at m;exact aDP (K:=fun j n=>n=p->K j n) i.2 I s m (fun g q=>q) (by rw[L.nt];exact i.1) b (fun D da j n A B l=>E _ _ _ _ A B (l▸s)) rfl
    .rename_i H;obtain⟨i,b⟩:=aX b;simp only[aG]at i;have u:=JX (ok:=fun _=>True) h con.ps args.toList x (fun t c v xs _=>Wa h t c v xs) F;refine Calls.mono (C.2 x y q w h.below _ _ u) fun e p l=>?_
     obtain⟨us,rfl,m,s⟩:=l;unfold aas at m;rw[H]at m;exact aDP (K:=fun j n=>n=p->K j n) (f:=true) i.2 h s m (fun g q=>.inl q) i.1 b (fun D da j n A B l=>E _ _ _ _ A B (l▸s)) rfl
    .rename_i W X;obtain⟨i,b⟩:=aX b;simp only[aG]at i;have u:=JX (ok:=fun _=>True) h con.ps args.toList x (fun t c v xs _=>Wa h t c v xs) F;refine Calls.mono (C.2 x y q w h.below _ _ u) fun e p l=>?_
     obtain⟨us,rfl,m,s⟩:=l;unfold aas at m;split at m
     .exact absurd ‹_› W
     .exact absurd ‹_› X
     .exact aGU (K:=fun j n=>n=p->K j n) i.2 h s m i.1.2 i.1.1 b (fun D da j n A B l=>E _ _ _ _ A B (l▸s)) rfl
 .cases b
def aBP {f:FuncId}{con:Con}(b:aj3 P w0 f con)(h:Inv w0 G st a w){args:Array Operand}{ts:Array TypeId}(c:o.op=.call {callee:=.value (.func f),args:=args,argTypes:=ts})
  (d:Y1 con st o.dst args.toList k=some r) (e:rO w0 k r K):o.wp P a w K Q:=aj6 b h c d fun j da l m g i _=>e _ _ _ _ g i
def Inv.more (h:Inv w0 G st a w){w1:World}(c:Below w.heap.size w w1):Inv w0 G st a w1:=by
 have f:=aFb h c;have j:=kN.refl G st.bx st.bl;have y:=h.below.size;refine⟨h.nw,h.rok,h.below.step c.os c.tape c.output c.size fun k p _=>c.block k (by omega),h.defers,h.size,h.sp.mono f j,h.Gp f,fun t v s=>(h.tm t v s).mono f j,?_,?_,?_⟩
 .intro d l u;obtain⟨cs,e,m,i,n⟩:=h.bx d l u;have hlt:=(h.own _ _ i).2.1;exact⟨cs,e,(c.block _ hlt).trans m,i,n.imp fun _ _=>bC.mono f j⟩
 .intro id b x;exact(h.bl id b x).mono f rfl fun z g A q=>⟨q,c.block _ (h.own _ _ q).2.1⟩
 .intro g k p;obtain⟨m,i,n⟩:=h.own g k p;exact⟨m,Fb i c.size,n⟩
def asD {f:FuncId}{i:Idx}(z:ZK P f)(hi:∀W,e5 w0.fr w0.w W->aGS P f i W)(h:Inv w0 G st a w){args:Array Operand}{ts:Array TypeId}(A:o.op=.call {callee:=.value (.func f),args:=args,argTypes:=ts})
  (d:avR i st o.dst args.toList k=some r) (B:rO w0 k r K):o.wp P a w K Q:=by
 unfold Oper.wp;rw[Kq z A];unfold avR at d;split at d
 .rename_i s x C;split at d
  .rename_i g b D;split at d
   .rename_i j;have j:=aP j;split at d
    .rename_i l E;split at d
     .rename_i y F;split at d
      .rename_i xs H;have I:args.map a.eval=#[a.eval s,a.eval x]:=by
        have L:args=#[s,x]:=by rw[<-yb (xs:=args),C]
        rw[L];simp
       have m:=h.ac x;rw[D]at m;have M:a.eval x=.func (.func i.g) #[] #[.pointer (some ⟨G.hb b,0,none⟩)]:=by rw[<-j];exact m.2
       obtain⟨cs,e,O,bp,hrel⟩:=h.bx b l E;obtain⟨qd,n,p,q,R,_⟩:=PV (ok:=fun _=>True) (fun t c v S _=>Wa h t c v S) hrel F;have T:n=[]:=by
        cases n with
        |nil=>rfl|cons _ _=>exact R.elim
       subst T;rw[fs]at p;rw[<-p]at q;have X:=Wa h i.a.1 (st.ac s) (a.eval s) xs (h.ac s) H 0;show Calls P f _ w _;rw[I,M];refine Calls.mono (hi w h.below xs y (a.eval s) (G.hb b) cs e 0 X O q) fun qe qf Y=>?_
       obtain⟨rfl,Z⟩:=Y;exact Dp (h.more Z) (v:=.v (.c (.int .i64 (p4 (fun x=>i.p x y) xs 0)))) (u:=.int .i64 (p4 (fun x=>i.p x y) xs 0)) rfl d B
      .cases d
     .cases d
    .cases d
   .cases d
  .cases d
 .cases d
def awd {ok:Nat->Prop}{t:Ty}{cs:List Value}{xs:List t.D}(b:0<t.n)(n:cs.length=xs.length*t.n)(h:fk w ok t cs xs):∀u∈cs,u.oneCell'=true:=by
 intro u i;obtain⟨q,j,rfl⟩:=avC.1 i;have l:q/t.n<xs.length:=by rw[aBl b];omega
 obtain⟨c,d,m⟩:=h (q/t.n) xs[q/t.n] (om l);have f:q%t.n<c.length:=by rw[d.len];exact ack _ b
 have g:=m (q%t.n) c[q%t.n] (om f);have e:q/t.n*t.n+q%t.n=q:=by rw[Nat.mul_comm];exact Nat.div_add_mod q t.n
 rw[e,om j]at g;rw[eV g];exact d.one _ (bJ f)
def ayS {ok:Nat->Prop}{t:Ty}{cs:List Value}{xs:List t.D}(d:fk w ok t cs xs)(m:Nat):fk w ok t (cs.drop (m*t.n)) (xs.drop m):=by intro e x b;rw[ajW]at b;obtain⟨c,f,g⟩:=d (m+e) x b;refine⟨c,f,fun i u h=>?_⟩;rw[ajW,<-VN,<-MJ];exact g i u h
def aFm {f:FuncId}{e:TypeId}{u:Ty}(qd:ZK P f)(hi:∀W,e5 w0.fr w0.w W->auc P f e u W)(h:Inv w0 G st a w){args:Array Operand}{ts:Array TypeId}(qe:o.op=.call {callee:=.value (.func f),args:=args,argTypes:=ts})
  (c:aBt e u st o.dst args.toList k=some r) (qf:rO w0 k r K):o.wp P a w K Q:=by
 unfold Oper.wp;rw[Kq qd qe];unfold aBt at c;split at c
 .rename_i d s i v qg qh;split at c
  .rename_i n F qi qj;split at c
   .rename_i b qk;split at c
    .rename_i z;rw[aG]at z;split at c
     .rename_i H;split at c
      .rename_i xs t qF hold;split at c
       .rename_i qG ql;obtain⟨I,c⟩:=aX c;simp only[aG,bV]at I;obtain⟨⟨⟨⟨qm,qn⟩,qH⟩,qo⟩,qp⟩:=I;obtain⟨be,j,bxs,A,qI⟩:=b;dsimp only at z H c qo qp;have qq:=Ty.beq_eq H;subst qq;obtain⟨qt,B⟩:=z;have B:=aP B;subst B;have x:0<j.n:=VL (bs qm);have qu:args.map a.eval=#[a.eval s,.int .i64 ((n.toNat:Nat):Int),a.eval v]:=by
         have qv:args=#[s,i,v]:=by rw[<-yb (xs:=args),qh]
         have y:=h.ac i;rw[qi]at y;have y:a.eval i=.int .i64 n:=y;rw[qv,MH qn,<-y];simp
        have L:=h.ac v;rw[qj]at L;have M:a.eval v=G.hv F:=L.2.2;obtain⟨C,hd1,qw,D⟩:=(h.bl F _ (eI qk)).wr qt;obtain⟨qx,qK,qL,⟨cs,bp,O⟩,R⟩:=Sl h (h.ac s) hold x;have qy:∀g,(a.eval s).ownBlock=some g->(a.eval v).ownBlock≠some g:=by intro g E S;obtain⟨id,T,X⟩:=R g E;rw[M]at S;rw[qw g S]at T;cases T;rw[ql]at X;cases X
        show Calls P f _ w _;rw[qu];refine Calls.mono (hi w h.below (a.eval s) (a.eval v) xs.length bxs.length n.toNat cs C bp (by rw[M];exact hd1) qy (by omega) (by omega) (by omega) (awd x bp.1 O) (awd x hd1.1 D)) fun qM qz qA=>?_
        obtain⟨Y,rfl,qB,E,m⟩:=qA;have qC:∀q,RO G t q->RO G (t&&(A || flat j)) q:=fun q l=>l.Kk fun p=>by rw[aG]at p;exact p.1
        have qD:fk w (RO G (t&&(A || flat j))) j C bxs:=by
         cases qE:flat j with
         |true=>exact aok qE D|false=>exact l5 (fun q l=>l.Kk fun p=>by simp at p;exact p.2) D
        have Z:=l5 qC O;have hlt:(cs.take (n.toNat*j.n)).length=(xs.take n.toNat).length*j.n:=by rw[bB,bB,bp.1,aec (Hg _ (by omega)),aec (by omega)]
        rw[qg];refine PY qx (a.eval s).ownBlock E R d ⟨be,j,xs.take n.toNat++bxs++xs.drop n.toNat,t&&(A || flat j),true⟩ rfl x Y (cs.take (n.toNat*j.n)++C++cs.drop (n.toNat*j.n)) ?_ ?_ (Y5 ?_ (Y5 hlt (aol Z _) qD) (ayS Z _)) c qf
        .have:(xs.take n.toNat++bxs++xs.drop n.toNat).length=xs.length+bxs.length:=by simp only[aK,bB,bc];omega
         show qz.ownsRow 0 be j.n Y (xs.take n.toNat++bxs++xs.drop n.toNat).length _;rw[this];exact qB
        .intro q l;rcases m with m|m
         .exact .inr (m▸l)
         .exact .inl (m q l)
        .rw[aK,hlt,hd1.1,aK,MJ]
       .cases c
      .cases c
     .cases c
    .cases c
   .cases c
  .cases c
 .cases c
def aFn {f:FuncId}{e:TypeId}{u:Ty}(z:ZK P f)(hi:∀W,e5 w0.fr w0.w W->aDN P f e u W)(h:Inv w0 G st a w){args:Array Operand}{ts:Array TypeId}(A:o.op=.call {callee:=.value (.func f),args:=args,argTypes:=ts})
  (b:aBu e u st o.dst args.toList k=some r) (B:rO w0 k r K):o.wp P a w K Q:=by
 unfold Oper.wp;rw[Kq z A];unfold aBu at b;split at b
 .rename_i d s i l C D;split at b
  .rename_i n m E F;split at b
   .rename_i xs H qd hold;obtain⟨v,b⟩:=aX b;simp only[aG,bV]at v;obtain⟨⟨⟨I,L⟩,qe⟩,qf⟩:=v;have p:0<u.n:=VL (bs I);have M:args.map a.eval=#[a.eval s,.int .i64 ((n.toNat:Nat):Int),.int .i64 ((m.toNat:Nat):Int)]:=by
     have O:args=#[s,i,l]:=by rw[<-yb (xs:=args),D]
     have g:=h.ac i;rw[E]at g;have g:a.eval i=.int .i64 n:=g;have j:=h.ac l;rw[F]at j;have j:a.eval l=.int .i64 m:=j;rw[O,MH L,MH (by omega),<-g,<-j];simp
    obtain⟨R,qg,qh,⟨cs,bp,t⟩,S⟩:=Sl h (h.ac s) hold p;show Calls P f _ w _;rw[M];refine Calls.mono (hi w h.below (a.eval s) xs.length n.toNat m.toNat cs bp (by omega) (by omega) (awd p bp.1 t)) fun qi T X=>?_
    obtain⟨x,rfl,Y,Z,c⟩:=X;have hlt:(cs.take (n.toNat*u.n)).length=(xs.take n.toNat).length*u.n:=by rw[bB,bB,bp.1,aec (Hg _ (by omega)),aec (by omega)]
    rw[C];refine PY R (a.eval s).ownBlock Z S d ⟨e,u,xs.take n.toNat++xs.drop m.toNat,H,true⟩ rfl p x (cs.take (n.toNat*u.n)++cs.drop (m.toNat*u.n)) ?_ ?_ (Y5 hlt (aol t _) (ayS t _)) b B
    .have:(xs.take n.toNat++xs.drop m.toNat).length=n.toNat+(xs.length-m.toNat):=by simp only[aK,bB,bc];omega
     show T.ownsRow 0 e u.n x (xs.take n.toNat++xs.drop m.toNat).length _;rw[this];exact Y
    .intro q y;rcases c with c|c
     .exact .inr (c▸y)
     .exact .inl (c q y)
   .cases b
  .cases b
 .cases b
def ayT (h:Inv w0 G st a w)(t:TypeId)(x:Operand)(s:o.op=.box t x){d:Tmp}(z:o.dst=some d){u:Ty}{y:u.D}(A:im st u (st.ee x).cells=some (y,[]))
  (B:ck (Nat.blt d st.nt&&(st.ee x).kn&&pc st (st.ee x).cells) (k ((st.freeze (st.ee x).cells).put d (.v (.c (.Vn (cj (st.ee x).cells) u y 0)))))=some r) (C:rO w0 k r K):o.wp P a w K Q:=by
 obtain⟨l,f⟩:=aX B;simp only[aG]at l;obtain⟨⟨D,E⟩,F⟩:=l;refine Kl (v:=.pointer (some ⟨w.heap.size,0,none⟩)) (w':=w.alloc (.cells (a.eval x).cells t)) ?_ ?_
 .unfold execOp;rw[s];simp[Instr.box,Ck]
 .rw[z];obtain⟨g,c,H,I,m⟩:=Inv.freeze (st.ee x).cells h;have L:=((h.ee x).cells E).imp fun _ _=>bC.mono H I
  obtain⟨W,n,e,p,M,_⟩:=PV (ok:=RO g (cj (st.ee x).cells)) (PX (bx:=st.bx) c F fun h=>h) L (by rw[uw m];exact A);have O:n=[]:=by
   cases n with
   |nil=>rfl|cons _ _=>exact M.elim
  subst O;rw[fs]at e;rw[<-e]at p;have j:Below w.heap.size w (w.alloc (.cells (a.eval x).cells t)):=⟨rfl,rfl,rfl,by simp,fun k f=>Below.heap_alloc _ _ _ f⟩;have R:=c.more j;have bp:g.own w.heap.size=none:=by
   cases S:g.own w.heap.size with
   |none=>rfl|some q=>exact absurd (c.own _ q S).2.1 (VQ _)
  refine C _ _ _ _ (R.put d (by rw[m.nt];exact gU D) (v:=.v (.c (.Vn (cj (st.ee x).cells) u y 0))) ?_) f;refine⟨w.heap.size,0,(a.eval x).cells.toList,by simp,by simp,⟨bp,.inl (c.ayF (bF _))⟩,p.mono j.size fun b T dd=>⟨dd,j.block b T⟩,fun i v e=>?_⟩;rw[cell_of_row _ w.heap.size (0+i) (a.eval x).cells t (0,0) (heap_alloc_new w _),wS];simpa using e
def Fj {C:FuncId->Option Any}(E:∀f B,C f=some B->Tv P w0 f B)(h:Inv w0 G st a w)(j:jj P C (p5.Se N) o st k=some r)(n:rO w0 k r K):o.wp P a w K Q:=by
 unfold jj at j;split at j
 .exact bI (JU h _ (.inl ‹_›) j) n
 .exact bI (JU h _ (.inr ‹_›) j) n
 ·
  rename_i c x y m;split at j
  .exact bI (ahr h c x y m ‹_› j) n
  .cases j
 ·
  rename_i t x m;split at j
  .rename_i d I;split at j
   .split at j
    .split at j
     .exact ayT h t x m I ‹_› j n
     .cases j
    .cases j
   .split at j
    .exact aFc h t x m I ‹_› j n
    .cases j
  .cases j
 ·
  rename_i t m;split at j
  .rename_i d I;split at j
   .split at j
    .exact ayI h t m I ‹_› ‹_› j n
    .cases j
   .cases j
  .cases j
 ·
  rename_i t parts m;split at j
  .split at j
   .exact bI (acu h t parts m ‹_› ‹_› ‹_› ‹_› j) n
   .cases j
  .cases j
 ·
  rename_i t len parts m;split at j
  .split at j
   .split at j
    .split at j
     .exact ahw h t len parts m ‹_› ‹_› ‹_› ‹_› j n
     .cases j
    .cases j
   .cases j
  .cases j
 ·
  rename_i t x m;split at j
  .rename_i l off W;dsimp only at j;split at j
   .rename_i F;split at j
    .exact bI (JV h t x m W F (b:=true) ‹_› (v:=.agg _) rfl j) n
    .split at j
     .rename_i O _ y R;exact bI (JV h t x m W F (b:=false) O (v:=.c y) ⟨y,R,rfl⟩ j) n
     .cases j
    .cases j
   .cases j
  .cases j
 ·
  rename_i t x y m;split at j
  .rename_i z;simp only[aG]at z;obtain⟨⟨⟨X,Y⟩,Z⟩,qd⟩:=z;split at j
   .split at j
    .split at j
     .exact aog h t x y m X Y (aP Z) qd ‹_› ‹_› (Gq ‹_›) j n
     .cases j
    .cases j
   .split at j
    .split at j
     .rename_i L;simp only[aG]at L;split at j
      .exact alr h t x y m X Y (aP Z) qd ‹_› ‹_› L.1.1 L.1.2 L.2 ‹_› j n
      .cases j
     .cases j
    .cases j
   .cases j
  .cases j
 ·
  rename_i x m;split at j
  .exact bI (Pf h x m ‹_› j) n
  .cases j
 ·
  rename_i op S x y T m;split at j
  .exact bI (acq h op S x y T m ‹_› ‹_› j) n
  .split at j
   .exact bI (oS h _ S x y T m ‹_› ‹_› ‹_› (.inl ⟨rfl,rfl⟩) j) n
   .exact bI (oS h _ S x y T m ‹_› ‹_› ‹_› (.inr ⟨rfl,rfl⟩) j) n
   .cases j
  .cases j
 ·
  rename_i op t x m;split at j
  .exact bI (aoc h t x m ‹_› j) n
  .exact bI (aod h t x m ‹_› j) n
  .cases j
 ·
  rename_i src dst x m;split at j
  .exact bI (Sh h src dst x m ‹_› ‹_› ‹_› j) n
  .exact bI (Si h src dst x m ‹_› ‹_› ‹_› j) n
  .split at j
   .obtain⟨z,j⟩:=aX j;exact asC h src dst x m ‹_› ‹_› ‹_› ‹_› (by have:=nj z;dsimp only[p5.Se]at this;omega) j n
   .cases j
  .split at j
   .exact bI (acv h src dst x m ‹_› ‹_› ‹_› ‹_› j) n
   .cases j
  .cases j
 ·
  rename_i t p q m;split at j
  .split at j
   .split at j
    .obtain⟨z,j⟩:=aX j;exact alv h t p q m ‹_› ‹_› ‹_› ‹_› ‹_› ‹_› z j n
    .cases j
   .cases j
  .cases j
 ·
  rename_i t x qe A m;split at j
  .split at j
   .split at j
    .obtain⟨z,j⟩:=aX j;simp only[aG,bV]at z;exact bI (V5 h t x qe A m ‹_› ‹_› ‹_› ‹_› z.1.1 z.1.2 z.2 j) n
    .cases j
   .cases j
  .split at j
   .split at j
    .obtain⟨z,j⟩:=aX j;simp only[aG,bV]at z;exact bI (acs h t x qe A m ‹_› ‹_› (aP z.1.1) (bs z.1.2) ‹_› ‹_› z.2.1.1 z.2.1.2 z.2.2 j) n
    .cases j
   .split at j
    .split at j
     .obtain⟨z,j⟩:=aX j;simp only[aG,bV]at z;exact bI (V6 h t x A m ‹_› ‹_› ‹_› (aP z.1) ‹_› z.2.1 z.2.2 j) n
     .cases j
    .split at j
     .obtain⟨z,j⟩:=aX j;simp only[aG,bV]at z;exact bI (Pj h t x _ A m ‹_› ‹_› ‹_› (aP z.1) ‹_› ‹_› z.2.1.1 z.2.1.2 z.2.2 j) n
     .cases j
    .cases j
   .cases j
  .cases j
 ·
  rename_i t x f m;split at j
  .split at j
   .exact bI (ft h t x f m ‹_› ‹_› (by exact rfl) j) n
   .split at j
    .exact bI (ft h t x f m ‹_› ‹_› (by exact⟨rfl,_,eI ‹_›⟩) j) n
    .cases j
   .exact bI (ft h t x f m ‹_› ‹_› (by exact rfl) j) n
   .cases j
  .cases j
 ·
  rename_i t x i m;split at j
  .split at j
   .split at j
    .split at j
     .split at j
      .obtain⟨z,j⟩:=aX j;simp only[aG,bV]at z;exact bI (Pg h t x i m ‹_› ‹_› ‹_› ‹_› ‹_› (aP z.1) z.2.1 z.2.2 j) n
      .cases j
     .cases j
    .obtain⟨z,j⟩:=aX j;simp only[aG,bV]at z;exact bI (Sj h t x i m ‹_› ‹_› ‹_› (aP z.1.1) (bs z.1.2) z.2.1 z.2.2 j) n
    .cases j
   .split at j
    .obtain⟨z,j⟩:=aX j;simp only[aG,bV]at z;exact bI (Ph h t x i m ‹_› ‹_› ‹_› (bs z.1) z.2.1 z.2.2 j) n
    .cases j
   .cases j
  .cases j
 ·
  rename_i t x i m;split at j
  .obtain⟨z,j⟩:=aX j;simp only[aG,bV]at z;exact bI (acr h t x i m ‹_› ‹_› ‹_› z.1 z.2 j) n
  .cases j
 ·
  rename_i t x f m;split at j
  .rename_i qf H;dsimp only at j;split at j
   .rename_i F;split at j
    .exact bI (Cm h t x f m qf H F (b:=true) ‹_› (v:=.agg _) rfl j) n
    .split at j
     .rename_i O _ y R;exact bI (Cm h t x f m qf H F (b:=false) O (v:=.c y) ⟨y,R,rfl⟩ j) n
     .cases j
    .cases j
   .cases j
  .cases j
 ·
  rename_i x i m;split at j
  .split at j
   .exact bI (Sg h x i m ‹_› ‹_› j) n
   .cases j
  .cases j
 ·
  rename_i f args M m;split at j
  .rename_i B D;exact aBP (show aj3 P w0 f B from E f (.one B) D) h m j n
  .rename_i B D;exact ayP (show acw P w0 f B from E f (.two B) D) h m j n
  .rename_i B D;exact ayR (show awa P w0 f B from E f (.sel B) D) h m j n
  .rename_i i D;have A:=E f (.idx i) D;exact asD A.1 A.2 h m j n
  .rename_i e u D;have A:=E f (.ins e u) D;exact aFm A.1 A.2 h m j n
  .rename_i e u D;have A:=E f (.del e u) D;exact aFn A.1 A.2 h m j n
  .cases j
 ·
  rename_i args M m;split at j
  .rename_i x t H qg;split at j
   .split at j
    .exact bI (PU h x t m H qg ‹_› (.inl ⟨by assumption,_,by assumption⟩) j) n
    .cases j
   .split at j
    .cases j
    .rename_i qh;exact bI (PU h x t m H qg ‹_› (.inr ⟨⟨_,by assumption⟩,fun s qi=>qh s qi⟩) j) n
   .cases j
  .cases j
 ·
  rename_i args M m;split at j
  .split at j
   .split at j
    .exact bI (aos h m ‹_› ‹_› ‹_› j) n
    .cases j
   .cases j
  .cases j
 ·
  rename_i args M m;split at j
  .split at j
   .split at j
    .exact bI (aot h m ‹_› ‹_› ‹_› j) n
    .cases j
   .cases j
  .cases j
 ·
  rename_i args M m;split at j
  .split at j
   .split at j
    .exact av8 h m ‹_› ‹_› ‹_› ‹_› ‹_› j n
    .cases j
   .cases j
  .cases j
 ·
  rename_i g first qj m
  split at j
  .split at j
   .exact bI (asy h g first qj m ‹_› ‹_› ‹_› j) n
   .cases j
  .cases j
 .cases j
end
end Go.Am
