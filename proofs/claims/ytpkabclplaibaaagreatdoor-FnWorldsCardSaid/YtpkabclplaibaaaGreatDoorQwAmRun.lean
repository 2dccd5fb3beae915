/- No condition. -/
import Derived.Test.YtpkabclplaibaaaGreatDoorQwAmTwo
set_option linter.all false
namespace Go.Am
open Go.RowKit
variable [ei]
def awz {y:Bool}(h:(!y)=true):y=false:=by cases y<;>simp at h ⊢
def aBI {x y:Bool}(h:(x || !y)=true):x=true\/y=false:=by cases x<;>cases y<;>simp at h ⊢
section
variable {N:Nat} {P:Program} {w0:dY} {w:World} {G:Gh} {st:St} {a:Act} {U:Type} {k:St->Option U} {r:U} {K:Act->World->Prop} {Q:Exit->Act->World->Prop} {o:Oper}
def Qp (h:Inv w0 G st a w)(w1:World)(e:Bool)(d:IntKind):∀(l:List Operand) (x y:Int),Zx e st x l=some y ->
  ((l.map a.eval).foldlM (if e then Builtin.max2 else Builtin.min2) (.int d x)).run P w1=.ok (.int d y) w1
 |[],x,y,c=>by cases c;rfl
 |o::l,x,y,c=>by
  simp only[Zx]at c;split at c
  .rename_i f b g;have i:a.eval o=.int f b:=by have:=h.ac o;rw[g]at this;exact this
   rw[sE,List.foldlM_cons,i];cases e with
   |true =>
    have:=Qp h w1 true d l _ y c;simp only[gr]at this ⊢;rw[Sem.run_bind];exact this
   |false =>
    have:=Qp h w1 false d l _ y c;simp only[apb,fG]at this ⊢;rw[Sem.run_bind];exact this
  .cases c
def aj9 (h:Inv w0 G st a w){args:Array Operand}{ts:Array TypeId}(d:o.op=.call {callee:=.builtin .max,args:=args,argTypes:=ts}){x:Operand}{l:List Operand}(e:args.toList=x::l)
  {b:IntKind} {n y:Int} (f:st.ac x=.int b n) (g:Zx true st n l=some y) (i:st.pk o.dst (.v (.c (.int b y))) k=some r):bp P w0 w a o k r:=by
 have j:args=(x::l).toArray:=by rw[<-wQ (xs:=args),e]
 subst j;have m:a.eval x=.int b n:=by have:=h.ac x;rw[f]at this;exact this
 refine c2 (u:=.int b y) h (v:=.v (.c (.int b y))) rfl i fun p q=>?_
 have c:=Qp (P:=P) h p true b l n y g;simp only[gr]at c;unfold execOp;rw[d];simp only[resolve,Sem.run_bind,Sem.run_pure,Result.andThen_ok,invoke,builtin,Builtin.max_,List.map_toArray,sE,m];rw[c];rfl
def aka (h:Inv w0 G st a w){args:Array Operand}{ts:Array TypeId}(d:o.op=.call {callee:=.builtin .min,args:=args,argTypes:=ts}){x:Operand}{l:List Operand}(e:args.toList=x::l)
  {b:IntKind} {n y:Int} (f:st.ac x=.int b n) (g:Zx false st n l=some y) (i:st.pk o.dst (.v (.c (.int b y))) k=some r):bp P w0 w a o k r:=by
 have j:args=(x::l).toArray:=by rw[<-wQ (xs:=args),e]
 subst j;have m:a.eval x=.int b n:=by have:=h.ac x;rw[f]at this;exact this
 refine c2 (u:=.int b y) h (v:=.v (.c (.int b y))) rfl i fun p q=>?_
 have c:=Qp (P:=P) h p false b l n y g;simp only[apb,fG]at c;unfold execOp;rw[d];simp only[resolve,Sem.run_bind,Sem.run_pure,Result.andThen_ok,invoke,builtin,Builtin.min_,List.map_toArray,sE,m];rw[c];rfl
def agp {f:FuncId}{con:Con}(C:agm P w0 f con)(h:Inv w0 G st a w){args:Array Operand}{ts:Array TypeId}(R:o.op=.call {callee:=.value (.func f),args:=args,argTypes:=ts})
  (b:WB con st o.dst args.toList k=some r) (E:∀D cp j p,Inv w0 D cp j p->k cp=some r->Below w.heap.size w p->K j p):o.wp P a w K Q:=by
 unfold Oper.wp;rw[Jo C.1 R];unfold WB at b;split at b
 .rename_i x F;cases q:con.g x with
  |none=>rw[q]at b;cases b
  |some y =>
   rw[q]at b;simp only[ajz]at b;have S:(args.map a.eval)=(args.toList.map a.eval).toArray:=by rw[<-agb,wQ]
   show Calls P f _ w _;rw[S];cases M:o.dst with
   |none=>rw[M]at b;cases b
   |some d =>
    rw[M]at b;dsimp only at b;split at b
    .rename_i H;obtain⟨i,b⟩:=aT b;simp only[aE]at i;obtain⟨T,I,Y,Z,L⟩:=h.freeze (jI st args.toList);have u:=I2 (ok:=RO T (oj st (jI st args.toList)&&b5 (jI st args.toList))) I con.ps args.toList x
      (fun e t c v xs O=>ZI I (fun z=>by rw[aE]at z;exact z.1) (fun z=>by rw[aE]at z;exact z.2) e t c v xs (by rw[NQ L]at O;exact O))
      (by rw[ago L];exact F)
     refine Calls.mono (C.2 x y q w h.below _ _ u) fun e p l=>?_
     obtain⟨us,rfl,m,s⟩:=l;unfold XT at m;rw[H]at m;exact ayB (K:=fun j n=>n=p->K j n) i.2 I s m (fun g q=>q) (by rw[L.nt];exact i.1) b (fun D cp j n A B l=>E _ _ _ _ A B (l▸s)) rfl
    .rename_i H;obtain⟨i,b⟩:=aT b;simp only[aE]at i;have u:=I2 (ok:=fun _=>True) h con.ps args.toList x (fun e t c v xs _=>TO h e t c v xs) F;refine Calls.mono (C.2 x y q w h.below _ _ u) fun e p l=>?_
     obtain⟨us,rfl,m,s⟩:=l;unfold XT at m;rw[H]at m;exact ayB (K:=fun j n=>n=p->K j n) (f:=true) i.2 h s m (fun g q=>.inl q) i.1 b (fun D cp j n A B l=>E _ _ _ _ A B (l▸s)) rfl
    .rename_i W X;obtain⟨i,b⟩:=aT b;simp only[aE]at i;have u:=I2 (ok:=fun _=>True) h con.ps args.toList x (fun e t c v xs _=>TO h e t c v xs) F;refine Calls.mono (C.2 x y q w h.below _ _ u) fun e p l=>?_
     obtain⟨us,rfl,m,s⟩:=l;unfold XT at m;split at m
     .exact absurd ‹_› W
     .exact absurd ‹_› X
     .exact aBA (K:=fun j n=>n=p->K j n) i.2 h s m i.1.2 i.1.1 b (fun D cp j n A B l=>E _ _ _ _ A B (l▸s)) rfl
 .cases b
def awA {f:FuncId}{con:Con}(b:agm P w0 f con)(h:Inv w0 G st a w){args:Array Operand}{ts:Array TypeId}(c:o.op=.call {callee:=.value (.func f),args:=args,argTypes:=ts})
  (d:WB con st o.dst args.toList k=some r) (e:q9 w0 k r K):o.wp P a w K Q:=agp b h c d fun j cp l m g i _=>e _ _ _ _ g i
def Inv.more (h:Inv w0 G st a w){w1:World}(c:Below w.heap.size w w1):Inv w0 G st a w1:=by
 have f:=azK h c;have j:=jL.refl G st.bx st.bl;have y:=h.below.size;refine⟨h.nw,h.rok,h.below.step c.os c.tape c.output c.size fun k p _=>c.block k (by omega),h.defers,h.size,h.sp.mono f j,h.Fy f,fun t v s=>(h.tm t v s).mono f j,?_,?_,?_⟩
 .intro d l u;obtain⟨cs,e,m,i,n⟩:=h.bx d l u;have hlt:=(h.own _ _ i).2.1;exact⟨cs,e,(c.block _ hlt).trans m,i,n.imp fun _ _=>bo.mono f j⟩
 .intro id b x;exact(h.bl id b x).mono f rfl fun z g A q=>⟨q,c.block _ (h.own _ _ q).2.1⟩
 .intro g k p;obtain⟨m,i,n⟩:=h.own g k p;exact⟨m,Ew i c.size,n⟩
def anT {f:FuncId}{i:Idx}(z:Xj P f)(hi:∀W,dX w0.fr w0.w W->aBw P f i W)(h:Inv w0 G st a w){args:Array Operand}{ts:Array TypeId}(A:o.op=.call {callee:=.value (.func f),args:=args,argTypes:=ts})
  (d:aqL i st o.dst args.toList k=some r) (B:q9 w0 k r K):o.wp P a w K Q:=by
 unfold Oper.wp;rw[Jo z A];unfold aqL at d;split at d
 .rename_i s x C;split at d
  .rename_i g b D;split at d
   .rename_i j;have j:=aK j;split at d
    .rename_i l E;split at d
     .rename_i y F;split at d
      .rename_i xs H;have I:args.map a.eval=#[a.eval s,a.eval x]:=by
        have L:args=#[s,x]:=by rw[<-wQ (xs:=args),C]
        rw[L];simp
       have m:=h.ac x;rw[D]at m;have M:a.eval x=.func (.func i.g) #[] #[.pointer (some ⟨G.hb b,0,none⟩)]:=by rw[<-j];exact m.2
       obtain⟨cs,e,O,bf,hrel⟩:=h.bx b l E;obtain⟨qd,n,p,q,R,_⟩:=Oi (ok:=fun _=>True) (fun e t c v S _=>TO h e t c v S) hrel F;have T:n=[]:=by
        cases n with
        |nil=>rfl|cons _ _=>exact R.elim
       subst T;rw[fD]at p;rw[<-p]at q;have X:=TO h _ i.a.1 (st.ac s) (a.eval s) xs (h.ac s) H;show Calls P f _ w _;rw[I,M];refine Calls.mono (hi w h.below xs y (a.eval s) (G.hb b) cs e _ X O q) fun qe qf Y=>?_
       obtain⟨rfl,Z⟩:=Y;exact wW (h.more Z) (v:=.v (.c (.int .i64 (aBd (fun x=>i.p x y) xs 0)))) (u:=.int .i64 (aBd (fun x=>i.p x y) xs 0)) rfl d B
      .cases d
     .cases d
    .cases d
   .cases d
  .cases d
 .cases d
def aq9 {ok:Nat->Prop}{t:Ty}{cs:List Value}{xs:List t.D}(b:0<t.n)(n:cs.length=xs.length*t.n)(h:et w ok t cs xs):∀u∈cs,u.oneCell'=true:=by
 intro u i;obtain⟨q,j,rfl⟩:=aqC.1 i;have l:q/t.n<xs.length:=by rw[av6 b];omega
 obtain⟨c,d,m⟩:=h (q/t.n) xs[q/t.n] (nu l);have f:q%t.n<c.length:=by rw[d.len];exact adY _ b
 have g:=m (q%t.n) c[q%t.n] (nu f);have e:q/t.n*t.n+q%t.n=q:=by rw[Nat.mul_comm];exact Nat.div_add_mod q t.n
 rw[e,nu j]at g;rw[eh g];exact d.one _ (bT f)
def atx {ok:Nat->Prop}{t:Ty}{cs:List Value}{xs:List t.D}(d:et w ok t cs xs)(m:Nat):et w ok t (cs.drop (m*t.n)) (xs.drop m):=by intro e x b;rw[af9]at b;obtain⟨c,f,g⟩:=d (m+e) x b;refine⟨c,f,fun i u h=>?_⟩;rw[af9,<-Tp,<-Jd];exact g i u h
def azU {f:FuncId}{e:TypeId}{u:Ty}(qd:Xj P f)(hi:∀W,dX w0.fr w0.w W->aBx P f e u W)(h:Inv w0 G st a w){args:Array Operand}{ts:Array TypeId}(qe:o.op=.call {callee:=.value (.func f),args:=args,argTypes:=ts})
  (c:awc e u st o.dst args.toList k=some r) (qf:q9 w0 k r K):o.wp P a w K Q:=by
 unfold Oper.wp;rw[Jo qd qe];unfold awc at c;split at c
 .rename_i d s i v qg qh;split at c
  .rename_i n F qi qj;split at c
   .rename_i b qk;split at c
    .rename_i z;rw[aE]at z;split at c
     .rename_i H;split at c
      .rename_i xs t qF Qi;split at c
       .rename_i qG ql;obtain⟨I,c⟩:=aT c;simp only[aE,bM]at I;obtain⟨⟨⟨⟨qm,qn⟩,qH⟩,qo⟩,qp⟩:=I;obtain⟨be,j,bxs,A,qI⟩:=b;dsimp only at z H c qo qp;have qq:=Ty.beq_eq H;subst qq;obtain⟨qt,B⟩:=z;have B:=aK B;subst B;have x:0<j.n:=To (bu qm);have qu:args.map a.eval=#[a.eval s,.int .i64 ((n.toNat:Nat):Int),a.eval v]:=by
         have qv:args=#[s,i,v]:=by rw[<-wQ (xs:=args),qh]
         have y:=h.ac i;rw[qi]at y;have y:a.eval i=.int .i64 n:=y;rw[qv,Tm qn,<-y];simp
        have L:=h.ac v;rw[qj]at L;have M:a.eval v=G.hv F:=L.2.2;obtain⟨C,hd1,qw,D⟩:=(h.bl F _ (dm qk)).wr qt;obtain⟨qx,qK,qL,⟨cs,bf,O⟩,R⟩:=Qo h (h.ac s) Qi x;have qy:∀g,(a.eval s).ownBlock=some g->(a.eval v).ownBlock≠some g:=by intro g E S;obtain⟨id,T,X⟩:=R g E;rw[M]at S;rw[qw g S]at T;cases T;rw[ql]at X;cases X
        show Calls P f _ w _;rw[qu];refine Calls.mono (hi w h.below (a.eval s) (a.eval v) xs.length bxs.length n.toNat cs C bf (by rw[M];exact hd1) qy (by omega) (by omega) (by omega) (aq9 x bf.1 O) (aq9 x hd1.1 D)) fun qM qz qA=>?_
        obtain⟨Y,rfl,qB,E,m⟩:=qA;have qC:∀q,RO G t q->RO G (t&&(A || flat j)) q:=fun q l=>l.Ji fun p=>by rw[aE]at p;exact p.1
        have qD:et w (RO G (t&&(A || flat j))) j C bxs:=by
         cases qE:flat j with
         |true=>exact aj1 qE D|false=>exact kY (fun q l=>l.Ji fun p=>by simp at p;exact p.2) D
        have Z:=kY qC O;have hlt:(cs.take (n.toNat*j.n)).length=(xs.take n.toNat).length*j.n:=by rw[bQ,bQ,bf.1,Zw (Bb _ (by omega)),Zw (by omega)]
        rw[qg];refine Ol qx (a.eval s).ownBlock E R d ⟨be,j,xs.take n.toNat++bxs++xs.drop n.toNat,t&&(A || flat j),true⟩ rfl x Y (cs.take (n.toNat*j.n)++C++cs.drop (n.toNat*j.n)) ?_ ?_ (WG ?_ (WG hlt (aj2 Z _) qD) (atx Z _)) c qf
        .have:(xs.take n.toNat++bxs++xs.drop n.toNat).length=xs.length+bxs.length:=by simp only[aN,bQ,bA];omega
         show qz.ownsRow 0 be j.n Y (xs.take n.toNat++bxs++xs.drop n.toNat).length _;rw[this];exact qB
        .intro q l;rcases m with m|m
         .exact .inr (m▸l)
         .exact .inl (m q l)
        .rw[aN,hlt,hd1.1,aN,Jd]
       .cases c
      .cases c
     .cases c
    .cases c
   .cases c
  .cases c
 .cases c
def azV {f:FuncId}{e:TypeId}{u:Ty}(z:Xj P f)(hi:∀W,dX w0.fr w0.w W->aBy P f e u W)(h:Inv w0 G st a w){args:Array Operand}{ts:Array TypeId}(A:o.op=.call {callee:=.value (.func f),args:=args,argTypes:=ts})
  (b:awd e u st o.dst args.toList k=some r) (B:q9 w0 k r K):o.wp P a w K Q:=by
 unfold Oper.wp;rw[Jo z A];unfold awd at b;split at b
 .rename_i d s i l C D;split at b
  .rename_i n m E F;split at b
   .rename_i xs H qd Qi;obtain⟨v,b⟩:=aT b;simp only[aE,bM]at v;obtain⟨⟨⟨I,L⟩,qe⟩,qf⟩:=v;have p:0<u.n:=To (bu I);have M:args.map a.eval=#[a.eval s,.int .i64 ((n.toNat:Nat):Int),.int .i64 ((m.toNat:Nat):Int)]:=by
     have O:args=#[s,i,l]:=by rw[<-wQ (xs:=args),D]
     have g:=h.ac i;rw[E]at g;have g:a.eval i=.int .i64 n:=g;have j:=h.ac l;rw[F]at j;have j:a.eval l=.int .i64 m:=j;rw[O,Tm L,Tm (by omega),<-g,<-j];simp
    obtain⟨R,qg,qh,⟨cs,bf,t⟩,S⟩:=Qo h (h.ac s) Qi p;show Calls P f _ w _;rw[M];refine Calls.mono (hi w h.below (a.eval s) xs.length n.toNat m.toNat cs bf (by omega) (by omega) (aq9 p bf.1 t)) fun qi T X=>?_
    obtain⟨x,rfl,Y,Z,c⟩:=X;have hlt:(cs.take (n.toNat*u.n)).length=(xs.take n.toNat).length*u.n:=by rw[bQ,bQ,bf.1,Zw (Bb _ (by omega)),Zw (by omega)]
    rw[C];refine Ol R (a.eval s).ownBlock Z S d ⟨e,u,xs.take n.toNat++xs.drop m.toNat,H,true⟩ rfl p x (cs.take (n.toNat*u.n)++cs.drop (m.toNat*u.n)) ?_ ?_ (WG hlt (aj2 t _) (atx t _)) b B
    .have:(xs.take n.toNat++xs.drop m.toNat).length=n.toNat+(xs.length-m.toNat):=by simp only[aN,bQ,bA];omega
     show T.ownsRow 0 e u.n x (xs.take n.toNat++xs.drop m.toNat).length _;rw[this];exact Y
    .intro q y;rcases c with c|c
     .exact .inr (c▸y)
     .exact .inl (c q y)
   .cases b
  .cases b
 .cases b
def aty (h:Inv w0 G st a w)(t:TypeId)(x:Operand)(s:o.op=.box t x){d:Tmp}(z:o.dst=some d){u:Ty}{y:u.D}(A:im st u (st.dB x).cells=some (y,[]))
  (B:ck (Nat.blt d st.nt&&(st.dB x).kn&&oj st (st.dB x).cells) (k ((st.freeze (st.dB x).cells).put d (.v (.c (.Qd (b5 (st.dB x).cells) u y 0)))))=some r) (C:q9 w0 k r K):o.wp P a w K Q:=by
 obtain⟨l,f⟩:=aT B;simp only[aE]at l;obtain⟨⟨D,E⟩,F⟩:=l;refine Jj (v:=.pointer (some ⟨w.heap.size,0,none⟩)) (w':=w.alloc (.cells (a.eval x).cells t)) ?_ ?_
 .unfold execOp;rw[s];simp[Instr.box,BR]
 .rw[z];obtain⟨g,c,H,I,m⟩:=Inv.freeze (st.dB x).cells h;have L:=((h.dB x).cells E).imp fun _ _=>bo.mono H I
  obtain⟨W,n,e,p,M,_⟩:=Oi (ok:=RO g (b5 (st.dB x).cells)) (Ok (bx:=st.bx) c F fun h=>h) L (by rw[tG m];exact A);have O:n=[]:=by
   cases n with
   |nil=>rfl|cons _ _=>exact M.elim
  subst O;rw[fD]at e;rw[<-e]at p;have j:Below w.heap.size w (w.alloc (.cells (a.eval x).cells t)):=⟨rfl,rfl,rfl,by simp,fun k f=>Below.heap_alloc _ _ _ f⟩;have R:=c.more j;have bf:g.own w.heap.size=none:=by
   cases S:g.own w.heap.size with
   |none=>rfl|some q=>exact absurd (c.own _ q S).2.1 (Ts _)
  refine C _ _ _ _ (R.put d (by rw[m.nt];exact fs D) (v:=.v (.c (.Qd (b5 (st.dB x).cells) u y 0))) ?_) f;refine⟨w.heap.size,0,(a.eval x).cells.toList,by simp,by simp,⟨bf,.inl (c.atk (bh _))⟩,p.mono j.size fun b T cz=>⟨cz,j.block b T⟩,fun i v e=>?_⟩;rw[cell_of_row _ w.heap.size (0+i) (a.eval x).cells t (0,0) (heap_alloc_new w _),vS];simpa using e
def vX {C:FuncId->Option Any}(E:∀f B,C f=some B->Om P w0 f B)(h:Inv w0 G st a w)(j:fk P C (nY.Lm N) o st k=some r)(z:q9 w0 k r K):o.wp P a w K Q:=by
 unfold fk at j;split at j
 .exact bC (IZ h _ (.inl ‹_›) j) z
 .exact bC (IZ h _ (.inr ‹_›) j) z
 ·
  rename_i c x y m;split at j
  .exact bC (ad0 h c x y m ‹_› j) z
  .cases j
 ·
  rename_i t x m;split at j
  .rename_i d I;split at j
   .split at j
    .split at j
     .exact aty h t x m I ‹_› j z
     .cases j
    .cases j
   .split at j
    .exact azL h t x m I ‹_› j z
    .cases j
  .cases j
 ·
  rename_i t m;split at j
  .rename_i d I;split at j
   .split at j
    .exact atn h t m I ‹_› ‹_› j z
    .cases j
   .cases j
  .cases j
 ·
  rename_i t parts m;split at j
  .split at j
   .exact bC (ZE h t parts m ‹_› ‹_› ‹_› ‹_› j) z
   .cases j
  .cases j
 ·
  rename_i t len parts m;split at j
  .split at j
   .split at j
    .split at j
     .exact ad5 h t len parts m ‹_› ‹_› ‹_› ‹_› j z
     .cases j
    .cases j
   .cases j
  .cases j
 ·
  rename_i t x m;split at j
  .rename_i l off W;dsimp only at j;split at j
   .rename_i F;split at j
    .exact bC (I0 h t x m W F (b:=true) ‹_› (v:=.agg _) rfl j) z
    .split at j
     .rename_i O _ y R;exact bC (I0 h t x m W F (b:=false) O (v:=.c y) ⟨y,R,rfl⟩ j) z
     .cases j
    .cases j
   .cases j
  .cases j
 ·
  rename_i t x y m;split at j
  .rename_i n;simp only[aE]at n;obtain⟨⟨⟨X,Y⟩,Z⟩,qd⟩:=n;split at j
   .split at j
    .split at j
     .exact ajX h t x y m X Y (aK Z) qd ‹_› ‹_› (BQ ‹_›) j z
     .cases j
    .cases j
   .split at j
    .split at j
     .rename_i L;simp only[aE]at L;split at j
      .exact ahn h t x y m X Y (aK Z) qd ‹_› ‹_› L.1.1 L.1.2 L.2 ‹_› j z
      .cases j
     .cases j
    .cases j
   .cases j
  .cases j
 ·
  rename_i x m;split at j
  .exact bC (NM h x m ‹_› j) z
  .cases j
 ·
  rename_i op S x y T m;split at j
  .exact bC (ZB h op S x y T m ‹_› ‹_› j) z
  .split at j
   .exact bC (nZ h _ S x y T m ‹_› ‹_› ‹_› (.inl ⟨rfl,rfl⟩) j) z
   .exact bC (nZ h _ S x y T m ‹_› ‹_› ‹_› (.inr ⟨rfl,rfl⟩) j) z
   .cases j
  .cases j
 ·
  rename_i op t x m;split at j
  .exact bC (ajT h t x m ‹_› j) z
  .exact bC (ajU h t x m ‹_› j) z
  .cases j
 ·
  rename_i src dst x m;split at j
  .exact bC (Qk h src dst x m ‹_› ‹_› ‹_› j) z
  .exact bC (Ql h src dst x m ‹_› ‹_› ‹_› j) z
  .split at j
   .obtain⟨n,j⟩:=aT j;exact anS h src dst x m ‹_› ‹_› ‹_› ‹_› (by have:=s3 n;dsimp only[nY.Lm]at this;omega) j z
   .cases j
  .split at j
   .exact bC (ZF h src dst x m ‹_› ‹_› ‹_› ‹_› j) z
   .cases j
  .cases j
 ·
  rename_i t p q m;split at j
  .split at j
   .split at j
    .obtain⟨n,j⟩:=aT j;exact ahq h t p q m ‹_› ‹_› ‹_› ‹_› ‹_› ‹_› n j z
    .cases j
   .cases j
  .cases j
 ·
  rename_i t x qe A m;split at j
  .split at j
   .split at j
    .obtain⟨n,j⟩:=aT j;simp only[aE,bM]at n;exact bC (TL h t x qe A m ‹_› ‹_› ‹_› ‹_› n.1.1 n.1.2 n.2 j) z
    .cases j
   .cases j
  .split at j
   .split at j
    .obtain⟨n,j⟩:=aT j;simp only[aE,bM]at n;exact bC (ZD h t x qe A m ‹_› ‹_› (aK n.1.1.1) (bu n.1.1.2) (aBI n.1.2) ‹_› ‹_› n.2.1.1 n.2.1.2 n.2.2 j) z
    .cases j
   .split at j
    .split at j
     .obtain⟨n,j⟩:=aT j;simp only[aE,bM]at n;exact bC (TM h t x A m ‹_› ‹_› ‹_› (aK n.1) ‹_› n.2.1 n.2.2 j) z
     .cases j
    .split at j
     .obtain⟨n,j⟩:=aT j;simp only[aE,bM]at n;exact bC (NP h t x _ A m ‹_› ‹_› ‹_› (aK n.1.1) (awz n.1.2) ‹_› ‹_› n.2.1.1 n.2.1.2 n.2.2 j) z
     .cases j
    .cases j
   .cases j
  .cases j
 ·
  rename_i t x f m;split at j
  .split at j
   .exact bC (eL h t x f m ‹_› ‹_› (by exact rfl) j) z
   .split at j
    .exact bC (eL h t x f m ‹_› ‹_› (by exact⟨rfl,_,dm ‹_›⟩) j) z
    .cases j
   .exact bC (eL h t x f m ‹_› ‹_› (by exact rfl) j) z
   .cases j
  .cases j
 ·
  rename_i t x i m;split at j
  .split at j
   .split at j
    .split at j
     .split at j
      .obtain⟨n,j⟩:=aT j;simp only[aE,bM]at n;exact bC (NN h t x i m ‹_› ‹_› ‹_› ‹_› ‹_› (aK n.1) n.2.1 n.2.2 j) z
      .cases j
     .cases j
    .obtain⟨n,j⟩:=aT j;simp only[aE,bM]at n;exact bC (Qm h t x i m ‹_› ‹_› ‹_› (aK n.1.1) (bu n.1.2) n.2.1 n.2.2 j) z
    .cases j
   .split at j
    .obtain⟨n,j⟩:=aT j;simp only[aE,bM]at n;exact bC (NO h t x i m ‹_› ‹_› ‹_› (bu n.1) n.2.1 n.2.2 j) z
    .cases j
   .cases j
  .cases j
 ·
  rename_i t x i m;split at j
  .obtain⟨n,j⟩:=aT j;simp only[aE,bM]at n;exact bC (ZC h t x i m ‹_› ‹_› ‹_› n.1 n.2 j) z
  .cases j
 ·
  rename_i t x f m;split at j
  .rename_i qf H;dsimp only at j;split at j
   .rename_i F;split at j
    .exact bC (BU h t x f m qf H F (b:=true) ‹_› (v:=.agg _) rfl j) z
    .split at j
     .rename_i O _ y R;exact bC (BU h t x f m qf H F (b:=false) O (v:=.c y) ⟨y,R,rfl⟩ j) z
     .cases j
    .cases j
   .cases j
  .cases j
 ·
  rename_i x i m;split at j
  .split at j
   .exact bC (Qj h x i m ‹_› ‹_› j) z
   .cases j
  .cases j
 ·
  rename_i f args M m;split at j
  .rename_i B D;exact awA (show agm P w0 f B from E f (.one B) D) h m j z
  .rename_i B D;exact atu (show ZH P w0 f B from E f (.two B) D) h m j z
  .rename_i B D;exact atw (show aq6 P w0 f B from E f (.sel B) D) h m j z
  .rename_i i D;have A:=E f (.idx i) D;exact anT A.1 A.2 h m j z
  .rename_i e u D;have A:=E f (.ins e u) D;exact azU A.1 A.2 h m j z
  .rename_i e u D;have A:=E f (.del e u) D;exact azV A.1 A.2 h m j z
  .cases j
 ·
  rename_i args M m;split at j
  .rename_i x t H qg;split at j
   .split at j
    .exact bC (Oh h x t m H qg ‹_› (.inl ⟨by assumption,_,by assumption⟩) j) z
    .cases j
   .split at j
    .cases j
    .rename_i qh;exact bC (Oh h x t m H qg ‹_› (.inr ⟨⟨_,by assumption⟩,fun s qi=>qh s qi⟩) j) z
   .cases j
  .cases j
 ·
  rename_i args M m;split at j
  .split at j
   .split at j
    .exact bC (aj9 h m ‹_› ‹_› ‹_› j) z
    .cases j
   .cases j
  .cases j
 ·
  rename_i args M m;split at j
  .split at j
   .split at j
    .exact bC (aka h m ‹_› ‹_› ‹_› j) z
    .cases j
   .cases j
  .cases j
 ·
  rename_i args M m;split at j
  .split at j
   .split at j
    .exact aq4 h m ‹_› ‹_› ‹_› ‹_› ‹_› j z
    .cases j
   .cases j
  .cases j
 ·
  rename_i g first qj m
  split at j
  .split at j
   .exact bC (anO h g first qj m ‹_› ‹_› ‹_› j) z
   .cases j
  .cases j
 .cases j
end
end Go.Am
