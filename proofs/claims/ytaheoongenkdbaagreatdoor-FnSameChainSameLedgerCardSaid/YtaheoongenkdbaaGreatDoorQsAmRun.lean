/- No condition. -/
import Derived.Test.YtaheoongenkdbaaGreatDoorQsAmTwo
set_option linter.all false
namespace Go.Am
open Go.RowKit
section
variable {N:Nat} {P:Program} {w0:eA} {w:World} {G:Gh} {st:St} {a:Act} {U:Type} {k:St->Option U} {r:U} {K:Act->World->Prop} {Q:Exit->Act->World->Prop} {o:Oper}
def PH (h:Inv w0 G st a w)(w1:World)(e:Bool)(d:IntKind):∀(l:List Operand) (x y:Int),YO e st x l=some y ->
  ((l.map a.eval).foldlM (if e then Builtin.max2 else Builtin.min2) (.int d x)).run P w1=.ok (.int d y) w1
 |[],x,y,c=>by cases c;rfl
 |o::l,x,y,c=>by
  simp only[YO]at c;split at c
  .rename_i f b g;have i:a.eval o=.int f b:=by have:=h.ac o;rw[g]at this;exact this
   rw[r8,List.foldlM_cons,i];cases e with
   |true =>
    have:=PH h w1 true d l _ y c;simp only[fE]at this ⊢;rw[Sem.run_bind];exact this
   |false =>
    have:=PH h w1 false d l _ y c;simp only[apa,fD]at this ⊢;rw[Sem.run_bind];exact this
  .cases c
def aj2 (h:Inv w0 G st a w){args:Array Operand}{ts:Array TypeId}(d:o.op=.call {callee:=.builtin .max,args:=args,argTypes:=ts}){x:Operand}{l:List Operand}(e:args.toList=x::l)
  {b:IntKind} {n y:Int} (f:st.ac x=.int b n) (g:YO true st n l=some y) (i:st.pk o.dst (.v (.c (.int b y))) k=some r):bj P w0 w a o k r:=by
 have j:args=(x::l).toArray:=by rw[<-vR (xs:=args),e]
 subst j;have m:a.eval x=.int b n:=by have:=h.ac x;rw[f]at this;exact this
 refine dd (u:=.int b y) h (v:=.v (.c (.int b y))) rfl i fun p q=>?_
 have c:=PH (P:=P) h p true b l n y g;simp only[fE]at c;unfold execOp;rw[d];simp only[resolve,Sem.run_bind,Sem.run_pure,Result.andThen_ok,invoke,builtin,Builtin.max_,List.map_toArray,r8,m];rw[c];rfl
def aj3 (h:Inv w0 G st a w){args:Array Operand}{ts:Array TypeId}(d:o.op=.call {callee:=.builtin .min,args:=args,argTypes:=ts}){x:Operand}{l:List Operand}(e:args.toList=x::l)
  {b:IntKind} {n y:Int} (f:st.ac x=.int b n) (g:YO false st n l=some y) (i:st.pk o.dst (.v (.c (.int b y))) k=some r):bj P w0 w a o k r:=by
 have j:args=(x::l).toArray:=by rw[<-vR (xs:=args),e]
 subst j;have m:a.eval x=.int b n:=by have:=h.ac x;rw[f]at this;exact this
 refine dd (u:=.int b y) h (v:=.v (.c (.int b y))) rfl i fun p q=>?_
 have c:=PH (P:=P) h p false b l n y g;simp only[apa,fD]at c;unfold execOp;rw[d];simp only[resolve,Sem.run_bind,Sem.run_pure,Result.andThen_ok,invoke,builtin,Builtin.min_,List.map_toArray,r8,m];rw[c];rfl
def afP {f:FuncId}{con:Con}(C:afM P w0 f con)(h:Inv w0 G st a w){args:Array Operand}{ts:Array TypeId}(R:o.op=.call {callee:=.value (.func f),args:=args,argTypes:=ts})
  (b:VC con st o.dst args.toList k=some r) (E:∀D cA j p,Inv w0 D cA j p->k cA=some r->Below w.heap.size w p->K j p):o.wp P a w K Q:=by
 unfold Oper.wp;rw[Ia C.1 R];unfold VC at b;split at b
 .rename_i x F;cases q:con.g x with
  |none=>rw[q]at b;cases b
  |some y =>
   rw[q]at b;simp only[ajx]at b;have S:(args.map a.eval)=(args.toList.map a.eval).toArray:=by rw[<-aak,vR]
   show Calls P f _ w _;rw[S];cases M:o.dst with
   |none=>rw[M]at b;cases b
   |some d =>
    rw[M]at b;dsimp only at b;split at b
    .rename_i H;obtain⟨i,b⟩:=aR b;simp only[aD]at i;obtain⟨T,I,Y,Z,L⟩:=h.freeze (jv st args.toList);have u:=HK (ok:=RO T (nN st (jv st args.toList)&&ca (jv st args.toList))) I con.ps args.toList x
      (fun t c v xs O=>YX I (fun z=>by rw[aD]at z;exact z.1) (fun z=>by rw[aD]at z;exact z.2) t c v xs (by rw[ML L]at O;exact O))
      (by rw[afO L];exact F)
     refine Calls.mono (C.2 x y q w h.below _ _ u) fun e p l=>?_
     obtain⟨us,rfl,m,s⟩:=l;unfold WZ at m;rw[H]at m;exact ax6 (K:=fun j n=>n=p->K j n) i.2 I s m (fun g q=>q) (by rw[L.nt];exact i.1) b (fun D cA j n A B l=>E _ _ _ _ A B (l▸s)) rfl
    .rename_i H;obtain⟨i,b⟩:=aR b;simp only[aD]at i;have u:=HK (ok:=fun _=>True) h con.ps args.toList x (fun t c v xs _=>S8 h t c v xs) F;refine Calls.mono (C.2 x y q w h.below _ _ u) fun e p l=>?_
     obtain⟨us,rfl,m,s⟩:=l;unfold WZ at m;rw[H]at m;exact ax6 (K:=fun j n=>n=p->K j n) (f:=true) i.2 h s m (fun g q=>.inl q) i.1 b (fun D cA j n A B l=>E _ _ _ _ A B (l▸s)) rfl
    .rename_i W X;obtain⟨i,b⟩:=aR b;simp only[aD]at i;have u:=HK (ok:=fun _=>True) h con.ps args.toList x (fun t c v xs _=>S8 h t c v xs) F;refine Calls.mono (C.2 x y q w h.below _ _ u) fun e p l=>?_
     obtain⟨us,rfl,m,s⟩:=l;unfold WZ at m;split at m
     .exact absurd ‹_› W
     .exact absurd ‹_› X
     .exact aAS (K:=fun j n=>n=p->K j n) i.2 h s m i.1.2 i.1.1 b (fun D cA j n A B l=>E _ _ _ _ A B (l▸s)) rfl
 .cases b
def awi {f:FuncId}{con:Con}(b:afM P w0 f con)(h:Inv w0 G st a w){args:Array Operand}{ts:Array TypeId}(c:o.op=.call {callee:=.value (.func f),args:=args,argTypes:=ts})
  (d:VC con st o.dst args.toList k=some r) (e:pD w0 k r K):o.wp P a w K Q:=afP b h c d fun j cA l m g i _=>e _ _ _ _ g i
def Inv.more (h:Inv w0 G st a w){w1:World}(c:Below w.heap.size w w1):Inv w0 G st a w1:=by
 have f:=azh h c;have j:=jy.refl G st.bx st.bl;have y:=h.below.size;refine⟨h.nw,h.rok,h.below.step c.os c.tape c.output c.size fun k p _=>c.block k (by omega),h.defers,h.size,h.sp.mono f j,h.Eo f,fun t v s=>(h.tm t v s).mono f j,?_,?_,?_⟩
 .intro d l u;obtain⟨cs,e,m,i,n⟩:=h.bx d l u;have hlt:=(h.own _ _ i).2.1;exact⟨cs,e,(c.block _ hlt).trans m,i,n.imp fun _ _=>bm.mono f j⟩
 .intro id b x;exact(h.bl id b x).mono f rfl fun z g A q=>⟨q,c.block _ (h.own _ _ q).2.1⟩
 .intro g k p;obtain⟨m,i,n⟩:=h.own g k p;exact⟨m,Dj i c.size,n⟩
def anQ {f:FuncId}{i:Idx}(z:Wo P f)(hi:∀W,ez w0.fr w0.w W->aAQ P f i W)(h:Inv w0 G st a w){args:Array Operand}{ts:Array TypeId}(A:o.op=.call {callee:=.value (.func f),args:=args,argTypes:=ts})
  (d:aqL i st o.dst args.toList k=some r) (B:pD w0 k r K):o.wp P a w K Q:=by
 unfold Oper.wp;rw[Ia z A];unfold aqL at d;split at d
 .rename_i s x C;split at d
  .rename_i g b D;split at d
   .rename_i j;have j:=aI j;split at d
    .rename_i l E;split at d
     .rename_i y F;split at d
      .rename_i xs H;have I:args.map a.eval=#[a.eval s,a.eval x]:=by
        have L:args=#[s,x]:=by rw[<-vR (xs:=args),C]
        rw[L];simp
       have m:=h.ac x;rw[D]at m;have M:a.eval x=.func (.func i.g) #[] #[.pointer (some ⟨G.hb b,0,none⟩)]:=by rw[<-j];exact m.2
       obtain⟨cs,e,O,bd,hrel⟩:=h.bx b l E;obtain⟨qa,n,p,q,R,_⟩:=Nj (ok:=fun _=>True) (fun t c v S _=>S8 h t c v S) hrel F;have T:n=[]:=by
        cases n with
        |nil=>rfl|cons _ _=>exact R.elim
       subst T;rw[fS]at p;rw[<-p]at q;have X:=S8 h i.a.1 (st.ac s) (a.eval s) xs (h.ac s) H 0;show Calls P f _ w _;rw[I,M];refine Calls.mono (hi w h.below xs y (a.eval s) (G.hb b) cs e 0 X O q) fun qb qd Y=>?_
       obtain⟨rfl,Z⟩:=Y;exact vX (h.more Z) (v:=.v (.c (.int .i64 (oK (fun x=>i.p x y) xs 0)))) (u:=.int .i64 (oK (fun x=>i.p x y) xs 0)) rfl d B
      .cases d
     .cases d
    .cases d
   .cases d
  .cases d
 .cases d
def aq8 {ok:Nat->Prop}{t:Ty}{cs:List Value}{xs:List t.D}(b:0<t.n)(n:cs.length=xs.length*t.n)(h:eJ w ok t cs xs):∀u∈cs,u.oneCell'=true:=by
 intro u i;obtain⟨q,j,rfl⟩:=aqD.1 i;have l:q/t.n<xs.length:=by rw[avN b];omega
 obtain⟨c,d,m⟩:=h (q/t.n) xs[q/t.n] (lS l);have f:q%t.n<c.length:=by rw[d.len];exact YN _ b
 have g:=m (q%t.n) c[q%t.n] (lS f);have e:q/t.n*t.n+q%t.n=q:=by rw[Nat.mul_comm];exact Nat.div_add_mod q t.n
 rw[e,lS j]at g;rw[eO g];exact d.one _ (cy f)
def aty {ok:Nat->Prop}{t:Ty}{cs:List Value}{xs:List t.D}(d:eJ w ok t cs xs)(m:Nat):eJ w ok t (cs.drop (m*t.n)) (xs.drop m):=by intro e x b;rw[afC]at b;obtain⟨c,f,g⟩:=d (m+e) x b;refine⟨c,f,fun i u h=>?_⟩;rw[afC,<-SP,<-J7];exact g i u h
def azs {f:FuncId}{e:TypeId}{u:Ty}(qa:Wo P f)(hi:∀W,ez w0.fr w0.w W->apn P f e u W)(h:Inv w0 G st a w){args:Array Operand}{ts:Array TypeId}(qb:o.op=.call {callee:=.value (.func f),args:=args,argTypes:=ts})
  (c:avW e u st o.dst args.toList k=some r) (qd:pD w0 k r K):o.wp P a w K Q:=by
 unfold Oper.wp;rw[Ia qa qb];unfold avW at c;split at c
 .rename_i d s i v qe qf;split at c
  .rename_i n F qg qh;split at c
   .rename_i b qi;split at c
    .rename_i z;rw[aD]at z;split at c
     .rename_i H;split at c
      .rename_i xs t qD hold;split at c
       .rename_i qE qj;obtain⟨I,c⟩:=aR c;simp only[aD,bV]at I;obtain⟨⟨⟨⟨qk,ql⟩,qF⟩,qm⟩,qn⟩:=I;obtain⟨be,j,bxs,A,qG⟩:=b;dsimp only at z H c qm qn;have qo:=Ty.beq_eq H;subst qo;obtain⟨qp,B⟩:=z;have B:=aI B;subst B;have x:0<j.n:=SO (bu qk);have qq:args.map a.eval=#[a.eval s,.int .i64 ((n.toNat:Nat):Int),a.eval v]:=by
         have qt:args=#[s,i,v]:=by rw[<-vR (xs:=args),qf]
         have y:=h.ac i;rw[qg]at y;have y:a.eval i=.int .i64 n:=y;rw[qt,ao9 ql,<-y];simp
        have L:=h.ac v;rw[qh]at L;have M:a.eval v=G.hv F:=L.2.2;obtain⟨C,hd1,qu,D⟩:=(h.bl F _ (dx qi)).wr qp;obtain⟨qv,qH,qI,⟨cs,bd,O⟩,R⟩:=PG h (h.ac s) hold x;have qw:∀g,(a.eval s).ownBlock=some g->(a.eval v).ownBlock≠some g:=by intro g E S;obtain⟨id,T,X⟩:=R g E;rw[M]at S;rw[qu g S]at T;cases T;rw[qj]at X;cases X
        show Calls P f _ w _;rw[qq];refine Calls.mono (hi w h.below (a.eval s) (a.eval v) xs.length bxs.length n.toNat cs C bd (by rw[M];exact hd1) qw (by omega) (by omega) (by omega) (aq8 x bd.1 O) (aq8 x hd1.1 D)) fun qK qx qy=>?_
        obtain⟨Y,rfl,qz,E,m⟩:=qy;have qA:∀q,RO G t q->RO G (t&&(A || flat j)) q:=fun q l=>l.H4 fun p=>by rw[aD]at p;exact p.1
        have qB:eJ w (RO G (t&&(A || flat j))) j C bxs:=by
         cases qC:flat j with
         |true=>exact ajU qC D|false=>exact kF (fun q l=>l.H4 fun p=>by simp at p;exact p.2) D
        have Z:=kF qA O;have hlt:(cs.take (n.toNat*j.n)).length=(xs.take n.toNat).length*j.n:=by rw[bz,bz,bd.1,YJ (Fa _ (by omega)),YJ (by omega)]
        rw[qe];refine Nn qv (a.eval s).ownBlock E R d ⟨be,j,xs.take n.toNat++bxs++xs.drop n.toNat,t&&(A || flat j),true⟩ rfl x Y (cs.take (n.toNat*j.n)++C++cs.drop (n.toNat*j.n)) ?_ ?_ (VG ?_ (VG hlt (ajV Z _) qB) (aty Z _)) c qd
        .have:(xs.take n.toNat++bxs++xs.drop n.toNat).length=xs.length+bxs.length:=by simp only[aL,bz,a1];omega
         show qx.ownsRow 0 be j.n Y (xs.take n.toNat++bxs++xs.drop n.toNat).length _;rw[this];exact qz
        .intro q l;rcases m with m|m
         .exact .inr (m▸l)
         .exact .inl (m q l)
        .rw[aL,hlt,hd1.1,aL,J7]
       .cases c
      .cases c
     .cases c
    .cases c
   .cases c
  .cases c
 .cases c
def azt {f:FuncId}{e:TypeId}{u:Ty}(z:Wo P f)(hi:∀W,ez w0.fr w0.w W->ax4 P f e u W)(h:Inv w0 G st a w){args:Array Operand}{ts:Array TypeId}(A:o.op=.call {callee:=.value (.func f),args:=args,argTypes:=ts})
  (b:avX e u st o.dst args.toList k=some r) (B:pD w0 k r K):o.wp P a w K Q:=by
 unfold Oper.wp;rw[Ia z A];unfold avX at b;split at b
 .rename_i d s i l C D;split at b
  .rename_i n m E F;split at b
   .rename_i xs H qa hold;obtain⟨v,b⟩:=aR b;simp only[aD,bV]at v;obtain⟨⟨⟨I,L⟩,qb⟩,qd⟩:=v;have p:0<u.n:=SO (bu I);have M:args.map a.eval=#[a.eval s,.int .i64 ((n.toNat:Nat):Int),.int .i64 ((m.toNat:Nat):Int)]:=by
     have O:args=#[s,i,l]:=by rw[<-vR (xs:=args),D]
     have g:=h.ac i;rw[E]at g;have g:a.eval i=.int .i64 n:=g;have j:=h.ac l;rw[F]at j;have j:a.eval l=.int .i64 m:=j;rw[O,ao9 L,ao9 (by omega),<-g,<-j];simp
    obtain⟨R,qe,qf,⟨cs,bd,t⟩,S⟩:=PG h (h.ac s) hold p;show Calls P f _ w _;rw[M];refine Calls.mono (hi w h.below (a.eval s) xs.length n.toNat m.toNat cs bd (by omega) (by omega) (aq8 p bd.1 t)) fun qg T X=>?_
    obtain⟨x,rfl,Y,Z,c⟩:=X;have hlt:(cs.take (n.toNat*u.n)).length=(xs.take n.toNat).length*u.n:=by rw[bz,bz,bd.1,YJ (Fa _ (by omega)),YJ (by omega)]
    rw[C];refine Nn R (a.eval s).ownBlock Z S d ⟨e,u,xs.take n.toNat++xs.drop m.toNat,H,true⟩ rfl p x (cs.take (n.toNat*u.n)++cs.drop (m.toNat*u.n)) ?_ ?_ (VG hlt (ajV t _) (aty t _)) b B
    .have:(xs.take n.toNat++xs.drop m.toNat).length=n.toNat+(xs.length-m.toNat):=by simp only[aL,bz,a1];omega
     show T.ownsRow 0 e u.n x (xs.take n.toNat++xs.drop m.toNat).length _;rw[this];exact Y
    .intro q y;rcases c with c|c
     .exact .inr (c▸y)
     .exact .inl (c q y)
   .cases b
  .cases b
 .cases b
def atz (h:Inv w0 G st a w)(t:TypeId)(x:Operand)(s:o.op=.box t x){d:Tmp}(z:o.dst=some d){u:Ty}{y:u.D}(A:im st u (st.dO x).cells=some (y,[]))
  (B:ck (Nat.blt d st.nt&&(st.dO x).kn&&nN st (st.dO x).cells) (k ((st.freeze (st.dO x).cells).put d (.v (.c (.Sx (ca (st.dO x).cells) u y 0)))))=some r) (C:pD w0 k r K):o.wp P a w K Q:=by
 obtain⟨l,f⟩:=aR B;simp only[aD]at l;obtain⟨⟨D,E⟩,F⟩:=l;refine H5 (v:=.pointer (some ⟨w.heap.size,0,none⟩)) (w':=w.alloc (.cells (a.eval x).cells t)) ?_ ?_
 .unfold execOp;rw[s];simp[Instr.box,AM]
 .rw[z];obtain⟨g,c,H,I,m⟩:=Inv.freeze (st.dO x).cells h;have L:=((h.dO x).cells E).imp fun _ _=>bm.mono H I
  obtain⟨W,n,e,p,M,_⟩:=Nj (ok:=RO g (ca (st.dO x).cells)) (Nl (bx:=st.bx) c F fun h=>h) L (by rw[sL m];exact A);have O:n=[]:=by
   cases n with
   |nil=>rfl|cons _ _=>exact M.elim
  subst O;rw[fS]at e;rw[<-e]at p;have j:Below w.heap.size w (w.alloc (.cells (a.eval x).cells t)):=⟨rfl,rfl,rfl,by simp,fun k f=>Below.heap_alloc _ _ _ f⟩;have R:=c.more j;have bd:g.own w.heap.size=none:=by
   cases S:g.own w.heap.size with
   |none=>rfl|some q=>exact absurd (c.own _ q S).2.1 (SQ _)
  refine C _ _ _ _ (R.put d (by rw[m.nt];exact fV D) (v:=.v (.c (.Sx (ca (st.dO x).cells) u y 0))) ?_) f;refine⟨w.heap.size,0,(a.eval x).cells.toList,by simp,by simp,⟨bd,.inl (c.atl (bP _))⟩,p.mono j.size fun b T cU=>⟨cU,j.block b T⟩,fun i v e=>?_⟩;rw[cell_of_row _ w.heap.size (0+i) (a.eval x).cells t (0,0) (heap_alloc_new w _),vd];simpa using e
def vl {C:FuncId->Option Any}(E:∀f B,C f=some B->No P w0 f B)(h:Inv w0 G st a w)(j:fo P C (nT.J9 N) o st k=some r)(n:pD w0 k r K):o.wp P a w K Q:=by
 unfold fo at j;split at j
 .exact bC (HH h _ (.inl ‹_›) j) n
 .exact bC (HH h _ (.inr ‹_›) j) n
 ·
  rename_i c x y m;split at j
  .exact bC (adl h c x y m ‹_› j) n
  .cases j
 ·
  rename_i t x m;split at j
  .rename_i d I;split at j
   .split at j
    .split at j
     .exact atz h t x m I ‹_› j n
     .cases j
    .cases j
   .split at j
    .exact azi h t x m I ‹_› j n
    .cases j
  .cases j
 ·
  rename_i t m;split at j
  .rename_i d I;split at j
   .split at j
    .exact ato h t m I ‹_› ‹_› j n
    .cases j
   .cases j
  .cases j
 ·
  rename_i t parts m;split at j
  .split at j
   .exact bC (YU h t parts m ‹_› ‹_› ‹_› ‹_› j) n
   .cases j
  .cases j
 ·
  rename_i t len parts m;split at j
  .split at j
   .split at j
    .split at j
     .exact adq h t len parts m ‹_› ‹_› ‹_› ‹_› j n
     .cases j
    .cases j
   .cases j
  .cases j
 ·
  rename_i t x m;split at j
  .rename_i l off W;dsimp only at j;split at j
   .rename_i F;split at j
    .exact bC (HI h t x m W F (b:=true) ‹_› (v:=.agg _) rfl j) n
    .split at j
     .rename_i O _ y R;exact bC (HI h t x m W F (b:=false) O (v:=.c y) ⟨y,R,rfl⟩ j) n
     .cases j
    .cases j
   .cases j
  .cases j
 ·
  rename_i t x y m;split at j
  .rename_i z;simp only[aD]at z;obtain⟨⟨⟨X,Y⟩,Z⟩,qa⟩:=z;split at j
   .split at j
    .split at j
     .exact ajQ h t x y m X Y (aI Z) qa ‹_› ‹_› (Ep ‹_›) j n
     .cases j
    .cases j
   .split at j
    .split at j
     .rename_i L;simp only[aD]at L;split at j
      .exact ag7 h t x y m X Y (aI Z) qa ‹_› ‹_› L.1.1 L.1.2 L.2 ‹_› j n
      .cases j
     .cases j
    .cases j
   .cases j
  .cases j
 ·
  rename_i x m;split at j
  .exact bC (MH h x m ‹_› j) n
  .cases j
 ·
  rename_i op S x y T m;split at j
  .exact bC (YR h op S x y T m ‹_› ‹_› j) n
  .split at j
   .exact bC (ns h _ S x y T m ‹_› ‹_› ‹_› (.inl ⟨rfl,rfl⟩) j) n
   .exact bC (ns h _ S x y T m ‹_› ‹_› ‹_› (.inr ⟨rfl,rfl⟩) j) n
   .cases j
  .cases j
 ·
  rename_i op t x m;split at j
  .exact bC (ajM h t x m ‹_› j) n
  .exact bC (ajN h t x m ‹_› j) n
  .cases j
 ·
  rename_i src dst x m;split at j
  .exact bC (PC h src dst x m ‹_› ‹_› ‹_› j) n
  .exact bC (PD h src dst x m ‹_› ‹_› ‹_› j) n
  .split at j
   .obtain⟨z,j⟩:=aR j;exact anP h src dst x m ‹_› ‹_› ‹_› ‹_› (by have:=lT z;dsimp only[nT.J9]at this;omega) j n
   .cases j
  .split at j
   .exact bC (YV h src dst x m ‹_› ‹_› ‹_› ‹_› j) n
   .cases j
  .cases j
 ·
  rename_i t p q m;split at j
  .split at j
   .split at j
    .obtain⟨z,j⟩:=aR j;exact aha h t p q m ‹_› ‹_› ‹_› ‹_› ‹_› ‹_› z j n
    .cases j
   .cases j
  .cases j
 ·
  rename_i t x qb A m;split at j
  .split at j
   .split at j
    .obtain⟨z,j⟩:=aR j;simp only[aD,bV]at z;exact bC (S4 h t x qb A m ‹_› ‹_› ‹_› ‹_› z.1.1 z.1.2 z.2 j) n
    .cases j
   .cases j
  .split at j
   .split at j
    .obtain⟨z,j⟩:=aR j;simp only[aD,bV]at z;exact bC (YT h t x qb A m ‹_› ‹_› (aI z.1.1) (bu z.1.2) ‹_› ‹_› z.2.1.1 z.2.1.2 z.2.2 j) n
    .cases j
   .split at j
    .split at j
     .obtain⟨z,j⟩:=aR j;simp only[aD,bV]at z;exact bC (S5 h t x A m ‹_› ‹_› ‹_› (aI z.1) ‹_› z.2.1 z.2.2 j) n
     .cases j
    .split at j
     .obtain⟨z,j⟩:=aR j;simp only[aD,bV]at z;exact bC (MK h t x _ A m ‹_› ‹_› ‹_› (aI z.1) ‹_› ‹_› z.2.1.1 z.2.1.2 z.2.2 j) n
     .cases j
    .cases j
   .cases j
  .cases j
 ·
  rename_i t x f m;split at j
  .split at j
   .exact bC (eP h t x f m ‹_› ‹_› (by exact rfl) j) n
   .split at j
    .exact bC (eP h t x f m ‹_› ‹_› (by exact⟨rfl,_,dx ‹_›⟩) j) n
    .cases j
   .exact bC (eP h t x f m ‹_› ‹_› (by exact rfl) j) n
   .cases j
  .cases j
 ·
  rename_i t x i m;split at j
  .split at j
   .split at j
    .split at j
     .split at j
      .obtain⟨z,j⟩:=aR j;simp only[aD,bV]at z;exact bC (MI h t x i m ‹_› ‹_› ‹_› ‹_› ‹_› (aI z.1) z.2.1 z.2.2 j) n
      .cases j
     .cases j
    .obtain⟨z,j⟩:=aR j;simp only[aD,bV]at z;exact bC (PE h t x i m ‹_› ‹_› ‹_› (aI z.1.1) (bu z.1.2) z.2.1 z.2.2 j) n
    .cases j
   .split at j
    .obtain⟨z,j⟩:=aR j;simp only[aD,bV]at z;exact bC (MJ h t x i m ‹_› ‹_› ‹_› (bu z.1) z.2.1 z.2.2 j) n
    .cases j
   .cases j
  .cases j
 ·
  rename_i t x i m;split at j
  .obtain⟨z,j⟩:=aR j;simp only[aD,bV]at z;exact bC (YS h t x i m ‹_› ‹_› ‹_› z.1 z.2 j) n
  .cases j
 ·
  rename_i t x f m;split at j
  .rename_i qd H;dsimp only at j;split at j
   .rename_i F;split at j
    .exact bC (AN h t x f m qd H F (b:=true) ‹_› (v:=.agg _) rfl j) n
    .split at j
     .rename_i O _ y R;exact bC (AN h t x f m qd H F (b:=false) O (v:=.c y) ⟨y,R,rfl⟩ j) n
     .cases j
    .cases j
   .cases j
  .cases j
 ·
  rename_i x i m;split at j
  .split at j
   .exact bC (PB h x i m ‹_› ‹_› j) n
   .cases j
  .cases j
 ·
  rename_i f args M m;split at j
  .rename_i B D;exact awi (show afM P w0 f B from E f (.one B) D) h m j n
  .rename_i B D;exact atv (show YW P w0 f B from E f (.two B) D) h m j n
  .rename_i B D;exact atx (show aq5 P w0 f B from E f (.sel B) D) h m j n
  .rename_i i D;have A:=E f (.idx i) D;exact anQ A.1 A.2 h m j n
  .rename_i e u D;have A:=E f (.ins e u) D;exact azs A.1 A.2 h m j n
  .rename_i e u D;have A:=E f (.del e u) D;exact azt A.1 A.2 h m j n
  .cases j
 ·
  rename_i args M m;split at j
  .rename_i x t H qe;split at j
   .split at j
    .exact bC (Ni h x t m H qe ‹_› (.inl ⟨by assumption,_,by assumption⟩) j) n
    .cases j
   .split at j
    .cases j
    .rename_i qf;exact bC (Ni h x t m H qe ‹_› (.inr ⟨⟨_,by assumption⟩,fun s qg=>qf s qg⟩) j) n
   .cases j
  .cases j
 ·
  rename_i args M m;split at j
  .split at j
   .split at j
    .exact bC (aj2 h m ‹_› ‹_› ‹_› j) n
    .cases j
   .cases j
  .cases j
 ·
  rename_i args M m;split at j
  .split at j
   .split at j
    .exact bC (aj3 h m ‹_› ‹_› ‹_› j) n
    .cases j
   .cases j
  .cases j
 ·
  rename_i args M m;split at j
  .split at j
   .split at j
    .exact aq3 h m ‹_› ‹_› ‹_› ‹_› ‹_› j n
    .cases j
   .cases j
  .cases j
 ·
  rename_i g first qh m
  split at j
  .split at j
   .exact bC (anL h g first qh m ‹_› ‹_› ‹_› j) n
   .cases j
  .cases j
 .cases j
end
end Go.Am
