/- No condition. -/
import Derived.Test.YtaheoongenkdbaaGreatDoorQeAmTwo
set_option linter.all false
namespace Go.Am
open Go.RowKit
section
variable {N:Nat} {P:Program} {w0:eH} {w:World} {G:Gh} {st:St} {a:Act} {U:Type} {k:St->Option U} {r:U} {K:Act->World->Prop} {Q:Exit->Act->World->Prop} {o:Oper}
def QP (h:Inv w0 G st a w)(w1:World)(e:Bool)(d:IntKind):∀(l:List Operand) (x y:Int),Z5 e st x l=some y ->
  ((l.map a.eval).foldlM (if e then Builtin.max2 else Builtin.min2) (.int d x)).run P w1=.ok (.int d y) w1
 |[],x,y,c=>by cases c;rfl
 |o::l,x,y,c=>by
  simp only[Z5]at c;split at c
  .rename_i f b g;have i:a.eval o=.int f b:=by have:=h.ac o;rw[g]at this;exact this
   rw[sG,List.foldlM_cons,i];cases e with
   |true =>
    have:=QP h w1 true d l _ y c;simp only[fX]at this ⊢;rw[Sem.run_bind];exact this
   |false =>
    have:=QP h w1 false d l _ y c;simp only[aeJ,fW]at this ⊢;rw[Sem.run_bind];exact this
  .cases c
def alT (h:Inv w0 G st a w){args:Array Operand}{ts:Array TypeId}(d:o.op=.call {callee:=.builtin .max,args:=args,argTypes:=ts}){x:Operand}{l:List Operand}(e:args.toList=x::l)
  {b:IntKind} {n y:Int} (f:st.ac x=.int b n) (g:Z5 true st n l=some y) (i:st.pk o.dst (.v (.c (.int b y))) k=some r):bu P w0 w a o k r:=by
 have j:args=(x::l).toArray:=by rw[<-w2 (xs:=args),e]
 subst j;have m:a.eval x=.int b n:=by have:=h.ac x;rw[f]at this;exact this
 refine dh (u:=.int b y) h (v:=.v (.c (.int b y))) rfl i fun p q=>?_
 have c:=QP (P:=P) h p true b l n y g;simp only[fX]at c;unfold execOp;rw[d];simp only[resolve,Sem.run_bind,Sem.run_pure,Result.andThen_ok,invoke,builtin,Builtin.max_,List.map_toArray,sG,m];rw[c];rfl
def alU (h:Inv w0 G st a w){args:Array Operand}{ts:Array TypeId}(d:o.op=.call {callee:=.builtin .min,args:=args,argTypes:=ts}){x:Operand}{l:List Operand}(e:args.toList=x::l)
  {b:IntKind} {n y:Int} (f:st.ac x=.int b n) (g:Z5 false st n l=some y) (i:st.pk o.dst (.v (.c (.int b y))) k=some r):bu P w0 w a o k r:=by
 have j:args=(x::l).toArray:=by rw[<-w2 (xs:=args),e]
 subst j;have m:a.eval x=.int b n:=by have:=h.ac x;rw[f]at this;exact this
 refine dh (u:=.int b y) h (v:=.v (.c (.int b y))) rfl i fun p q=>?_
 have c:=QP (P:=P) h p false b l n y g;simp only[aeJ,fW]at c;unfold execOp;rw[d];simp only[resolve,Sem.run_bind,Sem.run_pure,Result.andThen_ok,invoke,builtin,Builtin.min_,List.map_toArray,sG,m];rw[c];rfl
def ahs {f:FuncId}{con:Con}(C:ahp P w0 f con)(h:Inv w0 G st a w){args:Array Operand}{ts:Array TypeId}(R:o.op=.call {callee:=.value (.func f),args:=args,argTypes:=ts})
  (b:WY con st o.dst args.toList k=some r) (E:∀D cy j p,Inv w0 D cy j p->k cy=some r->Below w.heap.size w p->K j p):o.wp P a w K Q:=by
 unfold Oper.wp;rw[Ji C.1 R];unfold WY at b;split at b
 .rename_i x F;cases q:con.g x with
  |none=>rw[q]at b;cases b
  |some y =>
   rw[q]at b;simp only[alf]at b;have S:(args.map a.eval)=(args.toList.map a.eval).toArray:=by rw[<-abE,w2]
   show Calls P f _ w _;rw[S];cases M:o.dst with
   |none=>rw[M]at b;cases b
   |some d =>
    rw[M]at b;dsimp only at b;split at b
    .rename_i H;obtain⟨i,b⟩:=aU b;simp only[aA]at i;obtain⟨T,I,Y,Z,L⟩:=h.freeze (j2 st args.toList);have u:=IQ (ok:=RO T (oy st (j2 st args.toList)&&cj (j2 st args.toList))) I con.ps args.toList x
      (fun t c v xs O=>aae I (fun z=>by rw[aA]at z;exact z.1) (fun z=>by rw[aA]at z;exact z.2) t c v xs (by rw[NN L]at O;exact O))
      (by rw[ahr L];exact F)
     refine Calls.mono (C.2 x y q w h.below _ _ u) fun e p l=>?_
     obtain⟨us,rfl,m,s⟩:=l;unfold Yj at m;rw[H]at m;exact aAU (K:=fun j n=>n=p->K j n) i.2 I s m (fun g q=>q) (by rw[L.nt];exact i.1) b (fun D cy j n A B l=>E _ _ _ _ A B (l▸s)) rfl
    .rename_i H;obtain⟨i,b⟩:=aU b;simp only[aA]at i;have u:=IQ (ok:=fun _=>True) h con.ps args.toList x (fun t c v xs _=>Uj h t c v xs) F;refine Calls.mono (C.2 x y q w h.below _ _ u) fun e p l=>?_
     obtain⟨us,rfl,m,s⟩:=l;unfold Yj at m;rw[H]at m;exact aAU (K:=fun j n=>n=p->K j n) (f:=true) i.2 h s m (fun g q=>.inl q) i.1 b (fun D cy j n A B l=>E _ _ _ _ A B (l▸s)) rfl
    .rename_i W X;obtain⟨i,b⟩:=aU b;simp only[aA]at i;have u:=IQ (ok:=fun _=>True) h con.ps args.toList x (fun t c v xs _=>Uj h t c v xs) F;refine Calls.mono (C.2 x y q w h.below _ _ u) fun e p l=>?_
     obtain⟨us,rfl,m,s⟩:=l;unfold Yj at m;split at m
     .exact absurd ‹_› W
     .exact absurd ‹_› X
     .exact aDX (K:=fun j n=>n=p->K j n) i.2 h s m i.1.2 i.1.1 b (fun D cy j n A B l=>E _ _ _ _ A B (l▸s)) rfl
 .cases b
def ay4 {f:FuncId}{con:Con}(b:ahp P w0 f con)(h:Inv w0 G st a w){args:Array Operand}{ts:Array TypeId}(c:o.op=.call {callee:=.value (.func f),args:=args,argTypes:=ts})
  (d:WY con st o.dst args.toList k=some r) (e:ra w0 k r K):o.wp P a w K Q:=ahs b h c d fun j cy l m g i _=>e _ _ _ _ g i
def Inv.more (h:Inv w0 G st a w){w1:World}(c:Below w.heap.size w w1):Inv w0 G st a w1:=by
 have f:=aCk h c;have j:=j5.refl G st.bx st.bl;have y:=h.below.size;refine⟨h.nw,h.rok,h.below.step c.os c.tape c.output c.size fun k p _=>c.block k (by omega),h.defers,h.size,h.sp.mono f j,h.Fq f,fun t v s=>(h.tm t v s).mono f j,?_,?_,?_⟩
 .intro d l u;obtain⟨cs,e,m,i,n⟩:=h.bx d l u;have hlt:=(h.own _ _ i).2.1;exact⟨cs,e,(c.block _ hlt).trans m,i,n.imp fun _ _=>bz.mono f j⟩
 .intro id b x;exact(h.bl id b x).mono f rfl fun z g A q=>⟨q,c.block _ (h.own _ _ q).2.1⟩
 .intro g k p;obtain⟨m,i,n⟩:=h.own g k p;exact⟨m,En i c.size,n⟩
def ap3 {f:FuncId}{i:Idx}(z:XG P f)(A:∀W,eG w0.fr w0.w W->aDV P f i W)(h:Inv w0 G st a w){args:Array Operand}{ts:Array TypeId}(B:o.op=.call {callee:=.value (.func f),args:=args,argTypes:=ts})
  (d:as7 i st o.dst args.toList k=some r) (C:ra w0 k r K):o.wp P a w K Q:=by
 unfold Oper.wp;rw[Ji z B];unfold as7 at d;split at d
 .rename_i s x D;split at d
  .rename_i g b E;split at d
   .rename_i j;have j:=aJ j;split at d
    .rename_i l F;split at d
     .rename_i y H;split at d
      .rename_i xs I;have L:args.map a.eval=#[a.eval s,a.eval x]:=by
        have M:args=#[s,x]:=by rw[<-w2 (xs:=args),D]
        rw[M];simp
       have m:=h.ac x;rw[E]at m;have O:a.eval x=.func (.func i.g) #[] #[.pointer (some ⟨G.hb b,0,none⟩)]:=by rw[<-j];exact m.2
       obtain⟨cs,e,R,bm,hrel⟩:=h.bx b l F;obtain⟨qb,n,p,q,S,_⟩:=Ok (ok:=fun _=>True) (fun t c v T _=>Uj h t c v T) hrel H;have X:n=[]:=by
        cases n with
        |nil=>rfl|cons _ _=>exact S.elim
       subst X;rw[fU]at p;rw[<-p]at q;have Y:=Uj h i.a.1 (st.ac s) (a.eval s) xs (h.ac s) I 0;show Calls P f _ w _;rw[L,O];refine Calls.mono (A w h.below xs y (a.eval s) (G.hb b) cs e 0 Y R q) fun qd qe Z=>?_
       obtain⟨rfl,qa⟩:=Z;exact w6 (h.more qa) (v:=.v (.c (.int .i64 (pz (fun x=>i.p x y) xs 0)))) (u:=.int .i64 (pz (fun x=>i.p x y) xs 0)) rfl d C
      .cases d
     .cases d
    .cases d
   .cases d
  .cases d
 .cases d
def atu {ok:Nat->Prop}{t:Ty}{cs:List Value}{xs:List t.D}(b:0<t.n)(n:cs.length=xs.length*t.n)(h:eT w ok t cs xs):∀u∈cs,u.oneCell'=true:=by
 intro u i;obtain⟨q,j,rfl⟩:=asW.1 i;have l:q/t.n<xs.length:=by rw[ayB b];omega
 obtain⟨c,d,m⟩:=h (q/t.n) xs[q/t.n] (mm l);have f:q%t.n<c.length:=by rw[d.len];exact Z4 _ b
 have g:=m (q%t.n) c[q%t.n] (mm f);have e:q/t.n*t.n+q%t.n=q:=by rw[Nat.mul_comm];exact Nat.div_add_mod q t.n
 rw[e,mm j]at g;rw[eE g];exact d.one _ (b2 f)
def awa {ok:Nat->Prop}{t:Ty}{cs:List Value}{xs:List t.D}(d:eT w ok t cs xs)(m:Nat):eT w ok t (cs.drop (m*t.n)) (xs.drop m):=by intro e x b;rw[ahf]at b;obtain⟨c,f,g⟩:=d (m+e) x b;refine⟨c,f,fun i u h=>?_⟩;rw[ahf,<-T1,<-Li];exact g i u h
def aCv {f:FuncId}{e:TypeId}{u:Ty}(qa:XG P f)(qb:∀W,eG w0.fr w0.w W->arx P f e u W)(h:Inv w0 G st a w){args:Array Operand}{ts:Array TypeId}(qd:o.op=.call {callee:=.value (.func f),args:=args,argTypes:=ts})
  (c:ayI e u st o.dst args.toList k=some r) (qe:ra w0 k r K):o.wp P a w K Q:=by
 unfold Oper.wp;rw[Ji qa qd];unfold ayI at c;split at c
 .rename_i d s i v qf qg;split at c
  .rename_i n F qh qi;split at c
   .rename_i b qj;split at c
    .rename_i z;rw[aA]at z;split at c
     .rename_i H;split at c
      .rename_i xs t qE hold;split at c
       .rename_i qF qk;obtain⟨I,c⟩:=aU c;simp only[aA,bR]at I;obtain⟨⟨⟨⟨ql,qm⟩,qG⟩,qn⟩,qo⟩:=I;obtain⟨be,j,bxs,A,qH⟩:=b;dsimp only at z H c qn qo;have qp:=Ty.beq_eq H;subst qp;obtain⟨qq,B⟩:=z;have B:=aJ B;subst B;have x:0<j.n:=TZ (bD ql);have qt:args.map a.eval=#[a.eval s,.int .i64 ((n.toNat:Nat):Int),a.eval v]:=by
         have qu:args=#[s,i,v]:=by rw[<-w2 (xs:=args),qg]
         have y:=h.ac i;rw[qh]at y;have y:a.eval i=.int .i64 n:=y;rw[qu,Oe qm,<-y];simp
        have L:=h.ac v;rw[qi]at L;have M:a.eval v=G.hv F:=L.2.2;obtain⟨C,hd1,qv,D⟩:=(h.bl F _ (dA qj)).wr qq;obtain⟨qw,qI,qK,⟨cs,bm,O⟩,R⟩:=QO h (h.ac s) hold x;have qx:∀g,(a.eval s).ownBlock=some g->(a.eval v).ownBlock≠some g:=by intro g E S;obtain⟨id,T,X⟩:=R g E;rw[M]at S;rw[qv g S]at T;cases T;rw[qk]at X;cases X
        show Calls P f _ w _;rw[qt];refine Calls.mono (qb w h.below (a.eval s) (a.eval v) xs.length bxs.length n.toNat cs C bm (by rw[M];exact hd1) qx (by omega) (by omega) (by omega) (atu x bm.1 O) (atu x hd1.1 D)) fun qL qy qz=>?_
        obtain⟨Y,rfl,qA,E,m⟩:=qz;have qB:∀q,RO G t q->RO G (t&&(A || flat j)) q:=fun q l=>l.Jc fun p=>by rw[aA]at p;exact p.1
        have qC:eT w (RO G (t&&(A || flat j))) j C bxs:=by
         cases qD:flat j with
         |true=>exact alL qD D|false=>exact k8 (fun q l=>l.Jc fun p=>by simp at p;exact p.2) D
        have Z:=k8 qB O;have hlt:(cs.take (n.toNat*j.n)).length=(xs.take n.toNat).length*j.n:=by rw[bC,bC,bm.1,ahi (Gg _ (by omega)),ahi (by omega)]
        rw[qf];refine On qw (a.eval s).ownBlock E R d ⟨be,j,xs.take n.toNat++bxs++xs.drop n.toNat,t&&(A || flat j),true⟩ rfl x Y (cs.take (n.toNat*j.n)++C++cs.drop (n.toNat*j.n)) ?_ ?_ (W3 ?_ (W3 hlt (alM Z _) qC) (awa Z _)) c qe
        .have:(xs.take n.toNat++bxs++xs.drop n.toNat).length=xs.length+bxs.length:=by simp only[aG,bC,bc];omega
         show qy.ownsRow 0 be j.n Y (xs.take n.toNat++bxs++xs.drop n.toNat).length _;rw[this];exact qA
        .intro q l;rcases m with m|m
         .exact .inr (m▸l)
         .exact .inl (m q l)
        .rw[aG,hlt,hd1.1,aG,Li]
       .cases c
      .cases c
     .cases c
    .cases c
   .cases c
  .cases c
 .cases c
def aCw {f:FuncId}{e:TypeId}{u:Ty}(z:XG P f)(A:∀W,eG w0.fr w0.w W->aAS P f e u W)(h:Inv w0 G st a w){args:Array Operand}{ts:Array TypeId}(B:o.op=.call {callee:=.value (.func f),args:=args,argTypes:=ts})
  (b:ayJ e u st o.dst args.toList k=some r) (C:ra w0 k r K):o.wp P a w K Q:=by
 unfold Oper.wp;rw[Ji z B];unfold ayJ at b;split at b
 .rename_i d s i l D E;split at b
  .rename_i n m F H;split at b
   .rename_i xs I qb hold;obtain⟨v,b⟩:=aU b;simp only[aA,bR]at v;obtain⟨⟨⟨L,M⟩,qd⟩,qe⟩:=v;have p:0<u.n:=TZ (bD L);have O:args.map a.eval=#[a.eval s,.int .i64 ((n.toNat:Nat):Int),.int .i64 ((m.toNat:Nat):Int)]:=by
     have R:args=#[s,i,l]:=by rw[<-w2 (xs:=args),E]
     have g:=h.ac i;rw[F]at g;have g:a.eval i=.int .i64 n:=g;have j:=h.ac l;rw[H]at j;have j:a.eval l=.int .i64 m:=j;rw[R,Oe M,Oe (by omega),<-g,<-j];simp
    obtain⟨S,qf,qg,⟨cs,bm,t⟩,T⟩:=QO h (h.ac s) hold p;show Calls P f _ w _;rw[O];refine Calls.mono (A w h.below (a.eval s) xs.length n.toNat m.toNat cs bm (by omega) (by omega) (atu p bm.1 t)) fun qh X Y=>?_
    obtain⟨x,rfl,Z,qa,c⟩:=Y;have hlt:(cs.take (n.toNat*u.n)).length=(xs.take n.toNat).length*u.n:=by rw[bC,bC,bm.1,ahi (Gg _ (by omega)),ahi (by omega)]
    rw[D];refine On S (a.eval s).ownBlock qa T d ⟨e,u,xs.take n.toNat++xs.drop m.toNat,I,true⟩ rfl p x (cs.take (n.toNat*u.n)++cs.drop (m.toNat*u.n)) ?_ ?_ (W3 hlt (alM t _) (awa t _)) b C
    .have:(xs.take n.toNat++xs.drop m.toNat).length=n.toNat+(xs.length-m.toNat):=by simp only[aG,bC,bc];omega
     show X.ownsRow 0 e u.n x (xs.take n.toNat++xs.drop m.toNat).length _;rw[this];exact Z
    .intro q y;rcases c with c|c
     .exact .inr (c▸y)
     .exact .inl (c q y)
   .cases b
  .cases b
 .cases b
def awb (h:Inv w0 G st a w)(t:TypeId)(x:Operand)(s:o.op=.box t x){d:Tmp}(z:o.dst=some d){u:Ty}{y:u.D}(A:im st u (st.dR x).cells=some (y,[]))
  (B:ck (Nat.blt d st.nt&&(st.dR x).kn&&oy st (st.dR x).cells) (k ((st.freeze (st.dR x).cells).put d (.v (.c (.TI (cj (st.dR x).cells) u y 0)))))=some r) (C:ra w0 k r K):o.wp P a w K Q:=by
 obtain⟨l,f⟩:=aU B;simp only[aA]at l;obtain⟨⟨D,E⟩,F⟩:=l;refine Jd (v:=.pointer (some ⟨w.heap.size,0,none⟩)) (w':=w.alloc (.cells (a.eval x).cells t)) ?_ ?_
 .unfold execOp;rw[s];simp[Instr.box,BG]
 .rw[z];obtain⟨g,c,H,I,m⟩:=Inv.freeze (st.dR x).cells h;have L:=((h.dR x).cells E).imp fun _ _=>bz.mono H I
  obtain⟨W,n,e,p,M,_⟩:=Ok (ok:=RO g (cj (st.dR x).cells)) (Om (bx:=st.bx) c F fun h=>h) L (by rw[tM m];exact A);have O:n=[]:=by
   cases n with
   |nil=>rfl|cons _ _=>exact M.elim
  subst O;rw[fU]at e;rw[<-e]at p;have j:Below w.heap.size w (w.alloc (.cells (a.eval x).cells t)):=⟨rfl,rfl,rfl,by simp,fun k f=>Below.heap_alloc _ _ _ f⟩;have R:=c.more j;have bm:g.own w.heap.size=none:=by
   cases S:g.own w.heap.size with
   |none=>rfl|some q=>exact absurd (c.own _ q S).2.1 (T2 _)
  refine C _ _ _ _ (R.put d (by rw[m.nt];exact gq D) (v:=.v (.c (.TI (cj (st.dR x).cells) u y 0))) ?_) f;refine⟨w.heap.size,0,(a.eval x).cells.toList,by simp,by simp,⟨bm,.inl (c.avX (bf _))⟩,p.mono j.size fun b T cW=>⟨cW,j.block b T⟩,fun i v e=>?_⟩;rw[cell_of_row _ w.heap.size (0+i) (a.eval x).cells t (0,0) (heap_alloc_new w _),we];simpa using e
def wq {C:FuncId->Option Any}(E:∀f B,C f=some B->Oo P w0 f B)(h:Inv w0 G st a w)(j:fB P C (oH.Ll N) o st k=some r)(n:ra w0 k r K):o.wp P a w K Q:=by
 unfold fB at j;split at j
 .exact bG (IM h _ (.inl ‹_›) j) n
 .exact bG (IM h _ (.inr ‹_›) j) n
 ·
  rename_i c x y m;split at j
  .exact bG (aeS h c x y m ‹_› j) n
  .cases j
 ·
  rename_i t x m;split at j
  .rename_i d I;split at j
   .split at j
    .split at j
     .exact awb h t x m I ‹_› j n
     .cases j
    .cases j
   .split at j
    .exact aCl h t x m I ‹_› j n
    .cases j
  .cases j
 ·
  rename_i t m;split at j
  .rename_i d I;split at j
   .split at j
    .exact av0 h t m I ‹_› ‹_› j n
    .cases j
   .cases j
  .cases j
 ·
  rename_i t parts m;split at j
  .split at j
   .exact bG (aab h t parts m ‹_› ‹_› ‹_› ‹_› j) n
   .cases j
  .cases j
 ·
  rename_i t len parts m;split at j
  .split at j
   .split at j
    .split at j
     .exact aeX h t len parts m ‹_› ‹_› ‹_› ‹_› j n
     .cases j
    .cases j
   .cases j
  .cases j
 ·
  rename_i t x m;split at j
  .rename_i l off W;dsimp only at j;split at j
   .rename_i F;split at j
    .exact bG (IN h t x m W F (b:=true) ‹_› (v:=.agg _) rfl j) n
    .split at j
     .rename_i O _ y R;exact bG (IN h t x m W F (b:=false) O (v:=.c y) ⟨y,R,rfl⟩ j) n
     .cases j
    .cases j
   .cases j
  .cases j
 ·
  rename_i t x y m;split at j
  .rename_i z;simp only[aA]at z;obtain⟨⟨⟨X,Y⟩,Z⟩,qa⟩:=z;split at j
   .split at j
    .split at j
     .exact alH h t x y m X Y (aJ Z) qa ‹_› ‹_› (Fs ‹_›) j n
     .cases j
    .cases j
   .split at j
    .split at j
     .rename_i L;simp only[aA]at L;split at j
      .exact aiQ h t x y m X Y (aJ Z) qa ‹_› ‹_› L.1.1 L.1.2 L.2 ‹_› j n
      .cases j
     .cases j
    .cases j
   .cases j
  .cases j
 ·
  rename_i x m;split at j
  .exact bG (NJ h x m ‹_› j) n
  .cases j
 ·
  rename_i op S x y T m;split at j
  .exact bG (Z8 h op S x y T m ‹_› ‹_› j) n
  .split at j
   .exact bG (n1 h _ S x y T m ‹_› ‹_› ‹_› (.inl ⟨rfl,rfl⟩) j) n
   .exact bG (n1 h _ S x y T m ‹_› ‹_› ‹_› (.inr ⟨rfl,rfl⟩) j) n
   .cases j
  .cases j
 ·
  rename_i op t x m;split at j
  .exact bG (alD h t x m ‹_› j) n
  .exact bG (alE h t x m ‹_› j) n
  .cases j
 ·
  rename_i src dst x m;split at j
  .exact bG (QK h src dst x m ‹_› ‹_› ‹_› j) n
  .exact bG (QL h src dst x m ‹_› ‹_› ‹_› j) n
  .split at j
   .obtain⟨z,j⟩:=aU j;exact ap2 h src dst x m ‹_› ‹_› ‹_› ‹_› (by have:=k4 z;dsimp only[oH.Ll]at this;omega) j n
   .cases j
  .split at j
   .exact bG (aac h src dst x m ‹_› ‹_› ‹_› ‹_› j) n
   .cases j
  .cases j
 ·
  rename_i t p q m;split at j
  .split at j
   .split at j
    .obtain⟨z,j⟩:=aU j;exact aiT h t p q m ‹_› ‹_› ‹_› ‹_› ‹_› ‹_› z j n
    .cases j
   .cases j
  .cases j
 ·
  rename_i t x qb A m;split at j
  .split at j
   .split at j
    .obtain⟨z,j⟩:=aU j;simp only[aA,bR]at z;exact bG (Uf h t x qb A m ‹_› ‹_› ‹_› ‹_› z.1.1 z.1.2 z.2 j) n
    .cases j
   .cases j
  .split at j
   .split at j
    .obtain⟨z,j⟩:=aU j;simp only[aA,bR]at z;exact bG (aaa h t x qb A m ‹_› ‹_› (aJ z.1.1) (bD z.1.2) ‹_› ‹_› z.2.1.1 z.2.1.2 z.2.2 j) n
    .cases j
   .split at j
    .split at j
     .obtain⟨z,j⟩:=aU j;simp only[aA,bR]at z;exact bG (Ug h t x A m ‹_› ‹_› ‹_› (aJ z.1) ‹_› z.2.1 z.2.2 j) n
     .cases j
    .split at j
     .obtain⟨z,j⟩:=aU j;simp only[aA,bR]at z;exact bG (NM h t x _ A m ‹_› ‹_› ‹_› (aJ z.1) ‹_› ‹_› z.2.1.1 z.2.1.2 z.2.2 j) n
     .cases j
    .cases j
   .cases j
  .cases j
 ·
  rename_i t x f m;split at j
  .split at j
   .exact bG (eY h t x f m ‹_› ‹_› (by exact rfl) j) n
   .split at j
    .exact bG (eY h t x f m ‹_› ‹_› (by exact⟨rfl,_,dA ‹_›⟩) j) n
    .cases j
   .exact bG (eY h t x f m ‹_› ‹_› (by exact rfl) j) n
   .cases j
  .cases j
 ·
  rename_i t x i m;split at j
  .split at j
   .split at j
    .split at j
     .split at j
      .obtain⟨z,j⟩:=aU j;simp only[aA,bR]at z;exact bG (NK h t x i m ‹_› ‹_› ‹_› ‹_› ‹_› (aJ z.1) z.2.1 z.2.2 j) n
      .cases j
     .cases j
    .obtain⟨z,j⟩:=aU j;simp only[aA,bR]at z;exact bG (QM h t x i m ‹_› ‹_› ‹_› (aJ z.1.1) (bD z.1.2) z.2.1 z.2.2 j) n
    .cases j
   .split at j
    .obtain⟨z,j⟩:=aU j;simp only[aA,bR]at z;exact bG (NL h t x i m ‹_› ‹_› ‹_› (bD z.1) z.2.1 z.2.2 j) n
    .cases j
   .cases j
  .cases j
 ·
  rename_i t x i m;split at j
  .obtain⟨z,j⟩:=aU j;simp only[aA,bR]at z;exact bG (Z9 h t x i m ‹_› ‹_› ‹_› z.1 z.2 j) n
  .cases j
 ·
  rename_i t x f m;split at j
  .rename_i qd H;dsimp only at j;split at j
   .rename_i F;split at j
    .exact bG (BH h t x f m qd H F (b:=true) ‹_› (v:=.agg _) rfl j) n
    .split at j
     .rename_i O _ y R;exact bG (BH h t x f m qd H F (b:=false) O (v:=.c y) ⟨y,R,rfl⟩ j) n
     .cases j
    .cases j
   .cases j
  .cases j
 ·
  rename_i x i m;split at j
  .split at j
   .exact bG (QJ h x i m ‹_› ‹_› j) n
   .cases j
  .cases j
 ·
  rename_i f args M m;split at j
  .rename_i B D;exact ay4 (show ahp P w0 f B from E f (.one B) D) h m j n
  .rename_i B D;exact av7 (show aad P w0 f B from E f (.two B) D) h m j n
  .rename_i B D;exact av9 (show atr P w0 f B from E f (.sel B) D) h m j n
  .rename_i i D;have A:=E f (.idx i) D;exact ap3 A.1 A.2 h m j n
  .rename_i e u D;have A:=E f (.ins e u) D;exact aCv A.1 A.2 h m j n
  .rename_i e u D;have A:=E f (.del e u) D;exact aCw A.1 A.2 h m j n
  .cases j
 ·
  rename_i args M m;split at j
  .rename_i x t H qe;split at j
   .split at j
    .exact bG (Oj h x t m H qe ‹_› (.inl ⟨by assumption,_,by assumption⟩) j) n
    .cases j
   .split at j
    .cases j
    .rename_i qf;exact bG (Oj h x t m H qe ‹_› (.inr ⟨⟨_,by assumption⟩,fun s qg=>qf s qg⟩) j) n
   .cases j
  .cases j
 ·
  rename_i args M m;split at j
  .split at j
   .split at j
    .exact bG (alT h m ‹_› ‹_› ‹_› j) n
    .cases j
   .cases j
  .cases j
 ·
  rename_i args M m;split at j
  .split at j
   .split at j
    .exact bG (alU h m ‹_› ‹_› ‹_› j) n
    .cases j
   .cases j
  .cases j
 ·
  rename_i args M m;split at j
  .split at j
   .split at j
    .exact atp h m ‹_› ‹_› ‹_› ‹_› ‹_› j n
    .cases j
   .cases j
  .cases j
 ·
  rename_i g first qh m
  split at j
  .split at j
   .exact bG (apY h g first qh m ‹_› ‹_› ‹_› j) n
   .cases j
  .cases j
 .cases j
end
end Go.Am
