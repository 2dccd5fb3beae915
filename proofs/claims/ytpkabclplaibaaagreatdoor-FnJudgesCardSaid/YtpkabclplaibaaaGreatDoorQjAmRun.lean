/- No condition. -/
import Derived.Test.YtpkabclplaibaaaGreatDoorQjAmTwo
set_option linter.all false
namespace Go.Am
open Go.RowKit
variable [ec]
def as1 {y:Bool}(h:(!y)=true):y=false:=by cases y<;>simp at h ⊢
def ax5 {x y:Bool}(h:(x || !y)=true):x=true\/y=false:=by cases x<;>cases y<;>simp at h ⊢
section
variable {N:Nat} {P:Program} {w0:dU} {w:World} {G:Gh} {st:St} {a:Act} {U:Type} {k:St->Option U} {r:U} {K:Act->World->Prop} {Q:Exit->Act->World->Prop} {o:Oper}
def Oo (h:Inv w0 G st a w)(w1:World)(e:Bool)(d:IntKind):∀(l:List Operand) (x y:Int),Xh e st x l=some y ->
  ((l.map a.eval).foldlM (if e then Builtin.max2 else Builtin.min2) (.int d x)).run P w1=.ok (.int d y) w1
 |[],x,y,c=>by cases c;rfl
 |o::l,x,y,c=>by
  simp only[Xh]at c;split at c
  .rename_i f b g;have i:a.eval o=.int f b:=by have:=h.ac o;rw[g]at this;exact this
   rw[rI,List.foldlM_cons,i];cases e with
   |true =>
    have:=Oo h w1 true d l _ y c;simp only[gg]at this ⊢;rw[Sem.run_bind];exact this
   |false =>
    have:=Oo h w1 false d l _ y c;simp only[al2,fz]at this ⊢;rw[Sem.run_bind];exact this
  .cases c
def ahe (h:Inv w0 G st a w){args:Array Operand}{ts:Array TypeId}(d:o.op=.call {callee:=.builtin .max,args:=args,argTypes:=ts}){x:Operand}{l:List Operand}(e:args.toList=x::l)
  {b:IntKind} {n y:Int} (f:st.ac x=.int b n) (g:Xh true st n l=some y) (i:st.pk o.dst (.v (.c (.int b y))) k=some r):bg P w0 w a o k r:=by
 have j:args=(x::l).toArray:=by rw[<-vq (xs:=args),e]
 subst j;have m:a.eval x=.int b n:=by have:=h.ac x;rw[f]at this;exact this
 refine cY (u:=.int b y) h (v:=.v (.c (.int b y))) rfl i fun p q=>?_
 have c:=Oo (P:=P) h p true b l n y g;simp only[gg]at c;unfold execOp;rw[d];simp only[resolve,Sem.run_bind,Sem.run_pure,Result.andThen_ok,invoke,builtin,Builtin.max_,List.map_toArray,rI,m];rw[c];rfl
def ahf (h:Inv w0 G st a w){args:Array Operand}{ts:Array TypeId}(d:o.op=.call {callee:=.builtin .min,args:=args,argTypes:=ts}){x:Operand}{l:List Operand}(e:args.toList=x::l)
  {b:IntKind} {n y:Int} (f:st.ac x=.int b n) (g:Xh false st n l=some y) (i:st.pk o.dst (.v (.c (.int b y))) k=some r):bg P w0 w a o k r:=by
 have j:args=(x::l).toArray:=by rw[<-vq (xs:=args),e]
 subst j;have m:a.eval x=.int b n:=by have:=h.ac x;rw[f]at this;exact this
 refine cY (u:=.int b y) h (v:=.v (.c (.int b y))) rfl i fun p q=>?_
 have c:=Oo (P:=P) h p false b l n y g;simp only[al2,fz]at c;unfold execOp;rw[d];simp only[resolve,Sem.run_bind,Sem.run_pure,Result.andThen_ok,invoke,builtin,Builtin.min_,List.map_toArray,rI,m];rw[c];rfl
def adL {f:FuncId}{con:Con}(C:adI P w0 f con)(h:Inv w0 G st a w){args:Array Operand}{ts:Array TypeId}(R:o.op=.call {callee:=.value (.func f),args:=args,argTypes:=ts})
  (b:Ul con st o.dst args.toList k=some r) (E:∀D b9 j p,Inv w0 D b9 j p->k b9=some r->Below w.heap.size w p->K j p):o.wp P a w K Q:=by
 unfold Oper.wp;rw[HO C.1 R];unfold Ul at b;split at b
 .rename_i x F;cases q:con.g x with
  |none=>rw[q]at b;cases b
  |some y =>
   rw[q]at b;simp only[agG]at b;have S:(args.map a.eval)=(args.toList.map a.eval).toArray:=by rw[<-adA,vq]
   show Calls P f _ w _;rw[S];cases M:o.dst with
   |none=>rw[M]at b;cases b
   |some d =>
    rw[M]at b;dsimp only at b;split at b
    .rename_i H;obtain⟨i,b⟩:=aQ b;simp only[aD]at i;obtain⟨T,I,Y,Z,L⟩:=h.freeze (js st args.toList);have u:=Ht (ok:=RO T (nQ st (js st args.toList)&&bT (js st args.toList))) I con.ps args.toList x
      (fun e t c v xs O=>Xs I (fun z=>by rw[aD]at z;exact z.1) (fun z=>by rw[aD]at z;exact z.2) e t c v xs (by rw[L5 L]at O;exact O))
      (by rw[adK L];exact F)
     refine Calls.mono (C.2 x y q w h.below _ _ u) fun e p l=>?_
     obtain⟨us,rfl,m,s⟩:=l;unfold VI at m;rw[H]at m;exact au5 (K:=fun j n=>n=p->K j n) i.2 I s m (fun g q=>q) (by rw[L.nt];exact i.1) b (fun D b9 j n A B l=>E _ _ _ _ A B (l▸s)) rfl
    .rename_i H;obtain⟨i,b⟩:=aQ b;simp only[aD]at i;have u:=Ht (ok:=fun _=>True) h con.ps args.toList x (fun e t c v xs _=>RD h e t c v xs) F;refine Calls.mono (C.2 x y q w h.below _ _ u) fun e p l=>?_
     obtain⟨us,rfl,m,s⟩:=l;unfold VI at m;rw[H]at m;exact au5 (K:=fun j n=>n=p->K j n) (f:=true) i.2 h s m (fun g q=>.inl q) i.1 b (fun D b9 j n A B l=>E _ _ _ _ A B (l▸s)) rfl
    .rename_i W X;obtain⟨i,b⟩:=aQ b;simp only[aD]at i;have u:=Ht (ok:=fun _=>True) h con.ps args.toList x (fun e t c v xs _=>RD h e t c v xs) F;refine Calls.mono (C.2 x y q w h.below _ _ u) fun e p l=>?_
     obtain⟨us,rfl,m,s⟩:=l;unfold VI at m;split at m
     .exact absurd ‹_› W
     .exact absurd ‹_› X
     .exact axX (K:=fun j n=>n=p->K j n) i.2 h s m i.1.2 i.1.1 b (fun D b9 j n A B l=>E _ _ _ _ A B (l▸s)) rfl
 .cases b
def as2 {f:FuncId}{con:Con}(b:adI P w0 f con)(h:Inv w0 G st a w){args:Array Operand}{ts:Array TypeId}(c:o.op=.call {callee:=.value (.func f),args:=args,argTypes:=ts})
  (d:Ul con st o.dst args.toList k=some r) (e:pK w0 k r K):o.wp P a w K Q:=adL b h c d fun j b9 l m g i _=>e _ _ _ _ g i
def Inv.more (h:Inv w0 G st a w){w1:World}(c:Below w.heap.size w w1):Inv w0 G st a w1:=by
 have f:=av9 h c;have j:=jv.refl G st.bx st.bl;have y:=h.below.size;refine⟨h.nw,h.Y3,h.below.step c.os c.tape c.output c.size fun k p _=>c.block k (by omega),h.defers,h.size,h.sp.mono f j,h.Ed f,fun t v s=>(h.tm t v s).mono f j,?_,?_,?_⟩
 .intro d l u;obtain⟨cs,e,m,i,n⟩:=h.bx d l u;have hlt:=(h.own _ _ i).2.1;exact⟨cs,e,(c.block _ hlt).trans m,i,n.imp fun _ _=>bf.mono f j⟩
 .intro id b x;exact(h.bl id b x).mono f rfl fun z g A q=>⟨q,c.block _ (h.own _ _ q).2.1⟩
 .intro g k p;obtain⟨m,i,n⟩:=h.own g k p;exact⟨m,C1 i c.size,n⟩
def akQ {f:FuncId}{i:Idx}(z:UY P f)(A:∀W,dS w0.fr w0.w W->axT P f i W)(h:Inv w0 G st a w){args:Array Operand}{ts:Array TypeId}(B:o.op=.call {callee:=.value (.func f),args:=args,argTypes:=ts})
  (d:anx i st o.dst args.toList k=some r) (C:pK w0 k r K):o.wp P a w K Q:=by
 unfold Oper.wp;rw[HO z B];unfold anx at d;split at d
 .rename_i s x D;split at d
  .rename_i g b E;split at d
   .rename_i j;have j:=aH j;split at d
    .rename_i l F;split at d
     .rename_i y H;split at d
      .rename_i xs I;have L:args.map a.eval=#[a.eval s,a.eval x]:=by
        have M:args=#[s,x]:=by rw[<-vq (xs:=args),D]
        rw[M];simp
       have m:=h.ac x;rw[E]at m;have O:a.eval x=.func (.func i.g) #[] #[.pointer (some ⟨G.hb b,0,none⟩)]:=by rw[<-j];exact m.2
       obtain⟨cs,e,R,a1,hrel⟩:=h.bx b l F;obtain⟨qb,n,p,q,S,_⟩:=Mu (ok:=fun _=>True) (fun e t c v T _=>RD h e t c v T) hrel H;have X:n=[]:=by
        cases n with
        |nil=>rfl|cons _ _=>exact S.elim
       subst X;rw[gO]at p;rw[<-p]at q;have Y:=RD h _ i.a.1 (st.ac s) (a.eval s) xs (h.ac s) I;show Calls P f _ w _;rw[L,O];refine Calls.mono (A w h.below xs y (a.eval s) (G.hb b) cs e _ Y R q) fun qd qe Z=>?_
       obtain⟨rfl,qa⟩:=Z;exact vx (h.more qa) (v:=.v (.c (.int .i64 (axA (fun x=>i.p x y) xs 0)))) (u:=.int .i64 (axA (fun x=>i.p x y) xs 0)) rfl d C
      .cases d
     .cases d
    .cases d
   .cases d
  .cases d
 .cases d
def anW {ok:Nat->Prop}{t:Ty}{cs:List Value}{xs:List t.D}(b:0<t.n)(n:cs.length=xs.length*t.n)(h:ek w ok t cs xs):∀u∈cs,u.oneCell'=true:=by
 intro u i;obtain⟨q,j,rfl⟩:=ann.1 i;have l:q/t.n<xs.length:=by rw[asz b];omega
 obtain⟨c,d,m⟩:=h (q/t.n) xs[q/t.n] (mO l);have f:q%t.n<c.length:=by rw[d.len];exact abt _ b
 have g:=m (q%t.n) c[q%t.n] (mO f);have e:q/t.n*t.n+q%t.n=q:=by rw[Nat.mul_comm];exact Nat.div_add_mod q t.n
 rw[e,mO j]at g;rw[eE g];exact d.one _ (cB f)
def ap7 {ok:Nat->Prop}{t:Ty}{cs:List Value}{xs:List t.D}(d:ek w ok t cs xs)(m:Nat):ek w ok t (cs.drop (m*t.n)) (xs.drop m):=by intro e x b;rw[ady]at b;obtain⟨c,f,g⟩:=d (m+e) x b;refine⟨c,f,fun i u h=>?_⟩;rw[ady,<-Rl,<-HC];exact g i u h
def awj {f:FuncId}{e:TypeId}{u:Ty}(qa:UY P f)(qb:∀W,dS w0.fr w0.w W->axU P f e u W)(h:Inv w0 G st a w){args:Array Operand}{ts:Array TypeId}(qd:o.op=.call {callee:=.value (.func f),args:=args,argTypes:=ts})
  (c:asE e u st o.dst args.toList k=some r) (qe:pK w0 k r K):o.wp P a w K Q:=by
 unfold Oper.wp;rw[HO qa qd];unfold asE at c;split at c
 .rename_i d s i v qf qg;split at c
  .rename_i n F qh qi;split at c
   .rename_i b qj;split at c
    .rename_i z;rw[aD]at z;split at c
     .rename_i H;split at c
      .rename_i xs t qE Oh;split at c
       .rename_i qF qk;obtain⟨I,c⟩:=aQ c;simp only[aD,bJ]at I;obtain⟨⟨⟨⟨ql,qm⟩,qG⟩,qn⟩,qo⟩:=I;obtain⟨be,j,bxs,A,qH⟩:=b;dsimp only at z H c qn qo;have qp:=Ty.beq_eq H;subst qp;obtain⟨qq,B⟩:=z;have B:=aH B;subst B;have x:0<j.n:=Rj (bo ql);have qt:args.map a.eval=#[a.eval s,.int .i64 ((n.toNat:Nat):Int),a.eval v]:=by
         have qu:args=#[s,i,v]:=by rw[<-vq (xs:=args),qg]
         have y:=h.ac i;rw[qh]at y;have y:a.eval i=.int .i64 n:=y;rw[qu,agB qm,<-y];simp
        have L:=h.ac v;rw[qi]at L;have M:a.eval v=G.hv F:=L.2.2;obtain⟨C,hd1,qv,D⟩:=(h.bl F _ (dj qj)).wr qq;obtain⟨qw,qI,qK,⟨cs,a1,O⟩,R⟩:=On h (h.ac s) Oh x;have qx:∀g,(a.eval s).ownBlock=some g->(a.eval v).ownBlock≠some g:=by intro g E S;obtain⟨id,T,X⟩:=R g E;rw[M]at S;rw[qv g S]at T;cases T;rw[qk]at X;cases X
        show Calls P f _ w _;rw[qt];refine Calls.mono (qb w h.below (a.eval s) (a.eval v) xs.length bxs.length n.toNat cs C a1 (by rw[M];exact hd1) qx (by omega) (by omega) (by omega) (anW x a1.1 O) (anW x hd1.1 D)) fun qL qy qz=>?_
        obtain⟨Y,rfl,qA,E,m⟩:=qz;have qB:∀q,RO G t q->RO G (t&&(A || flat j)) q:=fun q l=>l.HI fun p=>by rw[aD]at p;exact p.1
        have qC:ek w (RO G (t&&(A || flat j))) j C bxs:=by
         cases qD:flat j with
         |true=>exact ag6 qD D|false=>exact kQ (fun q l=>l.HI fun p=>by simp at p;exact p.2) D
        have Z:=kQ qB O;have hlt:(cs.take (n.toNat*j.n)).length=(xs.take n.toNat).length*j.n:=by rw[cp,cp,a1.1,abp (y6 _ (by omega)),abp (by omega)]
        rw[qf];refine Mx qw (a.eval s).ownBlock E R d ⟨be,j,xs.take n.toNat++bxs++xs.drop n.toNat,t&&(A || flat j),true⟩ rfl x Y (cs.take (n.toNat*j.n)++C++cs.drop (n.toNat*j.n)) ?_ ?_ (Up ?_ (Up hlt (ag7 Z _) qC) (ap7 Z _)) c qe
        .have:(xs.take n.toNat++bxs++xs.drop n.toNat).length=xs.length+bxs.length:=by simp only[aW,cp,b7];omega
         show qy.ownsRow 0 be j.n Y (xs.take n.toNat++bxs++xs.drop n.toNat).length _;rw[this];exact qA
        .intro q l;rcases m with m|m
         .exact .inr (m▸l)
         .exact .inl (m q l)
        .rw[aW,hlt,hd1.1,aW,HC]
       .cases c
      .cases c
     .cases c
    .cases c
   .cases c
  .cases c
 .cases c
def awk {f:FuncId}{e:TypeId}{u:Ty}(z:UY P f)(A:∀W,dS w0.fr w0.w W->axV P f e u W)(h:Inv w0 G st a w){args:Array Operand}{ts:Array TypeId}(B:o.op=.call {callee:=.value (.func f),args:=args,argTypes:=ts})
  (b:asF e u st o.dst args.toList k=some r) (C:pK w0 k r K):o.wp P a w K Q:=by
 unfold Oper.wp;rw[HO z B];unfold asF at b;split at b
 .rename_i d s i l D E;split at b
  .rename_i n m F H;split at b
   .rename_i xs I qb Oh;obtain⟨v,b⟩:=aQ b;simp only[aD,bJ]at v;obtain⟨⟨⟨L,M⟩,qd⟩,qe⟩:=v;have p:0<u.n:=Rj (bo L);have O:args.map a.eval=#[a.eval s,.int .i64 ((n.toNat:Nat):Int),.int .i64 ((m.toNat:Nat):Int)]:=by
     have R:args=#[s,i,l]:=by rw[<-vq (xs:=args),E]
     have g:=h.ac i;rw[F]at g;have g:a.eval i=.int .i64 n:=g;have j:=h.ac l;rw[H]at j;have j:a.eval l=.int .i64 m:=j;rw[R,agB M,agB (by omega),<-g,<-j];simp
    obtain⟨S,qf,qg,⟨cs,a1,t⟩,T⟩:=On h (h.ac s) Oh p;show Calls P f _ w _;rw[O];refine Calls.mono (A w h.below (a.eval s) xs.length n.toNat m.toNat cs a1 (by omega) (by omega) (anW p a1.1 t)) fun qh X Y=>?_
    obtain⟨x,rfl,Z,qa,c⟩:=Y;have hlt:(cs.take (n.toNat*u.n)).length=(xs.take n.toNat).length*u.n:=by rw[cp,cp,a1.1,abp (y6 _ (by omega)),abp (by omega)]
    rw[D];refine Mx S (a.eval s).ownBlock qa T d ⟨e,u,xs.take n.toNat++xs.drop m.toNat,I,true⟩ rfl p x (cs.take (n.toNat*u.n)++cs.drop (m.toNat*u.n)) ?_ ?_ (Up hlt (ag7 t _) (ap7 t _)) b C
    .have:(xs.take n.toNat++xs.drop m.toNat).length=n.toNat+(xs.length-m.toNat):=by simp only[aW,cp,b7];omega
     show X.ownsRow 0 e u.n x (xs.take n.toNat++xs.drop m.toNat).length _;rw[this];exact Z
    .intro q y;rcases c with c|c
     .exact .inr (c▸y)
     .exact .inl (c q y)
   .cases b
  .cases b
 .cases b
def ap8 (h:Inv w0 G st a w)(t:TypeId)(x:Operand)(s:o.op=.box t x){d:Tmp}(z:o.dst=some d){u:Ty}{y:u.D}(A:im st u (st.dB x).cells=some (y,[]))
  (B:ck (Nat.blt d st.nt&&(st.dB x).kn&&nQ st (st.dB x).cells) (k ((st.freeze (st.dB x).cells).put d (.v (.c (.Oc (bT (st.dB x).cells) u y 0)))))=some r) (C:pK w0 k r K):o.wp P a w K Q:=by
 obtain⟨l,f⟩:=aQ B;simp only[aD]at l;obtain⟨⟨D,E⟩,F⟩:=l;refine HJ (v:=.pointer (some ⟨w.heap.size,0,none⟩)) (w':=w.alloc (.cells (a.eval x).cells t)) ?_ ?_
 .unfold execOp;rw[s];simp[Instr.box,Az]
 .rw[z];obtain⟨g,c,H,I,m⟩:=Inv.freeze (st.dB x).cells h;have L:=((h.dB x).cells E).imp fun _ _=>bf.mono H I
  obtain⟨W,n,e,p,M,_⟩:=Mu (ok:=RO g (bT (st.dB x).cells)) (Mw (bx:=st.bx) c F fun h=>h) L (by rw[sG m];exact A);have O:n=[]:=by
   cases n with
   |nil=>rfl|cons _ _=>exact M.elim
  subst O;rw[gO]at e;rw[<-e]at p;have j:Below w.heap.size w (w.alloc (.cells (a.eval x).cells t)):=⟨rfl,rfl,rfl,by simp,fun k f=>Below.heap_alloc _ _ _ f⟩;have R:=c.more j;have a1:g.own w.heap.size=none:=by
   cases S:g.own w.heap.size with
   |none=>rfl|some q=>exact absurd (c.own _ q S).2.1 (adC _)
  refine C _ _ _ _ (R.put d (by rw[m.nt];exact fh D) (v:=.v (.c (.Oc (bT (st.dB x).cells) u y 0))) ?_) f;refine⟨w.heap.size,0,(a.eval x).cells.toList,by simp,by simp,⟨a1,.inl (c.apU (bu _))⟩,p.mono j.size fun b T cX=>⟨cX,j.block b T⟩,fun i v e=>?_⟩;rw[cell_of_row _ w.heap.size (0+i) (a.eval x).cells t (0,0) (heap_alloc_new w _),uP];simpa using e
def uU {C:FuncId->Option Any}(E:∀f B,C f=some B->My P w0 f B)(h:Inv w0 G st a w)(j:fa P C (nP.JE N) o st k=some r)(z:pK w0 k r K):o.wp P a w K Q:=by
 unfold fa at j;split at j
 .exact bw (Hq h _ (.inl ‹_›) j) z
 .exact bw (Hq h _ (.inr ‹_›) j) z
 ·
  rename_i c x y m;split at j
  .exact bw (abv h c x y m ‹_› j) z
  .cases j
 ·
  rename_i t x m;split at j
  .rename_i d I;split at j
   .split at j
    .split at j
     .exact ap8 h t x m I ‹_› j z
     .cases j
    .cases j
   .split at j
    .exact awa h t x m I ‹_› j z
    .cases j
  .cases j
 ·
  rename_i t m;split at j
  .rename_i d I;split at j
   .split at j
    .exact apX h t m I ‹_› ‹_› j z
    .cases j
   .cases j
  .cases j
 ·
  rename_i t parts m;split at j
  .split at j
   .exact bw (Xo h t parts m ‹_› ‹_› ‹_› ‹_› j) z
   .cases j
  .cases j
 ·
  rename_i t len parts m;split at j
  .split at j
   .split at j
    .split at j
     .exact abA h t len parts m ‹_› ‹_› ‹_› ‹_› j z
     .cases j
    .cases j
   .cases j
  .cases j
 ·
  rename_i t x m;split at j
  .rename_i l off W;dsimp only at j;split at j
   .rename_i F;split at j
    .exact bw (Hr h t x m W F (b:=true) ‹_› (v:=.agg _) rfl j) z
    .split at j
     .rename_i O _ y R;exact bw (Hr h t x m W F (b:=false) O (v:=.c y) ⟨y,R,rfl⟩ j) z
     .cases j
    .cases j
   .cases j
  .cases j
 ·
  rename_i t x y m;split at j
  .rename_i n;simp only[aD]at n;obtain⟨⟨⟨X,Y⟩,Z⟩,qa⟩:=n;split at j
   .split at j
    .split at j
     .exact ag2 h t x y m X Y (aH Z) qa ‹_› ‹_› (Ay ‹_›) j z
     .cases j
    .cases j
   .split at j
    .split at j
     .rename_i L;simp only[aD]at L;split at j
      .exact aeE h t x y m X Y (aH Z) qa ‹_› ‹_› L.1.1 L.1.2 L.2 ‹_› j z
      .cases j
     .cases j
    .cases j
   .cases j
  .cases j
 ·
  rename_i x m;split at j
  .exact bw (L0 h x m ‹_› j) z
  .cases j
 ·
  rename_i op S x y T m;split at j
  .exact bw (Xl h op S x y T m ‹_› ‹_› j) z
  .split at j
   .exact bw (nA h _ S x y T m ‹_› ‹_› ‹_› (.inl ⟨rfl,rfl⟩) j) z
   .exact bw (nA h _ S x y T m ‹_› ‹_› ‹_› (.inr ⟨rfl,rfl⟩) j) z
   .cases j
  .cases j
 ·
  rename_i op t x m;split at j
  .exact bw (agY h t x m ‹_› j) z
  .exact bw (agZ h t x m ‹_› j) z
  .cases j
 ·
  rename_i src dst x m;split at j
  .exact bw (Oj h src dst x m ‹_› ‹_› ‹_› j) z
  .exact bw (Ok h src dst x m ‹_› ‹_› ‹_› j) z
  .split at j
   .obtain⟨n,j⟩:=aQ j;exact akP h src dst x m ‹_› ‹_› ‹_› ‹_› (by have:=C2 n;dsimp only[nP.JE]at this;omega) j z
   .cases j
  .split at j
   .exact bw (Xp h src dst x m ‹_› ‹_› ‹_› ‹_› j) z
   .cases j
  .cases j
 ·
  rename_i t p q m;split at j
  .split at j
   .split at j
    .obtain⟨n,j⟩:=aQ j;exact aeH h t p q m ‹_› ‹_› ‹_› ‹_› ‹_› ‹_› n j z
    .cases j
   .cases j
  .cases j
 ·
  rename_i t x qb A m;split at j
  .split at j
   .split at j
    .obtain⟨n,j⟩:=aQ j;simp only[aD,bJ]at n;exact bw (RA h t x qb A m ‹_› ‹_› ‹_› ‹_› n.1.1 n.1.2 n.2 j) z
    .cases j
   .cases j
  .split at j
   .split at j
    .obtain⟨n,j⟩:=aQ j;simp only[aD,bJ]at n;exact bw (Xn h t x qb A m ‹_› ‹_› (aH n.1.1.1) (bo n.1.1.2) (ax5 n.1.2) ‹_› ‹_› n.2.1.1 n.2.1.2 n.2.2 j) z
    .cases j
   .split at j
    .split at j
     .obtain⟨n,j⟩:=aQ j;simp only[aD,bJ]at n;exact bw (RB h t x A m ‹_› ‹_› ‹_› (aH n.1) ‹_› n.2.1 n.2.2 j) z
     .cases j
    .split at j
     .obtain⟨n,j⟩:=aQ j;simp only[aD,bJ]at n;exact bw (L4 h t x _ A m ‹_› ‹_› ‹_› (aH n.1.1) (as1 n.1.2) ‹_› ‹_› n.2.1.1 n.2.1.2 n.2.2 j) z
     .cases j
    .cases j
   .cases j
  .cases j
 ·
  rename_i t x f m;split at j
  .split at j
   .exact bw (eF h t x f m ‹_› ‹_› (by exact rfl) j) z
   .split at j
    .exact bw (eF h t x f m ‹_› ‹_› (by exact⟨rfl,_,dj ‹_›⟩) j) z
    .cases j
   .exact bw (eF h t x f m ‹_› ‹_› (by exact rfl) j) z
   .cases j
  .cases j
 ·
  rename_i t x i m;split at j
  .split at j
   .split at j
    .split at j
     .split at j
      .obtain⟨n,j⟩:=aQ j;simp only[aD,bJ]at n;exact bw (L1 h t x i m ‹_› ‹_› ‹_› ‹_› ‹_› (aH n.1) n.2.1 n.2.2 j) z
      .cases j
     .cases j
    .obtain⟨n,j⟩:=aQ j;simp only[aD,bJ]at n;exact bw (Ol h t x i m ‹_› ‹_› ‹_› (aH n.1.1) (bo n.1.2) n.2.1 n.2.2 j) z
    .cases j
   .split at j
    .obtain⟨n,j⟩:=aQ j;simp only[aD,bJ]at n;exact bw (L3 h t x i m ‹_› ‹_› ‹_› (bo n.1) n.2.1 n.2.2 j) z
    .cases j
   .cases j
  .cases j
 ·
  rename_i t x i m;split at j
  .obtain⟨n,j⟩:=aQ j;simp only[aD,bJ]at n;exact bw (Xm h t x i m ‹_› ‹_› ‹_› n.1 n.2 j) z
  .cases j
 ·
  rename_i t x f m;split at j
  .rename_i qd H;dsimp only at j;split at j
   .rename_i F;split at j
    .exact bw (AB h t x f m qd H F (b:=true) ‹_› (v:=.agg _) rfl j) z
    .split at j
     .rename_i O _ y R;exact bw (AB h t x f m qd H F (b:=false) O (v:=.c y) ⟨y,R,rfl⟩ j) z
     .cases j
    .cases j
   .cases j
  .cases j
 ·
  rename_i x i m;split at j
  .split at j
   .exact bw (Oi h x i m ‹_› ‹_› j) z
   .cases j
  .cases j
 ·
  rename_i f args M m;split at j
  .rename_i B D;exact as2 (show adI P w0 f B from E f (.one B) D) h m j z
  .rename_i B D;exact ap4 (show Xr P w0 f B from E f (.two B) D) h m j z
  .rename_i B D;exact ap6 (show anT P w0 f B from E f (.sel B) D) h m j z
  .rename_i i D;have A:=E f (.idx i) D;exact akQ A.1 A.2 h m j z
  .rename_i e u D;have A:=E f (.ins e u) D;exact awj A.1 A.2 h m j z
  .rename_i e u D;have A:=E f (.del e u) D;exact awk A.1 A.2 h m j z
  .cases j
 ·
  rename_i args M m;split at j
  .rename_i x t H qe;split at j
   .split at j
    .exact bw (Mt h x t m H qe ‹_› (.inl ⟨by assumption,_,by assumption⟩) j) z
    .cases j
   .split at j
    .cases j
    .rename_i qf;exact bw (Mt h x t m H qe ‹_› (.inr ⟨⟨_,by assumption⟩,fun s qg=>qf s qg⟩) j) z
   .cases j
  .cases j
 ·
  rename_i args M m;split at j
  .split at j
   .split at j
    .exact bw (ahe h m ‹_› ‹_› ‹_› j) z
    .cases j
   .cases j
  .cases j
 ·
  rename_i args M m;split at j
  .split at j
   .split at j
    .exact bw (ahf h m ‹_› ‹_› ‹_› j) z
    .cases j
   .cases j
  .cases j
 ·
  rename_i args M m;split at j
  .split at j
   .split at j
    .exact anR h m ‹_› ‹_› ‹_› ‹_› ‹_› j z
    .cases j
   .cases j
  .cases j
 ·
  rename_i g first qh m
  split at j
  .split at j
   .exact bw (akL h g first qh m ‹_› ‹_› ‹_› j) z
   .cases j
  .cases j
 .cases j
end
end Go.Am
