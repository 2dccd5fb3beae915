/- No condition. -/
import Derived.Test.YtnllfndlcahalaaGreatDoorQfAmTwo
set_option linter.all false
namespace Go.Am
open Go.RowKit
section
variable {N:Nat} {P:Program} {w0:fc} {w:World} {G:Gh} {st:St} {a:Act} {U:Type} {k:St->Option U} {r:U} {K:Act->World->Prop} {Q:Exit->Act->World->Prop} {o:Oper}
def RT (h:Inv w0 G st a w)(w1:World)(e:Bool)(d:IntKind):∀(l:List Operand) (x y:Int),abH e st x l=some y ->
  ((l.map a.eval).foldlM (if e then Builtin.max2 else Builtin.min2) (.int d x)).run P w1=.ok (.int d y) w1
 |[],x,y,c=>by cases c;rfl
 |o::l,x,y,c=>by
  simp only[abH]at c;split at c
  .rename_i f b g;have i:a.eval o=.int f b:=by have:=h.ac o;rw[g]at this;exact this
   rw[tf,List.foldlM_cons,i];cases e with
   |true =>
    have:=RT h w1 true d l _ y c;simp only[gL]at this ⊢;rw[Sem.run_bind];exact this
   |false =>
    have:=RT h w1 false d l _ y c;simp only[agr,gu]at this ⊢;rw[Sem.run_bind];exact this
  .cases c
def anB (h:Inv w0 G st a w){args:Array Operand}{ts:Array TypeId}(d:o.op=.call {callee:=.builtin .max,args:=args,argTypes:=ts}){x:Operand}{l:List Operand}(e:args.toList=x::l)
  {b:IntKind} {n y:Int} (f:st.ac x=.int b n) (g:abH true st n l=some y) (i:st.pk o.dst (.v (.c (.int b y))) k=some r):bw P w0 w a o k r:=by
 have j:args=(x::l).toArray:=by rw[<-x6 (xs:=args),e]
 subst j;have m:a.eval x=.int b n:=by have:=h.ac x;rw[f]at this;exact this
 refine dm (u:=.int b y) h (v:=.v (.c (.int b y))) rfl i fun p q=>?_
 have c:=RT (P:=P) h p true b l n y g;simp only[gL]at c;unfold execOp;rw[d];simp only[resolve,Sem.run_bind,Sem.run_pure,Result.andThen_ok,invoke,builtin,Builtin.max_,List.map_toArray,tf,m];rw[c];rfl
def anC (h:Inv w0 G st a w){args:Array Operand}{ts:Array TypeId}(d:o.op=.call {callee:=.builtin .min,args:=args,argTypes:=ts}){x:Operand}{l:List Operand}(e:args.toList=x::l)
  {b:IntKind} {n y:Int} (f:st.ac x=.int b n) (g:abH false st n l=some y) (i:st.pk o.dst (.v (.c (.int b y))) k=some r):bw P w0 w a o k r:=by
 have j:args=(x::l).toArray:=by rw[<-x6 (xs:=args),e]
 subst j;have m:a.eval x=.int b n:=by have:=h.ac x;rw[f]at this;exact this
 refine dm (u:=.int b y) h (v:=.v (.c (.int b y))) rfl i fun p q=>?_
 have c:=RT (P:=P) h p false b l n y g;simp only[agr,gu]at c;unfold execOp;rw[d];simp only[resolve,Sem.run_bind,Sem.run_pure,Result.andThen_ok,invoke,builtin,Builtin.min_,List.map_toArray,tf,m];rw[c];rfl
def ajf {f:FuncId}{con:Con}(C:ajc P w0 f con)(h:Inv w0 G st a w){args:Array Operand}{ts:Array TypeId}(R:o.op=.call {callee:=.value (.func f),args:=args,argTypes:=ts})
  (b:Yu con st o.dst args.toList k=some r) (E:∀D dd j p,Inv w0 D dd j p->k dd=some r->Below w.heap.size w p->K j p):o.wp P a w K Q:=by
 unfold Oper.wp;rw[J9 C.1 R];unfold Yu at b;split at b
 .rename_i x F;cases q:con.g x with
  |none=>rw[q]at b;cases b
  |some y =>
   rw[q]at b;simp only[am3]at b;have S:(args.map a.eval)=(args.toList.map a.eval).toArray:=by rw[<-adq,x6]
   show Calls P f _ w _;rw[S];cases M:o.dst with
   |none=>rw[M]at b;cases b
   |some d =>
    rw[M]at b;dsimp only at b;split at b
    .rename_i H;obtain⟨i,b⟩:=aX b;simp only[aG]at i;obtain⟨T,I,Y,Z,L⟩:=h.freeze (kG st args.toList);have u:=JF (ok:=RO T (o9 st (kG st args.toList)&&cj (kG st args.toList))) I con.ps args.toList x
      (fun t c v xs O=>abQ I (fun z=>by rw[aG]at z;exact z.1) (fun z=>by rw[aG]at z;exact z.2) t c v xs (by rw[OV L]at O;exact O))
      (by rw[aje L];exact F)
     refine Calls.mono (C.2 x y q w h.below _ _ u) fun e p l=>?_
     obtain⟨us,rfl,m,s⟩:=l;unfold ZS at m;rw[H]at m;exact aC5 (K:=fun j n=>n=p->K j n) i.2 I s m (fun g q=>q) (by rw[L.nt];exact i.1) b (fun D dd j n A B l=>E _ _ _ _ A B (l▸s)) rfl
    .rename_i H;obtain⟨i,b⟩:=aX b;simp only[aG]at i;have u:=JF (ok:=fun _=>True) h con.ps args.toList x (fun t c v xs _=>VI h t c v xs) F;refine Calls.mono (C.2 x y q w h.below _ _ u) fun e p l=>?_
     obtain⟨us,rfl,m,s⟩:=l;unfold ZS at m;rw[H]at m;exact aC5 (K:=fun j n=>n=p->K j n) (f:=true) i.2 h s m (fun g q=>.inl q) i.1 b (fun D dd j n A B l=>E _ _ _ _ A B (l▸s)) rfl
    .rename_i W X;obtain⟨i,b⟩:=aX b;simp only[aG]at i;have u:=JF (ok:=fun _=>True) h con.ps args.toList x (fun t c v xs _=>VI h t c v xs) F;refine Calls.mono (C.2 x y q w h.below _ _ u) fun e p l=>?_
     obtain⟨us,rfl,m,s⟩:=l;unfold ZS at m;split at m
     .exact absurd ‹_› W
     .exact absurd ‹_› X
     .exact aGg (K:=fun j n=>n=p->K j n) i.2 h s m i.1.2 i.1.1 b (fun D dd j n A B l=>E _ _ _ _ A B (l▸s)) rfl
 .cases b
def aA1 {f:FuncId}{con:Con}(b:ajc P w0 f con)(h:Inv w0 G st a w){args:Array Operand}{ts:Array TypeId}(c:o.op=.call {callee:=.value (.func f),args:=args,argTypes:=ts})
  (d:Yu con st o.dst args.toList k=some r) (e:rL w0 k r K):o.wp P a w K Q:=ajf b h c d fun j dd l m g i _=>e _ _ _ _ g i
def Inv.more (h:Inv w0 G st a w){w1:World}(c:Below w.heap.size w w1):Inv w0 G st a w1:=by
 have f:=aEx h c;have j:=kI.refl G st.bx st.bl;have y:=h.below.size;refine⟨h.nw,h.rok,h.below.step c.os c.tape c.output c.size fun k p _=>c.block k (by omega),h.defers,h.size,h.sp.mono f j,h.F8 f,fun t v s=>(h.tm t v s).mono f j,?_,?_,?_⟩
 .intro d l u;obtain⟨cs,e,m,i,n⟩:=h.bx d l u;have hlt:=(h.own _ _ i).2.1;exact⟨cs,e,(c.block _ hlt).trans m,i,n.imp fun _ _=>bC.mono f j⟩
 .intro id b x;exact(h.bl id b x).mono f rfl fun z g A q=>⟨q,c.block _ (h.own _ _ q).2.1⟩
 .intro g k p;obtain⟨m,i,n⟩:=h.own g k p;exact⟨m,E1 i c.size,n⟩
def arK {f:FuncId}{i:Idx}(z:Ze P f)(hi:∀W,eY w0.fr w0.w W->aGe P f i W)(h:Inv w0 G st a w){args:Array Operand}{ts:Array TypeId}(A:o.op=.call {callee:=.value (.func f),args:=args,argTypes:=ts})
  (d:au0 i st o.dst args.toList k=some r) (B:rL w0 k r K):o.wp P a w K Q:=by
 unfold Oper.wp;rw[J9 z A];unfold au0 at d;split at d
 .rename_i s x C;split at d
  .rename_i g b D;split at d
   .rename_i j;have j:=aO j;split at d
    .rename_i l E;split at d
     .rename_i y F;split at d
      .rename_i xs H;have I:args.map a.eval=#[a.eval s,a.eval x]:=by
        have L:args=#[s,x]:=by rw[<-x6 (xs:=args),C]
        rw[L];simp
       have m:=h.ac x;rw[D]at m;have M:a.eval x=.func (.func i.g) #[] #[.pointer (some ⟨G.hb b,0,none⟩)]:=by rw[<-j];exact m.2
       obtain⟨cs,e,O,bp,hrel⟩:=h.bx b l E;obtain⟨qd,n,p,q,R,_⟩:=Pv (ok:=fun _=>True) (fun t c v S _=>VI h t c v S) hrel F;have T:n=[]:=by
        cases n with
        |nil=>rfl|cons _ _=>exact R.elim
       subst T;rw[fh]at p;rw[<-p]at q;have X:=VI h i.a.1 (st.ac s) (a.eval s) xs (h.ac s) H 0;show Calls P f _ w _;rw[I,M];refine Calls.mono (hi w h.below xs y (a.eval s) (G.hb b) cs e 0 X O q) fun qe qf Y=>?_
       obtain⟨rfl,Z⟩:=Y;exact Di (h.more Z) (v:=.v (.c (.int .i64 (p1 (fun x=>i.p x y) xs 0)))) (u:=.int .i64 (p1 (fun x=>i.p x y) xs 0)) rfl d B
      .cases d
     .cases d
    .cases d
   .cases d
  .cases d
 .cases d
def avm {ok:Nat->Prop}{t:Ty}{cs:List Value}{xs:List t.D}(b:0<t.n)(n:cs.length=xs.length*t.n)(h:fi w ok t cs xs):∀u∈cs,u.oneCell'=true:=by
 intro u i;obtain⟨q,j,rfl⟩:=auJ.1 i;have l:q/t.n<xs.length:=by rw[aAx b];omega
 obtain⟨c,d,m⟩:=h (q/t.n) xs[q/t.n] (og l);have f:q%t.n<c.length:=by rw[d.len];exact abF _ b
 have g:=m (q%t.n) c[q%t.n] (og f);have e:q/t.n*t.n+q%t.n=q:=by rw[Nat.mul_comm];exact Nat.div_add_mod q t.n
 rw[e,og j]at g;rw[eT g];exact d.one _ (bH f)
def ax2 {ok:Nat->Prop}{t:Ty}{cs:List Value}{xs:List t.D}(d:fi w ok t cs xs)(m:Nat):fi w ok t (cs.drop (m*t.n)) (xs.drop m):=by intro e x b;rw[ai5]at b;obtain⟨c,f,g⟩:=d (m+e) x b;refine⟨c,f,fun i u h=>?_⟩;rw[ai5,<-Vl,<-Mm];exact g i u h
def aEI {f:FuncId}{e:TypeId}{u:Ty}(qd:Ze P f)(hi:∀W,eY w0.fr w0.w W->atg P f e u W)(h:Inv w0 G st a w){args:Array Operand}{ts:Array TypeId}(qe:o.op=.call {callee:=.value (.func f),args:=args,argTypes:=ts})
  (c:aAF e u st o.dst args.toList k=some r) (qf:rL w0 k r K):o.wp P a w K Q:=by
 unfold Oper.wp;rw[J9 qd qe];unfold aAF at c;split at c
 .rename_i d s i v qg qh;split at c
  .rename_i n F qi qj;split at c
   .rename_i b qk;split at c
    .rename_i z;rw[aG]at z;split at c
     .rename_i H;split at c
      .rename_i xs t qF hold;split at c
       .rename_i qG ql;obtain⟨I,c⟩:=aX c;simp only[aG,bV]at I;obtain⟨⟨⟨⟨qm,qn⟩,qH⟩,qo⟩,qp⟩:=I;obtain⟨be,j,bxs,A,qI⟩:=b;dsimp only at z H c qo qp;have qq:=Ty.beq_eq H;subst qq;obtain⟨qt,B⟩:=z;have B:=aO B;subst B;have x:0<j.n:=Vj (bu qm);have qu:args.map a.eval=#[a.eval s,.int .i64 ((n.toNat:Nat):Int),a.eval v]:=by
         have qv:args=#[s,i,v]:=by rw[<-x6 (xs:=args),qh]
         have y:=h.ac i;rw[qi]at y;have y:a.eval i=.int .i64 n:=y;rw[qv,JW qn,<-y];simp
        have L:=h.ac v;rw[qj]at L;have M:a.eval v=G.hv F:=L.2.2;obtain⟨C,hd1,qw,D⟩:=(h.bl F _ (eG qk)).wr qt;obtain⟨qx,qK,qL,⟨cs,bp,O⟩,R⟩:=RS h (h.ac s) hold x;have qy:∀g,(a.eval s).ownBlock=some g->(a.eval v).ownBlock≠some g:=by intro g E S;obtain⟨id,T,X⟩:=R g E;rw[M]at S;rw[qw g S]at T;cases T;rw[ql]at X;cases X
        show Calls P f _ w _;rw[qu];refine Calls.mono (hi w h.below (a.eval s) (a.eval v) xs.length bxs.length n.toNat cs C bp (by rw[M];exact hd1) qy (by omega) (by omega) (by omega) (avm x bp.1 O) (avm x hd1.1 D)) fun qM qz qA=>?_
        obtain⟨Y,rfl,qB,E,m⟩:=qA;have qC:∀q,RO G t q->RO G (t&&(A || flat j)) q:=fun q l=>l.J3 fun p=>by rw[aG]at p;exact p.1
        have qD:fi w (RO G (t&&(A || flat j))) j C bxs:=by
         cases qE:flat j with
         |true=>exact ans qE D|false=>exact l0 (fun q l=>l.J3 fun p=>by simp at p;exact p.2) D
        have Z:=l0 qC O;have hlt:(cs.take (n.toNat*j.n)).length=(xs.take n.toNat).length*j.n:=by rw[bz,bz,bp.1,ads (GY _ (by omega)),ads (by omega)]
        rw[qg];refine Py qx (a.eval s).ownBlock E R d ⟨be,j,xs.take n.toNat++bxs++xs.drop n.toNat,t&&(A || flat j),true⟩ rfl x Y (cs.take (n.toNat*j.n)++C++cs.drop (n.toNat*j.n)) ?_ ?_ (Yy ?_ (Yy hlt (ant Z _) qD) (ax2 Z _)) c qf
        .have:(xs.take n.toNat++bxs++xs.drop n.toNat).length=xs.length+bxs.length:=by simp only[aK,bz,bc];omega
         show qz.ownsRow 0 be j.n Y (xs.take n.toNat++bxs++xs.drop n.toNat).length _;rw[this];exact qB
        .intro q l;rcases m with m|m
         .exact .inr (m▸l)
         .exact .inl (m q l)
        .rw[aK,hlt,hd1.1,aK,Mm]
       .cases c
      .cases c
     .cases c
    .cases c
   .cases c
  .cases c
 .cases c
def aEJ {f:FuncId}{e:TypeId}{u:Ty}(z:Ze P f)(hi:∀W,eY w0.fr w0.w W->aC3 P f e u W)(h:Inv w0 G st a w){args:Array Operand}{ts:Array TypeId}(A:o.op=.call {callee:=.value (.func f),args:=args,argTypes:=ts})
  (b:aAG e u st o.dst args.toList k=some r) (B:rL w0 k r K):o.wp P a w K Q:=by
 unfold Oper.wp;rw[J9 z A];unfold aAG at b;split at b
 .rename_i d s i l C D;split at b
  .rename_i n m E F;split at b
   .rename_i xs H qd hold;obtain⟨v,b⟩:=aX b;simp only[aG,bV]at v;obtain⟨⟨⟨I,L⟩,qe⟩,qf⟩:=v;have p:0<u.n:=Vj (bu I);have M:args.map a.eval=#[a.eval s,.int .i64 ((n.toNat:Nat):Int),.int .i64 ((m.toNat:Nat):Int)]:=by
     have O:args=#[s,i,l]:=by rw[<-x6 (xs:=args),D]
     have g:=h.ac i;rw[E]at g;have g:a.eval i=.int .i64 n:=g;have j:=h.ac l;rw[F]at j;have j:a.eval l=.int .i64 m:=j;rw[O,JW L,JW (by omega),<-g,<-j];simp
    obtain⟨R,qg,qh,⟨cs,bp,t⟩,S⟩:=RS h (h.ac s) hold p;show Calls P f _ w _;rw[M];refine Calls.mono (hi w h.below (a.eval s) xs.length n.toNat m.toNat cs bp (by omega) (by omega) (avm p bp.1 t)) fun qi T X=>?_
    obtain⟨x,rfl,Y,Z,c⟩:=X;have hlt:(cs.take (n.toNat*u.n)).length=(xs.take n.toNat).length*u.n:=by rw[bz,bz,bp.1,ads (GY _ (by omega)),ads (by omega)]
    rw[C];refine Py R (a.eval s).ownBlock Z S d ⟨e,u,xs.take n.toNat++xs.drop m.toNat,H,true⟩ rfl p x (cs.take (n.toNat*u.n)++cs.drop (m.toNat*u.n)) ?_ ?_ (Yy hlt (ant t _) (ax2 t _)) b B
    .have:(xs.take n.toNat++xs.drop m.toNat).length=n.toNat+(xs.length-m.toNat):=by simp only[aK,bz,bc];omega
     show T.ownsRow 0 e u.n x (xs.take n.toNat++xs.drop m.toNat).length _;rw[this];exact Y
    .intro q y;rcases c with c|c
     .exact .inr (c▸y)
     .exact .inl (c q y)
   .cases b
  .cases b
 .cases b
def ax3 (h:Inv w0 G st a w)(t:TypeId)(x:Operand)(s:o.op=.box t x){d:Tmp}(z:o.dst=some d){u:Ty}{y:u.D}(A:im st u (st.ec x).cells=some (y,[]))
  (B:ck (Nat.blt d st.nt&&(st.ec x).kn&&o9 st (st.ec x).cells) (k ((st.freeze (st.ec x).cells).put d (.v (.c (.UT (cj (st.ec x).cells) u y 0)))))=some r) (C:rL w0 k r K):o.wp P a w K Q:=by
 obtain⟨l,f⟩:=aX B;simp only[aG]at l;obtain⟨⟨D,E⟩,F⟩:=l;refine J4 (v:=.pointer (some ⟨w.heap.size,0,none⟩)) (w':=w.alloc (.cells (a.eval x).cells t)) ?_ ?_
 .unfold execOp;rw[s];simp[Instr.box,Cc]
 .rw[z];obtain⟨g,c,H,I,m⟩:=Inv.freeze (st.ec x).cells h;have L:=((h.ec x).cells E).imp fun _ _=>bC.mono H I
  obtain⟨W,n,e,p,M,_⟩:=Pv (ok:=RO g (cj (st.ec x).cells)) (Px (bx:=st.bx) c F fun h=>h) L (by rw[uv m];exact A);have O:n=[]:=by
   cases n with
   |nil=>rfl|cons _ _=>exact M.elim
  subst O;rw[fh]at e;rw[<-e]at p;have j:Below w.heap.size w (w.alloc (.cells (a.eval x).cells t)):=⟨rfl,rfl,rfl,by simp,fun k f=>Below.heap_alloc _ _ _ f⟩;have R:=c.more j;have bp:g.own w.heap.size=none:=by
   cases S:g.own w.heap.size with
   |none=>rfl|some q=>exact absurd (c.own _ q S).2.1 (Vo _)
  refine C _ _ _ _ (R.put d (by rw[m.nt];exact gO D) (v:=.v (.c (.UT (cj (st.ec x).cells) u y 0))) ?_) f;refine⟨w.heap.size,0,(a.eval x).cells.toList,by simp,by simp,⟨bp,.inl (c.axP (bG _))⟩,p.mono j.size fun b T df=>⟨df,j.block b T⟩,fun i v e=>?_⟩;rw[cell_of_row _ w.heap.size (0+i) (a.eval x).cells t (0,0) (heap_alloc_new w _),wO];simpa using e
def E8 {C:FuncId->Option Any}(E:∀f B,C f=some B->S4 P w0 f B)(h:Inv w0 G st a w)(j:iZ P C (rH.RJ N) o st k=some r)(n:rL w0 k r K):o.wp P a w K Q:=by
 unfold iZ at j;split at j
 .exact bJ (JC h _ (.inl ‹_›) j) n
 .exact bJ (JC h _ (.inr ‹_›) j) n
 ·
  rename_i c x y m;split at j
  .exact bJ (agB h c x y m ‹_› j) n
  .cases j
 ·
  rename_i t x m;split at j
  .rename_i d I;split at j
   .split at j
    .split at j
     .exact ax3 h t x m I ‹_› j n
     .cases j
    .cases j
   .split at j
    .exact aEy h t x m I ‹_› j n
    .cases j
  .cases j
 ·
  rename_i t m;split at j
  .rename_i d I;split at j
   .split at j
    .exact axS h t m I ‹_› ‹_› j n
    .cases j
   .cases j
  .cases j
 ·
  rename_i t parts m;split at j
  .split at j
   .exact bJ (abN h t parts m ‹_› ‹_› ‹_› ‹_› j) n
   .cases j
  .cases j
 ·
  rename_i t len parts m;split at j
  .split at j
   .split at j
    .split at j
     .exact agG h t len parts m ‹_› ‹_› ‹_› ‹_› j n
     .cases j
    .cases j
   .cases j
  .cases j
 ·
  rename_i t x m;split at j
  .rename_i l off W;dsimp only at j;split at j
   .rename_i F;split at j
    .exact bJ (JD h t x m W F (b:=true) ‹_› (v:=.agg _) rfl j) n
    .split at j
     .rename_i O _ y R;exact bJ (JD h t x m W F (b:=false) O (v:=.c y) ⟨y,R,rfl⟩ j) n
     .cases j
    .cases j
   .cases j
  .cases j
 ·
  rename_i t x y m;split at j
  .rename_i z;simp only[aG]at z;obtain⟨⟨⟨X,Y⟩,Z⟩,qd⟩:=z;split at j
   .split at j
    .split at j
     .exact ano h t x y m X Y (aO Z) qd ‹_› ‹_› (F9 ‹_›) j n
     .cases j
    .cases j
   .split at j
    .split at j
     .rename_i L;simp only[aG]at L;split at j
      .exact akA h t x y m X Y (aO Z) qd ‹_› ‹_› L.1.1 L.1.2 L.2 ‹_› j n
      .cases j
     .cases j
    .cases j
   .cases j
  .cases j
 ·
  rename_i x m;split at j
  .exact bJ (OR h x m ‹_› j) n
  .cases j
 ·
  rename_i op S x y T m;split at j
  .exact bJ (abK h op S x y T m ‹_› ‹_› j) n
  .split at j
   .exact bJ (oO h _ S x y T m ‹_› ‹_› ‹_› (.inl ⟨rfl,rfl⟩) j) n
   .exact bJ (oO h _ S x y T m ‹_› ‹_› ‹_› (.inr ⟨rfl,rfl⟩) j) n
   .cases j
  .cases j
 ·
  rename_i op t x m;split at j
  .exact bJ (ank h t x m ‹_› j) n
  .exact bJ (anl h t x m ‹_› j) n
  .cases j
 ·
  rename_i src dst x m;split at j
  .exact bJ (RN h src dst x m ‹_› ‹_› ‹_› j) n
  .exact bJ (RP h src dst x m ‹_› ‹_› ‹_› j) n
  .split at j
   .obtain⟨z,j⟩:=aX j;exact arJ h src dst x m ‹_› ‹_› ‹_› ‹_› (by have:=ng z;dsimp only[rH.RJ]at this;omega) j n
   .cases j
  .split at j
   .exact bJ (abO h src dst x m ‹_› ‹_› ‹_› ‹_› j) n
   .cases j
  .cases j
 ·
  rename_i t p q m;split at j
  .split at j
   .split at j
    .obtain⟨z,j⟩:=aX j;exact akD h t p q m ‹_› ‹_› ‹_› ‹_› ‹_› ‹_› z j n
    .cases j
   .cases j
  .cases j
 ·
  rename_i t x qe A m;split at j
  .split at j
   .split at j
    .obtain⟨z,j⟩:=aX j;simp only[aG,bV]at z;exact bJ (VD h t x qe A m ‹_› ‹_› ‹_› ‹_› z.1.1 z.1.2 z.2 j) n
    .cases j
   .cases j
  .split at j
   .split at j
    .obtain⟨z,j⟩:=aX j;simp only[aG,bV]at z;exact bJ (abM h t x qe A m ‹_› ‹_› (aO z.1.1) (bu z.1.2) ‹_› ‹_› z.2.1.1 z.2.1.2 z.2.2 j) n
    .cases j
   .split at j
    .split at j
     .obtain⟨z,j⟩:=aX j;simp only[aG,bV]at z;exact bJ (VE h t x A m ‹_› ‹_› ‹_› (aO z.1) ‹_› z.2.1 z.2.2 j) n
     .cases j
    .split at j
     .obtain⟨z,j⟩:=aX j;simp only[aG,bV]at z;exact bJ (OU h t x _ A m ‹_› ‹_› ‹_› (aO z.1) ‹_› ‹_› z.2.1.1 z.2.1.2 z.2.2 j) n
     .cases j
    .cases j
   .cases j
  .cases j
 ·
  rename_i t x f m;split at j
  .split at j
   .exact bJ (fo h t x f m ‹_› ‹_› (by exact rfl) j) n
   .split at j
    .exact bJ (fo h t x f m ‹_› ‹_› (by exact⟨rfl,_,eG ‹_›⟩) j) n
    .cases j
   .exact bJ (fo h t x f m ‹_› ‹_› (by exact rfl) j) n
   .cases j
  .cases j
 ·
  rename_i t x i m;split at j
  .split at j
   .split at j
    .split at j
     .split at j
      .obtain⟨z,j⟩:=aX j;simp only[aG,bV]at z;exact bJ (OS h t x i m ‹_› ‹_› ‹_› ‹_› ‹_› (aO z.1) z.2.1 z.2.2 j) n
      .cases j
     .cases j
    .obtain⟨z,j⟩:=aX j;simp only[aG,bV]at z;exact bJ (RQ h t x i m ‹_› ‹_› ‹_› (aO z.1.1) (bu z.1.2) z.2.1 z.2.2 j) n
    .cases j
   .split at j
    .obtain⟨z,j⟩:=aX j;simp only[aG,bV]at z;exact bJ (OT h t x i m ‹_› ‹_› ‹_› (bu z.1) z.2.1 z.2.2 j) n
    .cases j
   .cases j
  .cases j
 ·
  rename_i t x i m;split at j
  .obtain⟨z,j⟩:=aX j;simp only[aG,bV]at z;exact bJ (abL h t x i m ‹_› ‹_› ‹_› z.1 z.2 j) n
  .cases j
 ·
  rename_i t x f m;split at j
  .rename_i qf H;dsimp only at j;split at j
   .rename_i F;split at j
    .exact bJ (Ce h t x f m qf H F (b:=true) ‹_› (v:=.agg _) rfl j) n
    .split at j
     .rename_i O _ y R;exact bJ (Ce h t x f m qf H F (b:=false) O (v:=.c y) ⟨y,R,rfl⟩ j) n
     .cases j
    .cases j
   .cases j
  .cases j
 ·
  rename_i x i m;split at j
  .split at j
   .exact bJ (RM h x i m ‹_› ‹_› j) n
   .cases j
  .cases j
 ·
  rename_i f args M m;split at j
  .rename_i B D;exact aA1 (show ajc P w0 f B from E f (.one B) D) h m j n
  .rename_i B D;exact axZ (show abP P w0 f B from E f (.two B) D) h m j n
  .rename_i B D;exact ax1 (show avj P w0 f B from E f (.sel B) D) h m j n
  .rename_i i D;have A:=E f (.idx i) D;exact arK A.1 A.2 h m j n
  .rename_i e u D;have A:=E f (.ins e u) D;exact aEI A.1 A.2 h m j n
  .rename_i e u D;have A:=E f (.del e u) D;exact aEJ A.1 A.2 h m j n
  .cases j
 ·
  rename_i args M m;split at j
  .rename_i x t H qg;split at j
   .split at j
    .exact bJ (Pu h x t m H qg ‹_› (.inl ⟨by assumption,_,by assumption⟩) j) n
    .cases j
   .split at j
    .cases j
    .rename_i qh;exact bJ (Pu h x t m H qg ‹_› (.inr ⟨⟨_,by assumption⟩,fun s qi=>qh s qi⟩) j) n
   .cases j
  .cases j
 ·
  rename_i args M m;split at j
  .split at j
   .split at j
    .exact bJ (anB h m ‹_› ‹_› ‹_› j) n
    .cases j
   .cases j
  .cases j
 ·
  rename_i args M m;split at j
  .split at j
   .split at j
    .exact bJ (anC h m ‹_› ‹_› ‹_› j) n
    .cases j
   .cases j
  .cases j
 ·
  rename_i args M m;split at j
  .split at j
   .split at j
    .exact avh h m ‹_› ‹_› ‹_› ‹_› ‹_› j n
    .cases j
   .cases j
  .cases j
 ·
  rename_i g first qj m
  split at j
  .split at j
   .exact bJ (arF h g first qj m ‹_› ‹_› ‹_› j) n
   .cases j
  .cases j
 .cases j
end
end Go.Am
