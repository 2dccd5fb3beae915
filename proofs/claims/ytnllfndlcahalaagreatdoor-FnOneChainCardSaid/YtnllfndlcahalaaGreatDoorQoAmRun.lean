/- No condition. -/
import Derived.Test.YtnllfndlcahalaaGreatDoorQoAmTwo
set_option linter.all false
namespace Go.Am
open Go.RowKit
section
variable {N:Nat} {P:Program} {w0:fa} {w:World} {G:Gh} {st:St} {a:Act} {U:Type} {k:St->Option U} {r:U} {K:Act->World->Prop} {Q:Exit->Act->World->Prop} {o:Oper}
def RS (h:Inv w0 G st a w)(w1:World)(e:Bool)(d:IntKind):∀(l:List Operand) (x y:Int),abG e st x l=some y ->
  ((l.map a.eval).foldlM (if e then Builtin.max2 else Builtin.min2) (.int d x)).run P w1=.ok (.int d y) w1
 |[],x,y,c=>by cases c;rfl
 |o::l,x,y,c=>by
  simp only[abG]at c;split at c
  .rename_i f b g;have i:a.eval o=.int f b:=by have:=h.ac o;rw[g]at this;exact this
   rw[sZ,List.foldlM_cons,i];cases e with
   |true =>
    have:=RS h w1 true d l _ y c;simp only[gG]at this ⊢;rw[Sem.run_bind];exact this
   |false =>
    have:=RS h w1 false d l _ y c;simp only[ags,gp]at this ⊢;rw[Sem.run_bind];exact this
  .cases c
def anF (h:Inv w0 G st a w){args:Array Operand}{ts:Array TypeId}(d:o.op=.call {callee:=.builtin .max,args:=args,argTypes:=ts}){x:Operand}{l:List Operand}(e:args.toList=x::l)
  {b:IntKind} {n y:Int} (f:st.ac x=.int b n) (g:abG true st n l=some y) (i:st.pk o.dst (.v (.c (.int b y))) k=some r):bu P w0 w a o k r:=by
 have j:args=(x::l).toArray:=by rw[<-xJ (xs:=args),e]
 subst j;have m:a.eval x=.int b n:=by have:=h.ac x;rw[f]at this;exact this
 refine dp (u:=.int b y) h (v:=.v (.c (.int b y))) rfl i fun p q=>?_
 have c:=RS (P:=P) h p true b l n y g;simp only[gG]at c;unfold execOp;rw[d];simp only[resolve,Sem.run_bind,Sem.run_pure,Result.andThen_ok,invoke,builtin,Builtin.max_,List.map_toArray,sZ,m];rw[c];rfl
def anG (h:Inv w0 G st a w){args:Array Operand}{ts:Array TypeId}(d:o.op=.call {callee:=.builtin .min,args:=args,argTypes:=ts}){x:Operand}{l:List Operand}(e:args.toList=x::l)
  {b:IntKind} {n y:Int} (f:st.ac x=.int b n) (g:abG false st n l=some y) (i:st.pk o.dst (.v (.c (.int b y))) k=some r):bu P w0 w a o k r:=by
 have j:args=(x::l).toArray:=by rw[<-xJ (xs:=args),e]
 subst j;have m:a.eval x=.int b n:=by have:=h.ac x;rw[f]at this;exact this
 refine dp (u:=.int b y) h (v:=.v (.c (.int b y))) rfl i fun p q=>?_
 have c:=RS (P:=P) h p false b l n y g;simp only[ags,gp]at c;unfold execOp;rw[d];simp only[resolve,Sem.run_bind,Sem.run_pure,Result.andThen_ok,invoke,builtin,Builtin.min_,List.map_toArray,sZ,m];rw[c];rfl
def ajg {f:FuncId}{con:Con}(C:ajd P w0 f con)(h:Inv w0 G st a w){args:Array Operand}{ts:Array TypeId}(R:o.op=.call {callee:=.value (.func f),args:=args,argTypes:=ts})
  (b:Yr con st o.dst args.toList k=some r) (E:∀D da j p,Inv w0 D da j p->k da=some r->Below w.heap.size w p->K j p):o.wp P a w K Q:=by
 unfold Oper.wp;rw[J4 C.1 R];unfold Yr at b;split at b
 .rename_i x F;cases q:con.g x with
  |none=>rw[q]at b;cases b
  |some y =>
   rw[q]at b;simp only[am7]at b;have S:(args.map a.eval)=(args.toList.map a.eval).toArray:=by rw[<-adq,xJ]
   show Calls P f _ w _;rw[S];cases M:o.dst with
   |none=>rw[M]at b;cases b
   |some d =>
    rw[M]at b;dsimp only at b;split at b
    .rename_i H;obtain⟨i,b⟩:=aX b;simp only[aF]at i;obtain⟨T,I,Y,Z,L⟩:=h.freeze (kC st args.toList);have u:=JB (ok:=RO T (o3 st (kC st args.toList)&&cj (kC st args.toList))) I con.ps args.toList x
      (fun t c v xs O=>abP I (fun z=>by rw[aF]at z;exact z.1) (fun z=>by rw[aF]at z;exact z.2) t c v xs (by rw[OS L]at O;exact O))
      (by rw[ajf L];exact F)
     refine Calls.mono (C.2 x y q w h.below _ _ u) fun e p l=>?_
     obtain⟨us,rfl,m,s⟩:=l;unfold ZQ at m;rw[H]at m;exact aC1 (K:=fun j n=>n=p->K j n) i.2 I s m (fun g q=>q) (by rw[L.nt];exact i.1) b (fun D da j n A B l=>E _ _ _ _ A B (l▸s)) rfl
    .rename_i H;obtain⟨i,b⟩:=aX b;simp only[aF]at i;have u:=JB (ok:=fun _=>True) h con.ps args.toList x (fun t c v xs _=>VH h t c v xs) F;refine Calls.mono (C.2 x y q w h.below _ _ u) fun e p l=>?_
     obtain⟨us,rfl,m,s⟩:=l;unfold ZQ at m;rw[H]at m;exact aC1 (K:=fun j n=>n=p->K j n) (f:=true) i.2 h s m (fun g q=>.inl q) i.1 b (fun D da j n A B l=>E _ _ _ _ A B (l▸s)) rfl
    .rename_i W X;obtain⟨i,b⟩:=aX b;simp only[aF]at i;have u:=JB (ok:=fun _=>True) h con.ps args.toList x (fun t c v xs _=>VH h t c v xs) F;refine Calls.mono (C.2 x y q w h.below _ _ u) fun e p l=>?_
     obtain⟨us,rfl,m,s⟩:=l;unfold ZQ at m;split at m
     .exact absurd ‹_› W
     .exact absurd ‹_› X
     .exact aF2 (K:=fun j n=>n=p->K j n) i.2 h s m i.1.2 i.1.1 b (fun D da j n A B l=>E _ _ _ _ A B (l▸s)) rfl
 .cases b
def aA2 {f:FuncId}{con:Con}(b:ajd P w0 f con)(h:Inv w0 G st a w){args:Array Operand}{ts:Array TypeId}(c:o.op=.call {callee:=.value (.func f),args:=args,argTypes:=ts})
  (d:Yr con st o.dst args.toList k=some r) (e:rD w0 k r K):o.wp P a w K Q:=ajg b h c d fun j da l m g i _=>e _ _ _ _ g i
def Inv.more (h:Inv w0 G st a w){w1:World}(c:Below w.heap.size w w1):Inv w0 G st a w1:=by
 have f:=aEn h c;have j:=kE.refl G st.bx st.bl;have y:=h.below.size;refine⟨h.nw,h.rok,h.below.step c.os c.tape c.output c.size fun k p _=>c.block k (by omega),h.defers,h.size,h.sp.mono f j,h.F5 f,fun t v s=>(h.tm t v s).mono f j,?_,?_,?_⟩
 .intro d l u;obtain⟨cs,e,m,i,n⟩:=h.bx d l u;have hlt:=(h.own _ _ i).2.1;exact⟨cs,e,(c.block _ hlt).trans m,i,n.imp fun _ _=>bC.mono f j⟩
 .intro id b x;exact(h.bl id b x).mono f rfl fun z g A q=>⟨q,c.block _ (h.own _ _ q).2.1⟩
 .intro g k p;obtain⟨m,i,n⟩:=h.own g k p;exact⟨m,EX i c.size,n⟩
def arQ {f:FuncId}{i:Idx}(z:Zb P f)(hi:∀W,eX w0.fr w0.w W->aF0 P f i W)(h:Inv w0 G st a w){args:Array Operand}{ts:Array TypeId}(A:o.op=.call {callee:=.value (.func f),args:=args,argTypes:=ts})
  (d:au5 i st o.dst args.toList k=some r) (B:rD w0 k r K):o.wp P a w K Q:=by
 unfold Oper.wp;rw[J4 z A];unfold au5 at d;split at d
 .rename_i s x C;split at d
  .rename_i g b D;split at d
   .rename_i j;have j:=aP j;split at d
    .rename_i l E;split at d
     .rename_i y F;split at d
      .rename_i xs H;have I:args.map a.eval=#[a.eval s,a.eval x]:=by
        have L:args=#[s,x]:=by rw[<-xJ (xs:=args),C]
        rw[L];simp
       have m:=h.ac x;rw[D]at m;have M:a.eval x=.func (.func i.g) #[] #[.pointer (some ⟨G.hb b,0,none⟩)]:=by rw[<-j];exact m.2
       obtain⟨cs,e,O,bp,hrel⟩:=h.bx b l E;obtain⟨qd,n,p,q,R,_⟩:=Ps (ok:=fun _=>True) (fun t c v S _=>VH h t c v S) hrel F;have T:n=[]:=by
        cases n with
        |nil=>rfl|cons _ _=>exact R.elim
       subst T;rw[fi]at p;rw[<-p]at q;have X:=VH h i.a.1 (st.ac s) (a.eval s) xs (h.ac s) H 0;show Calls P f _ w _;rw[I,M];refine Calls.mono (hi w h.below xs y (a.eval s) (G.hb b) cs e 0 X O q) fun qe qf Y=>?_
       obtain⟨rfl,Z⟩:=Y;exact C9 (h.more Z) (v:=.v (.c (.int .i64 (pU (fun x=>i.p x y) xs 0)))) (u:=.int .i64 (pU (fun x=>i.p x y) xs 0)) rfl d B
      .cases d
     .cases d
    .cases d
   .cases d
  .cases d
 .cases d
def avr {ok:Nat->Prop}{t:Ty}{cs:List Value}{xs:List t.D}(b:0<t.n)(n:cs.length=xs.length*t.n)(h:fe w ok t cs xs):∀u∈cs,u.oneCell'=true:=by
 intro u i;obtain⟨q,j,rfl⟩:=auQ.1 i;have l:q/t.n<xs.length:=by rw[aAz b];omega
 obtain⟨c,d,m⟩:=h (q/t.n) xs[q/t.n] (n6 l);have f:q%t.n<c.length:=by rw[d.len];exact abE _ b
 have g:=m (q%t.n) c[q%t.n] (n6 f);have e:q/t.n*t.n+q%t.n=q:=by rw[Nat.mul_comm];exact Nat.div_add_mod q t.n
 rw[e,n6 j]at g;rw[eR g];exact d.one _ (bP f)
def ax9 {ok:Nat->Prop}{t:Ty}{cs:List Value}{xs:List t.D}(d:fe w ok t cs xs)(m:Nat):fe w ok t (cs.drop (m*t.n)) (xs.drop m):=by intro e x b;rw[ai5]at b;obtain⟨c,f,g⟩:=d (m+e) x b;refine⟨c,f,fun i u h=>?_⟩;rw[ai5,<-Vm,<-Mh];exact g i u h
def aEy {f:FuncId}{e:TypeId}{u:Ty}(qd:Zb P f)(hi:∀W,eX w0.fr w0.w W->ato P f e u W)(h:Inv w0 G st a w){args:Array Operand}{ts:Array TypeId}(qe:o.op=.call {callee:=.value (.func f),args:=args,argTypes:=ts})
  (c:aAG e u st o.dst args.toList k=some r) (qf:rD w0 k r K):o.wp P a w K Q:=by
 unfold Oper.wp;rw[J4 qd qe];unfold aAG at c;split at c
 .rename_i d s i v qg qh;split at c
  .rename_i n F qi qj;split at c
   .rename_i b qk;split at c
    .rename_i z;rw[aF]at z;split at c
     .rename_i H;split at c
      .rename_i xs t qF hold;split at c
       .rename_i qG ql;obtain⟨I,c⟩:=aX c;simp only[aF,bW]at I;obtain⟨⟨⟨⟨qm,qn⟩,qH⟩,qo⟩,qp⟩:=I;obtain⟨be,j,bxs,A,qI⟩:=b;dsimp only at z H c qo qp;have qq:=Ty.beq_eq H;subst qq;obtain⟨qt,B⟩:=z;have B:=aP B;subst B;have x:0<j.n:=Vj (bs qm);have qu:args.map a.eval=#[a.eval s,.int .i64 ((n.toNat:Nat):Int),a.eval v]:=by
         have qv:args=#[s,i,v]:=by rw[<-xJ (xs:=args),qh]
         have y:=h.ac i;rw[qi]at y;have y:a.eval i=.int .i64 n:=y;rw[qv,Pl qn,<-y];simp
        have L:=h.ac v;rw[qj]at L;have M:a.eval v=G.hv F:=L.2.2;obtain⟨C,hd1,qw,D⟩:=(h.bl F _ (eG qk)).wr qt;obtain⟨qx,qK,qL,⟨cs,bp,O⟩,R⟩:=RR h (h.ac s) hold x;have qy:∀g,(a.eval s).ownBlock=some g->(a.eval v).ownBlock≠some g:=by intro g E S;obtain⟨id,T,X⟩:=R g E;rw[M]at S;rw[qw g S]at T;cases T;rw[ql]at X;cases X
        show Calls P f _ w _;rw[qu];refine Calls.mono (hi w h.below (a.eval s) (a.eval v) xs.length bxs.length n.toNat cs C bp (by rw[M];exact hd1) qy (by omega) (by omega) (by omega) (avr x bp.1 O) (avr x hd1.1 D)) fun qM qz qA=>?_
        obtain⟨Y,rfl,qB,E,m⟩:=qA;have qC:∀q,RO G t q->RO G (t&&(A || flat j)) q:=fun q l=>l.JY fun p=>by rw[aF]at p;exact p.1
        have qD:fe w (RO G (t&&(A || flat j))) j C bxs:=by
         cases qE:flat j with
         |true=>exact anw qE D|false=>exact lV (fun q l=>l.JY fun p=>by simp at p;exact p.2) D
        have Z:=lV qC O;have hlt:(cs.take (n.toNat*j.n)).length=(xs.take n.toNat).length*j.n:=by rw[bB,bB,bp.1,ads (GU _ (by omega)),ads (by omega)]
        rw[qg];refine Pv qx (a.eval s).ownBlock E R d ⟨be,j,xs.take n.toNat++bxs++xs.drop n.toNat,t&&(A || flat j),true⟩ rfl x Y (cs.take (n.toNat*j.n)++C++cs.drop (n.toNat*j.n)) ?_ ?_ (Yv ?_ (Yv hlt (anx Z _) qD) (ax9 Z _)) c qf
        .have:(xs.take n.toNat++bxs++xs.drop n.toNat).length=xs.length+bxs.length:=by simp only[aJ,bB,bc];omega
         show qz.ownsRow 0 be j.n Y (xs.take n.toNat++bxs++xs.drop n.toNat).length _;rw[this];exact qB
        .intro q l;rcases m with m|m
         .exact .inr (m▸l)
         .exact .inl (m q l)
        .rw[aJ,hlt,hd1.1,aJ,Mh]
       .cases c
      .cases c
     .cases c
    .cases c
   .cases c
  .cases c
 .cases c
def aEz {f:FuncId}{e:TypeId}{u:Ty}(z:Zb P f)(hi:∀W,eX w0.fr w0.w W->aCZ P f e u W)(h:Inv w0 G st a w){args:Array Operand}{ts:Array TypeId}(A:o.op=.call {callee:=.value (.func f),args:=args,argTypes:=ts})
  (b:aAH e u st o.dst args.toList k=some r) (B:rD w0 k r K):o.wp P a w K Q:=by
 unfold Oper.wp;rw[J4 z A];unfold aAH at b;split at b
 .rename_i d s i l C D;split at b
  .rename_i n m E F;split at b
   .rename_i xs H qd hold;obtain⟨v,b⟩:=aX b;simp only[aF,bW]at v;obtain⟨⟨⟨I,L⟩,qe⟩,qf⟩:=v;have p:0<u.n:=Vj (bs I);have M:args.map a.eval=#[a.eval s,.int .i64 ((n.toNat:Nat):Int),.int .i64 ((m.toNat:Nat):Int)]:=by
     have O:args=#[s,i,l]:=by rw[<-xJ (xs:=args),D]
     have g:=h.ac i;rw[E]at g;have g:a.eval i=.int .i64 n:=g;have j:=h.ac l;rw[F]at j;have j:a.eval l=.int .i64 m:=j;rw[O,Pl L,Pl (by omega),<-g,<-j];simp
    obtain⟨R,qg,qh,⟨cs,bp,t⟩,S⟩:=RR h (h.ac s) hold p;show Calls P f _ w _;rw[M];refine Calls.mono (hi w h.below (a.eval s) xs.length n.toNat m.toNat cs bp (by omega) (by omega) (avr p bp.1 t)) fun qi T X=>?_
    obtain⟨x,rfl,Y,Z,c⟩:=X;have hlt:(cs.take (n.toNat*u.n)).length=(xs.take n.toNat).length*u.n:=by rw[bB,bB,bp.1,ads (GU _ (by omega)),ads (by omega)]
    rw[C];refine Pv R (a.eval s).ownBlock Z S d ⟨e,u,xs.take n.toNat++xs.drop m.toNat,H,true⟩ rfl p x (cs.take (n.toNat*u.n)++cs.drop (m.toNat*u.n)) ?_ ?_ (Yv hlt (anx t _) (ax9 t _)) b B
    .have:(xs.take n.toNat++xs.drop m.toNat).length=n.toNat+(xs.length-m.toNat):=by simp only[aJ,bB,bc];omega
     show T.ownsRow 0 e u.n x (xs.take n.toNat++xs.drop m.toNat).length _;rw[this];exact Y
    .intro q y;rcases c with c|c
     .exact .inr (c▸y)
     .exact .inl (c q y)
   .cases b
  .cases b
 .cases b
def aya (h:Inv w0 G st a w)(t:TypeId)(x:Operand)(s:o.op=.box t x){d:Tmp}(z:o.dst=some d){u:Ty}{y:u.D}(A:im st u (st.eb x).cells=some (y,[]))
  (B:ck (Nat.blt d st.nt&&(st.eb x).kn&&o3 st (st.eb x).cells) (k ((st.freeze (st.eb x).cells).put d (.v (.c (.UU (cj (st.eb x).cells) u y 0)))))=some r) (C:rD w0 k r K):o.wp P a w K Q:=by
 obtain⟨l,f⟩:=aX B;simp only[aF]at l;obtain⟨⟨D,E⟩,F⟩:=l;refine JZ (v:=.pointer (some ⟨w.heap.size,0,none⟩)) (w':=w.alloc (.cells (a.eval x).cells t)) ?_ ?_
 .unfold execOp;rw[s];simp[Instr.box,B5]
 .rw[z];obtain⟨g,c,H,I,m⟩:=Inv.freeze (st.eb x).cells h;have L:=((h.eb x).cells E).imp fun _ _=>bC.mono H I
  obtain⟨W,n,e,p,M,_⟩:=Ps (ok:=RO g (cj (st.eb x).cells)) (Pu (bx:=st.bx) c F fun h=>h) L (by rw[uf m];exact A);have O:n=[]:=by
   cases n with
   |nil=>rfl|cons _ _=>exact M.elim
  subst O;rw[fi]at e;rw[<-e]at p;have j:Below w.heap.size w (w.alloc (.cells (a.eval x).cells t)):=⟨rfl,rfl,rfl,by simp,fun k f=>Below.heap_alloc _ _ _ f⟩;have R:=c.more j;have bp:g.own w.heap.size=none:=by
   cases S:g.own w.heap.size with
   |none=>rfl|some q=>exact absurd (c.own _ q S).2.1 (Vo _)
  refine C _ _ _ _ (R.put d (by rw[m.nt];exact gJ D) (v:=.v (.c (.UU (cj (st.eb x).cells) u y 0))) ?_) f;refine⟨w.heap.size,0,(a.eval x).cells.toList,by simp,by simp,⟨bp,.inl (c.axW (bF _))⟩,p.mono j.size fun b T dd=>⟨dd,j.block b T⟩,fun i v e=>?_⟩;rw[cell_of_row _ w.heap.size (0+i) (a.eval x).cells t (0,0) (heap_alloc_new w _),wG];simpa using e
def E4 {C:FuncId->Option Any}(E:∀f B,C f=some B->S3 P w0 f B)(h:Inv w0 G st a w)(j:iU P C (rz.RH N) o st k=some r)(n:rD w0 k r K):o.wp P a w K Q:=by
 unfold iU at j;split at j
 .exact bI (Jy h _ (.inl ‹_›) j) n
 .exact bI (Jy h _ (.inr ‹_›) j) n
 ·
  rename_i c x y m;split at j
  .exact bI (agD h c x y m ‹_› j) n
  .cases j
 ·
  rename_i t x m;split at j
  .rename_i d I;split at j
   .split at j
    .split at j
     .exact aya h t x m I ‹_› j n
     .cases j
    .cases j
   .split at j
    .exact aEo h t x m I ‹_› j n
    .cases j
  .cases j
 ·
  rename_i t m;split at j
  .rename_i d I;split at j
   .split at j
    .exact axZ h t m I ‹_› ‹_› j n
    .cases j
   .cases j
  .cases j
 ·
  rename_i t parts m;split at j
  .split at j
   .exact bI (abM h t parts m ‹_› ‹_› ‹_› ‹_› j) n
   .cases j
  .cases j
 ·
  rename_i t len parts m;split at j
  .split at j
   .split at j
    .split at j
     .exact agI h t len parts m ‹_› ‹_› ‹_› ‹_› j n
     .cases j
    .cases j
   .cases j
  .cases j
 ·
  rename_i t x m;split at j
  .rename_i l off W;dsimp only at j;split at j
   .rename_i F;split at j
    .exact bI (Jz h t x m W F (b:=true) ‹_› (v:=.agg _) rfl j) n
    .split at j
     .rename_i O _ y R;exact bI (Jz h t x m W F (b:=false) O (v:=.c y) ⟨y,R,rfl⟩ j) n
     .cases j
    .cases j
   .cases j
  .cases j
 ·
  rename_i t x y m;split at j
  .rename_i z;simp only[aF]at z;obtain⟨⟨⟨X,Y⟩,Z⟩,qd⟩:=z;split at j
   .split at j
    .split at j
     .exact ans h t x y m X Y (aP Z) qd ‹_› ‹_› (F6 ‹_›) j n
     .cases j
    .cases j
   .split at j
    .split at j
     .rename_i L;simp only[aF]at L;split at j
      .exact akD h t x y m X Y (aP Z) qd ‹_› ‹_› L.1.1 L.1.2 L.2 ‹_› j n
      .cases j
     .cases j
    .cases j
   .cases j
  .cases j
 ·
  rename_i x m;split at j
  .exact bI (OO h x m ‹_› j) n
  .cases j
 ·
  rename_i op S x y T m;split at j
  .exact bI (abJ h op S x y T m ‹_› ‹_› j) n
  .split at j
   .exact bI (oJ h _ S x y T m ‹_› ‹_› ‹_› (.inl ⟨rfl,rfl⟩) j) n
   .exact bI (oJ h _ S x y T m ‹_› ‹_› ‹_› (.inr ⟨rfl,rfl⟩) j) n
   .cases j
  .cases j
 ·
  rename_i op t x m;split at j
  .exact bI (ano h t x m ‹_› j) n
  .exact bI (anp h t x m ‹_› j) n
  .cases j
 ·
  rename_i src dst x m;split at j
  .exact bI (RM h src dst x m ‹_› ‹_› ‹_› j) n
  .exact bI (RN h src dst x m ‹_› ‹_› ‹_› j) n
  .split at j
   .obtain⟨z,j⟩:=aX j;exact arP h src dst x m ‹_› ‹_› ‹_› ‹_› (by have:=lE z;dsimp only[rz.RH]at this;omega) j n
   .cases j
  .split at j
   .exact bI (abN h src dst x m ‹_› ‹_› ‹_› ‹_› j) n
   .cases j
  .cases j
 ·
  rename_i t p q m;split at j
  .split at j
   .split at j
    .obtain⟨z,j⟩:=aX j;exact akG h t p q m ‹_› ‹_› ‹_› ‹_› ‹_› ‹_› z j n
    .cases j
   .cases j
  .cases j
 ·
  rename_i t x qe A m;split at j
  .split at j
   .split at j
    .obtain⟨z,j⟩:=aX j;simp only[aF,bW]at z;exact bI (VD h t x qe A m ‹_› ‹_› ‹_› ‹_› z.1.1 z.1.2 z.2 j) n
    .cases j
   .cases j
  .split at j
   .split at j
    .obtain⟨z,j⟩:=aX j;simp only[aF,bW]at z;exact bI (abL h t x qe A m ‹_› ‹_› (aP z.1.1) (bs z.1.2) ‹_› ‹_› z.2.1.1 z.2.1.2 z.2.2 j) n
    .cases j
   .split at j
    .split at j
     .obtain⟨z,j⟩:=aX j;simp only[aF,bW]at z;exact bI (VE h t x A m ‹_› ‹_› ‹_› (aP z.1) ‹_› z.2.1 z.2.2 j) n
     .cases j
    .split at j
     .obtain⟨z,j⟩:=aX j;simp only[aF,bW]at z;exact bI (OR h t x _ A m ‹_› ‹_› ‹_› (aP z.1) ‹_› ‹_› z.2.1.1 z.2.1.2 z.2.2 j) n
     .cases j
    .cases j
   .cases j
  .cases j
 ·
  rename_i t x f m;split at j
  .split at j
   .exact bI (fj h t x f m ‹_› ‹_› (by exact rfl) j) n
   .split at j
    .exact bI (fj h t x f m ‹_› ‹_› (by exact⟨rfl,_,eG ‹_›⟩) j) n
    .cases j
   .exact bI (fj h t x f m ‹_› ‹_› (by exact rfl) j) n
   .cases j
  .cases j
 ·
  rename_i t x i m;split at j
  .split at j
   .split at j
    .split at j
     .split at j
      .obtain⟨z,j⟩:=aX j;simp only[aF,bW]at z;exact bI (OP h t x i m ‹_› ‹_› ‹_› ‹_› ‹_› (aP z.1) z.2.1 z.2.2 j) n
      .cases j
     .cases j
    .obtain⟨z,j⟩:=aX j;simp only[aF,bW]at z;exact bI (RP h t x i m ‹_› ‹_› ‹_› (aP z.1.1) (bs z.1.2) z.2.1 z.2.2 j) n
    .cases j
   .split at j
    .obtain⟨z,j⟩:=aX j;simp only[aF,bW]at z;exact bI (OQ h t x i m ‹_› ‹_› ‹_› (bs z.1) z.2.1 z.2.2 j) n
    .cases j
   .cases j
  .cases j
 ·
  rename_i t x i m;split at j
  .obtain⟨z,j⟩:=aX j;simp only[aF,bW]at z;exact bI (abK h t x i m ‹_› ‹_› ‹_› z.1 z.2 j) n
  .cases j
 ·
  rename_i t x f m;split at j
  .rename_i qf H;dsimp only at j;split at j
   .rename_i F;split at j
    .exact bI (B7 h t x f m qf H F (b:=true) ‹_› (v:=.agg _) rfl j) n
    .split at j
     .rename_i O _ y R;exact bI (B7 h t x f m qf H F (b:=false) O (v:=.c y) ⟨y,R,rfl⟩ j) n
     .cases j
    .cases j
   .cases j
  .cases j
 ·
  rename_i x i m;split at j
  .split at j
   .exact bI (RL h x i m ‹_› ‹_› j) n
   .cases j
  .cases j
 ·
  rename_i f args M m;split at j
  .rename_i B D;exact aA2 (show ajd P w0 f B from E f (.one B) D) h m j n
  .rename_i B D;exact ax6 (show abO P w0 f B from E f (.two B) D) h m j n
  .rename_i B D;exact ax8 (show avo P w0 f B from E f (.sel B) D) h m j n
  .rename_i i D;have A:=E f (.idx i) D;exact arQ A.1 A.2 h m j n
  .rename_i e u D;have A:=E f (.ins e u) D;exact aEy A.1 A.2 h m j n
  .rename_i e u D;have A:=E f (.del e u) D;exact aEz A.1 A.2 h m j n
  .cases j
 ·
  rename_i args M m;split at j
  .rename_i x t H qg;split at j
   .split at j
    .exact bI (Pr h x t m H qg ‹_› (.inl ⟨by assumption,_,by assumption⟩) j) n
    .cases j
   .split at j
    .cases j
    .rename_i qh;exact bI (Pr h x t m H qg ‹_› (.inr ⟨⟨_,by assumption⟩,fun s qi=>qh s qi⟩) j) n
   .cases j
  .cases j
 ·
  rename_i args M m;split at j
  .split at j
   .split at j
    .exact bI (anF h m ‹_› ‹_› ‹_› j) n
    .cases j
   .cases j
  .cases j
 ·
  rename_i args M m;split at j
  .split at j
   .split at j
    .exact bI (anG h m ‹_› ‹_› ‹_› j) n
    .cases j
   .cases j
  .cases j
 ·
  rename_i args M m;split at j
  .split at j
   .split at j
    .exact avm h m ‹_› ‹_› ‹_› ‹_› ‹_› j n
    .cases j
   .cases j
  .cases j
 ·
  rename_i g first qj m
  split at j
  .split at j
   .exact bI (arL h g first qj m ‹_› ‹_› ‹_› j) n
   .cases j
  .cases j
 .cases j
end
end Go.Am
