/- Lemmas for the claim. No condition. -/
import Derived.Test.YtfapcfpkbahneaaGreatDoorQtAmTwo
set_option linter.all false
namespace Go.Am
open Go.RowKit
section
variable {N:Nat} {P:Program} {w0:fJ} {w:World} {G:Gh} {st:St} {a:Act} {α:Type} {k:St->Option α} {r:α} {K:Act->World->Prop} {Q:Exit->Act->World->Prop} {o:Oper}
theorem Q7 (h:Inv w0 G st a w)(w1:World)(op:Bool)(kd:IntKind):∀(l:List Operand) (x y:Int),aaF op st x l=some y ->
  ((l.map a.eval).foldlM (if op then Builtin.max2 else Builtin.min2) (.int kd x)).run P w1=.ok (.int kd y) w1
 |[],x,y,hm=>by cases hm;rfl
 |o::l,x,y,hm=>by
  simp only[aaF]at hm;split at hm
  ·rename_i k' b hb;have hv:a.eval o=.int k' b:=by have:=h.ac o;rw[hb]at this;exact this
   rw[uh,List.foldlM_cons,hv];cases op with
   |true =>
    have:=Q7 h w1 true kd l _ y hm;simp only[ig]at this ⊢;rw[Sem.run_bind];exact this
   |false =>
    have:=Q7 h w1 false kd l _ y hm;simp only[ar3,gT]at this ⊢;rw[Sem.run_bind];exact this
  ·cases hm
theorem amC (h:Inv w0 G st a w){args:Array Operand}{ts:Array TypeId}(ho:o.op=.call {callee:=.builtin .max,args:=args,argTypes:=ts}){x:Operand}{l:List Operand}(ha:args.toList=x::l)
  {kd:IntKind} {n y:Int} (hx:st.ac x=.int kd n) (hm:aaF true st n l=some y) (hr:st.pk o.dst (.v (.c (.int kd y))) k=some r):bJ P w0 w a o k r:=by
 have hargs:args=(x::l).toArray:=by rw[<-xW (xs:=args),ha]
 subst hargs;have hv:a.eval x=.int kd n:=by have:=h.ac x;rw[hx]at this;exact this
 refine dU (u:=.int kd y) h (v:=.v (.c (.int kd y))) rfl hr fun w1 hB=>?_
 have hrun:=Q7 (P:=P) h w1 true kd l n y hm;simp only[ig]at hrun;unfold execOp;rw[ho];simp only[resolve,Sem.run_bind,Sem.run_pure,Result.andThen_ok,invoke,builtin,Builtin.max_,List.map_toArray,uh,hv];rw[hrun];rfl
theorem amD (h:Inv w0 G st a w){args:Array Operand}{ts:Array TypeId}(ho:o.op=.call {callee:=.builtin .min,args:=args,argTypes:=ts}){x:Operand}{l:List Operand}(ha:args.toList=x::l)
  {kd:IntKind} {n y:Int} (hx:st.ac x=.int kd n) (hm:aaF false st n l=some y) (hr:st.pk o.dst (.v (.c (.int kd y))) k=some r):bJ P w0 w a o k r:=by
 have hargs:args=(x::l).toArray:=by rw[<-xW (xs:=args),ha]
 subst hargs;have hv:a.eval x=.int kd n:=by have:=h.ac x;rw[hx]at this;exact this
 refine dU (u:=.int kd y) h (v:=.v (.c (.int kd y))) rfl hr fun w1 hB=>?_
 have hrun:=Q7 (P:=P) h w1 false kd l n y hm;simp only[ar3,gT]at hrun;unfold execOp;rw[ho];simp only[resolve,Sem.run_bind,Sem.run_pure,Result.andThen_ok,invoke,builtin,Builtin.min_,List.map_toArray,uh,hv];rw[hrun];rfl
theorem aia {f:FuncId}{con:Con}(fw:ah6 P w0 f con)(h:Inv w0 G st a w){args:Array Operand}{ts:Array TypeId}(ho:o.op=.call {callee:=.value (.func f),args:=args,argTypes:=ts})
  (hr:Xp con st o.dst args.toList k=some r) (hK:∀G' dK a' w',Inv w0 G' dK a' w'->k dK=some r->Below w.heap.size w w'->K a' w'):o.wp P a w K Q:=by
 unfold Oper.wp;rw[Jh fw.1 ho];unfold Xp at hr;split at hr
 ·rename_i x hx;cases hg:con.g x with
  |none=>rw[hg]at hr;cases hr
  |some y =>
   rw[hg]at hr;simp only[al7]at hr;have hargs:(args.map a.eval)=(args.toList.map a.eval).toArray:=by rw[<-acj,xW]
   show Calls P f _ w _;rw[hargs];cases hd:o.dst with
   |none=>rw[hd]at hr;cases hr
   |some d =>
    rw[hd]at hr;dsimp only at hr;split at hr
    ·rename_i hm;obtain⟨hc,hr⟩:=aY hr;simp only[aJ]at hc;obtain⟨G1,h1,hx1,hs1,hsd⟩:=h.freeze (kP st args.toList);have kt:=IP (ok:=RO G1 (pY st (kP st args.toList)&&cV (kP st args.toList))) h1 con.ps args.toList x
      (fun t c v xs Bq=>aaQ h1 (fun hn=>by rw[aJ]at hn;exact hn.1) (fun hn=>by rw[aJ]at hn;exact hn.2) t c v xs (by rw[N2 hsd]at Bq;exact Bq))
      (by rw[ah8 hsd];exact hx)
     refine Calls.mono (fw.2 x y hg w h.below _ _ kt) fun e w' he=>?_
     obtain⟨us,rfl,db,hB⟩:=he;unfold YS at db;rw[hm]at db;exact aB3 (K:=fun a' w''=>w''=w'->K a' w'') hc.2 h1 hB db (fun g hg=>hg) (by rw[hsd.nt];exact hc.1) hr (fun G' dK a' w'' h' lI he=>hK _ _ _ _ h' lI (he▸hB)) rfl
    ·rename_i hm;obtain⟨hc,hr⟩:=aY hr;simp only[aJ]at hc;have kt:=IP (ok:=fun _=>True) h con.ps args.toList x (fun t c v xs _=>UK h t c v xs) hx;refine Calls.mono (fw.2 x y hg w h.below _ _ kt) fun e w' he=>?_
     obtain⟨us,rfl,db,hB⟩:=he;unfold YS at db;rw[hm]at db;exact aB3 (K:=fun a' w''=>w''=w'->K a' w'') (f:=true) hc.2 h hB db (fun g hg=>.inl hg) hc.1 hr (fun G' dK a' w'' h' lI he=>hK _ _ _ _ h' lI (he▸hB)) rfl
    ·rename_i hm0 hm1;obtain⟨hc,hr⟩:=aY hr;simp only[aJ]at hc;have kt:=IP (ok:=fun _=>True) h con.ps args.toList x (fun t c v xs _=>UK h t c v xs) hx;refine Calls.mono (fw.2 x y hg w h.below _ _ kt) fun e w' he=>?_
     obtain⟨us,rfl,db,hB⟩:=he;unfold YS at db;split at db
     ·exact absurd (by assumption) hm0
     ·exact absurd (by assumption) hm1
     ·exact aFy (K:=fun a' w''=>w''=w'->K a' w'') hc.2 h hB db hc.1.2 hc.1.1 hr (fun G' dK a' w'' h' lI he=>hK _ _ _ _ h' lI (he▸hB)) rfl
 ·cases hr
theorem az1 {f:FuncId}{con:Con}(fw:ah6 P w0 f con)(h:Inv w0 G st a w){args:Array Operand}{ts:Array TypeId}(ho:o.op=.call {callee:=.value (.func f),args:=args,argTypes:=ts})
  (hr:Xp con st o.dst args.toList k=some r) (hK:rW w0 k r K):o.wp P a w K Q:=aia fw h ho hr fun G' dK a' w' h' lI _=>hK _ _ _ _ h' lI
theorem Inv.more (h:Inv w0 G st a w){w1:World}(hB:Below w.heap.size w w1):Inv w0 G st a w1:=by
 have hx:=aDm h hB;have hs:=kR.refl G st.bx st.bl;have hle:=h.below.size;refine⟨h.nw,h.rok,h.below.step hB.os hB.tape hB.output hB.size fun k hk _=>hB.block k (by omega),h.defers,h.size,h.sp.mono hx hs,h.Fe hx,fun t v hv=>(h.tm t v hv).mono hx hs,?_,?_,?_⟩
 ·intro d l hl;obtain⟨cs,e,h1,h2,h3⟩:=h.bx d l hl;have hlt:=(h.own _ _ h2).2.1;exact⟨cs,e,(hB.block _ hlt).trans h1,h2,h3.imp fun _ _=>bN.mono hx hs⟩
 ·intro id b hb;exact(h.bl id b hb).mono hx rfl fun hw g hg ho=>⟨ho,hB.block _ (h.own _ _ ho).2.1⟩
 ·intro g k hk;obtain⟨h1,h2,h3⟩:=h.own g k hk;exact⟨h1,DZ h2 hB.size,h3⟩
theorem aqF {f:FuncId}{i:Idx}(hf:Yf P f)(hi:∀W,fB w0.fr w0.w W->aFw P f i W)(h:Inv w0 G st a w){args:Array Operand}{ts:Array TypeId}(ho:o.op=.call {callee:=.value (.func f),args:=args,argTypes:=ts})
  (hr:atL i st o.dst args.toList k=some r) (hK:rW w0 k r K):o.wp P a w K Q:=by
 unfold Oper.wp;rw[Jh hf ho];unfold atL at hr;split at hr
 ·rename_i s x amE;split at hr
  ·rename_i g b hx;split at hr
   ·rename_i hg;have hg:=aP hg;split at hr
    ·rename_i l hl;split at hr
     ·rename_i y hy;split at hr
      ·rename_i xs hxs;have hargs:args.map a.eval=#[a.eval s,a.eval x]:=by
        have e1:args=#[s,x]:=by rw[<-xW (xs:=args),amE]
        rw[e1];simp
       have h1:=h.ac x;rw[hx]at h1;have hv:a.eval x=.func (.func i.g) #[] #[.pointer (some ⟨G.hb b,0,none⟩)]:=by rw[<-hg];exact h1.2
       obtain⟨cs,e,hh,bH,hrel⟩:=h.bx b l hl;obtain⟨vs1,vs2,he,kt,hr2,_⟩:=OI (ok:=fun _=>True) (fun t c v zs _=>UK h t c v zs) hrel hy;have hv2:vs2=[]:=by
        cases vs2 with
        |nil=>rfl
        |cons _ _=>exact hr2.elim
       subst hv2;rw[ie]at he;rw[<-he]at kt;have hs:=UK h i.a.1 (st.ac s) (a.eval s) xs (h.ac s) hxs 0;show Calls P f _ w _;rw[hargs,hv];refine Calls.mono (hi w h.below xs y (a.eval s) (G.hb b) cs e 0 hs hh kt) fun e' w' he'=>?_
       obtain⟨rfl,hB⟩:=he';exact Cr (h.more hB) (v:=.v (.c (.int .i64 (qO (fun x=>i.p x y) xs 0)))) (u:=.int .i64 (qO (fun x=>i.p x y) xs 0)) rfl hr hK
      ·cases hr
     ·cases hr
    ·cases hr
   ·cases hr
  ·cases hr
 ·cases hr
theorem auf {ok:Nat->Prop}{t:Ty}{cs:List Value}{xs:List t.D}(hp:0<t.n)(hl:cs.length=xs.length*t.n)(he:fL w ok t cs xs):∀u∈cs,u.oneCell'=true:=by
 intro u hu;obtain⟨q,hq,rfl⟩:=atB.1 hu;have hj:q/t.n<xs.length:=by rw[azt hp];omega
 obtain⟨c,h1,h2⟩:=he (q/t.n) xs[q/t.n] (oY hj);have hm:q%t.n<c.length:=by rw[h1.len];exact aaC _ hp
 have h3:=h2 (q%t.n) c[q%t.n] (oY hm);have e:q/t.n*t.n+q%t.n=q:=by rw[Nat.mul_comm];exact Nat.div_add_mod q t.n
 rw[e,oY hq]at h3;rw[fQ h3];exact h1.one _ (di hm)
theorem awX {ok:Nat->Prop}{t:Ty}{cs:List Value}{xs:List t.D}(he:fL w ok t cs xs)(m:Nat):fL w ok t (cs.drop (m*t.n)) (xs.drop m):=by intro j x hj;rw[ahT]at hj;obtain⟨c,h1,h2⟩:=he (m+j) x hj;refine⟨c,h1,fun i u hu=>?_⟩;rw[ahT,<-Up,<-Lu];exact h2 i u hu
theorem aDE {f:FuncId}{e:TypeId}{u:Ty}(hf:Yf P f)(hi:∀W,fB w0.fr w0.w W->asm P f e u W)(h:Inv w0 G st a w){args:Array Operand}{ts:Array TypeId}(ho:o.op=.call {callee:=.value (.func f),args:=args,argTypes:=ts})
  (hr:azA e u st o.dst args.toList k=some r) (hK:rW w0 k r K):o.wp P a w K Q:=by
 unfold Oper.wp;rw[Jh hf ho];unfold azA at hr;split at hr
 ·rename_i d s i v UA amE;split at hr
  ·rename_i n id2 hin hvn;split at hr
   ·rename_i b hb;split at hr
    ·rename_i hwe;rw[aJ]at hwe;split at hr
     ·rename_i ht;split at hr
      ·rename_i xs fl ub hold;split at hr
       ·rename_i b1 hl1;obtain⟨hc,hr⟩:=aY hr;simp only[aJ,cD]at hc;obtain⟨⟨⟨⟨hc1,hc2⟩,hc3⟩,hc4⟩,hc5⟩:=hc;obtain⟨be,bt,bxs,bf,bw⟩:=b;dsimp only at hwe ht hr hc4 hc5;have htt:=Ty.beq_eq ht;subst htt;obtain⟨hw,hee⟩:=hwe;have hee:=aP hee;subst hee;have hp:0<bt.n:=Uo (bI hc1);have hargs:args.map a.eval=#[a.eval s,.int .i64 ((n.toNat:Nat):Int),a.eval v]:=by
         have e1:args=#[s,i,v]:=by rw[<-xW (xs:=args),amE]
         have e2:=h.ac i;rw[hin]at e2;have e2:a.eval i=.int .i64 n:=e2;rw[e1,ar2 hc2,<-e2];simp
        have hvr:=h.ac v;rw[hvn]at hvr;have hvv:a.eval v=G.hv id2:=hvr.2.2;obtain⟨ds,hd1,hd2,hd3⟩:=(h.bl id2 _ (fi hb)).wr hw;obtain⟨h1,hnt,hbx,⟨cs,bH,Fg⟩,gF⟩:=Q6 h (h.ac s) hold hp;have hap:∀g,(a.eval s).ownBlock=some g->(a.eval v).ownBlock≠some g:=by intro g hg hg2;obtain⟨id,h2,h3⟩:=gF g hg;rw[hvv]at hg2;rw[hd2 g hg2]at h2;cases h2;rw[hl1]at h3;cases h3
        show Calls P f _ w _;rw[hargs];refine Calls.mono (hi w h.below (a.eval s) (a.eval v) xs.length bxs.length n.toNat cs ds bH (by rw[hvv];exact hd1) hap (by omega) (by omega) (by omega) (auf hp bH.1 Fg) (auf hp hd1.1 hd3)) fun e' w' he'=>?_
        obtain⟨v',rfl,hown',hg,hat⟩:=he';have aFv:∀q,RO G fl q->RO G (fl&&(bf || flat bt)) q:=fun q hq=>hq.Ea fun hh=>by rw[aJ]at hh;exact hh.1
        have hnR:fL w (RO G (fl&&(bf || flat bt))) bt ds bxs:=by
         cases UF:flat bt with
         |true=>exact amt UF hd3
         |false=>exact mr (fun q hq=>hq.Ea fun hh=>by simp at hh;exact hh.2) hd3
        have hE:=mr aFv Fg;have hlt:(cs.take (n.toNat*bt.n)).length=(xs.take n.toNat).length*bt.n:=by rw[bQ,bQ,bH.1,ahV (F4 _ (by omega)),ahV (by omega)]
        rw[UA];refine OL h1 (a.eval s).ownBlock hg gF d ⟨be,bt,xs.take n.toNat++bxs++xs.drop n.toNat,fl&&(bf || flat bt),true⟩ rfl hp v' (cs.take (n.toNat*bt.n)++ds++cs.drop (n.toNat*bt.n)) ?_ ?_ (Xt ?_ (Xt hlt (amu hE _) hnR) (awX hE _)) hr hK
        ·have:(xs.take n.toNat++bxs++xs.drop n.toNat).length=xs.length+bxs.length:=by simp only[aT,bQ,bz];omega
         show w'.ownsRow 0 be bt.n v' (xs.take n.toNat++bxs++xs.drop n.toNat).length _;rw[this];exact hown'
        ·intro q hq;rcases hat with hat|hat
         ·exact .inr (hat▸hq)
         ·exact .inl (hat q hq)
        ·rw[aT,hlt,hd1.1,aT,Lu]
       ·cases hr
      ·cases hr
     ·cases hr
    ·cases hr
   ·cases hr
  ·cases hr
 ·cases hr
theorem aDF {f:FuncId}{e:TypeId}{u:Ty}(hf:Yf P f)(hi:∀W,fB w0.fr w0.w W->aB0 P f e u W)(h:Inv w0 G st a w){args:Array Operand}{ts:Array TypeId}(ho:o.op=.call {callee:=.value (.func f),args:=args,argTypes:=ts})
  (hr:azB e u st o.dst args.toList k=some r) (hK:rW w0 k r K):o.wp P a w K Q:=by
 unfold Oper.wp;rw[Jh hf ho];unfold azB at hr;split at hr
 ·rename_i d s i j UA amE;split at hr
  ·rename_i n m hin hjn;split at hr
   ·rename_i xs fl ub hold;obtain⟨hc,hr⟩:=aY hr;simp only[aJ,cD]at hc;obtain⟨⟨⟨hc1,hc2⟩,hc3⟩,hc4⟩:=hc;have hp:0<u.n:=Uo (bI hc1);have hargs:args.map a.eval=#[a.eval s,.int .i64 ((n.toNat:Nat):Int),.int .i64 ((m.toNat:Nat):Int)]:=by
     have e1:args=#[s,i,j]:=by rw[<-xW (xs:=args),amE]
     have e2:=h.ac i;rw[hin]at e2;have e2:a.eval i=.int .i64 n:=e2;have e3:=h.ac j;rw[hjn]at e3;have e3:a.eval j=.int .i64 m:=e3;rw[e1,ar2 hc2,ar2 (by omega),<-e2,<-e3];simp
    obtain⟨h1,hnt,hbx,⟨cs,bH,Fg⟩,gF⟩:=Q6 h (h.ac s) hold hp;show Calls P f _ w _;rw[hargs];refine Calls.mono (hi w h.below (a.eval s) xs.length n.toNat m.toNat cs bH (by omega) (by omega) (auf hp bH.1 Fg)) fun e' w' he'=>?_
    obtain⟨v',rfl,hown',hg,hat⟩:=he';have hlt:(cs.take (n.toNat*u.n)).length=(xs.take n.toNat).length*u.n:=by rw[bQ,bQ,bH.1,ahV (F4 _ (by omega)),ahV (by omega)]
    rw[UA];refine OL h1 (a.eval s).ownBlock hg gF d ⟨e,u,xs.take n.toNat++xs.drop m.toNat,fl,true⟩ rfl hp v' (cs.take (n.toNat*u.n)++cs.drop (m.toNat*u.n)) ?_ ?_ (Xt hlt (amu Fg _) (awX Fg _)) hr hK
    ·have:(xs.take n.toNat++xs.drop m.toNat).length=n.toNat+(xs.length-m.toNat):=by simp only[aT,bQ,bz];omega
     show w'.ownsRow 0 e u.n v' (xs.take n.toNat++xs.drop m.toNat).length _;rw[this];exact hown'
    ·intro q hq;rcases hat with hat|hat
     ·exact .inr (hat▸hq)
     ·exact .inl (hat q hq)
   ·cases hr
  ·cases hr
 ·cases hr
theorem awY (h:Inv w0 G st a w)(t:TypeId)(x:Operand)(ho:o.op=.box t x){d:Tmp}(UA:o.dst=some d){u:Ty}{y:u.D}(hy:im st u (st.eP x).cells=some (y,[]))
  (hr:ck (Nat.blt d st.nt&&(st.eP x).kn&&pY st (st.eP x).cells) (k ((st.freeze (st.eP x).cells).put d (.v (.c (.T5 (cV (st.eP x).cells) u y 0)))))=some r) (hK:rW w0 k r K):o.wp P a w K Q:=by
 obtain⟨hc,hk⟩:=aY hr;simp only[aJ]at hc;obtain⟨⟨h1,h2⟩,h3⟩:=hc;refine Jb (v:=.pointer (some ⟨w.heap.size,0,none⟩)) (w':=w.alloc (.cells (a.eval x).cells t)) ?_ ?_
 ·unfold execOp;rw[ho];simp[Instr.box,Bo]
 ·rw[UA];obtain⟨G1,hi,hx,hs,hsd⟩:=Inv.freeze (st.eP x).cells h;have hcell:=((h.eP x).cells h2).imp fun _ _=>bN.mono hx hs
  obtain⟨vs1,vs2,hv,kt,hr2,_⟩:=OI (ok:=RO G1 (cV (st.eP x).cells)) (OK (bx:=st.bx) hi h3 fun h=>h) hcell (by rw[uS hsd];exact hy);have hv2:vs2=[]:=by
   cases vs2 with
   |nil=>rfl
   |cons _ _=>exact hr2.elim
  subst hv2;rw[ie]at hv;rw[<-hv]at kt;have hB:Below w.heap.size w (w.alloc (.cells (a.eval x).cells t)):=⟨rfl,rfl,rfl,by simp,fun k hk=>Below.heap_alloc _ _ _ hk⟩;have hi2:=hi.more hB;have bH:G1.own w.heap.size=none:=by
   cases hg:G1.own w.heap.size with
   |none=>rfl
   |some q=>exact absurd (hi.own _ q hg).2.1 (Uq _)
  refine hK _ _ _ _ (hi2.put d (by rw[hsd.nt];exact il h1) (v:=.v (.c (.T5 (cV (st.eP x).cells) u y 0))) ?_) hk;refine⟨w.heap.size,0,(a.eval x).cells.toList,by simp,by simp,⟨bH,.inl (hi.awE (cp _))⟩,kt.mono hB.size fun b hb dO=>⟨dO,hB.block b hb⟩,fun i v hv=>?_⟩;rw[cell_of_row _ w.heap.size (0+i) (a.eval x).cells t (0,0) (heap_alloc_new w _),xf];simpa using hv
theorem Eg {C:FuncId->Option Any}(hC:∀f con,C f=some con->Se P w0 f con)(h:Inv w0 G st a w)(hr:jD P C (rT.QY N) o st k=some r)(hK:rW w0 k r K):o.wp P a w K Q:=by
 unfold jD at hr;split at hr
 ·exact bS (IL h _ (.inl (by assumption)) hr) hK
 ·exact bS (IL h _ (.inr (by assumption)) hr) hK
 ·
  rename_i c x y cr;split at hr
  ·exact bS (afu h c x y cr (by assumption) hr) hK
  ·cases hr
 ·
  rename_i t x cr;split at hr
  ·rename_i d hd;split at hr
   ·split at hr
    ·split at hr
     ·exact awY h t x cr hd (by assumption) hr hK
     ·cases hr
    ·cases hr
   ·split at hr
    ·exact aDn h t x cr hd (by assumption) hr hK
    ·cases hr
  ·cases hr
 ·
  rename_i t cr;split at hr
  ·rename_i d hd;split at hr
   ·split at hr
    ·exact awI h t cr hd (by assumption) (by assumption) hr hK
    ·cases hr
   ·cases hr
  ·cases hr
 ·
  rename_i t parts cr;split at hr
  ·split at hr
   ·exact bS (aaN h t parts cr (by assumption) (by assumption) (by assumption) (by assumption) hr) hK
   ·cases hr
  ·cases hr
 ·
  rename_i t len parts cr;split at hr
  ·split at hr
   ·split at hr
    ·split at hr
     ·exact afA h t len parts cr (by assumption) (by assumption) (by assumption) (by assumption) hr hK
     ·cases hr
    ·cases hr
   ·cases hr
  ·cases hr
 ·
  rename_i t x cr;split at hr
  ·rename_i l off hcell;dsimp only at hr;split at hr
   ·rename_i hn;split at hr
    ·exact bS (IM h t x cr hcell hn (b:=true) (by assumption) (v:=.agg _) rfl hr) hK
    ·split at hr
     ·rename_i nK _ y hq;exact bS (IM h t x cr hcell hn (b:=false) nK (v:=.c y) ⟨y,hq,rfl⟩ hr) hK
     ·cases hr
    ·cases hr
   ·cases hr
  ·cases hr
 ·
  rename_i t x y cr;split at hr
  ·rename_i hc;simp only[aJ]at hc;obtain⟨⟨⟨h1,h2⟩,h3⟩,h4⟩:=hc;split at hr
   ·split at hr
    ·split at hr
     ·exact amo h t x y cr h1 h2 (aP h3) h4 (by assumption) (by assumption) (Ff (by assumption)) hr hK
     ·cases hr
    ·cases hr
   ·split at hr
    ·split at hr
     ·rename_i hw;simp only[aJ]at hw;split at hr
      ·exact ajC h t x y cr h1 h2 (aP h3) h4 (by assumption) (by assumption) hw.1.1 hw.1.2 hw.2 (by assumption) hr hK
      ·cases hr
     ·cases hr
    ·cases hr
   ·cases hr
  ·cases hr
 ·
  rename_i x cr;split at hr
  ·exact bS (NX h x cr (by assumption) hr) hK
  ·cases hr
 ·
  rename_i op xt x y yt cr;split at hr
  ·exact bS (aaJ h op xt x y yt cr (by assumption) (by assumption) hr) hK
  ·split at hr
   ·exact bS (pG h _ xt x y yt cr (by assumption) (by assumption) (by assumption) (.inl ⟨rfl,rfl⟩) hr) hK
   ·exact bS (pG h _ xt x y yt cr (by assumption) (by assumption) (by assumption) (.inr ⟨rfl,rfl⟩) hr) hK
   ·cases hr
  ·cases hr
 ·
  rename_i op t x cr;split at hr
  ·exact bS (amk h t x cr (by assumption) hr) hK
  ·exact bS (aml h t x cr (by assumption) hr) hK
  ·cases hr
 ·
  rename_i src dst x cr;split at hr
  ·exact bS (Q1 h src dst x cr (by assumption) (by assumption) (by assumption) hr) hK
  ·exact bS (Q2 h src dst x cr (by assumption) (by assumption) (by assumption) hr) hK
  ·split at hr
   ·obtain⟨hc,hr⟩:=aY hr;exact aqD h src dst x cr (by assumption) (by assumption) (by assumption) (by assumption) (by have:=uf hc;dsimp only[rT.QY]at this;omega) hr hK
   ·cases hr
  ·split at hr
   ·exact bS (aaO h src dst x cr (by assumption) (by assumption) (by assumption) (by assumption) hr) hK
   ·cases hr
  ·cases hr
 ·
  rename_i t p q cr;split at hr
  ·split at hr
   ·split at hr
    ·obtain⟨hc,hr⟩:=aY hr;exact ajF h t p q cr (by assumption) (by assumption) (by assumption) (by assumption) (by assumption) (by assumption) hc hr hK
    ·cases hr
   ·cases hr
  ·cases hr
 ·
  rename_i t x lo hi cr;split at hr
  ·split at hr
   ·split at hr
    ·obtain⟨hc,hr⟩:=aY hr;simp only[aJ,cD]at hc;exact bS (UG h t x lo hi cr (by assumption) (by assumption) (by assumption) (by assumption) hc.1.1 hc.1.2 hc.2 hr) hK
    ·cases hr
   ·cases hr
  ·split at hr
   ·split at hr
    ·obtain⟨hc,hr⟩:=aY hr;simp only[aJ,cD]at hc;exact bS (aaM h t x lo hi cr (by assumption) (by assumption) (aP hc.1.1) (bI hc.1.2) (by assumption) (by assumption) hc.2.1.1 hc.2.1.2 hc.2.2 hr) hK
    ·cases hr
   ·split at hr
    ·split at hr
     ·obtain⟨hc,hr⟩:=aY hr;simp only[aJ,cD]at hc;exact bS (UH h t x hi cr (by assumption) (by assumption) (by assumption) (aP hc.1) (by assumption) hc.2.1 hc.2.2 hr) hK
     ·cases hr
    ·split at hr
     ·obtain⟨hc,hr⟩:=aY hr;simp only[aJ,cD]at hc;exact bS (N1 h t x _ hi cr (by assumption) (by assumption) (by assumption) (aP hc.1) (by assumption) (by assumption) hc.2.1.1 hc.2.1.2 hc.2.2 hr) hK
     ·cases hr
    ·cases hr
   ·cases hr
  ·cases hr
 ·
  rename_i t x f cr;split at hr
  ·split at hr
   ·exact bS (fR h t x f cr (by assumption) (by assumption) (by exact rfl) hr) hK
   ·split at hr
    ·exact bS (fR h t x f cr (by assumption) (by assumption) (by exact⟨rfl,_,fi (by assumption)⟩) hr) hK
    ·cases hr
   ·exact bS (fR h t x f cr (by assumption) (by assumption) (by exact rfl) hr) hK
   ·cases hr
  ·cases hr
 ·
  rename_i t x i cr;split at hr
  ·split at hr
   ·split at hr
    ·split at hr
     ·split at hr
      ·obtain⟨hc,hr⟩:=aY hr;simp only[aJ,cD]at hc;exact bS (NY h t x i cr (by assumption) (by assumption) (by assumption) (by assumption) (by assumption) (aP hc.1) hc.2.1 hc.2.2 hr) hK
      ·cases hr
     ·cases hr
    ·obtain⟨hc,hr⟩:=aY hr;simp only[aJ,cD]at hc;exact bS (Q4 h t x i cr (by assumption) (by assumption) (by assumption) (aP hc.1.1) (bI hc.1.2) hc.2.1 hc.2.2 hr) hK
    ·cases hr
   ·split at hr
    ·obtain⟨hc,hr⟩:=aY hr;simp only[aJ,cD]at hc;exact bS (NZ h t x i cr (by assumption) (by assumption) (by assumption) (bI hc.1) hc.2.1 hc.2.2 hr) hK
    ·cases hr
   ·cases hr
  ·cases hr
 ·
  rename_i t x i cr;split at hr
  ·obtain⟨hc,hr⟩:=aY hr;simp only[aJ,cD]at hc;exact bS (aaK h t x i cr (by assumption) (by assumption) (by assumption) hc.1 hc.2 hr) hK
  ·cases hr
 ·
  rename_i t x f cr;split at hr
  ·rename_i hf hx;dsimp only at hr;split at hr
   ·rename_i hn;split at hr
    ·exact bS (Br h t x f cr hf hx hn (b:=true) (by assumption) (v:=.agg _) rfl hr) hK
    ·split at hr
     ·rename_i nK _ y hq;exact bS (Br h t x f cr hf hx hn (b:=false) nK (v:=.c y) ⟨y,hq,rfl⟩ hr) hK
     ·cases hr
    ·cases hr
   ·cases hr
  ·cases hr
 ·
  rename_i x i cr;split at hr
  ·split at hr
   ·exact bS (Q0 h x i cr (by assumption) (by assumption) hr) hK
   ·cases hr
  ·cases hr
 ·
  rename_i f args ts cr;split at hr
  ·rename_i con fw;exact az1 (show ah6 P w0 f con from hC f (.one con) fw) h cr hr hK
  ·rename_i con fw;exact awU (show aaP P w0 f con from hC f (.two con) fw) h cr hr hK
  ·rename_i con fw;exact awW (show at7 P w0 f con from hC f (.sel con) fw) h cr hr hK
  ·rename_i i fw;have hi:=hC f (.idx i) fw;exact aqF hi.1 hi.2 h cr hr hK
  ·rename_i e u fw;have hi:=hC f (.ins e u) fw;exact aDE hi.1 hi.2 h cr hr hK
  ·rename_i e u fw;have hi:=hC f (.del e u) fw;exact aDF hi.1 hi.2 h cr hr hK
  ·cases hr
 ·
  rename_i args ts cr;split at hr
  ·rename_i x t hx ht;split at hr
   ·split at hr
    ·exact bS (OH h x t cr hx ht (by assumption) (.inl ⟨by assumption,_,by assumption⟩) hr) hK
    ·cases hr
   ·split at hr
    ·cases hr
    ·rename_i hns;exact bS (OH h x t cr hx ht (by assumption) (.inr ⟨⟨_,by assumption⟩,fun s hs=>hns s hs⟩) hr) hK
   ·cases hr
  ·cases hr
 ·
  rename_i args ts cr;split at hr
  ·split at hr
   ·split at hr
    ·exact bS (amC h cr (by assumption) (by assumption) (by assumption) hr) hK
    ·cases hr
   ·cases hr
  ·cases hr
 ·
  rename_i args ts cr;split at hr
  ·split at hr
   ·split at hr
    ·exact bS (amD h cr (by assumption) (by assumption) (by assumption) hr) hK
    ·cases hr
   ·cases hr
  ·cases hr
 ·
  rename_i args ts cr;split at hr
  ·split at hr
   ·split at hr
    ·exact at5 h cr (by assumption) (by assumption) (by assumption) (by assumption) (by assumption) hr hK
    ·cases hr
   ·cases hr
  ·cases hr
 ·
  rename_i g first aqv cr
  split at hr
  ·split at hr
   ·exact bS (aqz h g first aqv cr (by assumption) (by assumption) (by assumption) hr) hK
   ·cases hr
  ·cases hr
 ·cases hr
end
end Go.Am
