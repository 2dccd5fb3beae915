/- Lemmas for the claim. No condition. -/
import Derived.Test.YtfapcfpkbahneaaGreatDoorQlAmTwo
set_option linter.all false
namespace Go.Am
open Go.RowKit
section
variable {N:Nat} {P:Program} {w0:fK} {w:World} {G:Gh} {st:St} {a:Act} {α:Type} {k:St→Option α} {r:α} {K:Act→World→Prop} {Q:Exit→Act→World→Prop} {o:Oper}
theorem QF (h:Inv w0 G st a w)(w1:World)(op:Bool)(kd:IntKind):∀(l:List Operand) (x y:Int),Z4 op st x l=some y →
  ((l.map a.eval).foldlM (if op then Builtin.max2 else Builtin.min2) (.int kd x)).run P w1=.ok (.int kd y) w1
 |[],x,y,hm=>by cases hm;rfl
 |o::l,x,y,hm=>by
  simp only[Z4]at hm
  split at hm
  ·rename_i k' b hb
   have hv:a.eval o=.int k' b:=by have:=h.ac o;rw[hb]at this;exact this
   rw[ua,List.foldlM_cons,hv]
   cases op with
   |true =>
    have:=QF h w1 true kd l _ y hm
    simp only[ik]at this ⊢
    rw[Sem.run_bind]
    exact this
   |false =>
    have:=QF h w1 false kd l _ y hm
    simp only[arv,gV]at this ⊢
    rw[Sem.run_bind]
    exact this
  ·cases hm
theorem al4 (h:Inv w0 G st a w){args:Array Operand}{ts:Array TypeId}(ho:o.op=.call {callee:=.builtin .max,args:=args,argTypes:=ts}){x:Operand}{l:List Operand}(ha:args.toList=x::l)
  {kd:IntKind} {n y:Int} (hx:st.ac x=.int kd n) (hm:Z4 true st n l=some y) (hr:st.pk o.dst (.v (.c (.int kd y))) k=some r):bJ P w0 w a o k r:=by
 have hargs:args=(x::l).toArray:=by rw[←xR (xs:=args),ha]
 subst hargs
 have hv:a.eval x=.int kd n:=by have:=h.ac x;rw[hx]at this;exact this
 refine dY (u:=.int kd y) h (v:=.v (.c (.int kd y))) rfl hr fun w1 hB=>?_
 have hrun:=QF (P:=P) h w1 true kd l n y hm
 simp only[ik]at hrun
 unfold execOp
 rw[ho]
 simp only[resolve,Sem.run_bind,Sem.run_pure,Result.andThen_ok,invoke,builtin,Builtin.max_,List.map_toArray,ua,hv]
 rw[hrun]
 rfl
theorem al5 (h:Inv w0 G st a w){args:Array Operand}{ts:Array TypeId}(ho:o.op=.call {callee:=.builtin .min,args:=args,argTypes:=ts}){x:Operand}{l:List Operand}(ha:args.toList=x::l)
  {kd:IntKind} {n y:Int} (hx:st.ac x=.int kd n) (hm:Z4 false st n l=some y) (hr:st.pk o.dst (.v (.c (.int kd y))) k=some r):bJ P w0 w a o k r:=by
 have hargs:args=(x::l).toArray:=by rw[←xR (xs:=args),ha]
 subst hargs
 have hv:a.eval x=.int kd n:=by have:=h.ac x;rw[hx]at this;exact this
 refine dY (u:=.int kd y) h (v:=.v (.c (.int kd y))) rfl hr fun w1 hB=>?_
 have hrun:=QF (P:=P) h w1 false kd l n y hm
 simp only[arv,gV]at hrun
 unfold execOp
 rw[ho]
 simp only[resolve,Sem.run_bind,Sem.run_pure,Result.andThen_ok,invoke,builtin,Builtin.min_,List.map_toArray,ua,hv]
 rw[hrun]
 rfl
theorem ahz {f:FuncId}{con:Con}(fz:ahv P w0 f con)(h:Inv w0 G st a w){args:Array Operand}{ts:Array TypeId}(ho:o.op=.call {callee:=.value (.func f),args:=args,argTypes:=ts})
  (hr:WQ con st o.dst args.toList k=some r) (hK:∀G' dL a' w',Inv w0 G' dL a' w'→k dL=some r→Below w.heap.size w w'→K a' w'):o.wp P a w K Q:=by
 unfold Oper.wp
 rw[I0 fz.1 ho]
 unfold WQ at hr
 split at hr
 ·rename_i x hx
  cases hg:con.g x with
  |none=>rw[hg]at hr;cases hr
  |some y =>
   rw[hg]at hr
   simp only[alx]at hr
   have hargs:(args.map a.eval)=(args.toList.map a.eval).toArray:=by rw[←abI,xR]
   show Calls P f _ w _
   rw[hargs]
   cases hd:o.dst with
   |none=>rw[hd]at hr;cases hr
   |some d =>
    rw[hd]at hr
    dsimp only at hr
    split at hr
    ·rename_i hm
     obtain⟨hc,hr⟩:=aX hr
     simp only[aJ]at hc
     obtain⟨G1,h1,hx1,hs1,hsd⟩:=h.freeze (kK st args.toList)
     have kc:=Iv (ok:=RO G1 (pQ st (kK st args.toList)&&cW (kK st args.toList))) h1 con.ps args.toList x
      (fun t c v xs Ba=>aaf h1 (fun hn=>by rw[aJ]at hn;exact hn.1) (fun hn=>by rw[aJ]at hn;exact hn.2) t c v xs (by rw[Nw hsd]at Ba;exact Ba))
      (by rw[ahx hsd];exact hx)
     refine Calls.mono (fz.2 x y hg w h.below _ _ kc) fun e w' he=>?_
     obtain⟨us,rfl,dd,hB⟩:=he
     unfold Yd at dd
     rw[hm]at dd
     exact aBD (K:=fun a' w''=>w''=w'→K a' w'') hc.2 h1 hB dd (fun g hg=>hg) (by rw[hsd.nt];exact hc.1) hr (fun G' dL a' w'' h' lK he=>hK _ _ _ _ h' lK (he▸hB)) rfl
    ·rename_i hm
     obtain⟨hc,hr⟩:=aX hr
     simp only[aJ]at hc
     have kc:=Iv (ok:=fun _=>True) h con.ps args.toList x (fun t c v xs _=>Ud h t c v xs) hx
     refine Calls.mono (fz.2 x y hg w h.below _ _ kc) fun e w' he=>?_
     obtain⟨us,rfl,dd,hB⟩:=he
     unfold Yd at dd
     rw[hm]at dd
     exact aBD (K:=fun a' w''=>w''=w'→K a' w'') (f:=true) hc.2 h hB dd (fun g hg=>.inl hg) hc.1 hr (fun G' dL a' w'' h' lK he=>hK _ _ _ _ h' lK (he▸hB)) rfl
    ·rename_i hm0 hm1
     obtain⟨hc,hr⟩:=aX hr
     simp only[aJ]at hc
     have kc:=Iv (ok:=fun _=>True) h con.ps args.toList x (fun t c v xs _=>Ud h t c v xs) hx
     refine Calls.mono (fz.2 x y hg w h.below _ _ kc) fun e w' he=>?_
     obtain⟨us,rfl,dd,hB⟩:=he
     unfold Yd at dd
     split at dd
     ·exact absurd (by assumption) hm0
     ·exact absurd (by assumption) hm1
     ·exact aFd (K:=fun a' w''=>w''=w'→K a' w'') hc.2 h hB dd hc.1.2 hc.1.1 hr (fun G' dL a' w'' h' lK he=>hK _ _ _ _ h' lK (he▸hB)) rfl
 ·cases hr
theorem azt {f:FuncId}{con:Con}(fz:ahv P w0 f con)(h:Inv w0 G st a w){args:Array Operand}{ts:Array TypeId}(ho:o.op=.call {callee:=.value (.func f),args:=args,argTypes:=ts})
  (hr:WQ con st o.dst args.toList k=some r) (hK:rT w0 k r K):o.wp P a w K Q:=ahz fz h ho hr fun G' dL a' w' h' lK _=>hK _ _ _ _ h' lK
theorem Inv.more (h:Inv w0 G st a w){w1:World}(hB:Below w.heap.size w w1):Inv w0 G st a w1:=by
 have hx:=aCY h hB
 have hs:=kM.refl G st.bx st.bl
 have hle:=h.below.size
 refine⟨h.nw,h.rok,h.below.step hB.os hB.tape hB.output hB.size fun k hk _=>hB.block k (by omega),h.defers,h.size,h.sp.mono hx hs,h.E0 hx,fun t v hv=>(h.tm t v hv).mono hx hs,?_,?_,?_⟩
 ·intro d l hl
  obtain⟨cs,e,h1,h2,h3⟩:=h.bx d l hl
  have hlt:=(h.own _ _ h2).2.1
  exact⟨cs,e,(hB.block _ hlt).trans h1,h2,h3.imp fun _ _=>bN.mono hx hs⟩
 ·intro id b hb
  exact(h.bl id b hb).mono hx rfl fun hw g hg ho=>⟨ho,hB.block _ (h.own _ _ ho).2.1⟩
 ·intro g k hk
  obtain⟨h1,h2,h3⟩:=h.own g k hk
  exact⟨h1,DM h2 hB.size,h3⟩
theorem ap8 {f:FuncId}{i:Idx}(hf:XE P f)(hi:∀W,fE w0.fr w0.w W→aFb P f i W)(h:Inv w0 G st a w){args:Array Operand}{ts:Array TypeId}(ho:o.op=.call {callee:=.value (.func f),args:=args,argTypes:=ts})
  (hr:atf i st o.dst args.toList k=some r) (hK:rT w0 k r K):o.wp P a w K Q:=by
 unfold Oper.wp
 rw[I0 hf ho]
 unfold atf at hr
 split at hr
 ·rename_i s x al6
  split at hr
  ·rename_i g b hx
   split at hr
   ·rename_i hg
    have hg:=aN hg
    split at hr
    ·rename_i l hl
     split at hr
     ·rename_i y hy
      split at hr
      ·rename_i xs hxs
       have hargs:args.map a.eval=#[a.eval s,a.eval x]:=by
        have e1:args=#[s,x]:=by rw[←xR (xs:=args),al6]
        rw[e1]
        simp
       have h1:=h.ac x
       rw[hx]at h1
       have hv:a.eval x=.func (.func i.g) #[] #[.pointer (some ⟨G.hb b,0,none⟩)]:=by
        rw[←hg]
        exact h1.2
       obtain⟨cs,e,hh,bG,hrel⟩:=h.bx b l hl
       obtain⟨vs1,vs2,he,kc,hr2,_⟩:=N8 (ok:=fun _=>True) (fun t c v zs _=>Ud h t c v zs) hrel hy
       have hv2:vs2=[]:=by
        cases vs2 with
        |nil=>rfl
        |cons _ _=>exact hr2.elim
       subst hv2
       rw[gE]at he
       rw[←he]at kc
       have hs:=Ud h i.a.1 (st.ac s) (a.eval s) xs (h.ac s) hxs 0
       show Calls P f _ w _
       rw[hargs,hv]
       refine Calls.mono (hi w h.below xs y (a.eval s) (G.hb b) cs e 0 hs hh kc) fun e' w' he'=>?_
       obtain⟨rfl,hB⟩:=he'
       exact Cg (h.more hB) (v:=.v (.c (.int .i64 (qL (fun x=>i.p x y) xs 0)))) (u:=.int .i64 (qL (fun x=>i.p x y) xs 0)) rfl hr hK
      ·cases hr
     ·cases hr
    ·cases hr
   ·cases hr
  ·cases hr
 ·cases hr
theorem atF {ok:Nat→Prop}{t:Ty}{cs:List Value}{xs:List t.D}(hp:0<t.n)(hl:cs.length=xs.length*t.n)(he:fM w ok t cs xs):∀u∈cs,u.oneCell'=true:=by
 intro u hu
 obtain⟨q,hq,rfl⟩:=as4.1 hu
 have hj:q/t.n<xs.length:=by
  rw[ayV hp]
  omega
 obtain⟨c,h1,h2⟩:=he (q/t.n) xs[q/t.n] (oO hj)
 have hm:q%t.n<c.length:=by rw[h1.len];exact Z1 _ hp
 have h3:=h2 (q%t.n) c[q%t.n] (oO hm)
 have e:q/t.n*t.n+q%t.n=q:=by rw[Nat.mul_comm];exact Nat.div_add_mod q t.n
 rw[e,oO hq]at h3
 rw[fR h3]
 exact h1.one _ (dr hm)
theorem awr {ok:Nat→Prop}{t:Ty}{cs:List Value}{xs:List t.D}(he:fM w ok t cs xs)(m:Nat):fM w ok t (cs.drop (m*t.n)) (xs.drop m):=by
 intro j x hj
 rw[ahi]at hj
 obtain⟨c,h1,h2⟩:=he (m+j) x hj
 refine⟨c,h1,fun i u hu=>?_⟩
 rw[ahi,←TS,←KX]
 exact h2 i u hu
theorem aDg {f:FuncId}{e:TypeId}{u:Ty}(hf:XE P f)(hi:∀W,fE w0.fr w0.w W→arO P f e u W)(h:Inv w0 G st a w){args:Array Operand}{ts:Array TypeId}(ho:o.op=.call {callee:=.value (.func f),args:=args,argTypes:=ts})
  (hr:ay2 e u st o.dst args.toList k=some r) (hK:rT w0 k r K):o.wp P a w K Q:=by
 unfold Oper.wp
 rw[I0 hf ho]
 unfold ay2 at hr
 split at hr
 ·rename_i d s i v T3 al6
  split at hr
  ·rename_i n id2 hin hvn
   split at hr
   ·rename_i b hb
    split at hr
    ·rename_i hwe
     rw[aJ]at hwe
     split at hr
     ·rename_i ht
      split at hr
      ·rename_i xs fl tV hold
       split at hr
       ·rename_i b1 hl1
        obtain⟨hc,hr⟩:=aX hr
        simp only[aJ,cH]at hc
        obtain⟨⟨⟨⟨hc1,hc2⟩,hc3⟩,hc4⟩,hc5⟩:=hc
        obtain⟨be,bt,bxs,bf,bw⟩:=b
        dsimp only at hwe ht hr hc4 hc5
        have htt:=Ty.beq_eq ht
        subst htt
        obtain⟨hw,hee⟩:=hwe
        have hee:=aN hee
        subst hee
        have hp:0<bt.n:=TQ (bI hc1)
        have hargs:args.map a.eval=#[a.eval s,.int .i64 ((n.toNat:Nat):Int),a.eval v]:=by
         have e1:args=#[s,i,v]:=by rw[←xR (xs:=args),al6]
         have e2:=h.ac i
         rw[hin]at e2
         have e2:a.eval i=.int .i64 n:=e2
         rw[e1,aru hc2,←e2]
         simp
        have hvr:=h.ac v
        rw[hvn]at hvr
        have hvv:a.eval v=G.hv id2:=hvr.2.2
        obtain⟨ds,hd1,hd2,hd3⟩:=(h.bl id2 _ (fm hb)).wr hw
        obtain⟨h1,hnt,hbx,⟨cs,bG,E2⟩,gI⟩:=QE h (h.ac s) hold hp
        have hap:∀g,(a.eval s).ownBlock=some g→(a.eval v).ownBlock≠some g:=by
         intro g hg hg2
         obtain⟨id,h2,h3⟩:=gI g hg
         rw[hvv]at hg2
         rw[hd2 g hg2]at h2
         cases h2
         rw[hl1]at h3
         cases h3
        show Calls P f _ w _
        rw[hargs]
        refine Calls.mono (hi w h.below (a.eval s) (a.eval v) xs.length bxs.length n.toNat cs ds bG (by rw[hvv];exact hd1) hap (by omega) (by omega) (by omega) (atF hp bG.1 E2) (atF hp hd1.1 hd3)) fun e' w' he'=>?_
        obtain⟨v',rfl,hown',hg,hat⟩:=he'
        have aFa:∀q,RO G fl q→RO G (fl&&(bf || flat bt)) q:=fun q hq=>hq.DQ fun hh=>by rw[aJ]at hh;exact hh.1
        have hnR:fM w (RO G (fl&&(bf || flat bt))) bt ds bxs:=by
         cases T8:flat bt with
         |true=>exact alV T8 hd3
         |false=>exact ml (fun q hq=>hq.DQ fun hh=>by simp at hh;exact hh.2) hd3
        have hE:=ml aFa E2
        have hlt:(cs.take (n.toNat*bt.n)).length=(xs.take n.toNat).length*bt.n:=by
         rw[bQ,bQ,bG.1,als (FR _ (by omega)),als (by omega)]
        rw[T3]
        refine Ob h1 (a.eval s).ownBlock hg gI d ⟨be,bt,xs.take n.toNat++bxs++xs.drop n.toNat,fl&&(bf || flat bt),true⟩ rfl hp v' (cs.take (n.toNat*bt.n)++ds++cs.drop (n.toNat*bt.n)) ?_ ?_ (WU ?_ (WU hlt (alW hE _) hnR) (awr hE _)) hr hK
        ·have:(xs.take n.toNat++bxs++xs.drop n.toNat).length=xs.length+bxs.length:=by
          simp only[aM,bQ,bo]
          omega
         show w'.ownsRow 0 be bt.n v' (xs.take n.toNat++bxs++xs.drop n.toNat).length _
         rw[this]
         exact hown'
        ·intro q hq
         rcases hat with hat|hat
         ·exact .inr (hat▸hq)
         ·exact .inl (hat q hq)
        ·rw[aM,hlt,hd1.1,aM,KX]
       ·cases hr
      ·cases hr
     ·cases hr
    ·cases hr
   ·cases hr
  ·cases hr
 ·cases hr
theorem aDh {f:FuncId}{e:TypeId}{u:Ty}(hf:XE P f)(hi:∀W,fE w0.fr w0.w W→aBA P f e u W)(h:Inv w0 G st a w){args:Array Operand}{ts:Array TypeId}(ho:o.op=.call {callee:=.value (.func f),args:=args,argTypes:=ts})
  (hr:ay3 e u st o.dst args.toList k=some r) (hK:rT w0 k r K):o.wp P a w K Q:=by
 unfold Oper.wp
 rw[I0 hf ho]
 unfold ay3 at hr
 split at hr
 ·rename_i d s i j T3 al6
  split at hr
  ·rename_i n m hin hjn
   split at hr
   ·rename_i xs fl tV hold
    obtain⟨hc,hr⟩:=aX hr
    simp only[aJ,cH]at hc
    obtain⟨⟨⟨hc1,hc2⟩,hc3⟩,hc4⟩:=hc
    have hp:0<u.n:=TQ (bI hc1)
    have hargs:args.map a.eval=#[a.eval s,.int .i64 ((n.toNat:Nat):Int),.int .i64 ((m.toNat:Nat):Int)]:=by
     have e1:args=#[s,i,j]:=by rw[←xR (xs:=args),al6]
     have e2:=h.ac i
     rw[hin]at e2
     have e2:a.eval i=.int .i64 n:=e2
     have e3:=h.ac j
     rw[hjn]at e3
     have e3:a.eval j=.int .i64 m:=e3
     rw[e1,aru hc2,aru (by omega),←e2,←e3]
     simp
    obtain⟨h1,hnt,hbx,⟨cs,bG,E2⟩,gI⟩:=QE h (h.ac s) hold hp
    show Calls P f _ w _
    rw[hargs]
    refine Calls.mono (hi w h.below (a.eval s) xs.length n.toNat m.toNat cs bG (by omega) (by omega) (atF hp bG.1 E2)) fun e' w' he'=>?_
    obtain⟨v',rfl,hown',hg,hat⟩:=he'
    have hlt:(cs.take (n.toNat*u.n)).length=(xs.take n.toNat).length*u.n:=by
     rw[bQ,bQ,bG.1,als (FR _ (by omega)),als (by omega)]
    rw[T3]
    refine Ob h1 (a.eval s).ownBlock hg gI d ⟨e,u,xs.take n.toNat++xs.drop m.toNat,fl,true⟩ rfl hp v' (cs.take (n.toNat*u.n)++cs.drop (m.toNat*u.n)) ?_ ?_ (WU hlt (alW E2 _) (awr E2 _)) hr hK
    ·have:(xs.take n.toNat++xs.drop m.toNat).length=n.toNat+(xs.length-m.toNat):=by
      simp only[aM,bQ,bo]
      omega
     show w'.ownsRow 0 e u.n v' (xs.take n.toNat++xs.drop m.toNat).length _
     rw[this]
     exact hown'
    ·intro q hq
     rcases hat with hat|hat
     ·exact .inr (hat▸hq)
     ·exact .inl (hat q hq)
   ·cases hr
  ·cases hr
 ·cases hr
theorem aws (h:Inv w0 G st a w)(t:TypeId)(x:Operand)(ho:o.op=.box t x){d:Tmp}(T3:o.dst=some d){u:Ty}{y:u.D}(hy:im st u (st.eT x).cells=some (y,[]))
  (hr:ck (Nat.blt d st.nt&&(st.eT x).kn&&pQ st (st.eT x).cells) (k ((st.freeze (st.eT x).cells).put d (.v (.c (.Tz (cW (st.eT x).cells) u y 0)))))=some r) (hK:rT w0 k r K):o.wp P a w K Q:=by
 obtain⟨hc,hk⟩:=aX hr
 simp only[aJ]at hc
 obtain⟨⟨h1,h2⟩,h3⟩:=hc
 refine IU (v:=.pointer (some ⟨w.heap.size,0,none⟩)) (w':=w.alloc (.cells (a.eval x).cells t)) ?_ ?_
 ·unfold execOp
  rw[ho]
  simp[Instr.box,A8]
 ·rw[T3]
  obtain⟨G1,hi,hx,hs,hsd⟩:=Inv.freeze (st.eT x).cells h
  have hcell:=((h.eT x).cells h2).imp fun _ _=>bN.mono hx hs
  obtain⟨vs1,vs2,hv,kc,hr2,_⟩:=N8 (ok:=RO G1 (cW (st.eT x).cells)) (Oa (bx:=st.bx) hi h3 fun h=>h) hcell (by rw[uJ hsd];exact hy)
  have hv2:vs2=[]:=by
   cases vs2 with
   |nil=>rfl
   |cons _ _=>exact hr2.elim
  subst hv2
  rw[gE]at hv
  rw[←hv]at kc
  have hB:Below w.heap.size w (w.alloc (.cells (a.eval x).cells t)):=⟨rfl,rfl,rfl,by simp,fun k hk=>Below.heap_alloc _ _ _ hk⟩
  have hi2:=hi.more hB
  have bG:G1.own w.heap.size=none:=by
   cases hg:G1.own w.heap.size with
   |none=>rfl
   |some q=>exact absurd (hi.own _ q hg).2.1 (TT _)
  refine hK _ _ _ _ (hi2.put d (by rw[hsd.nt];exact ir h1) (v:=.v (.c (.Tz (cW (st.eT x).cells) u y 0))) ?_) hk
  refine⟨w.heap.size,0,(a.eval x).cells.toList,by simp,by simp,⟨bG,.inl (hi.av8 (b9 _))⟩,kc.mono hB.size fun b hb dS=>⟨dS,hB.block b hb⟩,fun i v hv=>?_⟩
  rw[cell_of_row _ w.heap.size (0+i) (a.eval x).cells t (0,0) (heap_alloc_new w _),w8]
  simpa using hv
theorem DV {C:FuncId→Option Any}(hC:∀f con,C f=some con→RJ P w0 f con)(h:Inv w0 G st a w)(hr:jC P C (rQ.Qw N) o st k=some r)(hK:rT w0 k r K):o.wp P a w K Q:=by
 unfold jC at hr
 split at hr
 ·exact bU (Is h _ (.inl (by assumption)) hr) hK
 ·exact bU (Is h _ (.inr (by assumption)) hr) hK
 ·
  rename_i c x y ct
  split at hr
  ·exact bU (aeV h c x y ct (by assumption) hr) hK
  ·cases hr
 ·
  rename_i t x ct
  split at hr
  ·rename_i d hd
   split at hr
   ·split at hr
    ·split at hr
     ·exact aws h t x ct hd (by assumption) hr hK
     ·cases hr
    ·cases hr
   ·split at hr
    ·exact aCZ h t x ct hd (by assumption) hr hK
    ·cases hr
  ·cases hr
 ·
  rename_i t ct
  split at hr
  ·rename_i d hd
   split at hr
   ·split at hr
    ·exact awc h t ct hd (by assumption) (by assumption) hr hK
    ·cases hr
   ·cases hr
  ·cases hr
 ·
  rename_i t parts ct
  split at hr
  ·split at hr
   ·exact bU (aac h t parts ct (by assumption) (by assumption) (by assumption) (by assumption) hr) hK
   ·cases hr
  ·cases hr
 ·
  rename_i t len parts ct
  split at hr
  ·split at hr
   ·split at hr
    ·split at hr
     ·exact ae1 h t len parts ct (by assumption) (by assumption) (by assumption) (by assumption) hr hK
     ·cases hr
    ·cases hr
   ·cases hr
  ·cases hr
 ·
  rename_i t x ct
  split at hr
  ·rename_i l off hcell
   dsimp only at hr
   split at hr
   ·rename_i hn
    split at hr
    ·exact bU (It h t x ct hcell hn (b:=true) (by assumption) (v:=.agg _) rfl hr) hK
    ·split at hr
     ·rename_i nC _ y hq
      exact bU (It h t x ct hcell hn (b:=false) nC (v:=.c y) ⟨y,hq,rfl⟩ hr) hK
     ·cases hr
    ·cases hr
   ·cases hr
  ·cases hr
 ·
  rename_i t x y ct
  split at hr
  ·rename_i hc
   simp only[aJ]at hc
   obtain⟨⟨⟨h1,h2⟩,h3⟩,h4⟩:=hc
   split at hr
   ·split at hr
    ·split at hr
     ·exact alQ h t x y ct h1 h2 (aN h3) h4 (by assumption) (by assumption) (E1 (by assumption)) hr hK
     ·cases hr
    ·cases hr
   ·split at hr
    ·split at hr
     ·rename_i hw
      simp only[aJ]at hw
      split at hr
      ·exact ai4 h t x y ct h1 h2 (aN h3) h4 (by assumption) (by assumption) hw.1.1 hw.1.2 hw.2 (by assumption) hr hK
      ·cases hr
     ·cases hr
    ·cases hr
   ·cases hr
  ·cases hr
 ·
  rename_i x ct
  split at hr
  ·exact bU (Ns h x ct (by assumption) hr) hK
  ·cases hr
 ·
  rename_i op xt x y yt ct
  split at hr
  ·exact bU (Z8 h op xt x y yt ct (by assumption) (by assumption) hr) hK
  ·split at hr
   ·exact bU (pq h _ xt x y yt ct (by assumption) (by assumption) (by assumption) (.inl ⟨rfl,rfl⟩) hr) hK
   ·exact bU (pq h _ xt x y yt ct (by assumption) (by assumption) (by assumption) (.inr ⟨rfl,rfl⟩) hr) hK
   ·cases hr
  ·cases hr
 ·
  rename_i op t x ct
  split at hr
  ·exact bU (alM h t x ct (by assumption) hr) hK
  ·exact bU (alN h t x ct (by assumption) hr) hK
  ·cases hr
 ·
  rename_i src dst x ct
  split at hr
  ·exact bU (Qz h src dst x ct (by assumption) (by assumption) (by assumption) hr) hK
  ·exact bU (QA h src dst x ct (by assumption) (by assumption) (by assumption) hr) hK
  ·split at hr
   ·obtain⟨hc,hr⟩:=aX hr
    exact ap6 h src dst x ct (by assumption) (by assumption) (by assumption) (by assumption) (by have:=tY hc;dsimp only[rQ.Qw]at this;omega) hr hK
   ·cases hr
  ·split at hr
   ·exact bU (aad h src dst x ct (by assumption) (by assumption) (by assumption) (by assumption) hr) hK
   ·cases hr
  ·cases hr
 ·
  rename_i t p q ct
  split at hr
  ·split at hr
   ·split at hr
    ·obtain⟨hc,hr⟩:=aX hr
     exact ai7 h t p q ct (by assumption) (by assumption) (by assumption) (by assumption) (by assumption) (by assumption) hc hr hK
    ·cases hr
   ·cases hr
  ·cases hr
 ·
  rename_i t x lo hi ct
  split at hr
  ·split at hr
   ·split at hr
    ·obtain⟨hc,hr⟩:=aX hr
     simp only[aJ,cH]at hc
     exact bU (T9 h t x lo hi ct (by assumption) (by assumption) (by assumption) (by assumption) hc.1.1 hc.1.2 hc.2 hr) hK
    ·cases hr
   ·cases hr
  ·split at hr
   ·split at hr
    ·obtain⟨hc,hr⟩:=aX hr
     simp only[aJ,cH]at hc
     exact bU (aab h t x lo hi ct (by assumption) (by assumption) (aN hc.1.1) (bI hc.1.2) (by assumption) (by assumption) hc.2.1.1 hc.2.1.2 hc.2.2 hr) hK
    ·cases hr
   ·split at hr
    ·split at hr
     ·obtain⟨hc,hr⟩:=aX hr
      simp only[aJ,cH]at hc
      exact bU (Ua h t x hi ct (by assumption) (by assumption) (by assumption) (aN hc.1) (by assumption) hc.2.1 hc.2.2 hr) hK
     ·cases hr
    ·split at hr
     ·obtain⟨hc,hr⟩:=aX hr
      simp only[aJ,cH]at hc
      exact bU (Nv h t x _ hi ct (by assumption) (by assumption) (by assumption) (aN hc.1) (by assumption) (by assumption) hc.2.1.1 hc.2.1.2 hc.2.2 hr) hK
     ·cases hr
    ·cases hr
   ·cases hr
  ·cases hr
 ·
  rename_i t x f ct
  split at hr
  ·split at hr
   ·exact bU (fS h t x f ct (by assumption) (by assumption) (by exact rfl) hr) hK
   ·split at hr
    ·exact bU (fS h t x f ct (by assumption) (by assumption) (by exact⟨rfl,_,fm (by assumption)⟩) hr) hK
    ·cases hr
   ·exact bU (fS h t x f ct (by assumption) (by assumption) (by exact rfl) hr) hK
   ·cases hr
  ·cases hr
 ·
  rename_i t x i ct
  split at hr
  ·split at hr
   ·split at hr
    ·split at hr
     ·split at hr
      ·obtain⟨hc,hr⟩:=aX hr
       simp only[aJ,cH]at hc
       exact bU (Nt h t x i ct (by assumption) (by assumption) (by assumption) (by assumption) (by assumption) (aN hc.1) hc.2.1 hc.2.2 hr) hK
      ·cases hr
     ·cases hr
    ·obtain⟨hc,hr⟩:=aX hr
     simp only[aJ,cH]at hc
     exact bU (QC h t x i ct (by assumption) (by assumption) (by assumption) (aN hc.1.1) (bI hc.1.2) hc.2.1 hc.2.2 hr) hK
    ·cases hr
   ·split at hr
    ·obtain⟨hc,hr⟩:=aX hr
     simp only[aJ,cH]at hc
     exact bU (Nu h t x i ct (by assumption) (by assumption) (by assumption) (bI hc.1) hc.2.1 hc.2.2 hr) hK
    ·cases hr
   ·cases hr
  ·cases hr
 ·
  rename_i t x i ct
  split at hr
  ·obtain⟨hc,hr⟩:=aX hr
   simp only[aJ,cH]at hc
   exact bU (Z9 h t x i ct (by assumption) (by assumption) (by assumption) hc.1 hc.2 hr) hK
  ·cases hr
 ·
  rename_i t x f ct
  split at hr
  ·rename_i hf hx
   dsimp only at hr
   split at hr
   ·rename_i hn
    split at hr
    ·exact bU (Bb h t x f ct hf hx hn (b:=true) (by assumption) (v:=.agg _) rfl hr) hK
    ·split at hr
     ·rename_i nC _ y hq
      exact bU (Bb h t x f ct hf hx hn (b:=false) nC (v:=.c y) ⟨y,hq,rfl⟩ hr) hK
     ·cases hr
    ·cases hr
   ·cases hr
  ·cases hr
 ·
  rename_i x i ct
  split at hr
  ·split at hr
   ·exact bU (Qy h x i ct (by assumption) (by assumption) hr) hK
   ·cases hr
  ·cases hr
 ·
  rename_i f args ts ct
  split at hr
  ·rename_i con fz
   exact azt (show ahv P w0 f con from hC f (.one con) fz) h ct hr hK
  ·rename_i con fz
   exact awo (show aae P w0 f con from hC f (.two con) fz) h ct hr hK
  ·rename_i con fz
   exact awq (show atz P w0 f con from hC f (.sel con) fz) h ct hr hK
  ·rename_i i fz
   have hi:=hC f (.idx i) fz
   exact ap8 hi.1 hi.2 h ct hr hK
  ·rename_i e u fz
   have hi:=hC f (.ins e u) fz
   exact aDg hi.1 hi.2 h ct hr hK
  ·rename_i e u fz
   have hi:=hC f (.del e u) fz
   exact aDh hi.1 hi.2 h ct hr hK
  ·cases hr
 ·
  rename_i args ts ct
  split at hr
  ·rename_i x t hx ht
   split at hr
   ·split at hr
    ·exact bU (N7 h x t ct hx ht (by assumption) (.inl ⟨by assumption,_,by assumption⟩) hr) hK
    ·cases hr
   ·split at hr
    ·cases hr
    ·rename_i hns
     exact bU (N7 h x t ct hx ht (by assumption) (.inr ⟨⟨_,by assumption⟩,fun s hs=>hns s hs⟩) hr) hK
   ·cases hr
  ·cases hr
 ·
  rename_i args ts ct
  split at hr
  ·split at hr
   ·split at hr
    ·exact bU (al4 h ct (by assumption) (by assumption) (by assumption) hr) hK
    ·cases hr
   ·cases hr
  ·cases hr
 ·
  rename_i args ts ct
  split at hr
  ·split at hr
   ·split at hr
    ·exact bU (al5 h ct (by assumption) (by assumption) (by assumption) hr) hK
    ·cases hr
   ·cases hr
  ·cases hr
 ·
  rename_i args ts ct
  split at hr
  ·split at hr
   ·split at hr
    ·exact atx h ct (by assumption) (by assumption) (by assumption) (by assumption) (by assumption) hr hK
    ·cases hr
   ·cases hr
  ·cases hr
 ·
  rename_i g first apY ct
  split at hr
  ·split at hr
   ·exact bU (ap2 h g first apY ct (by assumption) (by assumption) (by assumption) hr) hK
   ·cases hr
  ·cases hr
 ·cases hr
end
end Go.Am
