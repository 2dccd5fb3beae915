/- No condition. -/
import Derived.Test.YtfapcfpkbahneaaGreatDoorQpAmTwo
set_option linter.all false
namespace Go.Am
open Go.RowKit
section
variable {N:Nat} {P:Program} {w0:fR} {w:World} {G:Gh} {st:St} {a:Act} {U:Type} {k:St->Option U} {r:U} {K:Act->World->Prop} {Q:Exit->Act->World->Prop} {o:Oper}
def Rw (h:Inv w0 G st a w)(w1:World)(op:Bool)(kd:IntKind):∀(l:List Operand) (x y:Int),aa3 op st x l=some y ->
  ((l.map a.eval).foldlM (if op then Builtin.max2 else Builtin.min2) (.int kd x)).run P w1=.ok (.int kd y) w1
 |[],x,y,hm=>by cases hm;rfl
 |o::l,x,y,hm=>by
  simp only[aa3]at hm;split at hm
  .rename_i k' b hb;have hv:a.eval o=.int k' b:=by have:=h.ac o;rw[hb]at this;exact this
   rw[tW,List.foldlM_cons,hv];cases op with
   |true =>
    have:=Rw h w1 true kd l _ y hm;simp only[iA]at this ⊢;rw[Sem.run_bind];exact this
   |false =>
    have:=Rw h w1 false kd l _ y hm;simp only[afN,hZ]at this ⊢;rw[Sem.run_bind];exact this
  .cases hm
def ano (h:Inv w0 G st a w){args:Array Operand}{ts:Array TypeId}(ho:o.op=.call {callee:=.builtin .max,args:=args,argTypes:=ts}){x:Operand}{l:List Operand}(ha:args.toList=x::l)
  {kd:IntKind} {n y:Int} (hx:st.ac x=.int kd n) (hm:aa3 true st n l=some y) (hr:st.pk o.dst (.v (.c (.int kd y))) k=some r):bP P w0 w a o k r:=by
 have hargs:args=(x::l).toArray:=by rw[<-yr (xs:=args),ha]
 subst hargs;have hv:a.eval x=.int kd n:=by have:=h.ac x;rw[hx]at this;exact this
 refine en (u:=.int kd y) h (v:=.v (.c (.int kd y))) rfl hr fun w1 hB=>?_
 have hrun:=Rw (P:=P) h w1 true kd l n y hm;simp only[iA]at hrun;unfold execOp;rw[ho];simp only[resolve,Sem.run_bind,Sem.run_pure,Result.andThen_ok,invoke,builtin,Builtin.max_,List.map_toArray,tW,hv];rw[hrun];rfl
def anp (h:Inv w0 G st a w){args:Array Operand}{ts:Array TypeId}(ho:o.op=.call {callee:=.builtin .min,args:=args,argTypes:=ts}){x:Operand}{l:List Operand}(ha:args.toList=x::l)
  {kd:IntKind} {n y:Int} (hx:st.ac x=.int kd n) (hm:aa3 false st n l=some y) (hr:st.pk o.dst (.v (.c (.int kd y))) k=some r):bP P w0 w a o k r:=by
 have hargs:args=(x::l).toArray:=by rw[<-yr (xs:=args),ha]
 subst hargs;have hv:a.eval x=.int kd n:=by have:=h.ac x;rw[hx]at this;exact this
 refine en (u:=.int kd y) h (v:=.v (.c (.int kd y))) rfl hr fun w1 hB=>?_
 have hrun:=Rw (P:=P) h w1 false kd l n y hm;simp only[afN,hZ]at hrun;unfold execOp;rw[ho];simp only[resolve,Sem.run_bind,Sem.run_pure,Result.andThen_ok,invoke,builtin,Builtin.min_,List.map_toArray,tW,hv];rw[hrun];rfl
def aiJ {f:FuncId}{con:Con}(fF:aiF P w0 f con)(h:Inv w0 G st a w){args:Array Operand}{ts:Array TypeId}(ho:o.op=.call {callee:=.value (.func f),args:=args,argTypes:=ts})
  (hr:XZ con st o.dst args.toList k=some r) (hK:∀G' dV a' w',Inv w0 G' dV a' w'->k dV=some r->Below w.heap.size w w'->K a' w'):o.wp P a w K Q:=by
 unfold Oper.wp;rw[JC fF.1 ho];unfold XZ at hr;split at hr
 .rename_i x hx;cases hg:con.g x with
  |none=>rw[hg]at hr;cases hr
  |some y =>
   rw[hg]at hr;simp only[amJ]at hr;have hargs:(args.map a.eval)=(args.toList.map a.eval).toArray:=by rw[<-acM,yr]
   show Calls P f _ w _;rw[hargs];cases hd:o.dst with
   |none=>rw[hd]at hr;cases hr
   |some d =>
    rw[hd]at hr;dsimp only at hr;split at hr
    .rename_i hm;obtain⟨hc,hr⟩:=aY hr;simp only[aI]at hc;obtain⟨G1,h1,hx1,hs1,hsd⟩:=h.freeze (kZ st args.toList);have kz:=I8 (ok:=RO G1 (p7 st (kZ st args.toList)&&cZ (kZ st args.toList))) h1 con.ps args.toList x
      (fun t c v xs w9=>abe h1 (fun hn=>by rw[aI]at hn;exact hn.1) (fun hn=>by rw[aI]at hn;exact hn.2) t c v xs (by rw[Oj hsd]at w9;exact w9))
      (by rw[aiH hsd];exact hx)
     refine Calls.mono (fF.2 x y hg w h.below _ _ kz) fun e w' he=>?_
     obtain⟨us,rfl,df,hB⟩:=he;unfold Zh at df;rw[hm]at df;exact aDw (K:=fun a' w''=>w''=w'->K a' w'') hc.2 h1 hB df (fun g hg=>hg) (by rw[hsd.nt];exact hc.1) hr (fun G' dV a' w'' h' l4 he=>hK _ _ _ _ h' l4 (he▸hB)) rfl
    .rename_i hm;obtain⟨hc,hr⟩:=aY hr;simp only[aI]at hc;have kz:=I8 (ok:=fun _=>True) h con.ps args.toList x (fun t c v xs _=>Vk h t c v xs) hx;refine Calls.mono (fF.2 x y hg w h.below _ _ kz) fun e w' he=>?_
     obtain⟨us,rfl,df,hB⟩:=he;unfold Zh at df;rw[hm]at df;exact aDw (K:=fun a' w''=>w''=w'->K a' w'') (f:=true) hc.2 h hB df (fun g hg=>.inl hg) hc.1 hr (fun G' dV a' w'' h' l4 he=>hK _ _ _ _ h' l4 (he▸hB)) rfl
    .rename_i hm0 hm1;obtain⟨hc,hr⟩:=aY hr;simp only[aI]at hc;have kz:=I8 (ok:=fun _=>True) h con.ps args.toList x (fun t c v xs _=>Vk h t c v xs) hx;refine Calls.mono (fF.2 x y hg w h.below _ _ kz) fun e w' he=>?_
     obtain⟨us,rfl,df,hB⟩:=he;unfold Zh at df;split at df
     .exact absurd ‹_› hm0
     .exact absurd ‹_› hm1
     .exact aHb (K:=fun a' w''=>w''=w'->K a' w'') hc.2 h hB df hc.1.2 hc.1.1 hr (fun G' dV a' w'' h' l4 he=>hK _ _ _ _ h' l4 (he▸hB)) rfl
 .cases hr
def aBu {f:FuncId}{con:Con}(fF:aiF P w0 f con)(h:Inv w0 G st a w){args:Array Operand}{ts:Array TypeId}(ho:o.op=.call {callee:=.value (.func f),args:=args,argTypes:=ts})
  (hr:XZ con st o.dst args.toList k=some r) (hK:sg w0 k r K):o.wp P a w K Q:=aiJ fF h ho hr fun G' dV a' w' h' l4 _=>hK _ _ _ _ h' l4
def Inv.more (h:Inv w0 G st a w){w1:World}(hB:Below w.heap.size w w1):Inv w0 G st a w1:=by
 have hx:=aEW h hB;have hs:=la.refl G st.bx st.bl;have hle:=h.below.size;refine⟨h.nw,h.rok,h.below.step hB.os hB.tape hB.output hB.size fun k hk _=>hB.block k (by omega),h.defers,h.size,h.sp.mono hx hs,h.Fy hx,fun t v hv=>(h.tm t v hv).mono hx hs,?_,?_,?_⟩
 .intro d l hl;obtain⟨cs,e,h1,h2,h3⟩:=h.bx d l hl;have hlt:=(h.own _ _ h2).2.1;exact⟨cs,e,(hB.block _ hlt).trans h1,h2,h3.imp fun _ _=>bS.mono hx hs⟩
 .intro id b hb;exact(h.bl id b hb).mono hx rfl fun hw g hg ho=>⟨ho,hB.block _ (h.own _ _ ho).2.1⟩
 .intro g k hk;obtain⟨h1,h2,h3⟩:=h.own g k hk;exact⟨h1,Ev h2 hB.size,h3⟩
def arM {f:FuncId}{i:Idx}(hf:YK P f)(hi:∀W,fK w0.fr w0.w W->aG9 P f i W)(h:Inv w0 G st a w){args:Array Operand}{ts:Array TypeId}(ho:o.op=.call {callee:=.value (.func f),args:=args,argTypes:=ts})
  (hr:au3 i st o.dst args.toList k=some r) (hK:sg w0 k r K):o.wp P a w K Q:=by
 unfold Oper.wp;rw[JC hf ho];unfold au3 at hr;split at hr
 .rename_i s x anq;split at hr
  .rename_i g b hx;split at hr
   .rename_i hg;have hg:=aP hg;split at hr
    .rename_i l hl;split at hr
     .rename_i y hy;split at hr
      .rename_i xs hxs;have hargs:args.map a.eval=#[a.eval s,a.eval x]:=by
        have e1:args=#[s,x]:=by rw[<-yr (xs:=args),anq]
        rw[e1];simp
       have h1:=h.ac x;rw[hx]at h1;have hv:a.eval x=.func (.func i.g) #[] #[.pointer (some ⟨G.hb b,0,none⟩)]:=by rw[<-hg];exact h1.2
       obtain⟨cs,e,hh,bK,hrel⟩:=h.bx b l hl;obtain⟨vs1,vs2,he,kz,hr2,_⟩:=OV (ok:=fun _=>True) (fun t c v zs _=>Vk h t c v zs) hrel hy;have hv2:vs2=[]:=by
        cases vs2 with
        |nil=>rfl|cons _ _=>exact hr2.elim
       subst hv2;rw[iz]at he;rw[<-he]at kz;have hs:=Vk h i.a.1 (st.ac s) (a.eval s) xs (h.ac s) hxs 0;show Calls P f _ w _;rw[hargs,hv];refine Calls.mono (hi w h.below xs y (a.eval s) (G.hb b) cs e 0 hs hh kz) fun e' w' he'=>?_
       obtain⟨rfl,hB⟩:=he';exact CM (h.more hB) (v:=.v (.c (.int .i64 (qW (fun x=>i.p x y) xs 0)))) (u:=.int .i64 (qW (fun x=>i.p x y) xs 0)) rfl hr hK
      .cases hr
     .cases hr
    .cases hr
   .cases hr
  .cases hr
 .cases hr
def avt {ok:Nat->Prop}{t:Ty}{cs:List Value}{xs:List t.D}(hp:0<t.n)(hl:cs.length=xs.length*t.n)(he:fU w ok t cs xs):∀u∈cs,u.oneCell'=true:=by
 intro u hu;obtain⟨q,hq,rfl⟩:=auR.1 hu;have hj:q/t.n<xs.length:=by rw[aAV hp];omega
 obtain⟨c,h1,h2⟩:=he (q/t.n) xs[q/t.n] (pc hj);have hm:q%t.n<c.length:=by rw[h1.len];exact aa0 _ hp
 have h3:=h2 (q%t.n) c[q%t.n] (pc hm);have e:q/t.n*t.n+q%t.n=q:=by rw[Nat.mul_comm];exact Nat.div_add_mod q t.n
 rw[e,pc hq]at h3;rw[fJ h3];exact h1.one _ (cX hm)
def aye {ok:Nat->Prop}{t:Ty}{cs:List Value}{xs:List t.D}(he:fU w ok t cs xs)(m:Nat):fU w ok t (cs.drop (m*t.n)) (xs.drop m):=by intro j x hj;rw[air]at hj;obtain⟨c,h1,h2⟩:=he (m+j) x hj;refine⟨c,h1,fun i u hu=>?_⟩;rw[air,<-UX,<-LP];exact h2 i u hu
def aFe {f:FuncId}{e:TypeId}{u:Ty}(hf:YK P f)(hi:∀W,fK w0.fr w0.w W->atp P f e u W)(h:Inv w0 G st a w){args:Array Operand}{ts:Array TypeId}(ho:o.op=.call {callee:=.value (.func f),args:=args,argTypes:=ts})
  (hr:aA3 e u st o.dst args.toList k=some r) (hK:sg w0 k r K):o.wp P a w K Q:=by
 unfold Oper.wp;rw[JC hf ho];unfold aA3 at hr;split at hr
 .rename_i d s i v Va anq;split at hr
  .rename_i n id2 hin hvn;split at hr
   .rename_i b hb;split at hr
    .rename_i hwe;rw[aI]at hwe;split at hr
     .rename_i ht;split at hr
      .rename_i xs fl uB hold;split at hr
       .rename_i b1 hl1;obtain⟨hc,hr⟩:=aY hr;simp only[aI,cA]at hc;obtain⟨⟨⟨⟨hc1,hc2⟩,hc3⟩,hc4⟩,hc5⟩:=hc;obtain⟨be,bt,bxs,bf,bw⟩:=b;dsimp only at hwe ht hr hc4 hc5;have htt:=Ty.beq_eq ht;subst htt;obtain⟨hw,hee⟩:=hwe;have hee:=aP hee;subst hee;have hp:0<bt.n:=UU (bO hc1);have hargs:args.map a.eval=#[a.eval s,.int .i64 ((n.toNat:Nat):Int),a.eval v]:=by
         have e1:args=#[s,i,v]:=by rw[<-yr (xs:=args),anq]
         have e2:=h.ac i;rw[hin]at e2;have e2:a.eval i=.int .i64 n:=e2;rw[e1,LM hc2,<-e2];simp
        have hvr:=h.ac v;rw[hvn]at hvr;have hvv:a.eval v=G.hv id2:=hvr.2.2;obtain⟨ds,hd1,hd2,hd3⟩:=(h.bl id2 _ (fw hb)).wr hw;obtain⟨h1,hnt,hbx,⟨cs,bK,FA⟩,gO⟩:=Rv h (h.ac s) hold hp;have hap:∀g,(a.eval s).ownBlock=some g->(a.eval v).ownBlock≠some g:=by intro g hg hg2;obtain⟨id,h2,h3⟩:=gO g hg;rw[hvv]at hg2;rw[hd2 g hg2]at h2;cases h2;rw[hl1]at h3;cases h3
        show Calls P f _ w _;rw[hargs];refine Calls.mono (hi w h.below (a.eval s) (a.eval v) xs.length bxs.length n.toNat cs ds bK (by rw[hvv];exact hd1) hap (by omega) (by omega) (by omega) (avt hp bK.1 FA) (avt hp hd1.1 hd3)) fun e' w' he'=>?_
        obtain⟨v',rfl,hown',hg,hat⟩:=he';have aG8:∀q,RO G fl q->RO G (fl&&(bf || flat bt)) q:=fun q hq=>hq.Ez fun hh=>by rw[aI]at hh;exact hh.1
        have hnR:fU w (RO G (fl&&(bf || flat bt))) bt ds bxs:=by
         cases Vf:flat bt with
         |true=>exact anf Vf hd3|false=>exact mE (fun q hq=>hq.Ez fun hh=>by simp at hh;exact hh.2) hd3
        have hE:=mE aG8 FA;have hlt:(cs.take (n.toNat*bt.n)).length=(xs.take n.toNat).length*bt.n:=by rw[bV,bV,bK.1,aiv (Gs _ (by omega)),aiv (by omega)]
        rw[Va];refine OY h1 (a.eval s).ownBlock hg gO d ⟨be,bt,xs.take n.toNat++bxs++xs.drop n.toNat,fl&&(bf || flat bt),true⟩ rfl hp v' (cs.take (n.toNat*bt.n)++ds++cs.drop (n.toNat*bt.n)) ?_ ?_ (X3 ?_ (X3 hlt (ang hE _) hnR) (aye hE _)) hr hK
        .have:(xs.take n.toNat++bxs++xs.drop n.toNat).length=xs.length+bxs.length:=by simp only[aL,bV,bB];omega
         show w'.ownsRow 0 be bt.n v' (xs.take n.toNat++bxs++xs.drop n.toNat).length _;rw[this];exact hown'
        .intro q hq;rcases hat with hat|hat
         .exact .inr (hat▸hq)
         .exact .inl (hat q hq)
        .rw[aL,hlt,hd1.1,aL,LP]
       .cases hr
      .cases hr
     .cases hr
    .cases hr
   .cases hr
  .cases hr
 .cases hr
def aFf {f:FuncId}{e:TypeId}{u:Ty}(hf:YK P f)(hi:∀W,fK w0.fr w0.w W->aDt P f e u W)(h:Inv w0 G st a w){args:Array Operand}{ts:Array TypeId}(ho:o.op=.call {callee:=.value (.func f),args:=args,argTypes:=ts})
  (hr:aA4 e u st o.dst args.toList k=some r) (hK:sg w0 k r K):o.wp P a w K Q:=by
 unfold Oper.wp;rw[JC hf ho];unfold aA4 at hr;split at hr
 .rename_i d s i j Va anq;split at hr
  .rename_i n m hin hjn;split at hr
   .rename_i xs fl uB hold;obtain⟨hc,hr⟩:=aY hr;simp only[aI,cA]at hc;obtain⟨⟨⟨hc1,hc2⟩,hc3⟩,hc4⟩:=hc;have hp:0<u.n:=UU (bO hc1);have hargs:args.map a.eval=#[a.eval s,.int .i64 ((n.toNat:Nat):Int),.int .i64 ((m.toNat:Nat):Int)]:=by
     have e1:args=#[s,i,j]:=by rw[<-yr (xs:=args),anq]
     have e2:=h.ac i;rw[hin]at e2;have e2:a.eval i=.int .i64 n:=e2;have e3:=h.ac j;rw[hjn]at e3;have e3:a.eval j=.int .i64 m:=e3;rw[e1,LM hc2,LM (by omega),<-e2,<-e3];simp
    obtain⟨h1,hnt,hbx,⟨cs,bK,FA⟩,gO⟩:=Rv h (h.ac s) hold hp;show Calls P f _ w _;rw[hargs];refine Calls.mono (hi w h.below (a.eval s) xs.length n.toNat m.toNat cs bK (by omega) (by omega) (avt hp bK.1 FA)) fun e' w' he'=>?_
    obtain⟨v',rfl,hown',hg,hat⟩:=he';have hlt:(cs.take (n.toNat*u.n)).length=(xs.take n.toNat).length*u.n:=by rw[bV,bV,bK.1,aiv (Gs _ (by omega)),aiv (by omega)]
    rw[Va];refine OY h1 (a.eval s).ownBlock hg gO d ⟨e,u,xs.take n.toNat++xs.drop m.toNat,fl,true⟩ rfl hp v' (cs.take (n.toNat*u.n)++cs.drop (m.toNat*u.n)) ?_ ?_ (X3 hlt (ang FA _) (aye FA _)) hr hK
    .have:(xs.take n.toNat++xs.drop m.toNat).length=n.toNat+(xs.length-m.toNat):=by simp only[aL,bV,bB];omega
     show w'.ownsRow 0 e u.n v' (xs.take n.toNat++xs.drop m.toNat).length _;rw[this];exact hown'
    .intro q hq;rcases hat with hat|hat
     .exact .inr (hat▸hq)
     .exact .inl (hat q hq)
   .cases hr
  .cases hr
 .cases hr
def ayf (h:Inv w0 G st a w)(t:TypeId)(x:Operand)(ho:o.op=.box t x){d:Tmp}(Va:o.dst=some d){u:Ty}{y:u.D}(hy:im st u (st.eZ x).cells=some (y,[]))
  (hr:ck (Nat.blt d st.nt&&(st.eZ x).kn&&p7 st (st.eZ x).cells) (k ((st.freeze (st.eZ x).cells).put d (.v (.c (.UA (cZ (st.eZ x).cells) u y 0)))))=some r) (hK:sg w0 k r K):o.wp P a w K Q:=by
 obtain⟨hc,hk⟩:=aY hr;simp only[aI]at hc;obtain⟨⟨h1,h2⟩,h3⟩:=hc;refine Jw (v:=.pointer (some ⟨w.heap.size,0,none⟩)) (w':=w.alloc (.cells (a.eval x).cells t)) ?_ ?_
 .unfold execOp;rw[ho];simp[Instr.box,BF]
 .rw[Va];obtain⟨G1,hi,hx,hs,hsd⟩:=Inv.freeze (st.eZ x).cells h;have hcell:=((h.eZ x).cells h2).imp fun _ _=>bS.mono hx hs
  obtain⟨vs1,vs2,hv,kz,hr2,_⟩:=OV (ok:=RO G1 (cZ (st.eZ x).cells)) (OX (bx:=st.bx) hi h3 fun h=>h) hcell (by rw[vd hsd];exact hy);have hv2:vs2=[]:=by
   cases vs2 with
   |nil=>rfl|cons _ _=>exact hr2.elim
  subst hv2;rw[iz]at hv;rw[<-hv]at kz;have hB:Below w.heap.size w (w.alloc (.cells (a.eval x).cells t)):=⟨rfl,rfl,rfl,by simp,fun k hk=>Below.heap_alloc _ _ _ hk⟩;have hi2:=hi.more hB;have bK:G1.own w.heap.size=none:=by
   cases hg:G1.own w.heap.size with
   |none=>rfl|some q=>exact absurd (hi.own _ q hg).2.1 (U0 _)
  refine hK _ _ _ _ (hi2.put d (by rw[hsd.nt];exact iD h1) (v:=.v (.c (.UA (cZ (st.eZ x).cells) u y 0))) ?_) hk;refine⟨w.heap.size,0,(a.eval x).cells.toList,by simp,by simp,⟨bK,.inl (hi.axV (bZ _))⟩,kz.mono hB.size fun b hb dZ=>⟨dZ,hB.block b hb⟩,fun i v hv=>?_⟩;rw[cell_of_row _ w.heap.size (0+i) (a.eval x).cells t (0,0) (heap_alloc_new w _),xK];simpa using hv
def EE {C:FuncId->Option Any}(hC:∀f con,C f=some con->SG P w0 f con)(h:Inv w0 G st a w)(hr:jP P C (sd.Rm N) o st k=some r)(hK:sg w0 k r K):o.wp P a w K Q:=by
 unfold jP at hr;split at hr
 .exact bY (I5 h _ (.inl ‹_›) hr) hK
 .exact bY (I5 h _ (.inr ‹_›) hr) hK
 ·
  rename_i c x y cC;split at hr
  .exact bY (afW h c x y cC ‹_› hr) hK
  .cases hr
 ·
  rename_i t x cC;split at hr
  .rename_i d hd;split at hr
   .split at hr
    .split at hr
     .exact ayf h t x cC hd ‹_› hr hK
     .cases hr
    .cases hr
   .split at hr
    .exact aEX h t x cC hd ‹_› hr hK
    .cases hr
  .cases hr
 ·
  rename_i t cC;split at hr
  .rename_i d hd;split at hr
   .split at hr
    .exact axZ h t cC hd ‹_› ‹_› hr hK
    .cases hr
   .cases hr
  .cases hr
 ·
  rename_i t parts cC;split at hr
  .split at hr
   .exact bY (abb h t parts cC ‹_› ‹_› ‹_› ‹_› hr) hK
   .cases hr
  .cases hr
 ·
  rename_i t len parts cC;split at hr
  .split at hr
   .split at hr
    .split at hr
     .exact af2 h t len parts cC ‹_› ‹_› ‹_› ‹_› hr hK
     .cases hr
    .cases hr
   .cases hr
  .cases hr
 ·
  rename_i t x cC;split at hr
  .rename_i l off hcell;dsimp only at hr;split at hr
   .rename_i hn;split at hr
    .exact bY (I6 h t x cC hcell hn (b:=true) ‹_› (v:=.agg _) rfl hr) hK
    .split at hr
     .rename_i nT _ y hq;exact bY (I6 h t x cC hcell hn (b:=false) nT (v:=.c y) ⟨y,hq,rfl⟩ hr) hK
     .cases hr
    .cases hr
   .cases hr
  .cases hr
 ·
  rename_i t x y cC;split at hr
  .rename_i hc;simp only[aI]at hc;obtain⟨⟨⟨h1,h2⟩,h3⟩,h4⟩:=hc;split at hr
   .split at hr
    .split at hr
     .exact am9 h t x y cC h1 h2 (aP h3) h4 ‹_› ‹_› (Fz ‹_›) hr hK
     .cases hr
    .cases hr
   .split at hr
    .split at hr
     .rename_i hw;simp only[aI]at hw;split at hr
      .exact akc h t x y cC h1 h2 (aP h3) h4 ‹_› ‹_› hw.1.1 hw.1.2 hw.2 ‹_› hr hK
      .cases hr
     .cases hr
    .cases hr
   .cases hr
  .cases hr
 ·
  rename_i x cC;split at hr
  .exact bY (Of h x cC ‹_› hr) hK
  .cases hr
 ·
  rename_i op xt x y yt cC;split at hr
  .exact bY (aa7 h op xt x y yt cC ‹_› ‹_› hr) hK
  .split at hr
   .exact bY (pL h _ xt x y yt cC ‹_› ‹_› ‹_› (.inl ⟨rfl,rfl⟩) hr) hK
   .exact bY (pL h _ xt x y yt cC ‹_› ‹_› ‹_› (.inr ⟨rfl,rfl⟩) hr) hK
   .cases hr
  .cases hr
 ·
  rename_i op t x cC;split at hr
  .exact bY (am5 h t x cC ‹_› hr) hK
  .exact bY (am6 h t x cC ‹_› hr) hK
  .cases hr
 ·
  rename_i src dst x cC;split at hr
  .exact bY (Rp h src dst x cC ‹_› ‹_› ‹_› hr) hK
  .exact bY (Rq h src dst x cC ‹_› ‹_› ‹_› hr) hK
  .split at hr
   .obtain⟨hc,hr⟩:=aY hr;exact arL h src dst x cC ‹_› ‹_› ‹_› ‹_› (by have:=nW hc;dsimp only[sd.Rm]at this;omega) hr hK
   .cases hr
  .split at hr
   .exact bY (abc h src dst x cC ‹_› ‹_› ‹_› ‹_› hr) hK
   .cases hr
  .cases hr
 ·
  rename_i t p q cC;split at hr
  .split at hr
   .split at hr
    .obtain⟨hc,hr⟩:=aY hr;exact akf h t p q cC ‹_› ‹_› ‹_› ‹_› ‹_› ‹_› hc hr hK
    .cases hr
   .cases hr
  .cases hr
 ·
  rename_i t x lo hi cC;split at hr
  .split at hr
   .split at hr
    .obtain⟨hc,hr⟩:=aY hr;simp only[aI,cA]at hc;exact bY (Vg h t x lo hi cC ‹_› ‹_› ‹_› ‹_› hc.1.1 hc.1.2 hc.2 hr) hK
    .cases hr
   .cases hr
  .split at hr
   .split at hr
    .obtain⟨hc,hr⟩:=aY hr;simp only[aI,cA]at hc;exact bY (aba h t x lo hi cC ‹_› ‹_› (aP hc.1.1) (bO hc.1.2) ‹_› ‹_› hc.2.1.1 hc.2.1.2 hc.2.2 hr) hK
    .cases hr
   .split at hr
    .split at hr
     .obtain⟨hc,hr⟩:=aY hr;simp only[aI,cA]at hc;exact bY (Vh h t x hi cC ‹_› ‹_› ‹_› (aP hc.1) ‹_› hc.2.1 hc.2.2 hr) hK
     .cases hr
    .split at hr
     .obtain⟨hc,hr⟩:=aY hr;simp only[aI,cA]at hc;exact bY (Oi h t x _ hi cC ‹_› ‹_› ‹_› (aP hc.1) ‹_› ‹_› hc.2.1.1 hc.2.1.2 hc.2.2 hr) hK
     .cases hr
    .cases hr
   .cases hr
  .cases hr
 ·
  rename_i t x f cC;split at hr
  .split at hr
   .exact bY (fZ h t x f cC ‹_› ‹_› (by exact rfl) hr) hK
   .split at hr
    .exact bY (fZ h t x f cC ‹_› ‹_› (by exact⟨rfl,_,fw ‹_›⟩) hr) hK
    .cases hr
   .exact bY (fZ h t x f cC ‹_› ‹_› (by exact rfl) hr) hK
   .cases hr
  .cases hr
 ·
  rename_i t x i cC;split at hr
  .split at hr
   .split at hr
    .split at hr
     .split at hr
      .obtain⟨hc,hr⟩:=aY hr;simp only[aI,cA]at hc;exact bY (Og h t x i cC ‹_› ‹_› ‹_› ‹_› ‹_› (aP hc.1) hc.2.1 hc.2.2 hr) hK
      .cases hr
     .cases hr
    .obtain⟨hc,hr⟩:=aY hr;simp only[aI,cA]at hc;exact bY (Rs h t x i cC ‹_› ‹_› ‹_› (aP hc.1.1) (bO hc.1.2) hc.2.1 hc.2.2 hr) hK
    .cases hr
   .split at hr
    .obtain⟨hc,hr⟩:=aY hr;simp only[aI,cA]at hc;exact bY (Oh h t x i cC ‹_› ‹_› ‹_› (bO hc.1) hc.2.1 hc.2.2 hr) hK
    .cases hr
   .cases hr
  .cases hr
 ·
  rename_i t x i cC;split at hr
  .obtain⟨hc,hr⟩:=aY hr;simp only[aI,cA]at hc;exact bY (aa8 h t x i cC ‹_› ‹_› ‹_› hc.1 hc.2 hr) hK
  .cases hr
 ·
  rename_i t x f cC;split at hr
  .rename_i hf hx;dsimp only at hr;split at hr
   .rename_i hn;split at hr
    .exact bY (BH h t x f cC hf hx hn (b:=true) ‹_› (v:=.agg _) rfl hr) hK
    .split at hr
     .rename_i nT _ y hq;exact bY (BH h t x f cC hf hx hn (b:=false) nT (v:=.c y) ⟨y,hq,rfl⟩ hr) hK
     .cases hr
    .cases hr
   .cases hr
  .cases hr
 ·
  rename_i x i cC;split at hr
  .split at hr
   .exact bY (Ro h x i cC ‹_› ‹_› hr) hK
   .cases hr
  .cases hr
 ·
  rename_i f args ts cC;split at hr
  .rename_i con fF;exact aBu (show aiF P w0 f con from hC f (.one con) fF) h cC hr hK
  .rename_i con fF;exact ayb (show abd P w0 f con from hC f (.two con) fF) h cC hr hK
  .rename_i con fF;exact ayd (show avn P w0 f con from hC f (.sel con) fF) h cC hr hK
  .rename_i i fF;have hi:=hC f (.idx i) fF;exact arM hi.1 hi.2 h cC hr hK
  .rename_i e u fF;have hi:=hC f (.ins e u) fF;exact aFe hi.1 hi.2 h cC hr hK
  .rename_i e u fF;have hi:=hC f (.del e u) fF;exact aFf hi.1 hi.2 h cC hr hK
  .cases hr
 ·
  rename_i args ts cC;split at hr
  .rename_i x t hx ht;split at hr
   .split at hr
    .exact bY (OU h x t cC hx ht ‹_› (.inl ⟨by assumption,_,by assumption⟩) hr) hK
    .cases hr
   .split at hr
    .cases hr
    .rename_i hns;exact bY (OU h x t cC hx ht ‹_› (.inr ⟨⟨_,by assumption⟩,fun s hs=>hns s hs⟩) hr) hK
   .cases hr
  .cases hr
 ·
  rename_i args ts cC;split at hr
  .split at hr
   .split at hr
    .exact bY (ano h cC ‹_› ‹_› ‹_› hr) hK
    .cases hr
   .cases hr
  .cases hr
 ·
  rename_i args ts cC;split at hr
  .split at hr
   .split at hr
    .exact bY (anp h cC ‹_› ‹_› ‹_› hr) hK
    .cases hr
   .cases hr
  .cases hr
 ·
  rename_i args ts cC;split at hr
  .split at hr
   .split at hr
    .exact avl h cC ‹_› ‹_› ‹_› ‹_› ‹_› hr hK
    .cases hr
   .cases hr
  .cases hr
 ·
  rename_i g first arD cC
  split at hr
  .split at hr
   .exact bY (arH h g first arD cC ‹_› ‹_› ‹_› hr) hK
   .cases hr
  .cases hr
 .cases hr
end
end Go.Am
