/- No condition. -/
import Derived.Test.YtfapcfpkbahneaaGreatDoorQpAmRun
set_option linter.all false
namespace Go.Am
open Go.RowKit
section
variable {N:Nat} {P:Program} {w0:fR} {w:World} {G:Gh} {st:St} {a:Act} {U:Type} {k:St->Option U} {r:U} {K:Act->World->Prop} {Q:Exit->Act->World->Prop} {o:Oper}
def avv (P:Program)(w0:fR)(w:World)(a:Act)(o:Oper){U:Type}(k:St->Option U)(r:U):Prop :=
 ∃v G' dV,(∀w1,Below w.heap.size w w1->o.quietAt P a (fun w'=>Below w.heap.size w w') w1 v)/\Inv w0 G' dV (a.put o.dst v) w/\k dV=some r
def bP.dx (h:bP P w0 w a o k r):avv P w0 w a o k r:=by obtain⟨v,G',dV,he,h1,h2⟩:=h;refine⟨v,G',dV,fun w1 hB=>?_,h1,h2⟩;unfold Oper.quietAt;rw[he w1 (yA hB)];exact⟨rfl,rfl⟩
def atv:(t:Ty)->t.D->List Value
 |.int k,x=>[.int k x]|.bool,x=>[.bool x]|.str,x=>[.string x]|.unit,_=>[]|.pair a b,x=>atv a x.1++atv b x.2|.sl _ _,_=>[]
def anr {ok:Nat->Prop}:∀{t:Ty} {x:t.D} {cs:List Value},flat t=true->Rd w ok t x cs->cs=atv t x
 |.int _,_,_,_,h=>h|.bool,_,_,_,h=>h|.str,_,_,_,h=>h|.unit,_,_,_,h=>h|.pair a b,_,_,hf,h=>by obtain⟨c1,c2,rfl,h1,h2⟩:=h;have hf':(flat a&&flat b)=true:=hf;rw[aI]at hf';rw[anr hf'.1 h1,anr hf'.2 h2];rfl
 |.sl _ _,_,_,hf,_=>by cases hf
def ans {ok:Nat->Prop}:∀{t:Ty} {x:t.D},flat t=true->Rd w ok t x (atv t x)
 |.int _,_,_=>rfl|.bool,_,_=>rfl|.str,_,_=>rfl|.unit,_,_=>rfl|.pair a b,_,hf=>by have hf':(flat a&&flat b)=true:=hf;rw[aI]at hf';exact⟨_,_,rfl,ans hf'.1,ans hf'.2⟩
 |.sl _ _,_,hf=>by cases hf
def avw:(rs:List (Ty×Bool))->Args rs->List Value
 |[],_=>[]|a::l,x=>(match a.2 with|true=>.agg (atv a.1 x.1).toArray|false=>(atv a.1 x.1).headD undef)::avw l x.2
def atw {ok:Nat->Prop}:∀{rs:List (Ty×Bool)} {x:Args rs} {vs:List Value},(rs.all fun a=>flat a.1)=true->e8 w ok rs x vs->vs=avw rs x
 |[],_,_,_,h=>h|a::l,x,vs,hf,h=>by obtain⟨v,vs',rfl,⟨cs,h1,h2⟩,h3⟩:=h;rw[List.all_cons,aI]at hf;rw[atw hf.2 h3,h2,anr hf.1 h1];rfl
def atx {ok:Nat->Prop}:∀{rs:List (Ty×Bool)} {x:Args rs},(rs.all fun a=>flat a.1)=true->e8 w ok rs x (avw rs x)
 |[],_,_=>rfl|a::l,x,hf=>by rw[List.all_cons,aI]at hf;exact⟨_,_,rfl,⟨_,ans hf.1,rfl⟩,atx hf.2⟩
def avx {f:FuncId}{con:Con}(fF:aiF P w0 f con)(hq:(Nat.beq con.m 1&&con.rs.all fun a=>flat a.1)=true)(h:Inv w0 G st a w){args:Array Operand}{ts:Array TypeId}(ho:o.op=.call {callee:=.value (.func f),args:=args,argTypes:=ts})
  (hr:XZ con st o.dst args.toList k=some r):avv P w0 w a o k r:=by
 rw[aI]at hq;have hm:=aP hq.1;unfold XZ at hr;split at hr
 .rename_i x hx;cases hg:con.g x with
  |none=>rw[hg]at hr;cases hr
  |some y =>
   rw[hg]at hr;simp only[amJ]at hr;cases hd:o.dst with
   |none=>rw[hd]at hr;cases hr
   |some d =>
    rw[hd]at hr;dsimp only at hr;split at hr
    .rename_i hm0;rw[hm]at hm0;cases hm0
    .obtain⟨hc,hr⟩:=aY hr;simp only[aI]at hc;have hrel:=CO (f:=true) (G:=G) (bx:=st.bx) (bl:=st.bl) hc.2 (atx (w:=w) (x:=y) hq.2);refine⟨ga (avw con.rs y),G,_,fun w1 hB=>?_,by rw[hd];exact h.put d (iD hc.1) (yC (R:=fun _ _=>True) hrel),hr⟩;have h1:=h.more hB;have kz:=I8 (ok:=fun _=>True) h1 con.ps args.toList x (fun t c v xs _=>Vk h1 t c v xs) hx;unfold Oper.quietAt;rw[JC fF.1 ho];refine⟨rfl,?_⟩;have hargs:(args.map a.eval)=(args.toList.map a.eval).toArray:=by rw[<-acM,yr]
     rw[hargs];refine Calls.mono (fF.2 x y hg w1 h1.below _ _ kz) fun e w' he=>?_
     obtain⟨us,rfl,df,hB'⟩:=he;unfold Zh at df;rw[hm]at df;rw[atw hq.2 df];have hle:=hB.size;exact⟨rfl,hB.trans ⟨hB'.os,hB'.tape,hB'.output,hB'.size,fun k hk=>hB'.block k (by omega)⟩⟩
    .rename_i hm1;exact absurd hm hm1
 .cases hr
def ayg {C:FuncId->Option Any}(hC:∀f con,C f=some con->SG P w0 f con)(hq:k9 P C o=true)(h:Inv w0 G st a w)(hr:jP P C (sd.Rm N) o st k=some r):avv P w0 w a o k r:=by
 unfold jP at hr;split at hr
 .exact bP.dx (I5 h _ (.inl ‹_›) hr)
 .exact bP.dx (I5 h _ (.inr ‹_›) hr)
 ·
  rename_i c x y cC;split at hr
  .exact bP.dx (afW h c x y cC ‹_› hr)
  .cases hr
 ·
  rename_i t x cC;simp[k9,cC]at hq
 ·
  rename_i t cC;simp[k9,cC]at hq
 ·
  rename_i t parts cC;split at hr
  .split at hr
   .exact bP.dx (abb h t parts cC ‹_› ‹_› ‹_› ‹_› hr)
   .cases hr
  .cases hr
 ·
  rename_i t len parts cC;simp[k9,cC]at hq
 ·
  rename_i t x cC;split at hr
  .rename_i l off hcell;dsimp only at hr;split at hr
   .rename_i hn;split at hr
    .exact bP.dx (I6 h t x cC hcell hn (b:=true) ‹_› (v:=.agg _) rfl hr)
    .split at hr
     .rename_i nT _ y hq;exact bP.dx (I6 h t x cC hcell hn (b:=false) nT (v:=.c y) ⟨y,hq,rfl⟩ hr)
     .cases hr
    .cases hr
   .cases hr
  .cases hr
 ·
  rename_i t x y cC;simp[k9,cC]at hq
 ·
  rename_i x cC;split at hr
  .exact bP.dx (Of h x cC ‹_› hr)
  .cases hr
 ·
  rename_i op xt x y yt cC;split at hr
  .exact bP.dx (aa7 h op xt x y yt cC ‹_› ‹_› hr)
  .split at hr
   .exact bP.dx (pL h _ xt x y yt cC ‹_› ‹_› ‹_› (.inl ⟨rfl,rfl⟩) hr)
   .exact bP.dx (pL h _ xt x y yt cC ‹_› ‹_› ‹_› (.inr ⟨rfl,rfl⟩) hr)
   .cases hr
  .cases hr
 ·
  rename_i op t x cC;split at hr
  .exact bP.dx (am5 h t x cC ‹_› hr)
  .exact bP.dx (am6 h t x cC ‹_› hr)
  .cases hr
 ·
  rename_i src dst x cC;split at hr
  .exact bP.dx (Rp h src dst x cC ‹_› ‹_› ‹_› hr)
  .exact bP.dx (Rq h src dst x cC ‹_› ‹_› ‹_› hr)
  .split at hr
   .obtain⟨hc,hr⟩:=aY hr;simp[k9,cC,(show P.underlying _=some (.slice _) by assumption)]at hq
   .cases hr
  .split at hr
   .exact bP.dx (abc h src dst x cC ‹_› ‹_› ‹_› ‹_› hr)
   .cases hr
  .cases hr
 ·
  rename_i t p q cC;simp[k9,cC]at hq
 ·
  rename_i t x lo hi cC;split at hr
  .split at hr
   .split at hr
    .obtain⟨hc,hr⟩:=aY hr;simp only[aI,cA]at hc;exact bP.dx (Vg h t x lo hi cC ‹_› ‹_› ‹_› ‹_› hc.1.1 hc.1.2 hc.2 hr)
    .cases hr
   .cases hr
  .split at hr
   .split at hr
    .obtain⟨hc,hr⟩:=aY hr;simp only[aI,cA]at hc;exact bP.dx (aba h t x lo hi cC ‹_› ‹_› (aP hc.1.1) (bO hc.1.2) ‹_› ‹_› hc.2.1.1 hc.2.1.2 hc.2.2 hr)
    .cases hr
   .split at hr
    .split at hr
     .obtain⟨hc,hr⟩:=aY hr;simp only[aI,cA]at hc;exact bP.dx (Vh h t x hi cC ‹_› ‹_› ‹_› (aP hc.1) ‹_› hc.2.1 hc.2.2 hr)
     .cases hr
    .split at hr
     .obtain⟨hc,hr⟩:=aY hr;simp only[aI,cA]at hc;exact bP.dx (Oi h t x _ hi cC ‹_› ‹_› ‹_› (aP hc.1) ‹_› ‹_› hc.2.1.1 hc.2.1.2 hc.2.2 hr)
     .cases hr
    .cases hr
   .cases hr
  .cases hr
 ·
  rename_i t x f cC;split at hr
  .split at hr
   .exact bP.dx (fZ h t x f cC ‹_› ‹_› (by exact rfl) hr)
   .split at hr
    .exact bP.dx (fZ h t x f cC ‹_› ‹_› (by exact⟨rfl,_,fw ‹_›⟩) hr)
    .cases hr
   .exact bP.dx (fZ h t x f cC ‹_› ‹_› (by exact rfl) hr)
   .cases hr
  .cases hr
 ·
  rename_i t x i cC;split at hr
  .split at hr
   .split at hr
    .split at hr
     .split at hr
      .obtain⟨hc,hr⟩:=aY hr;simp only[aI,cA]at hc;exact bP.dx (Og h t x i cC ‹_› ‹_› ‹_› ‹_› ‹_› (aP hc.1) hc.2.1 hc.2.2 hr)
      .cases hr
     .cases hr
    .obtain⟨hc,hr⟩:=aY hr;simp only[aI,cA]at hc;exact bP.dx (Rs h t x i cC ‹_› ‹_› ‹_› (aP hc.1.1) (bO hc.1.2) hc.2.1 hc.2.2 hr)
    .cases hr
   .split at hr
    .obtain⟨hc,hr⟩:=aY hr;simp only[aI,cA]at hc;exact bP.dx (Oh h t x i cC ‹_› ‹_› ‹_› (bO hc.1) hc.2.1 hc.2.2 hr)
    .cases hr
   .cases hr
  .cases hr
 ·
  rename_i t x i cC;split at hr
  .obtain⟨hc,hr⟩:=aY hr;simp only[aI,cA]at hc;exact bP.dx (aa8 h t x i cC ‹_› ‹_› ‹_› hc.1 hc.2 hr)
  .cases hr
 ·
  rename_i t x f cC;split at hr
  .rename_i hf hx;dsimp only at hr;split at hr
   .rename_i hn;split at hr
    .exact bP.dx (BH h t x f cC hf hx hn (b:=true) ‹_› (v:=.agg _) rfl hr)
    .split at hr
     .rename_i nT _ y hq;exact bP.dx (BH h t x f cC hf hx hn (b:=false) nT (v:=.c y) ⟨y,hq,rfl⟩ hr)
     .cases hr
    .cases hr
   .cases hr
  .cases hr
 ·
  rename_i x i cC;split at hr
  .split at hr
   .exact bP.dx (Ro h x i cC ‹_› ‹_› hr)
   .cases hr
  .cases hr
 ·
  rename_i f args ts cC;split at hr
  .rename_i con fF;exact avx (show aiF P w0 f con from hC f (.one con) fF) (by simpa [k9,cC,fF]using hq) h cC hr
  .rename_i con fF;simp[k9,cC,fF]at hq
  .rename_i con fF;simp[k9,cC,fF]at hq
  .rename_i con fF;simp[k9,cC,fF]at hq
  .rename_i fF;simp[k9,cC,fF]at hq
  .rename_i fF;simp[k9,cC,fF]at hq
  .cases hr
 ·
  rename_i args ts cC;split at hr
  .rename_i x t hx ht;split at hr
   .split at hr
    .exact bP.dx (OU h x t cC hx ht ‹_› (.inl ⟨by assumption,_,by assumption⟩) hr)
    .cases hr
   .split at hr
    .cases hr
    .rename_i hns;exact bP.dx (OU h x t cC hx ht ‹_› (.inr ⟨⟨_,by assumption⟩,fun s hs=>hns s hs⟩) hr)
   .cases hr
  .cases hr
 ·
  rename_i args ts cC;split at hr
  .split at hr
   .split at hr
    .exact bP.dx (ano h cC ‹_› ‹_› ‹_› hr)
    .cases hr
   .cases hr
  .cases hr
 ·
  rename_i args ts cC;split at hr
  .split at hr
   .split at hr
    .exact bP.dx (anp h cC ‹_› ‹_› ‹_› hr)
    .cases hr
   .cases hr
  .cases hr
 ·
  rename_i args ts cC;simp[k9,cC]at hq
 ·
  rename_i g first arD cC
  simp[k9,cC]at hq
 .cases hr
def abj {C:FuncId->Option Any}(hq:p8 P o=true)(h:Inv w0 G st a w)(hr:jP P C (sd.Rm N) o st k=some r):bP P w0 w a o k r:=by
 unfold jP at hr;split at hr
 .exact(I5 h _ (.inl ‹_›) hr)
 .exact(I5 h _ (.inr ‹_›) hr)
 ·
  rename_i c x y cC;split at hr
  .exact(afW h c x y cC ‹_› hr)
  .cases hr
 ·
  rename_i t x cC;simp[p8,cC]at hq
 ·
  rename_i t cC;simp[p8,cC]at hq
 ·
  rename_i t parts cC;split at hr
  .split at hr
   .exact(abb h t parts cC ‹_› ‹_› ‹_› ‹_› hr)
   .cases hr
  .cases hr
 ·
  rename_i t len parts cC;simp[p8,cC]at hq
 ·
  rename_i t x cC;split at hr
  .rename_i l off hcell;dsimp only at hr;split at hr
   .rename_i hn;split at hr
    .exact(I6 h t x cC hcell hn (b:=true) ‹_› (v:=.agg _) rfl hr)
    .split at hr
     .rename_i nT _ y hq;exact(I6 h t x cC hcell hn (b:=false) nT (v:=.c y) ⟨y,hq,rfl⟩ hr)
     .cases hr
    .cases hr
   .cases hr
  .cases hr
 ·
  rename_i t x y cC;simp[p8,cC]at hq
 ·
  rename_i x cC;split at hr
  .exact(Of h x cC ‹_› hr)
  .cases hr
 ·
  rename_i op xt x y yt cC;split at hr
  .exact(aa7 h op xt x y yt cC ‹_› ‹_› hr)
  .split at hr
   .exact(pL h _ xt x y yt cC ‹_› ‹_› ‹_› (.inl ⟨rfl,rfl⟩) hr)
   .exact(pL h _ xt x y yt cC ‹_› ‹_› ‹_› (.inr ⟨rfl,rfl⟩) hr)
   .cases hr
  .cases hr
 ·
  rename_i op t x cC;split at hr
  .exact(am5 h t x cC ‹_› hr)
  .exact(am6 h t x cC ‹_› hr)
  .cases hr
 ·
  rename_i src dst x cC;split at hr
  .exact(Rp h src dst x cC ‹_› ‹_› ‹_› hr)
  .exact(Rq h src dst x cC ‹_› ‹_› ‹_› hr)
  .split at hr
   .obtain⟨hc,hr⟩:=aY hr;simp[p8,cC,(show P.underlying _=some (.slice _) by assumption)]at hq
   .cases hr
  .split at hr
   .exact(abc h src dst x cC ‹_› ‹_› ‹_› ‹_› hr)
   .cases hr
  .cases hr
 ·
  rename_i t p q cC;simp[p8,cC]at hq
 ·
  rename_i t x lo hi cC;split at hr
  .split at hr
   .split at hr
    .obtain⟨hc,hr⟩:=aY hr;simp only[aI,cA]at hc;exact(Vg h t x lo hi cC ‹_› ‹_› ‹_› ‹_› hc.1.1 hc.1.2 hc.2 hr)
    .cases hr
   .cases hr
  .split at hr
   .split at hr
    .obtain⟨hc,hr⟩:=aY hr;simp only[aI,cA]at hc;exact(aba h t x lo hi cC ‹_› ‹_› (aP hc.1.1) (bO hc.1.2) ‹_› ‹_› hc.2.1.1 hc.2.1.2 hc.2.2 hr)
    .cases hr
   .split at hr
    .split at hr
     .obtain⟨hc,hr⟩:=aY hr;simp only[aI,cA]at hc;exact(Vh h t x hi cC ‹_› ‹_› ‹_› (aP hc.1) ‹_› hc.2.1 hc.2.2 hr)
     .cases hr
    .split at hr
     .obtain⟨hc,hr⟩:=aY hr;simp only[aI,cA]at hc;exact(Oi h t x _ hi cC ‹_› ‹_› ‹_› (aP hc.1) ‹_› ‹_› hc.2.1.1 hc.2.1.2 hc.2.2 hr)
     .cases hr
    .cases hr
   .cases hr
  .cases hr
 ·
  rename_i t x f cC;split at hr
  .split at hr
   .exact(fZ h t x f cC ‹_› ‹_› (by exact rfl) hr)
   .split at hr
    .exact(fZ h t x f cC ‹_› ‹_› (by exact⟨rfl,_,fw ‹_›⟩) hr)
    .cases hr
   .exact(fZ h t x f cC ‹_› ‹_› (by exact rfl) hr)
   .cases hr
  .cases hr
 ·
  rename_i t x i cC;split at hr
  .split at hr
   .split at hr
    .split at hr
     .split at hr
      .obtain⟨hc,hr⟩:=aY hr;simp only[aI,cA]at hc;exact(Og h t x i cC ‹_› ‹_› ‹_› ‹_› ‹_› (aP hc.1) hc.2.1 hc.2.2 hr)
      .cases hr
     .cases hr
    .obtain⟨hc,hr⟩:=aY hr;simp only[aI,cA]at hc;exact(Rs h t x i cC ‹_› ‹_› ‹_› (aP hc.1.1) (bO hc.1.2) hc.2.1 hc.2.2 hr)
    .cases hr
   .split at hr
    .obtain⟨hc,hr⟩:=aY hr;simp only[aI,cA]at hc;exact(Oh h t x i cC ‹_› ‹_› ‹_› (bO hc.1) hc.2.1 hc.2.2 hr)
    .cases hr
   .cases hr
  .cases hr
 ·
  rename_i t x i cC;split at hr
  .obtain⟨hc,hr⟩:=aY hr;simp only[aI,cA]at hc;exact(aa8 h t x i cC ‹_› ‹_› ‹_› hc.1 hc.2 hr)
  .cases hr
 ·
  rename_i t x f cC;split at hr
  .rename_i hf hx;dsimp only at hr;split at hr
   .rename_i hn;split at hr
    .exact(BH h t x f cC hf hx hn (b:=true) ‹_› (v:=.agg _) rfl hr)
    .split at hr
     .rename_i nT _ y hq;exact(BH h t x f cC hf hx hn (b:=false) nT (v:=.c y) ⟨y,hq,rfl⟩ hr)
     .cases hr
    .cases hr
   .cases hr
  .cases hr
 ·
  rename_i x i cC;split at hr
  .split at hr
   .exact(Ro h x i cC ‹_› ‹_› hr)
   .cases hr
  .cases hr
 ·
  rename_i f args ts cC;simp[p8,cC]at hq
 ·
  rename_i args ts cC;split at hr
  .rename_i x t hx ht;split at hr
   .split at hr
    .exact(OU h x t cC hx ht ‹_› (.inl ⟨by assumption,_,by assumption⟩) hr)
    .cases hr
   .split at hr
    .cases hr
    .rename_i hns;exact(OU h x t cC hx ht ‹_› (.inr ⟨⟨_,by assumption⟩,fun s hs=>hns s hs⟩) hr)
   .cases hr
  .cases hr
 ·
  rename_i args ts cC;split at hr
  .split at hr
   .split at hr
    .exact(ano h cC ‹_› ‹_› ‹_› hr)
    .cases hr
   .cases hr
  .cases hr
 ·
  rename_i args ts cC;split at hr
  .split at hr
   .split at hr
    .exact(anp h cC ‹_› ‹_› ‹_› hr)
    .cases hr
   .cases hr
  .cases hr
 ·
  rename_i args ts cC;simp[p8,cC]at hq
 ·
  rename_i g first arD cC
  simp[p8,cC]at hq
 .cases hr
def avy {C:FuncId->Option Any}(hq:p8 P o=true)(hro:Ju st o=true)(h:Inv w0 G st a w)(hr:jP P C (sd.Rm N) o st k=some r):am3 P w0 G w a o k r:=by
 cases ho:o.op with
 |load t x =>
  simp only[Ju,ho]at hro;split at hro
  .rename_i f u0 y0 arG aEY;simp only[jP,ho]at hr;split at hr
   .rename_i l off hc;split at hr
    .rename_i hn;split at hr
     .rename_i nT;exact aDj h t x ho hc hn nT rfl aEY hr
     .rename_i nT;split at hr
      .rename_i y hy;exact aDj h t x ho hc hn nT ⟨y,hy,rfl⟩ aEY hr
      .cases hr
     .cases hr
    .cases hr
   .cases hr
  .cases hro
 |convert s d x=>simp[Ju,ho]at hro
 |_ =>
  obtain⟨v,G',dV,he,hi,hk⟩:=abj hq h hr;exact⟨v,G',dV,fun w1 _=>he w1 (by unfold aiA;rw[ho];trivial),hi,hk⟩
end
end Go.Am
