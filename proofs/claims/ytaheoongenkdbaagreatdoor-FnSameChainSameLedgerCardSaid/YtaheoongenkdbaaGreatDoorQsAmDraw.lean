/- No condition. -/
import Derived.Test.YtaheoongenkdbaaGreatDoorQsAmRun
set_option linter.all false
namespace Go.Am
open Go.RowKit
section
variable {N:Nat} {P:Program} {w0:eA} {w:World} {G:Gh} {st:St} {a:Act} {U:Type} {k:St->Option U} {r:U} {K:Act->World->Prop} {Q:Exit->Act->World->Prop} {o:Oper}
def ara (P:Program)(w0:eA)(w:World)(a:Act)(o:Oper){U:Type}(k:St->Option U)(r:U):Prop :=
 ∃v c cA,(∀b,Below w.heap.size w b->o.quietAt P a (fun d=>Below w.heap.size w d) b v)/\Inv w0 c cA (a.put o.dst v) w/\k cA=some r
def bj.cI (h:bj P w0 w a o k r):ara P w0 w a o k r:=by obtain⟨v,b,cA,c,d,e⟩:=h;refine⟨v,b,cA,fun f g=>?_,d,e⟩;unfold Oper.quietAt;rw[c f (vY g)];exact⟨rfl,rfl⟩
def apt:(t:Ty)->t.D->List Value
 |.int k,x=>[.int k x]|.bool,x=>[.bool x]|.str,x=>[.string x]|.unit,_=>[]|.pair a b,x=>apt a x.1++apt b x.2|.sl _ _,_=>[]
def aj4 {ok:Nat->Prop}:∀{t:Ty} {x:t.D} {cs:List Value},flat t=true->Rd w ok t x cs->cs=apt t x
 |.int _,_,_,_,h=>h|.bool,_,_,_,h=>h|.str,_,_,_,h=>h|.unit,_,_,_,h=>h|.pair a b,_,_,c,h=>by obtain⟨g,i,rfl,e,f⟩:=h;have d:(flat a&&flat b)=true:=c;rw[aD]at d;rw[aj4 d.1 e,aj4 d.2 f];rfl
 |.sl _ _,_,_,c,_=>by cases c
def aj5 {ok:Nat->Prop}:∀{t:Ty} {x:t.D},flat t=true->Rd w ok t x (apt t x)
 |.int _,_,_=>rfl|.bool,_,_=>rfl|.str,_,_=>rfl|.unit,_,_=>rfl|.pair a b,_,c=>by have d:(flat a&&flat b)=true:=c;rw[aD]at d;exact⟨_,_,rfl,aj5 d.1,aj5 d.2⟩
 |.sl _ _,_,c=>by cases c
def arb:(rs:List (Ty×Bool))->Args rs->List Value
 |[],_=>[]|a::l,x=>(match a.2 with|true=>.agg (apt a.1 x.1).toArray|false=>(apt a.1 x.1).headD undef)::arb l x.2
def apu {ok:Nat->Prop}:∀{rs:List (Ty×Bool)} {x:Args rs} {vs:List Value},(rs.all fun a=>flat a.1)=true->dP w ok rs x vs->vs=arb rs x
 |[],_,_,_,h=>h|a::l,x,vs,b,h=>by obtain⟨v,f,rfl,⟨cs,c,d⟩,e⟩:=h;rw[List.all_cons,aD]at b;rw[apu b.2 e,d,aj4 b.1 c];rfl
def apv {ok:Nat->Prop}:∀{rs:List (Ty×Bool)} {x:Args rs},(rs.all fun a=>flat a.1)=true->dP w ok rs x (arb rs x)
 |[],_,_=>rfl|a::l,x,b=>by rw[List.all_cons,aD]at b;exact⟨_,_,rfl,⟨_,aj5 b.1,rfl⟩,apv b.2⟩
def arc {f:FuncId}{con:Con}(u:afM P w0 f con)(i:(Nat.beq con.m 1&&con.rs.all fun a=>flat a.1)=true)(h:Inv w0 G st a w){args:Array Operand}{ts:Array TypeId}(A:o.op=.call {callee:=.value (.func f),args:=args,argTypes:=ts})
  (b:VC con st o.dst args.toList k=some r):ara P w0 w a o k r:=by
 rw[aD]at i;have j:=aI i.1;unfold VC at b;split at b
 .rename_i x B;cases l:con.g x with
  |none=>rw[l]at b;cases b
  |some y =>
   rw[l]at b;simp only[ajx]at b;cases m:o.dst with
   |none=>rw[m]at b;cases b
   |some d =>
    rw[m]at b;dsimp only at b;split at b
    .rename_i z;rw[j]at z;cases z
    .obtain⟨n,b⟩:=aR b;simp only[aD]at n;have hrel:=BQ (f:=true) (G:=G) (bx:=st.bx) (bl:=st.bl) n.2 (apv (w:=w) (x:=y) i.2);refine⟨eQ (arb con.rs y),G,_,fun C p=>?_,by rw[m];exact h.put d (fV n.1) (vZ (R:=fun _ _=>True) hrel),b⟩;have q:=h.more p;have D:=HK (ok:=fun _=>True) q con.ps args.toList x (fun t c v xs _=>S8 q t c v xs) B;unfold Oper.quietAt;rw[Ia u.1 A];refine⟨rfl,?_⟩;have E:(args.map a.eval)=(args.toList.map a.eval).toArray:=by rw[<-aak,vR]
     rw[E];refine Calls.mono (u.2 x y l C q.below _ _ D) fun e I F=>?_
     obtain⟨us,rfl,s,g⟩:=F;unfold WZ at s;rw[j]at s;rw[apu i.2 s];have L:=p.size;exact⟨rfl,p.trans ⟨g.os,g.tape,g.output,g.size,fun k M=>g.block k (by omega)⟩⟩
    .rename_i H;exact absurd j H
 .cases b
def atA {C:FuncId->Option Any}(R:∀f u,C f=some u->No P w0 f u)(m:jx P C o=true)(h:Inv w0 G st a w)(d:fo P C (nT.J9 N) o st k=some r):ara P w0 w a o k r:=by
 unfold fo at d;split at d
 .exact bj.cI (HH h _ (.inl ‹_›) d)
 .exact bj.cI (HH h _ (.inr ‹_›) d)
 ·
  rename_i c x y e;split at d
  .exact bj.cI (adl h c x y e ‹_› d)
  .cases d
 ·
  rename_i t x e;simp[jx,e]at m
 ·
  rename_i t e;simp[jx,e]at m
 ·
  rename_i t parts e;split at d
  .split at d
   .exact bj.cI (YU h t parts e ‹_› ‹_› ‹_› ‹_› d)
   .cases d
  .cases d
 ·
  rename_i t len parts e;simp[jx,e]at m
 ·
  rename_i t x e;split at d
  .rename_i l off I;dsimp only at d;split at d
   .rename_i z;split at d
    .exact bj.cI (HI h t x e I z (b:=true) ‹_› (v:=.agg _) rfl d)
    .split at d
     .rename_i E _ y m;exact bj.cI (HI h t x e I z (b:=false) E (v:=.c y) ⟨y,m,rfl⟩ d)
     .cases d
    .cases d
   .cases d
  .cases d
 ·
  rename_i t x y e;simp[jx,e]at m
 ·
  rename_i x e;split at d
  .exact bj.cI (MH h x e ‹_› d)
  .cases d
 ·
  rename_i op F x y H e;split at d
  .exact bj.cI (YR h op F x y H e ‹_› ‹_› d)
  .split at d
   .exact bj.cI (ns h _ F x y H e ‹_› ‹_› ‹_› (.inl ⟨rfl,rfl⟩) d)
   .exact bj.cI (ns h _ F x y H e ‹_› ‹_› ‹_› (.inr ⟨rfl,rfl⟩) d)
   .cases d
  .cases d
 ·
  rename_i op t x e;split at d
  .exact bj.cI (ajM h t x e ‹_› d)
  .exact bj.cI (ajN h t x e ‹_› d)
  .cases d
 ·
  rename_i src dst x e;split at d
  .exact bj.cI (PC h src dst x e ‹_› ‹_› ‹_› d)
  .exact bj.cI (PD h src dst x e ‹_› ‹_› ‹_› d)
  .split at d
   .obtain⟨j,d⟩:=aR d;simp[jx,e,(show P.underlying _=some (.slice _) by assumption)]at m
   .cases d
  .split at d
   .exact bj.cI (YV h src dst x e ‹_› ‹_› ‹_› ‹_› d)
   .cases d
  .cases d
 ·
  rename_i t p q e;simp[jx,e]at m
 ·
  rename_i t x L B e;split at d
  .split at d
   .split at d
    .obtain⟨j,d⟩:=aR d;simp only[aD,bV]at j;exact bj.cI (S4 h t x L B e ‹_› ‹_› ‹_› ‹_› j.1.1 j.1.2 j.2 d)
    .cases d
   .cases d
  .split at d
   .split at d
    .obtain⟨j,d⟩:=aR d;simp only[aD,bV]at j;exact bj.cI (YT h t x L B e ‹_› ‹_› (aI j.1.1) (bu j.1.2) ‹_› ‹_› j.2.1.1 j.2.1.2 j.2.2 d)
    .cases d
   .split at d
    .split at d
     .obtain⟨j,d⟩:=aR d;simp only[aD,bV]at j;exact bj.cI (S5 h t x B e ‹_› ‹_› ‹_› (aI j.1) ‹_› j.2.1 j.2.2 d)
     .cases d
    .split at d
     .obtain⟨j,d⟩:=aR d;simp only[aD,bV]at j;exact bj.cI (MK h t x _ B e ‹_› ‹_› ‹_› (aI j.1) ‹_› ‹_› j.2.1.1 j.2.1.2 j.2.2 d)
     .cases d
    .cases d
   .cases d
  .cases d
 ·
  rename_i t x f e;split at d
  .split at d
   .exact bj.cI (eP h t x f e ‹_› ‹_› (by exact rfl) d)
   .split at d
    .exact bj.cI (eP h t x f e ‹_› ‹_› (by exact⟨rfl,_,dx ‹_›⟩) d)
    .cases d
   .exact bj.cI (eP h t x f e ‹_› ‹_› (by exact rfl) d)
   .cases d
  .cases d
 ·
  rename_i t x i e;split at d
  .split at d
   .split at d
    .split at d
     .split at d
      .obtain⟨j,d⟩:=aR d;simp only[aD,bV]at j;exact bj.cI (MI h t x i e ‹_› ‹_› ‹_› ‹_› ‹_› (aI j.1) j.2.1 j.2.2 d)
      .cases d
     .cases d
    .obtain⟨j,d⟩:=aR d;simp only[aD,bV]at j;exact bj.cI (PE h t x i e ‹_› ‹_› ‹_› (aI j.1.1) (bu j.1.2) j.2.1 j.2.2 d)
    .cases d
   .split at d
    .obtain⟨j,d⟩:=aR d;simp only[aD,bV]at j;exact bj.cI (MJ h t x i e ‹_› ‹_› ‹_› (bu j.1) j.2.1 j.2.2 d)
    .cases d
   .cases d
  .cases d
 ·
  rename_i t x i e;split at d
  .obtain⟨j,d⟩:=aR d;simp only[aD,bV]at j;exact bj.cI (YS h t x i e ‹_› ‹_› ‹_› j.1 j.2 d)
  .cases d
 ·
  rename_i t x f e;split at d
  .rename_i M A;dsimp only at d;split at d
   .rename_i z;split at d
    .exact bj.cI (AN h t x f e M A z (b:=true) ‹_› (v:=.agg _) rfl d)
    .split at d
     .rename_i E _ y m;exact bj.cI (AN h t x f e M A z (b:=false) E (v:=.c y) ⟨y,m,rfl⟩ d)
     .cases d
    .cases d
   .cases d
  .cases d
 ·
  rename_i x i e;split at d
  .split at d
   .exact bj.cI (PB h x i e ‹_› ‹_› d)
   .cases d
  .cases d
 ·
  rename_i f args D e;split at d
  .rename_i u n;exact arc (show afM P w0 f u from R f (.one u) n) (by simpa [jx,e,n]using m) h e d
  .rename_i u n;simp[jx,e,n]at m
  .rename_i u n;simp[jx,e,n]at m
  .rename_i u n;simp[jx,e,n]at m
  .rename_i n;simp[jx,e,n]at m
  .rename_i n;simp[jx,e,n]at m
  .cases d
 ·
  rename_i args D e;split at d
  .rename_i x t A O;split at d
   .split at d
    .exact bj.cI (Ni h x t e A O ‹_› (.inl ⟨by assumption,_,by assumption⟩) d)
    .cases d
   .split at d
    .cases d
    .rename_i S;exact bj.cI (Ni h x t e A O ‹_› (.inr ⟨⟨_,by assumption⟩,fun s T=>S s T⟩) d)
   .cases d
  .cases d
 ·
  rename_i args D e;split at d
  .split at d
   .split at d
    .exact bj.cI (aj2 h e ‹_› ‹_› ‹_› d)
    .cases d
   .cases d
  .cases d
 ·
  rename_i args D e;split at d
  .split at d
   .split at d
    .exact bj.cI (aj3 h e ‹_› ‹_› ‹_› d)
    .cases d
   .cases d
  .cases d
 ·
  rename_i args D e;simp[jx,e]at m
 ·
  rename_i g first W e
  simp[jx,e]at m
 .cases d
def Y2 {C:FuncId->Option Any}(m:nO P o=true)(h:Inv w0 G st a w)(d:fo P C (nT.J9 N) o st k=some r):bj P w0 w a o k r:=by
 unfold fo at d;split at d
 .exact(HH h _ (.inl ‹_›) d)
 .exact(HH h _ (.inr ‹_›) d)
 ·
  rename_i c x y e;split at d
  .exact(adl h c x y e ‹_› d)
  .cases d
 ·
  rename_i t x e;simp[nO,e]at m
 ·
  rename_i t e;simp[nO,e]at m
 ·
  rename_i t parts e;split at d
  .split at d
   .exact(YU h t parts e ‹_› ‹_› ‹_› ‹_› d)
   .cases d
  .cases d
 ·
  rename_i t len parts e;simp[nO,e]at m
 ·
  rename_i t x e;split at d
  .rename_i l off F;dsimp only at d;split at d
   .rename_i n;split at d
    .exact(HI h t x e F n (b:=true) ‹_› (v:=.agg _) rfl d)
    .split at d
     .rename_i B _ y m;exact(HI h t x e F n (b:=false) B (v:=.c y) ⟨y,m,rfl⟩ d)
     .cases d
    .cases d
   .cases d
  .cases d
 ·
  rename_i t x y e;simp[nO,e]at m
 ·
  rename_i x e;split at d
  .exact(MH h x e ‹_› d)
  .cases d
 ·
  rename_i op D x y E e;split at d
  .exact(YR h op D x y E e ‹_› ‹_› d)
  .split at d
   .exact(ns h _ D x y E e ‹_› ‹_› ‹_› (.inl ⟨rfl,rfl⟩) d)
   .exact(ns h _ D x y E e ‹_› ‹_› ‹_› (.inr ⟨rfl,rfl⟩) d)
   .cases d
  .cases d
 ·
  rename_i op t x e;split at d
  .exact(ajM h t x e ‹_› d)
  .exact(ajN h t x e ‹_› d)
  .cases d
 ·
  rename_i src dst x e;split at d
  .exact(PC h src dst x e ‹_› ‹_› ‹_› d)
  .exact(PD h src dst x e ‹_› ‹_› ‹_› d)
  .split at d
   .obtain⟨j,d⟩:=aR d;simp[nO,e,(show P.underlying _=some (.slice _) by assumption)]at m
   .cases d
  .split at d
   .exact(YV h src dst x e ‹_› ‹_› ‹_› ‹_› d)
   .cases d
  .cases d
 ·
  rename_i t p q e;simp[nO,e]at m
 ·
  rename_i t x H z e;split at d
  .split at d
   .split at d
    .obtain⟨j,d⟩:=aR d;simp only[aD,bV]at j;exact(S4 h t x H z e ‹_› ‹_› ‹_› ‹_› j.1.1 j.1.2 j.2 d)
    .cases d
   .cases d
  .split at d
   .split at d
    .obtain⟨j,d⟩:=aR d;simp only[aD,bV]at j;exact(YT h t x H z e ‹_› ‹_› (aI j.1.1) (bu j.1.2) ‹_› ‹_› j.2.1.1 j.2.1.2 j.2.2 d)
    .cases d
   .split at d
    .split at d
     .obtain⟨j,d⟩:=aR d;simp only[aD,bV]at j;exact(S5 h t x z e ‹_› ‹_› ‹_› (aI j.1) ‹_› j.2.1 j.2.2 d)
     .cases d
    .split at d
     .obtain⟨j,d⟩:=aR d;simp only[aD,bV]at j;exact(MK h t x _ z e ‹_› ‹_› ‹_› (aI j.1) ‹_› ‹_› j.2.1.1 j.2.1.2 j.2.2 d)
     .cases d
    .cases d
   .cases d
  .cases d
 ·
  rename_i t x f e;split at d
  .split at d
   .exact(eP h t x f e ‹_› ‹_› (by exact rfl) d)
   .split at d
    .exact(eP h t x f e ‹_› ‹_› (by exact⟨rfl,_,dx ‹_›⟩) d)
    .cases d
   .exact(eP h t x f e ‹_› ‹_› (by exact rfl) d)
   .cases d
  .cases d
 ·
  rename_i t x i e;split at d
  .split at d
   .split at d
    .split at d
     .split at d
      .obtain⟨j,d⟩:=aR d;simp only[aD,bV]at j;exact(MI h t x i e ‹_› ‹_› ‹_› ‹_› ‹_› (aI j.1) j.2.1 j.2.2 d)
      .cases d
     .cases d
    .obtain⟨j,d⟩:=aR d;simp only[aD,bV]at j;exact(PE h t x i e ‹_› ‹_› ‹_› (aI j.1.1) (bu j.1.2) j.2.1 j.2.2 d)
    .cases d
   .split at d
    .obtain⟨j,d⟩:=aR d;simp only[aD,bV]at j;exact(MJ h t x i e ‹_› ‹_› ‹_› (bu j.1) j.2.1 j.2.2 d)
    .cases d
   .cases d
  .cases d
 ·
  rename_i t x i e;split at d
  .obtain⟨j,d⟩:=aR d;simp only[aD,bV]at j;exact(YS h t x i e ‹_› ‹_› ‹_› j.1 j.2 d)
  .cases d
 ·
  rename_i t x f e;split at d
  .rename_i I u;dsimp only at d;split at d
   .rename_i n;split at d
    .exact(AN h t x f e I u n (b:=true) ‹_› (v:=.agg _) rfl d)
    .split at d
     .rename_i B _ y m;exact(AN h t x f e I u n (b:=false) B (v:=.c y) ⟨y,m,rfl⟩ d)
     .cases d
    .cases d
   .cases d
  .cases d
 ·
  rename_i x i e;split at d
  .split at d
   .exact(PB h x i e ‹_› ‹_› d)
   .cases d
  .cases d
 ·
  rename_i f args A e;simp[nO,e]at m
 ·
  rename_i args A e;split at d
  .rename_i x t u L;split at d
   .split at d
    .exact(Ni h x t e u L ‹_› (.inl ⟨by assumption,_,by assumption⟩) d)
    .cases d
   .split at d
    .cases d
    .rename_i M;exact(Ni h x t e u L ‹_› (.inr ⟨⟨_,by assumption⟩,fun s O=>M s O⟩) d)
   .cases d
  .cases d
 ·
  rename_i args A e;split at d
  .split at d
   .split at d
    .exact(aj2 h e ‹_› ‹_› ‹_› d)
    .cases d
   .cases d
  .cases d
 ·
  rename_i args A e;split at d
  .split at d
   .split at d
    .exact(aj3 h e ‹_› ‹_› ‹_› d)
    .cases d
   .cases d
  .cases d
 ·
  rename_i args A e;simp[nO,e]at m
 ·
  rename_i g first R e
  simp[nO,e]at m
 .cases d
def ard {C:FuncId->Option Any}(n:nO P o=true)(e:H2 st o=true)(h:Inv w0 G st a w)(b:fo P C (nT.J9 N) o st k=some r):ajK P w0 G w a o k r:=by
 cases c:o.op with
 |load t x =>
  simp only[H2,c]at e;split at e
  .rename_i f D E F i;simp only[fo,c]at b;split at b
   .rename_i l off j;split at b
    .rename_i m;split at b
     .rename_i g;exact axY h t x c j m g rfl i b
     .rename_i g;split at b
      .rename_i y p;exact axY h t x c j m g ⟨y,p,rfl⟩ i b
      .cases b
     .cases b
    .cases b
   .cases b
  .cases e
 |convert s d x=>simp[H2,c]at e
 |_ =>
  obtain⟨v,q,cA,u,z,A⟩:=Y2 n h b;exact⟨v,q,cA,fun B _=>u B (by unfold afI;rw[c];trivial),z,A⟩
end
end Go.Am
