/- No condition. -/
import Derived.Test.YtpkabclplaibaaaGreatDoorQwAmRun
set_option linter.all false
namespace Go.Am
open Go.RowKit
variable [ei]
section
variable {N:Nat} {P:Program} {w0:dY} {w:World} {G:Gh} {st:St} {a:Act} {U:Type} {k:St->Option U} {r:U} {K:Act->World->Prop} {Q:Exit->Act->World->Prop} {o:Oper}
def arb (P:Program)(w0:dY)(w:World)(a:Act)(o:Oper){U:Type}(k:St->Option U)(r:U):Prop :=
 ∃v c cp,(∀b,Below w.heap.size w b->o.quietAt P a (fun d=>Below w.heap.size w d) b v)/\Inv w0 c cp (a.put o.dst v) w/\k cp=some r
def bp.cH (h:bp P w0 w a o k r):arb P w0 w a o k r:=by obtain⟨v,b,cp,c,d,e⟩:=h;refine⟨v,b,cp,fun f g=>?_,d,e⟩;unfold Oper.quietAt;rw[c f (wX g)];exact⟨rfl,rfl⟩
def apn:(t:Ty)->t.D->List Value
 |.int k,x=>[.int k x]|.bool,x=>[.bool x]|.str,x=>[.string x]|.unit,_=>[]|.pair a b,x=>apn a x.1++apn b x.2|.sl _ _,_=>[]
def akb {ok:Nat->Prop}:∀{t:Ty} {x:t.D} {cs:List Value},flat t=true->Rd w ok t x cs->cs=apn t x
 |.int _,_,_,_,h=>h|.bool,_,_,_,h=>h|.str,_,_,_,h=>h|.unit,_,_,_,h=>h|.pair a b,_,_,c,h=>by obtain⟨g,i,rfl,e,f⟩:=h;have d:(flat a&&flat b)=true:=c;rw[aE]at d;rw[akb d.1 e,akb d.2 f];rfl
 |.sl _ _,_,_,c,_=>by cases c
def akc {ok:Nat->Prop}:∀{t:Ty} {x:t.D},flat t=true->Rd w ok t x (apn t x)
 |.int _,_,_=>rfl|.bool,_,_=>rfl|.str,_,_=>rfl|.unit,_,_=>rfl|.pair a b,_,c=>by have d:(flat a&&flat b)=true:=c;rw[aE]at d;exact⟨_,_,rfl,akc d.1,akc d.2⟩
 |.sl _ _,_,c=>by cases c
def arc:(rs:List (Ty×Bool))->Args rs->List Value
 |[],_=>[]|a::l,x=>(match a.2 with|true=>.agg (apn a.1 x.1).toArray|false=>(apn a.1 x.1).headD undef)::arc l x.2
def apo {ok:Nat->Prop}:∀{rs:List (Ty×Bool)} {x:Args rs} {vs:List Value},(rs.all fun a=>flat a.1)=true->dp w ok rs x vs->vs=arc rs x
 |[],_,_,_,h=>h|a::l,x,vs,b,h=>by obtain⟨v,f,rfl,⟨cs,c,d⟩,e⟩:=h;rw[List.all_cons,aE]at b;rw[apo b.2 e,d,akb b.1 c];rfl
def apq {ok:Nat->Prop}:∀{rs:List (Ty×Bool)} {x:Args rs},(rs.all fun a=>flat a.1)=true->dp w ok rs x (arc rs x)
 |[],_,_=>rfl|a::l,x,b=>by rw[List.all_cons,aE]at b;exact⟨_,_,rfl,⟨_,akc b.1,rfl⟩,apq b.2⟩
def ard {f:FuncId}{con:Con}(u:agm P w0 f con)(i:(Nat.beq con.m 1&&con.rs.all fun a=>flat a.1)=true)(h:Inv w0 G st a w){args:Array Operand}{ts:Array TypeId}(A:o.op=.call {callee:=.value (.func f),args:=args,argTypes:=ts})
  (b:WB con st o.dst args.toList k=some r):arb P w0 w a o k r:=by
 rw[aE]at i;have j:=aK i.1;unfold WB at b;split at b
 .rename_i x B;cases l:con.g x with
  |none=>rw[l]at b;cases b
  |some y =>
   rw[l]at b;simp only[ajz]at b;cases m:o.dst with
   |none=>rw[m]at b;cases b
   |some d =>
    rw[m]at b;dsimp only at b;split at b
    .rename_i z;rw[j]at z;cases z
    .obtain⟨n,b⟩:=aT b;simp only[aE]at n;have hrel:=CU (f:=true) (G:=G) (bx:=st.bx) (bl:=st.bl) n.2 (apq (w:=w) (x:=y) i.2);refine⟨ej (arc con.rs y),G,_,fun C p=>?_,by rw[m];exact h.put d (fs n.1) (wY (R:=fun _ _=>True) hrel),b⟩;have q:=h.more p;have D:=I2 (ok:=fun _=>True) q con.ps args.toList x (fun e t c v xs _=>TO q e t c v xs) B;unfold Oper.quietAt;rw[Jo u.1 A];refine⟨rfl,?_⟩;have E:(args.map a.eval)=(args.toList.map a.eval).toArray:=by rw[<-agb,wQ]
     rw[E];refine Calls.mono (u.2 x y l C q.below _ _ D) fun e I F=>?_
     obtain⟨us,rfl,s,g⟩:=F;unfold XT at s;rw[j]at s;rw[apo i.2 s];have L:=p.size;exact⟨rfl,p.trans ⟨g.os,g.tape,g.output,g.size,fun k M=>g.block k (by omega)⟩⟩
    .rename_i H;exact absurd j H
 .cases b
def atz {C:FuncId->Option Any}(R:∀f u,C f=some u->Om P w0 f u)(m:jK P C o=true)(h:Inv w0 G st a w)(d:fk P C (nY.Lm N) o st k=some r):arb P w0 w a o k r:=by
 unfold fk at d;split at d
 .exact bp.cH (IZ h _ (.inl ‹_›) d)
 .exact bp.cH (IZ h _ (.inr ‹_›) d)
 ·
  rename_i c x y e;split at d
  .exact bp.cH (ad0 h c x y e ‹_› d)
  .cases d
 ·
  rename_i t x e;simp[jK,e]at m
 ·
  rename_i t e;simp[jK,e]at m
 ·
  rename_i t parts e;split at d
  .split at d
   .exact bp.cH (ZE h t parts e ‹_› ‹_› ‹_› ‹_› d)
   .cases d
  .cases d
 ·
  rename_i t len parts e;simp[jK,e]at m
 ·
  rename_i t x e;split at d
  .rename_i l off I;dsimp only at d;split at d
   .rename_i z;split at d
    .exact bp.cH (I0 h t x e I z (b:=true) ‹_› (v:=.agg _) rfl d)
    .split at d
     .rename_i E _ y m;exact bp.cH (I0 h t x e I z (b:=false) E (v:=.c y) ⟨y,m,rfl⟩ d)
     .cases d
    .cases d
   .cases d
  .cases d
 ·
  rename_i t x y e;simp[jK,e]at m
 ·
  rename_i x e;split at d
  .exact bp.cH (NM h x e ‹_› d)
  .cases d
 ·
  rename_i op F x y H e;split at d
  .exact bp.cH (ZB h op F x y H e ‹_› ‹_› d)
  .split at d
   .exact bp.cH (nZ h _ F x y H e ‹_› ‹_› ‹_› (.inl ⟨rfl,rfl⟩) d)
   .exact bp.cH (nZ h _ F x y H e ‹_› ‹_› ‹_› (.inr ⟨rfl,rfl⟩) d)
   .cases d
  .cases d
 ·
  rename_i op t x e;split at d
  .exact bp.cH (ajT h t x e ‹_› d)
  .exact bp.cH (ajU h t x e ‹_› d)
  .cases d
 ·
  rename_i src dst x e;split at d
  .exact bp.cH (Qk h src dst x e ‹_› ‹_› ‹_› d)
  .exact bp.cH (Ql h src dst x e ‹_› ‹_› ‹_› d)
  .split at d
   .obtain⟨j,d⟩:=aT d;simp[jK,e,(show P.underlying _=some (.slice _) by assumption)]at m
   .cases d
  .split at d
   .exact bp.cH (ZF h src dst x e ‹_› ‹_› ‹_› ‹_› d)
   .cases d
  .cases d
 ·
  rename_i t p q e;simp[jK,e]at m
 ·
  rename_i t x L B e;split at d
  .split at d
   .split at d
    .obtain⟨j,d⟩:=aT d;simp only[aE,bM]at j;exact bp.cH (TL h t x L B e ‹_› ‹_› ‹_› ‹_› j.1.1 j.1.2 j.2 d)
    .cases d
   .cases d
  .split at d
   .split at d
    .obtain⟨j,d⟩:=aT d;simp only[aE,bM]at j;exact bp.cH (ZD h t x L B e ‹_› ‹_› (aK j.1.1.1) (bu j.1.1.2) (aBI j.1.2) ‹_› ‹_› j.2.1.1 j.2.1.2 j.2.2 d)
    .cases d
   .split at d
    .split at d
     .obtain⟨j,d⟩:=aT d;simp only[aE,bM]at j;exact bp.cH (TM h t x B e ‹_› ‹_› ‹_› (aK j.1) ‹_› j.2.1 j.2.2 d)
     .cases d
    .split at d
     .obtain⟨j,d⟩:=aT d;simp only[aE,bM]at j;exact bp.cH (NP h t x _ B e ‹_› ‹_› ‹_› (aK j.1.1) (awz j.1.2) ‹_› ‹_› j.2.1.1 j.2.1.2 j.2.2 d)
     .cases d
    .cases d
   .cases d
  .cases d
 ·
  rename_i t x f e;split at d
  .split at d
   .exact bp.cH (eL h t x f e ‹_› ‹_› (by exact rfl) d)
   .split at d
    .exact bp.cH (eL h t x f e ‹_› ‹_› (by exact⟨rfl,_,dm ‹_›⟩) d)
    .cases d
   .exact bp.cH (eL h t x f e ‹_› ‹_› (by exact rfl) d)
   .cases d
  .cases d
 ·
  rename_i t x i e;split at d
  .split at d
   .split at d
    .split at d
     .split at d
      .obtain⟨j,d⟩:=aT d;simp only[aE,bM]at j;exact bp.cH (NN h t x i e ‹_› ‹_› ‹_› ‹_› ‹_› (aK j.1) j.2.1 j.2.2 d)
      .cases d
     .cases d
    .obtain⟨j,d⟩:=aT d;simp only[aE,bM]at j;exact bp.cH (Qm h t x i e ‹_› ‹_› ‹_› (aK j.1.1) (bu j.1.2) j.2.1 j.2.2 d)
    .cases d
   .split at d
    .obtain⟨j,d⟩:=aT d;simp only[aE,bM]at j;exact bp.cH (NO h t x i e ‹_› ‹_› ‹_› (bu j.1) j.2.1 j.2.2 d)
    .cases d
   .cases d
  .cases d
 ·
  rename_i t x i e;split at d
  .obtain⟨j,d⟩:=aT d;simp only[aE,bM]at j;exact bp.cH (ZC h t x i e ‹_› ‹_› ‹_› j.1 j.2 d)
  .cases d
 ·
  rename_i t x f e;split at d
  .rename_i M A;dsimp only at d;split at d
   .rename_i z;split at d
    .exact bp.cH (BU h t x f e M A z (b:=true) ‹_› (v:=.agg _) rfl d)
    .split at d
     .rename_i E _ y m;exact bp.cH (BU h t x f e M A z (b:=false) E (v:=.c y) ⟨y,m,rfl⟩ d)
     .cases d
    .cases d
   .cases d
  .cases d
 ·
  rename_i x i e;split at d
  .split at d
   .exact bp.cH (Qj h x i e ‹_› ‹_› d)
   .cases d
  .cases d
 ·
  rename_i f args D e;split at d
  .rename_i u n;exact ard (show agm P w0 f u from R f (.one u) n) (by simpa [jK,e,n]using m) h e d
  .rename_i u n;simp[jK,e,n]at m
  .rename_i u n;simp[jK,e,n]at m
  .rename_i u n;simp[jK,e,n]at m
  .rename_i n;simp[jK,e,n]at m
  .rename_i n;simp[jK,e,n]at m
  .cases d
 ·
  rename_i args D e;split at d
  .rename_i x t A O;split at d
   .split at d
    .exact bp.cH (Oh h x t e A O ‹_› (.inl ⟨by assumption,_,by assumption⟩) d)
    .cases d
   .split at d
    .cases d
    .rename_i S;exact bp.cH (Oh h x t e A O ‹_› (.inr ⟨⟨_,by assumption⟩,fun s T=>S s T⟩) d)
   .cases d
  .cases d
 ·
  rename_i args D e;split at d
  .split at d
   .split at d
    .exact bp.cH (aj9 h e ‹_› ‹_› ‹_› d)
    .cases d
   .cases d
  .cases d
 ·
  rename_i args D e;split at d
  .split at d
   .split at d
    .exact bp.cH (aka h e ‹_› ‹_› ‹_› d)
    .cases d
   .cases d
  .cases d
 ·
  rename_i args D e;simp[jK,e]at m
 ·
  rename_i g first W e
  simp[jK,e]at m
 .cases d
def ZN {C:FuncId->Option Any}(m:om P o=true)(h:Inv w0 G st a w)(d:fk P C (nY.Lm N) o st k=some r):bp P w0 w a o k r:=by
 unfold fk at d;split at d
 .exact(IZ h _ (.inl ‹_›) d)
 .exact(IZ h _ (.inr ‹_›) d)
 ·
  rename_i c x y e;split at d
  .exact(ad0 h c x y e ‹_› d)
  .cases d
 ·
  rename_i t x e;simp[om,e]at m
 ·
  rename_i t e;simp[om,e]at m
 ·
  rename_i t parts e;split at d
  .split at d
   .exact(ZE h t parts e ‹_› ‹_› ‹_› ‹_› d)
   .cases d
  .cases d
 ·
  rename_i t len parts e;simp[om,e]at m
 ·
  rename_i t x e;split at d
  .rename_i l off F;dsimp only at d;split at d
   .rename_i n;split at d
    .exact(I0 h t x e F n (b:=true) ‹_› (v:=.agg _) rfl d)
    .split at d
     .rename_i B _ y m;exact(I0 h t x e F n (b:=false) B (v:=.c y) ⟨y,m,rfl⟩ d)
     .cases d
    .cases d
   .cases d
  .cases d
 ·
  rename_i t x y e;simp[om,e]at m
 ·
  rename_i x e;split at d
  .exact(NM h x e ‹_› d)
  .cases d
 ·
  rename_i op D x y E e;split at d
  .exact(ZB h op D x y E e ‹_› ‹_› d)
  .split at d
   .exact(nZ h _ D x y E e ‹_› ‹_› ‹_› (.inl ⟨rfl,rfl⟩) d)
   .exact(nZ h _ D x y E e ‹_› ‹_› ‹_› (.inr ⟨rfl,rfl⟩) d)
   .cases d
  .cases d
 ·
  rename_i op t x e;split at d
  .exact(ajT h t x e ‹_› d)
  .exact(ajU h t x e ‹_› d)
  .cases d
 ·
  rename_i src dst x e;split at d
  .exact(Qk h src dst x e ‹_› ‹_› ‹_› d)
  .exact(Ql h src dst x e ‹_› ‹_› ‹_› d)
  .split at d
   .obtain⟨j,d⟩:=aT d;simp[om,e,(show P.underlying _=some (.slice _) by assumption)]at m
   .cases d
  .split at d
   .exact(ZF h src dst x e ‹_› ‹_› ‹_› ‹_› d)
   .cases d
  .cases d
 ·
  rename_i t p q e;simp[om,e]at m
 ·
  rename_i t x H z e;split at d
  .split at d
   .split at d
    .obtain⟨j,d⟩:=aT d;simp only[aE,bM]at j;exact(TL h t x H z e ‹_› ‹_› ‹_› ‹_› j.1.1 j.1.2 j.2 d)
    .cases d
   .cases d
  .split at d
   .split at d
    .obtain⟨j,d⟩:=aT d;simp only[aE,bM]at j;exact(ZD h t x H z e ‹_› ‹_› (aK j.1.1.1) (bu j.1.1.2) (aBI j.1.2) ‹_› ‹_› j.2.1.1 j.2.1.2 j.2.2 d)
    .cases d
   .split at d
    .split at d
     .obtain⟨j,d⟩:=aT d;simp only[aE,bM]at j;exact(TM h t x z e ‹_› ‹_› ‹_› (aK j.1) ‹_› j.2.1 j.2.2 d)
     .cases d
    .split at d
     .obtain⟨j,d⟩:=aT d;simp only[aE,bM]at j;exact(NP h t x _ z e ‹_› ‹_› ‹_› (aK j.1.1) (awz j.1.2) ‹_› ‹_› j.2.1.1 j.2.1.2 j.2.2 d)
     .cases d
    .cases d
   .cases d
  .cases d
 ·
  rename_i t x f e;split at d
  .split at d
   .exact(eL h t x f e ‹_› ‹_› (by exact rfl) d)
   .split at d
    .exact(eL h t x f e ‹_› ‹_› (by exact⟨rfl,_,dm ‹_›⟩) d)
    .cases d
   .exact(eL h t x f e ‹_› ‹_› (by exact rfl) d)
   .cases d
  .cases d
 ·
  rename_i t x i e;split at d
  .split at d
   .split at d
    .split at d
     .split at d
      .obtain⟨j,d⟩:=aT d;simp only[aE,bM]at j;exact(NN h t x i e ‹_› ‹_› ‹_› ‹_› ‹_› (aK j.1) j.2.1 j.2.2 d)
      .cases d
     .cases d
    .obtain⟨j,d⟩:=aT d;simp only[aE,bM]at j;exact(Qm h t x i e ‹_› ‹_› ‹_› (aK j.1.1) (bu j.1.2) j.2.1 j.2.2 d)
    .cases d
   .split at d
    .obtain⟨j,d⟩:=aT d;simp only[aE,bM]at j;exact(NO h t x i e ‹_› ‹_› ‹_› (bu j.1) j.2.1 j.2.2 d)
    .cases d
   .cases d
  .cases d
 ·
  rename_i t x i e;split at d
  .obtain⟨j,d⟩:=aT d;simp only[aE,bM]at j;exact(ZC h t x i e ‹_› ‹_› ‹_› j.1 j.2 d)
  .cases d
 ·
  rename_i t x f e;split at d
  .rename_i I u;dsimp only at d;split at d
   .rename_i n;split at d
    .exact(BU h t x f e I u n (b:=true) ‹_› (v:=.agg _) rfl d)
    .split at d
     .rename_i B _ y m;exact(BU h t x f e I u n (b:=false) B (v:=.c y) ⟨y,m,rfl⟩ d)
     .cases d
    .cases d
   .cases d
  .cases d
 ·
  rename_i x i e;split at d
  .split at d
   .exact(Qj h x i e ‹_› ‹_› d)
   .cases d
  .cases d
 ·
  rename_i f args A e;simp[om,e]at m
 ·
  rename_i args A e;split at d
  .rename_i x t u L;split at d
   .split at d
    .exact(Oh h x t e u L ‹_› (.inl ⟨by assumption,_,by assumption⟩) d)
    .cases d
   .split at d
    .cases d
    .rename_i M;exact(Oh h x t e u L ‹_› (.inr ⟨⟨_,by assumption⟩,fun s O=>M s O⟩) d)
   .cases d
  .cases d
 ·
  rename_i args A e;split at d
  .split at d
   .split at d
    .exact(aj9 h e ‹_› ‹_› ‹_› d)
    .cases d
   .cases d
  .cases d
 ·
  rename_i args A e;split at d
  .split at d
   .split at d
    .exact(aka h e ‹_› ‹_› ‹_› d)
    .cases d
   .cases d
  .cases d
 ·
  rename_i args A e;simp[om,e]at m
 ·
  rename_i g first R e
  simp[om,e]at m
 .cases d
def are {C:FuncId->Option Any}(n:om P o=true)(e:Jg st o=true)(h:Inv w0 G st a w)(b:fk P C (nY.Lm N) o st k=some r):ajR P w0 G w a o k r:=by
 cases c:o.op with
 |load t x =>
  simp only[Jg,c]at e;split at e
  .rename_i f D E F i;simp only[fk,c]at b;split at b
   .rename_i l off j;split at b
    .rename_i m;split at b
     .rename_i g;exact ayu h t x c j m g rfl i b
     .rename_i g;split at b
      .rename_i y p;exact ayu h t x c j m g ⟨y,p,rfl⟩ i b
      .cases b
     .cases b
    .cases b
   .cases b
  .cases e
 |convert s d x=>simp[Jg,c]at e
 |_ =>
  obtain⟨v,q,cp,u,z,A⟩:=ZN n h b;exact⟨v,q,cp,fun B _=>u B (by unfold agi;rw[c];trivial),z,A⟩
end
end Go.Am
