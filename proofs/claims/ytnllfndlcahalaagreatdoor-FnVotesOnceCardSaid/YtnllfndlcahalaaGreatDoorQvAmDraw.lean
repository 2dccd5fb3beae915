/- No condition. -/
import Derived.Test.YtnllfndlcahalaaGreatDoorQvAmRun
set_option linter.all false
namespace Go.Am
open Go.RowKit
section
variable {N:Nat} {P:Program} {w0:fh} {w:World} {G:Gh} {st:St} {a:Act} {U:Type} {k:St->Option U} {r:U} {K:Act->World->Prop} {Q:Exit->Act->World->Prop} {o:Oper}
def awf (P:Program)(w0:fh)(w:World)(a:Act)(o:Oper){U:Type}(k:St->Option U)(r:U):Prop :=
 ∃v c da,(∀b,Below w.heap.size w b->o.quietAt P a (fun d=>Below w.heap.size w d) b v)/\Inv w0 c da (a.put o.dst v) w/\k da=some r
def bu.cJ (h:bu P w0 w a o k r):awf P w0 w a o k r:=by obtain⟨v,b,da,c,d,e⟩:=h;refine⟨v,b,da,fun f g=>?_,d,e⟩;unfold Oper.quietAt;rw[c f (yi g)];exact⟨rfl,rfl⟩
def auh:(t:Ty)->t.D->List Value
 |.int k,x=>[.int k x]|.bool,x=>[.bool x]|.str,x=>[.string x]|.unit,_=>[]|.pair a b,x=>auh a x.1++auh b x.2|.sl _ _,_=>[]
def aou {ok:Nat->Prop}:∀{t:Ty} {x:t.D} {cs:List Value},flat t=true->Rd w ok t x cs->cs=auh t x
 |.int _,_,_,_,h=>h|.bool,_,_,_,h=>h|.str,_,_,_,h=>h|.unit,_,_,_,h=>h|.pair a b,_,_,c,h=>by obtain⟨g,i,rfl,e,f⟩:=h;have d:(flat a&&flat b)=true:=c;rw[aG]at d;rw[aou d.1 e,aou d.2 f];rfl
 |.sl _ _,_,_,c,_=>by cases c
def aov {ok:Nat->Prop}:∀{t:Ty} {x:t.D},flat t=true->Rd w ok t x (auh t x)
 |.int _,_,_=>rfl|.bool,_,_=>rfl|.str,_,_=>rfl|.unit,_,_=>rfl|.pair a b,_,c=>by have d:(flat a&&flat b)=true:=c;rw[aG]at d;exact⟨_,_,rfl,aov d.1,aov d.2⟩
 |.sl _ _,_,c=>by cases c
def awg:(rs:List (Ty×Bool))->Args rs->List Value
 |[],_=>[]|a::l,x=>(match a.2 with|true=>.agg (auh a.1 x.1).toArray|false=>(auh a.1 x.1).headD undef)::awg l x.2
def aui {ok:Nat->Prop}:∀{rs:List (Ty×Bool)} {x:Args rs} {vs:List Value},(rs.all fun a=>flat a.1)=true->ef w ok rs x vs->vs=awg rs x
 |[],_,_,_,h=>h|a::l,x,vs,b,h=>by obtain⟨v,f,rfl,⟨cs,c,d⟩,e⟩:=h;rw[List.all_cons,aG]at b;rw[aui b.2 e,d,aou b.1 c];rfl
def auj {ok:Nat->Prop}:∀{rs:List (Ty×Bool)} {x:Args rs},(rs.all fun a=>flat a.1)=true->ef w ok rs x (awg rs x)
 |[],_,_=>rfl|a::l,x,b=>by rw[List.all_cons,aG]at b;exact⟨_,_,rfl,⟨_,aov b.1,rfl⟩,auj b.2⟩
def awh {f:FuncId}{con:Con}(u:aj3 P w0 f con)(i:(Nat.beq con.m 1&&con.rs.all fun a=>flat a.1)=true)(h:Inv w0 G st a w){args:Array Operand}{ts:Array TypeId}(A:o.op=.call {callee:=.value (.func f),args:=args,argTypes:=ts})
  (b:Y1 con st o.dst args.toList k=some r):awf P w0 w a o k r:=by
 rw[aG]at i;have j:=aP i.1;unfold Y1 at b;split at b
 .rename_i x B;cases l:con.g x with
  |none=>rw[l]at b;cases b
  |some y =>
   rw[l]at b;simp only[anW]at b;cases m:o.dst with
   |none=>rw[m]at b;cases b
   |some d =>
    rw[m]at b;dsimp only at b;split at b
    .rename_i z;rw[j]at z;cases z
    .obtain⟨n,b⟩:=aX b;simp only[aG]at n;have hrel:=Ds (f:=true) (G:=G) (bx:=st.bx) (bl:=st.bl) n.2 (auj (w:=w) (x:=y) i.2);refine⟨fu (awg con.rs y),G,_,fun C p=>?_,by rw[m];exact h.put d (gU n.1) (yj (R:=fun _ _=>True) hrel),b⟩;have q:=h.more p;have D:=JX (ok:=fun _=>True) q con.ps args.toList x (fun t c v xs _=>Wa q t c v xs) B;unfold Oper.quietAt;rw[Kq u.1 A];refine⟨rfl,?_⟩;have E:(args.map a.eval)=(args.toList.map a.eval).toArray:=by rw[<-aea,yb]
     rw[E];refine Calls.mono (u.2 x y l C q.below _ _ D) fun e I F=>?_
     obtain⟨us,rfl,s,g⟩:=F;unfold aas at s;rw[j]at s;rw[aui i.2 s];have L:=p.size;exact⟨rfl,p.trans ⟨g.os,g.tape,g.output,g.size,fun k M=>g.block k (by omega)⟩⟩
    .rename_i H;exact absurd j H
 .cases b
def ayU {C:FuncId->Option Any}(R:∀f u,C f=some u->Tv P w0 f u)(m:kM P C o=true)(h:Inv w0 G st a w)(d:jj P C (p5.Se N) o st k=some r):awf P w0 w a o k r:=by
 unfold jj at d;split at d
 .exact bu.cJ (JU h _ (.inl ‹_›) d)
 .exact bu.cJ (JU h _ (.inr ‹_›) d)
 ·
  rename_i c x y e;split at d
  .exact bu.cJ (ahr h c x y e ‹_› d)
  .cases d
 ·
  rename_i t x e;simp[kM,e]at m
 ·
  rename_i t e;simp[kM,e]at m
 ·
  rename_i t parts e;split at d
  .split at d
   .exact bu.cJ (acu h t parts e ‹_› ‹_› ‹_› ‹_› d)
   .cases d
  .cases d
 ·
  rename_i t len parts e;simp[kM,e]at m
 ·
  rename_i t x e;split at d
  .rename_i l off I;dsimp only at d;split at d
   .rename_i z;split at d
    .exact bu.cJ (JV h t x e I z (b:=true) ‹_› (v:=.agg _) rfl d)
    .split at d
     .rename_i E _ y m;exact bu.cJ (JV h t x e I z (b:=false) E (v:=.c y) ⟨y,m,rfl⟩ d)
     .cases d
    .cases d
   .cases d
  .cases d
 ·
  rename_i t x y e;simp[kM,e]at m
 ·
  rename_i x e;split at d
  .exact bu.cJ (Pf h x e ‹_› d)
  .cases d
 ·
  rename_i op F x y H e;split at d
  .exact bu.cJ (acq h op F x y H e ‹_› ‹_› d)
  .split at d
   .exact bu.cJ (oS h _ F x y H e ‹_› ‹_› ‹_› (.inl ⟨rfl,rfl⟩) d)
   .exact bu.cJ (oS h _ F x y H e ‹_› ‹_› ‹_› (.inr ⟨rfl,rfl⟩) d)
   .cases d
  .cases d
 ·
  rename_i op t x e;split at d
  .exact bu.cJ (aoc h t x e ‹_› d)
  .exact bu.cJ (aod h t x e ‹_› d)
  .cases d
 ·
  rename_i src dst x e;split at d
  .exact bu.cJ (Sh h src dst x e ‹_› ‹_› ‹_› d)
  .exact bu.cJ (Si h src dst x e ‹_› ‹_› ‹_› d)
  .split at d
   .obtain⟨j,d⟩:=aX d;simp[kM,e,(show P.underlying _=some (.slice _) by assumption)]at m
   .cases d
  .split at d
   .exact bu.cJ (acv h src dst x e ‹_› ‹_› ‹_› ‹_› d)
   .cases d
  .cases d
 ·
  rename_i t p q e;simp[kM,e]at m
 ·
  rename_i t x L B e;split at d
  .split at d
   .split at d
    .obtain⟨j,d⟩:=aX d;simp only[aG,bV]at j;exact bu.cJ (V5 h t x L B e ‹_› ‹_› ‹_› ‹_› j.1.1 j.1.2 j.2 d)
    .cases d
   .cases d
  .split at d
   .split at d
    .obtain⟨j,d⟩:=aX d;simp only[aG,bV]at j;exact bu.cJ (acs h t x L B e ‹_› ‹_› (aP j.1.1) (bs j.1.2) ‹_› ‹_› j.2.1.1 j.2.1.2 j.2.2 d)
    .cases d
   .split at d
    .split at d
     .obtain⟨j,d⟩:=aX d;simp only[aG,bV]at j;exact bu.cJ (V6 h t x B e ‹_› ‹_› ‹_› (aP j.1) ‹_› j.2.1 j.2.2 d)
     .cases d
    .split at d
     .obtain⟨j,d⟩:=aX d;simp only[aG,bV]at j;exact bu.cJ (Pj h t x _ B e ‹_› ‹_› ‹_› (aP j.1) ‹_› ‹_› j.2.1.1 j.2.1.2 j.2.2 d)
     .cases d
    .cases d
   .cases d
  .cases d
 ·
  rename_i t x f e;split at d
  .split at d
   .exact bu.cJ (ft h t x f e ‹_› ‹_› (by exact rfl) d)
   .split at d
    .exact bu.cJ (ft h t x f e ‹_› ‹_› (by exact⟨rfl,_,eI ‹_›⟩) d)
    .cases d
   .exact bu.cJ (ft h t x f e ‹_› ‹_› (by exact rfl) d)
   .cases d
  .cases d
 ·
  rename_i t x i e;split at d
  .split at d
   .split at d
    .split at d
     .split at d
      .obtain⟨j,d⟩:=aX d;simp only[aG,bV]at j;exact bu.cJ (Pg h t x i e ‹_› ‹_› ‹_› ‹_› ‹_› (aP j.1) j.2.1 j.2.2 d)
      .cases d
     .cases d
    .obtain⟨j,d⟩:=aX d;simp only[aG,bV]at j;exact bu.cJ (Sj h t x i e ‹_› ‹_› ‹_› (aP j.1.1) (bs j.1.2) j.2.1 j.2.2 d)
    .cases d
   .split at d
    .obtain⟨j,d⟩:=aX d;simp only[aG,bV]at j;exact bu.cJ (Ph h t x i e ‹_› ‹_› ‹_› (bs j.1) j.2.1 j.2.2 d)
    .cases d
   .cases d
  .cases d
 ·
  rename_i t x i e;split at d
  .obtain⟨j,d⟩:=aX d;simp only[aG,bV]at j;exact bu.cJ (acr h t x i e ‹_› ‹_› ‹_› j.1 j.2 d)
  .cases d
 ·
  rename_i t x f e;split at d
  .rename_i M A;dsimp only at d;split at d
   .rename_i z;split at d
    .exact bu.cJ (Cm h t x f e M A z (b:=true) ‹_› (v:=.agg _) rfl d)
    .split at d
     .rename_i E _ y m;exact bu.cJ (Cm h t x f e M A z (b:=false) E (v:=.c y) ⟨y,m,rfl⟩ d)
     .cases d
    .cases d
   .cases d
  .cases d
 ·
  rename_i x i e;split at d
  .split at d
   .exact bu.cJ (Sg h x i e ‹_› ‹_› d)
   .cases d
  .cases d
 ·
  rename_i f args D e;split at d
  .rename_i u n;exact awh (show aj3 P w0 f u from R f (.one u) n) (by simpa [kM,e,n]using m) h e d
  .rename_i u n;simp[kM,e,n]at m
  .rename_i u n;simp[kM,e,n]at m
  .rename_i u n;simp[kM,e,n]at m
  .rename_i n;simp[kM,e,n]at m
  .rename_i n;simp[kM,e,n]at m
  .cases d
 ·
  rename_i args D e;split at d
  .rename_i x t A O;split at d
   .split at d
    .exact bu.cJ (PU h x t e A O ‹_› (.inl ⟨by assumption,_,by assumption⟩) d)
    .cases d
   .split at d
    .cases d
    .rename_i S;exact bu.cJ (PU h x t e A O ‹_› (.inr ⟨⟨_,by assumption⟩,fun s T=>S s T⟩) d)
   .cases d
  .cases d
 ·
  rename_i args D e;split at d
  .split at d
   .split at d
    .exact bu.cJ (aos h e ‹_› ‹_› ‹_› d)
    .cases d
   .cases d
  .cases d
 ·
  rename_i args D e;split at d
  .split at d
   .split at d
    .exact bu.cJ (aot h e ‹_› ‹_› ‹_› d)
    .cases d
   .cases d
  .cases d
 ·
  rename_i args D e;simp[kM,e]at m
 ·
  rename_i g first W e
  simp[kM,e]at m
 .cases d
def acC {C:FuncId->Option Any}(m:pd P o=true)(h:Inv w0 G st a w)(d:jj P C (p5.Se N) o st k=some r):bu P w0 w a o k r:=by
 unfold jj at d;split at d
 .exact(JU h _ (.inl ‹_›) d)
 .exact(JU h _ (.inr ‹_›) d)
 ·
  rename_i c x y e;split at d
  .exact(ahr h c x y e ‹_› d)
  .cases d
 ·
  rename_i t x e;simp[pd,e]at m
 ·
  rename_i t e;simp[pd,e]at m
 ·
  rename_i t parts e;split at d
  .split at d
   .exact(acu h t parts e ‹_› ‹_› ‹_› ‹_› d)
   .cases d
  .cases d
 ·
  rename_i t len parts e;simp[pd,e]at m
 ·
  rename_i t x e;split at d
  .rename_i l off F;dsimp only at d;split at d
   .rename_i n;split at d
    .exact(JV h t x e F n (b:=true) ‹_› (v:=.agg _) rfl d)
    .split at d
     .rename_i B _ y m;exact(JV h t x e F n (b:=false) B (v:=.c y) ⟨y,m,rfl⟩ d)
     .cases d
    .cases d
   .cases d
  .cases d
 ·
  rename_i t x y e;simp[pd,e]at m
 ·
  rename_i x e;split at d
  .exact(Pf h x e ‹_› d)
  .cases d
 ·
  rename_i op D x y E e;split at d
  .exact(acq h op D x y E e ‹_› ‹_› d)
  .split at d
   .exact(oS h _ D x y E e ‹_› ‹_› ‹_› (.inl ⟨rfl,rfl⟩) d)
   .exact(oS h _ D x y E e ‹_› ‹_› ‹_› (.inr ⟨rfl,rfl⟩) d)
   .cases d
  .cases d
 ·
  rename_i op t x e;split at d
  .exact(aoc h t x e ‹_› d)
  .exact(aod h t x e ‹_› d)
  .cases d
 ·
  rename_i src dst x e;split at d
  .exact(Sh h src dst x e ‹_› ‹_› ‹_› d)
  .exact(Si h src dst x e ‹_› ‹_› ‹_› d)
  .split at d
   .obtain⟨j,d⟩:=aX d;simp[pd,e,(show P.underlying _=some (.slice _) by assumption)]at m
   .cases d
  .split at d
   .exact(acv h src dst x e ‹_› ‹_› ‹_› ‹_› d)
   .cases d
  .cases d
 ·
  rename_i t p q e;simp[pd,e]at m
 ·
  rename_i t x H z e;split at d
  .split at d
   .split at d
    .obtain⟨j,d⟩:=aX d;simp only[aG,bV]at j;exact(V5 h t x H z e ‹_› ‹_› ‹_› ‹_› j.1.1 j.1.2 j.2 d)
    .cases d
   .cases d
  .split at d
   .split at d
    .obtain⟨j,d⟩:=aX d;simp only[aG,bV]at j;exact(acs h t x H z e ‹_› ‹_› (aP j.1.1) (bs j.1.2) ‹_› ‹_› j.2.1.1 j.2.1.2 j.2.2 d)
    .cases d
   .split at d
    .split at d
     .obtain⟨j,d⟩:=aX d;simp only[aG,bV]at j;exact(V6 h t x z e ‹_› ‹_› ‹_› (aP j.1) ‹_› j.2.1 j.2.2 d)
     .cases d
    .split at d
     .obtain⟨j,d⟩:=aX d;simp only[aG,bV]at j;exact(Pj h t x _ z e ‹_› ‹_› ‹_› (aP j.1) ‹_› ‹_› j.2.1.1 j.2.1.2 j.2.2 d)
     .cases d
    .cases d
   .cases d
  .cases d
 ·
  rename_i t x f e;split at d
  .split at d
   .exact(ft h t x f e ‹_› ‹_› (by exact rfl) d)
   .split at d
    .exact(ft h t x f e ‹_› ‹_› (by exact⟨rfl,_,eI ‹_›⟩) d)
    .cases d
   .exact(ft h t x f e ‹_› ‹_› (by exact rfl) d)
   .cases d
  .cases d
 ·
  rename_i t x i e;split at d
  .split at d
   .split at d
    .split at d
     .split at d
      .obtain⟨j,d⟩:=aX d;simp only[aG,bV]at j;exact(Pg h t x i e ‹_› ‹_› ‹_› ‹_› ‹_› (aP j.1) j.2.1 j.2.2 d)
      .cases d
     .cases d
    .obtain⟨j,d⟩:=aX d;simp only[aG,bV]at j;exact(Sj h t x i e ‹_› ‹_› ‹_› (aP j.1.1) (bs j.1.2) j.2.1 j.2.2 d)
    .cases d
   .split at d
    .obtain⟨j,d⟩:=aX d;simp only[aG,bV]at j;exact(Ph h t x i e ‹_› ‹_› ‹_› (bs j.1) j.2.1 j.2.2 d)
    .cases d
   .cases d
  .cases d
 ·
  rename_i t x i e;split at d
  .obtain⟨j,d⟩:=aX d;simp only[aG,bV]at j;exact(acr h t x i e ‹_› ‹_› ‹_› j.1 j.2 d)
  .cases d
 ·
  rename_i t x f e;split at d
  .rename_i I u;dsimp only at d;split at d
   .rename_i n;split at d
    .exact(Cm h t x f e I u n (b:=true) ‹_› (v:=.agg _) rfl d)
    .split at d
     .rename_i B _ y m;exact(Cm h t x f e I u n (b:=false) B (v:=.c y) ⟨y,m,rfl⟩ d)
     .cases d
    .cases d
   .cases d
  .cases d
 ·
  rename_i x i e;split at d
  .split at d
   .exact(Sg h x i e ‹_› ‹_› d)
   .cases d
  .cases d
 ·
  rename_i f args A e;simp[pd,e]at m
 ·
  rename_i args A e;split at d
  .rename_i x t u L;split at d
   .split at d
    .exact(PU h x t e u L ‹_› (.inl ⟨by assumption,_,by assumption⟩) d)
    .cases d
   .split at d
    .cases d
    .rename_i M;exact(PU h x t e u L ‹_› (.inr ⟨⟨_,by assumption⟩,fun s O=>M s O⟩) d)
   .cases d
  .cases d
 ·
  rename_i args A e;split at d
  .split at d
   .split at d
    .exact(aos h e ‹_› ‹_› ‹_› d)
    .cases d
   .cases d
  .cases d
 ·
  rename_i args A e;split at d
  .split at d
   .split at d
    .exact(aot h e ‹_› ‹_› ‹_› d)
    .cases d
   .cases d
  .cases d
 ·
  rename_i args A e;simp[pd,e]at m
 ·
  rename_i g first R e
  simp[pd,e]at m
 .cases d
def awi {C:FuncId->Option Any}(n:pd P o=true)(e:Ki st o=true)(h:Inv w0 G st a w)(b:jj P C (p5.Se N) o st k=some r):aoa P w0 G w a o k r:=by
 cases c:o.op with
 |load t x =>
  simp only[Ki,c]at e;split at e
  .rename_i f D E F i;simp only[jj,c]at b;split at b
   .rename_i l off j;split at b
    .rename_i m;split at b
     .rename_i g;exact aDH h t x c j m g rfl i b
     .rename_i g;split at b
      .rename_i y p;exact aDH h t x c j m g ⟨y,p,rfl⟩ i b
      .cases b
     .cases b
    .cases b
   .cases b
  .cases e
 |convert s d x=>simp[Ki,c]at e
 |_ =>
  obtain⟨v,q,da,u,z,A⟩:=acC n h b;exact⟨v,q,da,fun B _=>u B (by unfold ajZ;rw[c];trivial),z,A⟩
end
end Go.Am
