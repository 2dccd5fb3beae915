/- No condition. -/
import Derived.Test.YtaheoongenkdbaaGreatDoorQeAmRun
set_option linter.all false
namespace Go.Am
open Go.RowKit
section
variable {N:Nat} {P:Program} {w0:eH} {w:World} {G:Gh} {st:St} {a:Act} {U:Type} {k:St->Option U} {r:U} {K:Act->World->Prop} {Q:Exit->Act->World->Prop} {o:Oper}
def atw (P:Program)(w0:eH)(w:World)(a:Act)(o:Oper){U:Type}(k:St->Option U)(r:U):Prop :=
 ∃v c cy,(∀b,Below w.heap.size w b->o.quietAt P a (fun d=>Below w.heap.size w d) b v)/\Inv w0 c cy (a.put o.dst v) w/\k cy=some r
def bu.cI (h:bu P w0 w a o k r):atw P w0 w a o k r:=by obtain⟨v,b,cy,c,d,e⟩:=h;refine⟨v,b,cy,fun f g=>?_,d,e⟩;unfold Oper.quietAt;rw[c f (w7 g)];exact⟨rfl,rfl⟩
def arC:(t:Ty)->t.D->List Value
 |.int k,x=>[.int k x]|.bool,x=>[.bool x]|.str,x=>[.string x]|.unit,_=>[]|.pair a b,x=>arC a x.1++arC b x.2|.sl _ _,_=>[]
def alV {ok:Nat->Prop}:∀{t:Ty} {x:t.D} {cs:List Value},flat t=true->Rd w ok t x cs->cs=arC t x
 |.int _,_,_,_,h=>h|.bool,_,_,_,h=>h|.str,_,_,_,h=>h|.unit,_,_,_,h=>h|.pair a b,_,_,c,h=>by obtain⟨g,i,rfl,e,f⟩:=h;have d:(flat a&&flat b)=true:=c;rw[aA]at d;rw[alV d.1 e,alV d.2 f];rfl
 |.sl _ _,_,_,c,_=>by cases c
def alW {ok:Nat->Prop}:∀{t:Ty} {x:t.D},flat t=true->Rd w ok t x (arC t x)
 |.int _,_,_=>rfl|.bool,_,_=>rfl|.str,_,_=>rfl|.unit,_,_=>rfl|.pair a b,_,c=>by have d:(flat a&&flat b)=true:=c;rw[aA]at d;exact⟨_,_,rfl,alW d.1,alW d.2⟩
 |.sl _ _,_,c=>by cases c
def atx:(rs:List (Ty×Bool))->Args rs->List Value
 |[],_=>[]|a::l,x=>(match a.2 with|true=>.agg (arC a.1 x.1).toArray|false=>(arC a.1 x.1).headD undef)::atx l x.2
def arD {ok:Nat->Prop}:∀{rs:List (Ty×Bool)} {x:Args rs} {vs:List Value},(rs.all fun a=>flat a.1)=true->dS w ok rs x vs->vs=atx rs x
 |[],_,_,_,h=>h|a::l,x,vs,b,h=>by obtain⟨v,f,rfl,⟨cs,c,d⟩,e⟩:=h;rw[List.all_cons,aA]at b;rw[arD b.2 e,d,alV b.1 c];rfl
def arE {ok:Nat->Prop}:∀{rs:List (Ty×Bool)} {x:Args rs},(rs.all fun a=>flat a.1)=true->dS w ok rs x (atx rs x)
 |[],_,_=>rfl|a::l,x,b=>by rw[List.all_cons,aA]at b;exact⟨_,_,rfl,⟨_,alW b.1,rfl⟩,arE b.2⟩
def aty {f:FuncId}{con:Con}(u:ahp P w0 f con)(i:(Nat.beq con.m 1&&con.rs.all fun a=>flat a.1)=true)(h:Inv w0 G st a w){args:Array Operand}{ts:Array TypeId}(A:o.op=.call {callee:=.value (.func f),args:=args,argTypes:=ts})
  (b:WY con st o.dst args.toList k=some r):atw P w0 w a o k r:=by
 rw[aA]at i;have j:=aJ i.1;unfold WY at b;split at b
 .rename_i x B;cases l:con.g x with
  |none=>rw[l]at b;cases b
  |some y =>
   rw[l]at b;simp only[alf]at b;cases m:o.dst with
   |none=>rw[m]at b;cases b
   |some d =>
    rw[m]at b;dsimp only at b;split at b
    .rename_i z;rw[j]at z;cases z
    .obtain⟨n,b⟩:=aU b;simp only[aA]at n;have hrel:=CK (f:=true) (G:=G) (bx:=st.bx) (bl:=st.bl) n.2 (arE (w:=w) (x:=y) i.2);refine⟨eZ (atx con.rs y),G,_,fun C p=>?_,by rw[m];exact h.put d (gq n.1) (w8 (R:=fun _ _=>True) hrel),b⟩;have q:=h.more p;have D:=IQ (ok:=fun _=>True) q con.ps args.toList x (fun t c v xs _=>Uj q t c v xs) B;unfold Oper.quietAt;rw[Ji u.1 A];refine⟨rfl,?_⟩;have E:(args.map a.eval)=(args.toList.map a.eval).toArray:=by rw[<-abE,w2]
     rw[E];refine Calls.mono (u.2 x y l C q.below _ _ D) fun e I F=>?_
     obtain⟨us,rfl,s,g⟩:=F;unfold Yj at s;rw[j]at s;rw[arD i.2 s];have L:=p.size;exact⟨rfl,p.trans ⟨g.os,g.tape,g.output,g.size,fun k M=>g.block k (by omega)⟩⟩
    .rename_i H;exact absurd j H
 .cases b
def awc {C:FuncId->Option Any}(R:∀f u,C f=some u->Oo P w0 f u)(m:j4 P C o=true)(h:Inv w0 G st a w)(d:fB P C (oH.Ll N) o st k=some r):atw P w0 w a o k r:=by
 unfold fB at d;split at d
 .exact bu.cI (IM h _ (.inl ‹_›) d)
 .exact bu.cI (IM h _ (.inr ‹_›) d)
 ·
  rename_i c x y e;split at d
  .exact bu.cI (aeS h c x y e ‹_› d)
  .cases d
 ·
  rename_i t x e;simp[j4,e]at m
 ·
  rename_i t e;simp[j4,e]at m
 ·
  rename_i t parts e;split at d
  .split at d
   .exact bu.cI (aab h t parts e ‹_› ‹_› ‹_› ‹_› d)
   .cases d
  .cases d
 ·
  rename_i t len parts e;simp[j4,e]at m
 ·
  rename_i t x e;split at d
  .rename_i l off I;dsimp only at d;split at d
   .rename_i z;split at d
    .exact bu.cI (IN h t x e I z (b:=true) ‹_› (v:=.agg _) rfl d)
    .split at d
     .rename_i E _ y m;exact bu.cI (IN h t x e I z (b:=false) E (v:=.c y) ⟨y,m,rfl⟩ d)
     .cases d
    .cases d
   .cases d
  .cases d
 ·
  rename_i t x y e;simp[j4,e]at m
 ·
  rename_i x e;split at d
  .exact bu.cI (NJ h x e ‹_› d)
  .cases d
 ·
  rename_i op F x y H e;split at d
  .exact bu.cI (Z8 h op F x y H e ‹_› ‹_› d)
  .split at d
   .exact bu.cI (n1 h _ F x y H e ‹_› ‹_› ‹_› (.inl ⟨rfl,rfl⟩) d)
   .exact bu.cI (n1 h _ F x y H e ‹_› ‹_› ‹_› (.inr ⟨rfl,rfl⟩) d)
   .cases d
  .cases d
 ·
  rename_i op t x e;split at d
  .exact bu.cI (alD h t x e ‹_› d)
  .exact bu.cI (alE h t x e ‹_› d)
  .cases d
 ·
  rename_i src dst x e;split at d
  .exact bu.cI (QK h src dst x e ‹_› ‹_› ‹_› d)
  .exact bu.cI (QL h src dst x e ‹_› ‹_› ‹_› d)
  .split at d
   .obtain⟨j,d⟩:=aU d;simp[j4,e,(show P.underlying _=some (.slice _) by assumption)]at m
   .cases d
  .split at d
   .exact bu.cI (aac h src dst x e ‹_› ‹_› ‹_› ‹_› d)
   .cases d
  .cases d
 ·
  rename_i t p q e;simp[j4,e]at m
 ·
  rename_i t x L B e;split at d
  .split at d
   .split at d
    .obtain⟨j,d⟩:=aU d;simp only[aA,bR]at j;exact bu.cI (Uf h t x L B e ‹_› ‹_› ‹_› ‹_› j.1.1 j.1.2 j.2 d)
    .cases d
   .cases d
  .split at d
   .split at d
    .obtain⟨j,d⟩:=aU d;simp only[aA,bR]at j;exact bu.cI (aaa h t x L B e ‹_› ‹_› (aJ j.1.1) (bD j.1.2) ‹_› ‹_› j.2.1.1 j.2.1.2 j.2.2 d)
    .cases d
   .split at d
    .split at d
     .obtain⟨j,d⟩:=aU d;simp only[aA,bR]at j;exact bu.cI (Ug h t x B e ‹_› ‹_› ‹_› (aJ j.1) ‹_› j.2.1 j.2.2 d)
     .cases d
    .split at d
     .obtain⟨j,d⟩:=aU d;simp only[aA,bR]at j;exact bu.cI (NM h t x _ B e ‹_› ‹_› ‹_› (aJ j.1) ‹_› ‹_› j.2.1.1 j.2.1.2 j.2.2 d)
     .cases d
    .cases d
   .cases d
  .cases d
 ·
  rename_i t x f e;split at d
  .split at d
   .exact bu.cI (eY h t x f e ‹_› ‹_› (by exact rfl) d)
   .split at d
    .exact bu.cI (eY h t x f e ‹_› ‹_› (by exact⟨rfl,_,dA ‹_›⟩) d)
    .cases d
   .exact bu.cI (eY h t x f e ‹_› ‹_› (by exact rfl) d)
   .cases d
  .cases d
 ·
  rename_i t x i e;split at d
  .split at d
   .split at d
    .split at d
     .split at d
      .obtain⟨j,d⟩:=aU d;simp only[aA,bR]at j;exact bu.cI (NK h t x i e ‹_› ‹_› ‹_› ‹_› ‹_› (aJ j.1) j.2.1 j.2.2 d)
      .cases d
     .cases d
    .obtain⟨j,d⟩:=aU d;simp only[aA,bR]at j;exact bu.cI (QM h t x i e ‹_› ‹_› ‹_› (aJ j.1.1) (bD j.1.2) j.2.1 j.2.2 d)
    .cases d
   .split at d
    .obtain⟨j,d⟩:=aU d;simp only[aA,bR]at j;exact bu.cI (NL h t x i e ‹_› ‹_› ‹_› (bD j.1) j.2.1 j.2.2 d)
    .cases d
   .cases d
  .cases d
 ·
  rename_i t x i e;split at d
  .obtain⟨j,d⟩:=aU d;simp only[aA,bR]at j;exact bu.cI (Z9 h t x i e ‹_› ‹_› ‹_› j.1 j.2 d)
  .cases d
 ·
  rename_i t x f e;split at d
  .rename_i M A;dsimp only at d;split at d
   .rename_i z;split at d
    .exact bu.cI (BH h t x f e M A z (b:=true) ‹_› (v:=.agg _) rfl d)
    .split at d
     .rename_i E _ y m;exact bu.cI (BH h t x f e M A z (b:=false) E (v:=.c y) ⟨y,m,rfl⟩ d)
     .cases d
    .cases d
   .cases d
  .cases d
 ·
  rename_i x i e;split at d
  .split at d
   .exact bu.cI (QJ h x i e ‹_› ‹_› d)
   .cases d
  .cases d
 ·
  rename_i f args D e;split at d
  .rename_i u n;exact aty (show ahp P w0 f u from R f (.one u) n) (by simpa [j4,e,n]using m) h e d
  .rename_i u n;simp[j4,e,n]at m
  .rename_i u n;simp[j4,e,n]at m
  .rename_i u n;simp[j4,e,n]at m
  .rename_i n;simp[j4,e,n]at m
  .rename_i n;simp[j4,e,n]at m
  .cases d
 ·
  rename_i args D e;split at d
  .rename_i x t A O;split at d
   .split at d
    .exact bu.cI (Oj h x t e A O ‹_› (.inl ⟨by assumption,_,by assumption⟩) d)
    .cases d
   .split at d
    .cases d
    .rename_i S;exact bu.cI (Oj h x t e A O ‹_› (.inr ⟨⟨_,by assumption⟩,fun s T=>S s T⟩) d)
   .cases d
  .cases d
 ·
  rename_i args D e;split at d
  .split at d
   .split at d
    .exact bu.cI (alT h e ‹_› ‹_› ‹_› d)
    .cases d
   .cases d
  .cases d
 ·
  rename_i args D e;split at d
  .split at d
   .split at d
    .exact bu.cI (alU h e ‹_› ‹_› ‹_› d)
    .cases d
   .cases d
  .cases d
 ·
  rename_i args D e;simp[j4,e]at m
 ·
  rename_i g first W e
  simp[j4,e]at m
 .cases d
def aaj {C:FuncId->Option Any}(m:oz P o=true)(h:Inv w0 G st a w)(d:fB P C (oH.Ll N) o st k=some r):bu P w0 w a o k r:=by
 unfold fB at d;split at d
 .exact(IM h _ (.inl ‹_›) d)
 .exact(IM h _ (.inr ‹_›) d)
 ·
  rename_i c x y e;split at d
  .exact(aeS h c x y e ‹_› d)
  .cases d
 ·
  rename_i t x e;simp[oz,e]at m
 ·
  rename_i t e;simp[oz,e]at m
 ·
  rename_i t parts e;split at d
  .split at d
   .exact(aab h t parts e ‹_› ‹_› ‹_› ‹_› d)
   .cases d
  .cases d
 ·
  rename_i t len parts e;simp[oz,e]at m
 ·
  rename_i t x e;split at d
  .rename_i l off F;dsimp only at d;split at d
   .rename_i n;split at d
    .exact(IN h t x e F n (b:=true) ‹_› (v:=.agg _) rfl d)
    .split at d
     .rename_i B _ y m;exact(IN h t x e F n (b:=false) B (v:=.c y) ⟨y,m,rfl⟩ d)
     .cases d
    .cases d
   .cases d
  .cases d
 ·
  rename_i t x y e;simp[oz,e]at m
 ·
  rename_i x e;split at d
  .exact(NJ h x e ‹_› d)
  .cases d
 ·
  rename_i op D x y E e;split at d
  .exact(Z8 h op D x y E e ‹_› ‹_› d)
  .split at d
   .exact(n1 h _ D x y E e ‹_› ‹_› ‹_› (.inl ⟨rfl,rfl⟩) d)
   .exact(n1 h _ D x y E e ‹_› ‹_› ‹_› (.inr ⟨rfl,rfl⟩) d)
   .cases d
  .cases d
 ·
  rename_i op t x e;split at d
  .exact(alD h t x e ‹_› d)
  .exact(alE h t x e ‹_› d)
  .cases d
 ·
  rename_i src dst x e;split at d
  .exact(QK h src dst x e ‹_› ‹_› ‹_› d)
  .exact(QL h src dst x e ‹_› ‹_› ‹_› d)
  .split at d
   .obtain⟨j,d⟩:=aU d;simp[oz,e,(show P.underlying _=some (.slice _) by assumption)]at m
   .cases d
  .split at d
   .exact(aac h src dst x e ‹_› ‹_› ‹_› ‹_› d)
   .cases d
  .cases d
 ·
  rename_i t p q e;simp[oz,e]at m
 ·
  rename_i t x H z e;split at d
  .split at d
   .split at d
    .obtain⟨j,d⟩:=aU d;simp only[aA,bR]at j;exact(Uf h t x H z e ‹_› ‹_› ‹_› ‹_› j.1.1 j.1.2 j.2 d)
    .cases d
   .cases d
  .split at d
   .split at d
    .obtain⟨j,d⟩:=aU d;simp only[aA,bR]at j;exact(aaa h t x H z e ‹_› ‹_› (aJ j.1.1) (bD j.1.2) ‹_› ‹_› j.2.1.1 j.2.1.2 j.2.2 d)
    .cases d
   .split at d
    .split at d
     .obtain⟨j,d⟩:=aU d;simp only[aA,bR]at j;exact(Ug h t x z e ‹_› ‹_› ‹_› (aJ j.1) ‹_› j.2.1 j.2.2 d)
     .cases d
    .split at d
     .obtain⟨j,d⟩:=aU d;simp only[aA,bR]at j;exact(NM h t x _ z e ‹_› ‹_› ‹_› (aJ j.1) ‹_› ‹_› j.2.1.1 j.2.1.2 j.2.2 d)
     .cases d
    .cases d
   .cases d
  .cases d
 ·
  rename_i t x f e;split at d
  .split at d
   .exact(eY h t x f e ‹_› ‹_› (by exact rfl) d)
   .split at d
    .exact(eY h t x f e ‹_› ‹_› (by exact⟨rfl,_,dA ‹_›⟩) d)
    .cases d
   .exact(eY h t x f e ‹_› ‹_› (by exact rfl) d)
   .cases d
  .cases d
 ·
  rename_i t x i e;split at d
  .split at d
   .split at d
    .split at d
     .split at d
      .obtain⟨j,d⟩:=aU d;simp only[aA,bR]at j;exact(NK h t x i e ‹_› ‹_› ‹_› ‹_› ‹_› (aJ j.1) j.2.1 j.2.2 d)
      .cases d
     .cases d
    .obtain⟨j,d⟩:=aU d;simp only[aA,bR]at j;exact(QM h t x i e ‹_› ‹_› ‹_› (aJ j.1.1) (bD j.1.2) j.2.1 j.2.2 d)
    .cases d
   .split at d
    .obtain⟨j,d⟩:=aU d;simp only[aA,bR]at j;exact(NL h t x i e ‹_› ‹_› ‹_› (bD j.1) j.2.1 j.2.2 d)
    .cases d
   .cases d
  .cases d
 ·
  rename_i t x i e;split at d
  .obtain⟨j,d⟩:=aU d;simp only[aA,bR]at j;exact(Z9 h t x i e ‹_› ‹_› ‹_› j.1 j.2 d)
  .cases d
 ·
  rename_i t x f e;split at d
  .rename_i I u;dsimp only at d;split at d
   .rename_i n;split at d
    .exact(BH h t x f e I u n (b:=true) ‹_› (v:=.agg _) rfl d)
    .split at d
     .rename_i B _ y m;exact(BH h t x f e I u n (b:=false) B (v:=.c y) ⟨y,m,rfl⟩ d)
     .cases d
    .cases d
   .cases d
  .cases d
 ·
  rename_i x i e;split at d
  .split at d
   .exact(QJ h x i e ‹_› ‹_› d)
   .cases d
  .cases d
 ·
  rename_i f args A e;simp[oz,e]at m
 ·
  rename_i args A e;split at d
  .rename_i x t u L;split at d
   .split at d
    .exact(Oj h x t e u L ‹_› (.inl ⟨by assumption,_,by assumption⟩) d)
    .cases d
   .split at d
    .cases d
    .rename_i M;exact(Oj h x t e u L ‹_› (.inr ⟨⟨_,by assumption⟩,fun s O=>M s O⟩) d)
   .cases d
  .cases d
 ·
  rename_i args A e;split at d
  .split at d
   .split at d
    .exact(alT h e ‹_› ‹_› ‹_› d)
    .cases d
   .cases d
  .cases d
 ·
  rename_i args A e;split at d
  .split at d
   .split at d
    .exact(alU h e ‹_› ‹_› ‹_› d)
    .cases d
   .cases d
  .cases d
 ·
  rename_i args A e;simp[oz,e]at m
 ·
  rename_i g first R e
  simp[oz,e]at m
 .cases d
def atz {C:FuncId->Option Any}(n:oz P o=true)(e:Ja st o=true)(h:Inv w0 G st a w)(b:fB P C (oH.Ll N) o st k=some r):alB P w0 G w a o k r:=by
 cases c:o.op with
 |load t x =>
  simp only[Ja,c]at e;split at e
  .rename_i f D E F i;simp only[fB,c]at b;split at b
   .rename_i l off j;split at b
    .rename_i m;split at b
     .rename_i g;exact aAM h t x c j m g rfl i b
     .rename_i g;split at b
      .rename_i y p;exact aAM h t x c j m g ⟨y,p,rfl⟩ i b
      .cases b
     .cases b
    .cases b
   .cases b
  .cases e
 |convert s d x=>simp[Ja,c]at e
 |_ =>
  obtain⟨v,q,cy,u,z,A⟩:=aaj n h b;exact⟨v,q,cy,fun B _=>u B (by unfold ahl;rw[c];trivial),z,A⟩
end
end Go.Am
