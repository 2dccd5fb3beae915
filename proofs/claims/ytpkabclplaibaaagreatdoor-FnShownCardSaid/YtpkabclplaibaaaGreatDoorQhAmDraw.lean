/- No condition. -/
import Derived.Test.YtpkabclplaibaaaGreatDoorQhAmRun
set_option linter.all false
namespace Go.Am
open Go.RowKit
variable [ds]
section
variable {N:Nat} {P:Program} {w0:di} {w:World} {G:Gh} {st:St} {a:Act} {U:Type} {k:St->Option U} {r:U} {K:Act->World->Prop} {Q:Exit->Act->World->Prop} {o:Oper}
def acw (P:Program)(w0:di)(w:World)(a:Act)(o:Oper){U:Type}(k:St->Option U)(r:U):Prop :=
 ∃v c bV,(∀b,Below w.heap.size w b->o.quietAt P a (fun d=>Below w.heap.size w d) b v)/\Inv w0 c bV (a.put o.dst v) w/\k bV=some r
def a8.b8 (h:a8 P w0 w a o k r):acw P w0 w a o k r:=by obtain⟨v,b,bV,c,d,e⟩:=h;refine⟨v,b,bV,fun f g=>?_,d,e⟩;unfold Oper.quietAt;rw[c f (q5 g)];exact⟨rfl,rfl⟩
def aaX:(t:Ty)->t.D->List Value
 |.int k,x=>[.int k x]|.bool,x=>[.bool x]|.str,x=>[.string x]|.unit,_=>[]|.pair a b,x=>aaX a x.1++aaX b x.2|.sl _ _,_=>[]
def WI {ok:Nat->Prop}:∀{t:Ty} {x:t.D} {cs:List Value},flat t=true->Rd w ok t x cs->cs=aaX t x
 |.int _,_,_,_,h=>h|.bool,_,_,_,h=>h|.str,_,_,_,h=>h|.unit,_,_,_,h=>h|.pair a b,_,_,c,h=>by obtain⟨g,i,rfl,e,f⟩:=h;have d:(flat a&&flat b)=true:=c;rw[az]at d;rw[WI d.1 e,WI d.2 f];rfl
 |.sl _ _,_,_,c,_=>by cases c
def WJ {ok:Nat->Prop}:∀{t:Ty} {x:t.D},flat t=true->Rd w ok t x (aaX t x)
 |.int _,_,_=>rfl|.bool,_,_=>rfl|.str,_,_=>rfl|.unit,_,_=>rfl|.pair a b,_,c=>by have d:(flat a&&flat b)=true:=c;rw[az]at d;exact⟨_,_,rfl,WJ d.1,WJ d.2⟩
 |.sl _ _,_,c=>by cases c
def acx:(rs:List (Ty×Bool))->Args rs->List Value
 |[],_=>[]|a::l,x=>(match a.2 with|true=>.agg (aaX a.1 x.1).toArray|false=>(aaX a.1 x.1).headD undef)::acx l x.2
def aaY {ok:Nat->Prop}:∀{rs:List (Ty×Bool)} {x:Args rs} {vs:List Value},(rs.all fun a=>flat a.1)=true->cT w ok rs x vs->vs=acx rs x
 |[],_,_,_,h=>h|a::l,x,vs,b,h=>by obtain⟨v,f,rfl,⟨cs,c,d⟩,e⟩:=h;rw[List.all_cons,az]at b;rw[aaY b.2 e,d,WI b.1 c];rfl
def aaZ {ok:Nat->Prop}:∀{rs:List (Ty×Bool)} {x:Args rs},(rs.all fun a=>flat a.1)=true->cT w ok rs x (acx rs x)
 |[],_,_=>rfl|a::l,x,b=>by rw[List.all_cons,az]at b;exact⟨_,_,rfl,⟨_,WJ b.1,rfl⟩,aaZ b.2⟩
def acy {f:FuncId}{con:Con}(u:Tp P w0 f con)(i:(Nat.beq con.m 1&&con.rs.all fun a=>flat a.1)=true)(h:Inv w0 G st a w){args:Array Operand}{ts:Array TypeId}(A:o.op=.call {callee:=.value (.func f),args:=args,argTypes:=ts})
  (b:Lz con st o.dst args.toList k=some r):acw P w0 w a o k r:=by
 rw[az]at i;have j:=aA i.1;unfold Lz at b;split at b
 .rename_i x B;cases l:con.g x with
  |none=>rw[l]at b;cases b
  |some y =>
   rw[l]at b;simp only[V5]at b;cases m:o.dst with
   |none=>rw[m]at b;cases b
   |some d =>
    rw[m]at b;dsimp only at b;split at b
    .rename_i z;rw[j]at z;cases z
    .obtain⟨n,b⟩:=aG b;simp only[az]at n;have hrel:=u3 (f:=true) (G:=G) (bx:=st.bx) (bl:=st.bl) n.2 (aaZ (w:=w) (x:=y) i.2);refine⟨dj (acx con.rs y),G,_,fun C p=>?_,by rw[m];exact h.put d (ef n.1) (q7 (R:=fun _ _=>True) hrel),b⟩;have q:=h.more p;have D:=Bm (ok:=fun _=>True) q con.ps args.toList x (fun e t c v xs _=>Jr q e t c v xs) B;unfold Oper.quietAt;rw[BJ u.1 A];refine⟨rfl,?_⟩;have E:(args.map a.eval)=(args.toList.map a.eval).toArray:=by rw[<-Td,qU]
     rw[E];refine Calls.mono (u.2 x y l C q.below _ _ D) fun e I F=>?_
     obtain⟨us,rfl,s,g⟩:=F;unfold Jq at s;rw[j]at s;rw[aaY i.2 s];have L:=p.size;exact⟨rfl,p.trans ⟨g.os,g.tape,g.output,g.size,fun k M=>g.block k (by omega)⟩⟩
    .rename_i H;exact absurd j H
 .cases b
def aex {C:FuncId->Option Any}(R:∀f u,C f=some u->Fi P w0 f u)(m:gv P C o=true)(h:Inv w0 G st a w)(d:ec P C (kk.CX N) o st k=some r):acw P w0 w a o k r:=by
 unfold ec at d;split at d
 .exact a8.b8 (Bj h _ (.inl ‹_›) d)
 .exact a8.b8 (Bj h _ (.inr ‹_›) d)
 ·
  rename_i c x y e;split at d
  .exact a8.b8 (RA h c x y e ‹_› d)
  .cases d
 ·
  rename_i t x e;simp[gv,e]at m
 ·
  rename_i t e;simp[gv,e]at m
 ·
  rename_i t parts e;split at d
  .split at d
   .exact a8.b8 (N4 h t parts e ‹_› ‹_› ‹_› ‹_› d)
   .cases d
  .cases d
 ·
  rename_i t len parts e;simp[gv,e]at m
 ·
  rename_i t x e;split at d
  .rename_i l off I;dsimp only at d;split at d
   .rename_i z;split at d
    .exact a8.b8 (Bk h t x e I z (b:=true) ‹_› (v:=.agg _) rfl d)
    .split at d
     .rename_i E _ y m;exact a8.b8 (Bk h t x e I z (b:=false) E (v:=.c y) ⟨y,m,rfl⟩ d)
     .cases d
    .cases d
   .cases d
  .cases d
 ·
  rename_i t x y e;simp[gv,e]at m
 ·
  rename_i x e;split at d
  .exact a8.b8 (EO h x e ‹_› d)
  .cases d
 ·
  rename_i op F x y H e;split at d
  .exact a8.b8 (N1 h op F x y H e ‹_› ‹_› d)
  .split at d
   .exact a8.b8 (kl h _ F x y H e ‹_› ‹_› ‹_› (.inl ⟨rfl,rfl⟩) d)
   .exact a8.b8 (kl h _ F x y H e ‹_› ‹_› ‹_› (.inr ⟨rfl,rfl⟩) d)
   .cases d
  .cases d
 ·
  rename_i op t x e;split at d
  .exact a8.b8 (Wp h t x e ‹_› d)
  .exact a8.b8 (Wq h t x e ‹_› d)
  .cases d
 ·
  rename_i src dst x e;split at d
  .exact a8.b8 (GL h src dst x e ‹_› ‹_› ‹_› d)
  .exact a8.b8 (GM h src dst x e ‹_› ‹_› ‹_› d)
  .split at d
   .obtain⟨j,d⟩:=aG d;simp[gv,e,(show P.underlying _=some (.slice _) by assumption)]at m
   .cases d
  .split at d
   .exact a8.b8 (N5 h src dst x e ‹_› ‹_› ‹_› ‹_› d)
   .cases d
  .cases d
 ·
  rename_i t p q e;simp[gv,e]at m
 ·
  rename_i t x L B e;split at d
  .split at d
   .split at d
    .obtain⟨j,d⟩:=aG d;simp only[az,bu]at j;exact a8.b8 (Jn h t x L B e ‹_› ‹_› ‹_› ‹_› j.1.1 j.1.2 j.2 d)
    .cases d
   .cases d
  .split at d
   .split at d
    .obtain⟨j,d⟩:=aG d;simp only[az,bu]at j;exact a8.b8 (N3 h t x L B e ‹_› ‹_› (aA j.1.1.1) (ba j.1.1.2) (alN j.1.2) ‹_› ‹_› j.2.1.1 j.2.1.2 j.2.2 d)
    .cases d
   .split at d
    .split at d
     .obtain⟨j,d⟩:=aG d;simp only[az,bu]at j;exact a8.b8 (Jo h t x B e ‹_› ‹_› ‹_› (aA j.1) ‹_› j.2.1 j.2.2 d)
     .cases d
    .split at d
     .obtain⟨j,d⟩:=aG d;simp only[az,bu]at j;exact a8.b8 (ES h t x _ B e ‹_› ‹_› ‹_› (aA j.1.1) (ahc j.1.2) ‹_› ‹_› j.2.1.1 j.2.1.2 j.2.2 d)
     .cases d
    .cases d
   .cases d
  .cases d
 ·
  rename_i t x f e;split at d
  .split at d
   .exact a8.b8 (dJ h t x f e ‹_› ‹_› (by exact rfl) d)
   .split at d
    .exact a8.b8 (dJ h t x f e ‹_› ‹_› (by exact⟨rfl,_,cV ‹_›⟩) d)
    .cases d
   .exact a8.b8 (dJ h t x f e ‹_› ‹_› (by exact rfl) d)
   .cases d
  .cases d
 ·
  rename_i t x i e;split at d
  .split at d
   .split at d
    .split at d
     .split at d
      .obtain⟨j,d⟩:=aG d;simp only[az,bu]at j;exact a8.b8 (EP h t x i e ‹_› ‹_› ‹_› ‹_› ‹_› (aA j.1) j.2.1 j.2.2 d)
      .cases d
     .cases d
    .obtain⟨j,d⟩:=aG d;simp only[az,bu]at j;exact a8.b8 (GN h t x i e ‹_› ‹_› ‹_› (aA j.1.1) (ba j.1.2) j.2.1 j.2.2 d)
    .cases d
   .split at d
    .obtain⟨j,d⟩:=aG d;simp only[az,bu]at j;exact a8.b8 (ER h t x i e ‹_› ‹_› ‹_› (ba j.1) j.2.1 j.2.2 d)
    .cases d
   .cases d
  .cases d
 ·
  rename_i t x i e;split at d
  .obtain⟨j,d⟩:=aG d;simp only[az,bu]at j;exact a8.b8 (N2 h t x i e ‹_› ‹_› ‹_› j.1 j.2 d)
  .cases d
 ·
  rename_i t x f e;split at d
  .rename_i M A;dsimp only at d;split at d
   .rename_i z;split at d
    .exact a8.b8 (tX h t x f e M A z (b:=true) ‹_› (v:=.agg _) rfl d)
    .split at d
     .rename_i E _ y m;exact a8.b8 (tX h t x f e M A z (b:=false) E (v:=.c y) ⟨y,m,rfl⟩ d)
     .cases d
    .cases d
   .cases d
  .cases d
 ·
  rename_i x i e;split at d
  .split at d
   .exact a8.b8 (GK h x i e ‹_› ‹_› d)
   .cases d
  .cases d
 ·
  rename_i f args D e;split at d
  .rename_i u n;exact acy (show Tp P w0 f u from R f (.one u) n) (by simpa [gv,e,n]using m) h e d
  .rename_i u n;simp[gv,e,n]at m
  .rename_i u n;simp[gv,e,n]at m
  .rename_i u n;simp[gv,e,n]at m
  .rename_i n;simp[gv,e,n]at m
  .rename_i n;simp[gv,e,n]at m
  .cases d
 ·
  rename_i args D e;split at d
  .rename_i x t A O;split at d
   .split at d
    .exact a8.b8 (Fc h x t e A O ‹_› (.inl ⟨by assumption,_,by assumption⟩) d)
    .cases d
   .split at d
    .cases d
    .rename_i S;exact a8.b8 (Fc h x t e A O ‹_› (.inr ⟨⟨_,by assumption⟩,fun s T=>S s T⟩) d)
   .cases d
  .cases d
 ·
  rename_i args D e;split at d
  .split at d
   .split at d
    .exact a8.b8 (WG h e ‹_› ‹_› ‹_› d)
    .cases d
   .cases d
  .cases d
 ·
  rename_i args D e;split at d
  .split at d
   .split at d
    .exact a8.b8 (WH h e ‹_› ‹_› ‹_› d)
    .cases d
   .cases d
  .cases d
 ·
  rename_i args D e;simp[gv,e]at m
 ·
  rename_i g first W e
  simp[gv,e]at m
 .cases d
def Od {C:FuncId->Option Any}(m:kC P o=true)(h:Inv w0 G st a w)(d:ec P C (kk.CX N) o st k=some r):a8 P w0 w a o k r:=by
 unfold ec at d;split at d
 .exact(Bj h _ (.inl ‹_›) d)
 .exact(Bj h _ (.inr ‹_›) d)
 ·
  rename_i c x y e;split at d
  .exact(RA h c x y e ‹_› d)
  .cases d
 ·
  rename_i t x e;simp[kC,e]at m
 ·
  rename_i t e;simp[kC,e]at m
 ·
  rename_i t parts e;split at d
  .split at d
   .exact(N4 h t parts e ‹_› ‹_› ‹_› ‹_› d)
   .cases d
  .cases d
 ·
  rename_i t len parts e;simp[kC,e]at m
 ·
  rename_i t x e;split at d
  .rename_i l off F;dsimp only at d;split at d
   .rename_i n;split at d
    .exact(Bk h t x e F n (b:=true) ‹_› (v:=.agg _) rfl d)
    .split at d
     .rename_i B _ y m;exact(Bk h t x e F n (b:=false) B (v:=.c y) ⟨y,m,rfl⟩ d)
     .cases d
    .cases d
   .cases d
  .cases d
 ·
  rename_i t x y e;simp[kC,e]at m
 ·
  rename_i x e;split at d
  .exact(EO h x e ‹_› d)
  .cases d
 ·
  rename_i op D x y E e;split at d
  .exact(N1 h op D x y E e ‹_› ‹_› d)
  .split at d
   .exact(kl h _ D x y E e ‹_› ‹_› ‹_› (.inl ⟨rfl,rfl⟩) d)
   .exact(kl h _ D x y E e ‹_› ‹_› ‹_› (.inr ⟨rfl,rfl⟩) d)
   .cases d
  .cases d
 ·
  rename_i op t x e;split at d
  .exact(Wp h t x e ‹_› d)
  .exact(Wq h t x e ‹_› d)
  .cases d
 ·
  rename_i src dst x e;split at d
  .exact(GL h src dst x e ‹_› ‹_› ‹_› d)
  .exact(GM h src dst x e ‹_› ‹_› ‹_› d)
  .split at d
   .obtain⟨j,d⟩:=aG d;simp[kC,e,(show P.underlying _=some (.slice _) by assumption)]at m
   .cases d
  .split at d
   .exact(N5 h src dst x e ‹_› ‹_› ‹_› ‹_› d)
   .cases d
  .cases d
 ·
  rename_i t p q e;simp[kC,e]at m
 ·
  rename_i t x H z e;split at d
  .split at d
   .split at d
    .obtain⟨j,d⟩:=aG d;simp only[az,bu]at j;exact(Jn h t x H z e ‹_› ‹_› ‹_› ‹_› j.1.1 j.1.2 j.2 d)
    .cases d
   .cases d
  .split at d
   .split at d
    .obtain⟨j,d⟩:=aG d;simp only[az,bu]at j;exact(N3 h t x H z e ‹_› ‹_› (aA j.1.1.1) (ba j.1.1.2) (alN j.1.2) ‹_› ‹_› j.2.1.1 j.2.1.2 j.2.2 d)
    .cases d
   .split at d
    .split at d
     .obtain⟨j,d⟩:=aG d;simp only[az,bu]at j;exact(Jo h t x z e ‹_› ‹_› ‹_› (aA j.1) ‹_› j.2.1 j.2.2 d)
     .cases d
    .split at d
     .obtain⟨j,d⟩:=aG d;simp only[az,bu]at j;exact(ES h t x _ z e ‹_› ‹_› ‹_› (aA j.1.1) (ahc j.1.2) ‹_› ‹_› j.2.1.1 j.2.1.2 j.2.2 d)
     .cases d
    .cases d
   .cases d
  .cases d
 ·
  rename_i t x f e;split at d
  .split at d
   .exact(dJ h t x f e ‹_› ‹_› (by exact rfl) d)
   .split at d
    .exact(dJ h t x f e ‹_› ‹_› (by exact⟨rfl,_,cV ‹_›⟩) d)
    .cases d
   .exact(dJ h t x f e ‹_› ‹_› (by exact rfl) d)
   .cases d
  .cases d
 ·
  rename_i t x i e;split at d
  .split at d
   .split at d
    .split at d
     .split at d
      .obtain⟨j,d⟩:=aG d;simp only[az,bu]at j;exact(EP h t x i e ‹_› ‹_› ‹_› ‹_› ‹_› (aA j.1) j.2.1 j.2.2 d)
      .cases d
     .cases d
    .obtain⟨j,d⟩:=aG d;simp only[az,bu]at j;exact(GN h t x i e ‹_› ‹_› ‹_› (aA j.1.1) (ba j.1.2) j.2.1 j.2.2 d)
    .cases d
   .split at d
    .obtain⟨j,d⟩:=aG d;simp only[az,bu]at j;exact(ER h t x i e ‹_› ‹_› ‹_› (ba j.1) j.2.1 j.2.2 d)
    .cases d
   .cases d
  .cases d
 ·
  rename_i t x i e;split at d
  .obtain⟨j,d⟩:=aG d;simp only[az,bu]at j;exact(N2 h t x i e ‹_› ‹_› ‹_› j.1 j.2 d)
  .cases d
 ·
  rename_i t x f e;split at d
  .rename_i I u;dsimp only at d;split at d
   .rename_i n;split at d
    .exact(tX h t x f e I u n (b:=true) ‹_› (v:=.agg _) rfl d)
    .split at d
     .rename_i B _ y m;exact(tX h t x f e I u n (b:=false) B (v:=.c y) ⟨y,m,rfl⟩ d)
     .cases d
    .cases d
   .cases d
  .cases d
 ·
  rename_i x i e;split at d
  .split at d
   .exact(GK h x i e ‹_› ‹_› d)
   .cases d
  .cases d
 ·
  rename_i f args A e;simp[kC,e]at m
 ·
  rename_i args A e;split at d
  .rename_i x t u L;split at d
   .split at d
    .exact(Fc h x t e u L ‹_› (.inl ⟨by assumption,_,by assumption⟩) d)
    .cases d
   .split at d
    .cases d
    .rename_i M;exact(Fc h x t e u L ‹_› (.inr ⟨⟨_,by assumption⟩,fun s O=>M s O⟩) d)
   .cases d
  .cases d
 ·
  rename_i args A e;split at d
  .split at d
   .split at d
    .exact(WG h e ‹_› ‹_› ‹_› d)
    .cases d
   .cases d
  .cases d
 ·
  rename_i args A e;split at d
  .split at d
   .split at d
    .exact(WH h e ‹_› ‹_› ‹_› d)
    .cases d
   .cases d
  .cases d
 ·
  rename_i args A e;simp[kC,e]at m
 ·
  rename_i g first R e
  simp[kC,e]at m
 .cases d
def acz {C:FuncId->Option Any}(n:kC P o=true)(e:BB st o=true)(h:Inv w0 G st a w)(b:ec P C (kk.CX N) o st k=some r):Wn P w0 G w a o k r:=by
 cases c:o.op with
 |load t x =>
  simp only[BB,c]at e;split at e
  .rename_i f D E F i;simp only[ec,c]at b;split at b
   .rename_i l off j;split at b
    .rename_i m;split at b
     .rename_i g;exact aiV h t x c j m g rfl i b
     .rename_i g;split at b
      .rename_i y p;exact aiV h t x c j m g ⟨y,p,rfl⟩ i b
      .cases b
     .cases b
    .cases b
   .cases b
  .cases e
 |convert s d x=>simp[BB,c]at e
 |_ =>
  obtain⟨v,q,bV,u,z,A⟩:=Od n h b;exact⟨v,q,bV,fun B _=>u B (by unfold Tl;rw[c];trivial),z,A⟩
end
end Go.Am
