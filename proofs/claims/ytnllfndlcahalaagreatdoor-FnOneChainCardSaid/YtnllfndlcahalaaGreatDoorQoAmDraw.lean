/- No condition. -/
import Derived.Test.YtnllfndlcahalaaGreatDoorQoAmRun
set_option linter.all false
namespace Go.Am
open Go.RowKit
section
variable {N:Nat} {P:Program} {w0:fa} {w:World} {G:Gh} {st:St} {a:Act} {U:Type} {k:St->Option U} {r:U} {K:Act->World->Prop} {Q:Exit->Act->World->Prop} {o:Oper}
def avt (P:Program)(w0:fa)(w:World)(a:Act)(o:Oper){U:Type}(k:St->Option U)(r:U):Prop :=
 ∃v c da,(∀b,Below w.heap.size w b->o.quietAt P a (fun d=>Below w.heap.size w d) b v)/\Inv w0 c da (a.put o.dst v) w/\k da=some r
def bu.cJ (h:bu P w0 w a o k r):avt P w0 w a o k r:=by obtain⟨v,b,da,c,d,e⟩:=h;refine⟨v,b,da,fun f g=>?_,d,e⟩;unfold Oper.quietAt;rw[c f (x4 g)];exact⟨rfl,rfl⟩
def att:(t:Ty)->t.D->List Value
 |.int k,x=>[.int k x]|.bool,x=>[.bool x]|.str,x=>[.string x]|.unit,_=>[]|.pair a b,x=>att a x.1++att b x.2|.sl _ _,_=>[]
def anH {ok:Nat->Prop}:∀{t:Ty} {x:t.D} {cs:List Value},flat t=true->Rd w ok t x cs->cs=att t x
 |.int _,_,_,_,h=>h|.bool,_,_,_,h=>h|.str,_,_,_,h=>h|.unit,_,_,_,h=>h|.pair a b,_,_,c,h=>by obtain⟨g,i,rfl,e,f⟩:=h;have d:(flat a&&flat b)=true:=c;rw[aF]at d;rw[anH d.1 e,anH d.2 f];rfl
 |.sl _ _,_,_,c,_=>by cases c
def anI {ok:Nat->Prop}:∀{t:Ty} {x:t.D},flat t=true->Rd w ok t x (att t x)
 |.int _,_,_=>rfl|.bool,_,_=>rfl|.str,_,_=>rfl|.unit,_,_=>rfl|.pair a b,_,c=>by have d:(flat a&&flat b)=true:=c;rw[aF]at d;exact⟨_,_,rfl,anI d.1,anI d.2⟩
 |.sl _ _,_,c=>by cases c
def avu:(rs:List (Ty×Bool))->Args rs->List Value
 |[],_=>[]|a::l,x=>(match a.2 with|true=>.agg (att a.1 x.1).toArray|false=>(att a.1 x.1).headD undef)::avu l x.2
def atu {ok:Nat->Prop}:∀{rs:List (Ty×Bool)} {x:Args rs} {vs:List Value},(rs.all fun a=>flat a.1)=true->ec w ok rs x vs->vs=avu rs x
 |[],_,_,_,h=>h|a::l,x,vs,b,h=>by obtain⟨v,f,rfl,⟨cs,c,d⟩,e⟩:=h;rw[List.all_cons,aF]at b;rw[atu b.2 e,d,anH b.1 c];rfl
def atv {ok:Nat->Prop}:∀{rs:List (Ty×Bool)} {x:Args rs},(rs.all fun a=>flat a.1)=true->ec w ok rs x (avu rs x)
 |[],_,_=>rfl|a::l,x,b=>by rw[List.all_cons,aF]at b;exact⟨_,_,rfl,⟨_,anI b.1,rfl⟩,atv b.2⟩
def avv {f:FuncId}{con:Con}(u:ajd P w0 f con)(i:(Nat.beq con.m 1&&con.rs.all fun a=>flat a.1)=true)(h:Inv w0 G st a w){args:Array Operand}{ts:Array TypeId}(A:o.op=.call {callee:=.value (.func f),args:=args,argTypes:=ts})
  (b:Yr con st o.dst args.toList k=some r):avt P w0 w a o k r:=by
 rw[aF]at i;have j:=aP i.1;unfold Yr at b;split at b
 .rename_i x B;cases l:con.g x with
  |none=>rw[l]at b;cases b
  |some y =>
   rw[l]at b;simp only[am7]at b;cases m:o.dst with
   |none=>rw[m]at b;cases b
   |some d =>
    rw[m]at b;dsimp only at b;split at b
    .rename_i z;rw[j]at z;cases z
    .obtain⟨n,b⟩:=aX b;simp only[aF]at n;have hrel:=Db (f:=true) (G:=G) (bx:=st.bx) (bl:=st.bl) n.2 (atv (w:=w) (x:=y) i.2);refine⟨fk (avu con.rs y),G,_,fun C p=>?_,by rw[m];exact h.put d (gJ n.1) (x5 (R:=fun _ _=>True) hrel),b⟩;have q:=h.more p;have D:=JB (ok:=fun _=>True) q con.ps args.toList x (fun t c v xs _=>VH q t c v xs) B;unfold Oper.quietAt;rw[J4 u.1 A];refine⟨rfl,?_⟩;have E:(args.map a.eval)=(args.toList.map a.eval).toArray:=by rw[<-adq,xJ]
     rw[E];refine Calls.mono (u.2 x y l C q.below _ _ D) fun e I F=>?_
     obtain⟨us,rfl,s,g⟩:=F;unfold ZQ at s;rw[j]at s;rw[atu i.2 s];have L:=p.size;exact⟨rfl,p.trans ⟨g.os,g.tape,g.output,g.size,fun k M=>g.block k (by omega)⟩⟩
    .rename_i H;exact absurd j H
 .cases b
def ayb {C:FuncId->Option Any}(R:∀f u,C f=some u->S3 P w0 f u)(m:kD P C o=true)(h:Inv w0 G st a w)(d:iU P C (rz.RH N) o st k=some r):avt P w0 w a o k r:=by
 unfold iU at d;split at d
 .exact bu.cJ (Jy h _ (.inl ‹_›) d)
 .exact bu.cJ (Jy h _ (.inr ‹_›) d)
 ·
  rename_i c x y e;split at d
  .exact bu.cJ (agD h c x y e ‹_› d)
  .cases d
 ·
  rename_i t x e;simp[kD,e]at m
 ·
  rename_i t e;simp[kD,e]at m
 ·
  rename_i t parts e;split at d
  .split at d
   .exact bu.cJ (abM h t parts e ‹_› ‹_› ‹_› ‹_› d)
   .cases d
  .cases d
 ·
  rename_i t len parts e;simp[kD,e]at m
 ·
  rename_i t x e;split at d
  .rename_i l off I;dsimp only at d;split at d
   .rename_i z;split at d
    .exact bu.cJ (Jz h t x e I z (b:=true) ‹_› (v:=.agg _) rfl d)
    .split at d
     .rename_i E _ y m;exact bu.cJ (Jz h t x e I z (b:=false) E (v:=.c y) ⟨y,m,rfl⟩ d)
     .cases d
    .cases d
   .cases d
  .cases d
 ·
  rename_i t x y e;simp[kD,e]at m
 ·
  rename_i x e;split at d
  .exact bu.cJ (OO h x e ‹_› d)
  .cases d
 ·
  rename_i op F x y H e;split at d
  .exact bu.cJ (abJ h op F x y H e ‹_› ‹_› d)
  .split at d
   .exact bu.cJ (oJ h _ F x y H e ‹_› ‹_› ‹_› (.inl ⟨rfl,rfl⟩) d)
   .exact bu.cJ (oJ h _ F x y H e ‹_› ‹_› ‹_› (.inr ⟨rfl,rfl⟩) d)
   .cases d
  .cases d
 ·
  rename_i op t x e;split at d
  .exact bu.cJ (ano h t x e ‹_› d)
  .exact bu.cJ (anp h t x e ‹_› d)
  .cases d
 ·
  rename_i src dst x e;split at d
  .exact bu.cJ (RM h src dst x e ‹_› ‹_› ‹_› d)
  .exact bu.cJ (RN h src dst x e ‹_› ‹_› ‹_› d)
  .split at d
   .obtain⟨j,d⟩:=aX d;simp[kD,e,(show P.underlying _=some (.slice _) by assumption)]at m
   .cases d
  .split at d
   .exact bu.cJ (abN h src dst x e ‹_› ‹_› ‹_› ‹_› d)
   .cases d
  .cases d
 ·
  rename_i t p q e;simp[kD,e]at m
 ·
  rename_i t x L B e;split at d
  .split at d
   .split at d
    .obtain⟨j,d⟩:=aX d;simp only[aF,bW]at j;exact bu.cJ (VD h t x L B e ‹_› ‹_› ‹_› ‹_› j.1.1 j.1.2 j.2 d)
    .cases d
   .cases d
  .split at d
   .split at d
    .obtain⟨j,d⟩:=aX d;simp only[aF,bW]at j;exact bu.cJ (abL h t x L B e ‹_› ‹_› (aP j.1.1) (bs j.1.2) ‹_› ‹_› j.2.1.1 j.2.1.2 j.2.2 d)
    .cases d
   .split at d
    .split at d
     .obtain⟨j,d⟩:=aX d;simp only[aF,bW]at j;exact bu.cJ (VE h t x B e ‹_› ‹_› ‹_› (aP j.1) ‹_› j.2.1 j.2.2 d)
     .cases d
    .split at d
     .obtain⟨j,d⟩:=aX d;simp only[aF,bW]at j;exact bu.cJ (OR h t x _ B e ‹_› ‹_› ‹_› (aP j.1) ‹_› ‹_› j.2.1.1 j.2.1.2 j.2.2 d)
     .cases d
    .cases d
   .cases d
  .cases d
 ·
  rename_i t x f e;split at d
  .split at d
   .exact bu.cJ (fj h t x f e ‹_› ‹_› (by exact rfl) d)
   .split at d
    .exact bu.cJ (fj h t x f e ‹_› ‹_› (by exact⟨rfl,_,eG ‹_›⟩) d)
    .cases d
   .exact bu.cJ (fj h t x f e ‹_› ‹_› (by exact rfl) d)
   .cases d
  .cases d
 ·
  rename_i t x i e;split at d
  .split at d
   .split at d
    .split at d
     .split at d
      .obtain⟨j,d⟩:=aX d;simp only[aF,bW]at j;exact bu.cJ (OP h t x i e ‹_› ‹_› ‹_› ‹_› ‹_› (aP j.1) j.2.1 j.2.2 d)
      .cases d
     .cases d
    .obtain⟨j,d⟩:=aX d;simp only[aF,bW]at j;exact bu.cJ (RP h t x i e ‹_› ‹_› ‹_› (aP j.1.1) (bs j.1.2) j.2.1 j.2.2 d)
    .cases d
   .split at d
    .obtain⟨j,d⟩:=aX d;simp only[aF,bW]at j;exact bu.cJ (OQ h t x i e ‹_› ‹_› ‹_› (bs j.1) j.2.1 j.2.2 d)
    .cases d
   .cases d
  .cases d
 ·
  rename_i t x i e;split at d
  .obtain⟨j,d⟩:=aX d;simp only[aF,bW]at j;exact bu.cJ (abK h t x i e ‹_› ‹_› ‹_› j.1 j.2 d)
  .cases d
 ·
  rename_i t x f e;split at d
  .rename_i M A;dsimp only at d;split at d
   .rename_i z;split at d
    .exact bu.cJ (B7 h t x f e M A z (b:=true) ‹_› (v:=.agg _) rfl d)
    .split at d
     .rename_i E _ y m;exact bu.cJ (B7 h t x f e M A z (b:=false) E (v:=.c y) ⟨y,m,rfl⟩ d)
     .cases d
    .cases d
   .cases d
  .cases d
 ·
  rename_i x i e;split at d
  .split at d
   .exact bu.cJ (RL h x i e ‹_› ‹_› d)
   .cases d
  .cases d
 ·
  rename_i f args D e;split at d
  .rename_i u n;exact avv (show ajd P w0 f u from R f (.one u) n) (by simpa [kD,e,n]using m) h e d
  .rename_i u n;simp[kD,e,n]at m
  .rename_i u n;simp[kD,e,n]at m
  .rename_i u n;simp[kD,e,n]at m
  .rename_i n;simp[kD,e,n]at m
  .rename_i n;simp[kD,e,n]at m
  .cases d
 ·
  rename_i args D e;split at d
  .rename_i x t A O;split at d
   .split at d
    .exact bu.cJ (Pr h x t e A O ‹_› (.inl ⟨by assumption,_,by assumption⟩) d)
    .cases d
   .split at d
    .cases d
    .rename_i S;exact bu.cJ (Pr h x t e A O ‹_› (.inr ⟨⟨_,by assumption⟩,fun s T=>S s T⟩) d)
   .cases d
  .cases d
 ·
  rename_i args D e;split at d
  .split at d
   .split at d
    .exact bu.cJ (anF h e ‹_› ‹_› ‹_› d)
    .cases d
   .cases d
  .cases d
 ·
  rename_i args D e;split at d
  .split at d
   .split at d
    .exact bu.cJ (anG h e ‹_› ‹_› ‹_› d)
    .cases d
   .cases d
  .cases d
 ·
  rename_i args D e;simp[kD,e]at m
 ·
  rename_i g first W e
  simp[kD,e]at m
 .cases d
def abU {C:FuncId->Option Any}(m:o4 P o=true)(h:Inv w0 G st a w)(d:iU P C (rz.RH N) o st k=some r):bu P w0 w a o k r:=by
 unfold iU at d;split at d
 .exact(Jy h _ (.inl ‹_›) d)
 .exact(Jy h _ (.inr ‹_›) d)
 ·
  rename_i c x y e;split at d
  .exact(agD h c x y e ‹_› d)
  .cases d
 ·
  rename_i t x e;simp[o4,e]at m
 ·
  rename_i t e;simp[o4,e]at m
 ·
  rename_i t parts e;split at d
  .split at d
   .exact(abM h t parts e ‹_› ‹_› ‹_› ‹_› d)
   .cases d
  .cases d
 ·
  rename_i t len parts e;simp[o4,e]at m
 ·
  rename_i t x e;split at d
  .rename_i l off F;dsimp only at d;split at d
   .rename_i n;split at d
    .exact(Jz h t x e F n (b:=true) ‹_› (v:=.agg _) rfl d)
    .split at d
     .rename_i B _ y m;exact(Jz h t x e F n (b:=false) B (v:=.c y) ⟨y,m,rfl⟩ d)
     .cases d
    .cases d
   .cases d
  .cases d
 ·
  rename_i t x y e;simp[o4,e]at m
 ·
  rename_i x e;split at d
  .exact(OO h x e ‹_› d)
  .cases d
 ·
  rename_i op D x y E e;split at d
  .exact(abJ h op D x y E e ‹_› ‹_› d)
  .split at d
   .exact(oJ h _ D x y E e ‹_› ‹_› ‹_› (.inl ⟨rfl,rfl⟩) d)
   .exact(oJ h _ D x y E e ‹_› ‹_› ‹_› (.inr ⟨rfl,rfl⟩) d)
   .cases d
  .cases d
 ·
  rename_i op t x e;split at d
  .exact(ano h t x e ‹_› d)
  .exact(anp h t x e ‹_› d)
  .cases d
 ·
  rename_i src dst x e;split at d
  .exact(RM h src dst x e ‹_› ‹_› ‹_› d)
  .exact(RN h src dst x e ‹_› ‹_› ‹_› d)
  .split at d
   .obtain⟨j,d⟩:=aX d;simp[o4,e,(show P.underlying _=some (.slice _) by assumption)]at m
   .cases d
  .split at d
   .exact(abN h src dst x e ‹_› ‹_› ‹_› ‹_› d)
   .cases d
  .cases d
 ·
  rename_i t p q e;simp[o4,e]at m
 ·
  rename_i t x H z e;split at d
  .split at d
   .split at d
    .obtain⟨j,d⟩:=aX d;simp only[aF,bW]at j;exact(VD h t x H z e ‹_› ‹_› ‹_› ‹_› j.1.1 j.1.2 j.2 d)
    .cases d
   .cases d
  .split at d
   .split at d
    .obtain⟨j,d⟩:=aX d;simp only[aF,bW]at j;exact(abL h t x H z e ‹_› ‹_› (aP j.1.1) (bs j.1.2) ‹_› ‹_› j.2.1.1 j.2.1.2 j.2.2 d)
    .cases d
   .split at d
    .split at d
     .obtain⟨j,d⟩:=aX d;simp only[aF,bW]at j;exact(VE h t x z e ‹_› ‹_› ‹_› (aP j.1) ‹_› j.2.1 j.2.2 d)
     .cases d
    .split at d
     .obtain⟨j,d⟩:=aX d;simp only[aF,bW]at j;exact(OR h t x _ z e ‹_› ‹_› ‹_› (aP j.1) ‹_› ‹_› j.2.1.1 j.2.1.2 j.2.2 d)
     .cases d
    .cases d
   .cases d
  .cases d
 ·
  rename_i t x f e;split at d
  .split at d
   .exact(fj h t x f e ‹_› ‹_› (by exact rfl) d)
   .split at d
    .exact(fj h t x f e ‹_› ‹_› (by exact⟨rfl,_,eG ‹_›⟩) d)
    .cases d
   .exact(fj h t x f e ‹_› ‹_› (by exact rfl) d)
   .cases d
  .cases d
 ·
  rename_i t x i e;split at d
  .split at d
   .split at d
    .split at d
     .split at d
      .obtain⟨j,d⟩:=aX d;simp only[aF,bW]at j;exact(OP h t x i e ‹_› ‹_› ‹_› ‹_› ‹_› (aP j.1) j.2.1 j.2.2 d)
      .cases d
     .cases d
    .obtain⟨j,d⟩:=aX d;simp only[aF,bW]at j;exact(RP h t x i e ‹_› ‹_› ‹_› (aP j.1.1) (bs j.1.2) j.2.1 j.2.2 d)
    .cases d
   .split at d
    .obtain⟨j,d⟩:=aX d;simp only[aF,bW]at j;exact(OQ h t x i e ‹_› ‹_› ‹_› (bs j.1) j.2.1 j.2.2 d)
    .cases d
   .cases d
  .cases d
 ·
  rename_i t x i e;split at d
  .obtain⟨j,d⟩:=aX d;simp only[aF,bW]at j;exact(abK h t x i e ‹_› ‹_› ‹_› j.1 j.2 d)
  .cases d
 ·
  rename_i t x f e;split at d
  .rename_i I u;dsimp only at d;split at d
   .rename_i n;split at d
    .exact(B7 h t x f e I u n (b:=true) ‹_› (v:=.agg _) rfl d)
    .split at d
     .rename_i B _ y m;exact(B7 h t x f e I u n (b:=false) B (v:=.c y) ⟨y,m,rfl⟩ d)
     .cases d
    .cases d
   .cases d
  .cases d
 ·
  rename_i x i e;split at d
  .split at d
   .exact(RL h x i e ‹_› ‹_› d)
   .cases d
  .cases d
 ·
  rename_i f args A e;simp[o4,e]at m
 ·
  rename_i args A e;split at d
  .rename_i x t u L;split at d
   .split at d
    .exact(Pr h x t e u L ‹_› (.inl ⟨by assumption,_,by assumption⟩) d)
    .cases d
   .split at d
    .cases d
    .rename_i M;exact(Pr h x t e u L ‹_› (.inr ⟨⟨_,by assumption⟩,fun s O=>M s O⟩) d)
   .cases d
  .cases d
 ·
  rename_i args A e;split at d
  .split at d
   .split at d
    .exact(anF h e ‹_› ‹_› ‹_› d)
    .cases d
   .cases d
  .cases d
 ·
  rename_i args A e;split at d
  .split at d
   .split at d
    .exact(anG h e ‹_› ‹_› ‹_› d)
    .cases d
   .cases d
  .cases d
 ·
  rename_i args A e;simp[o4,e]at m
 ·
  rename_i g first R e
  simp[o4,e]at m
 .cases d
def avw {C:FuncId->Option Any}(n:o4 P o=true)(e:JW st o=true)(h:Inv w0 G st a w)(b:iU P C (rz.RH N) o st k=some r):anm P w0 G w a o k r:=by
 cases c:o.op with
 |load t x =>
  simp only[JW,c]at e;split at e
  .rename_i f D E F i;simp only[iU,c]at b;split at b
   .rename_i l off j;split at b
    .rename_i m;split at b
     .rename_i g;exact aCT h t x c j m g rfl i b
     .rename_i g;split at b
      .rename_i y p;exact aCT h t x c j m g ⟨y,p,rfl⟩ i b
      .cases b
     .cases b
    .cases b
   .cases b
  .cases e
 |convert s d x=>simp[JW,c]at e
 |_ =>
  obtain⟨v,q,da,u,z,A⟩:=abU n h b;exact⟨v,q,da,fun B _=>u B (by unfold ai9;rw[c];trivial),z,A⟩
end
end Go.Am
