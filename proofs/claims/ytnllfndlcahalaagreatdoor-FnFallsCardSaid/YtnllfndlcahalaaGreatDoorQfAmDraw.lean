/- No condition. -/
import Derived.Test.YtnllfndlcahalaaGreatDoorQfAmRun
set_option linter.all false
namespace Go.Am
open Go.RowKit
section
variable {N:Nat} {P:Program} {w0:fc} {w:World} {G:Gh} {st:St} {a:Act} {U:Type} {k:St->Option U} {r:U} {K:Act->World->Prop} {Q:Exit->Act->World->Prop} {o:Oper}
def avo (P:Program)(w0:fc)(w:World)(a:Act)(o:Oper){U:Type}(k:St->Option U)(r:U):Prop :=
 ∃v c dd,(∀b,Below w.heap.size w b->o.quietAt P a (fun d=>Below w.heap.size w d) b v)/\Inv w0 c dd (a.put o.dst v) w/\k dd=some r
def bw.cK (h:bw P w0 w a o k r):avo P w0 w a o k r:=by obtain⟨v,b,dd,c,d,e⟩:=h;refine⟨v,b,dd,fun f g=>?_,d,e⟩;unfold Oper.quietAt;rw[c f (yd g)];exact⟨rfl,rfl⟩
def atl:(t:Ty)->t.D->List Value
 |.int k,x=>[.int k x]|.bool,x=>[.bool x]|.str,x=>[.string x]|.unit,_=>[]|.pair a b,x=>atl a x.1++atl b x.2|.sl _ _,_=>[]
def anD {ok:Nat->Prop}:∀{t:Ty} {x:t.D} {cs:List Value},flat t=true->Rd w ok t x cs->cs=atl t x
 |.int _,_,_,_,h=>h|.bool,_,_,_,h=>h|.str,_,_,_,h=>h|.unit,_,_,_,h=>h|.pair a b,_,_,c,h=>by obtain⟨g,i,rfl,e,f⟩:=h;have d:(flat a&&flat b)=true:=c;rw[aG]at d;rw[anD d.1 e,anD d.2 f];rfl
 |.sl _ _,_,_,c,_=>by cases c
def anE {ok:Nat->Prop}:∀{t:Ty} {x:t.D},flat t=true->Rd w ok t x (atl t x)
 |.int _,_,_=>rfl|.bool,_,_=>rfl|.str,_,_=>rfl|.unit,_,_=>rfl|.pair a b,_,c=>by have d:(flat a&&flat b)=true:=c;rw[aG]at d;exact⟨_,_,rfl,anE d.1,anE d.2⟩
 |.sl _ _,_,c=>by cases c
def avp:(rs:List (Ty×Bool))->Args rs->List Value
 |[],_=>[]|a::l,x=>(match a.2 with|true=>.agg (atl a.1 x.1).toArray|false=>(atl a.1 x.1).headD undef)::avp l x.2
def atm {ok:Nat->Prop}:∀{rs:List (Ty×Bool)} {x:Args rs} {vs:List Value},(rs.all fun a=>flat a.1)=true->ed w ok rs x vs->vs=avp rs x
 |[],_,_,_,h=>h|a::l,x,vs,b,h=>by obtain⟨v,f,rfl,⟨cs,c,d⟩,e⟩:=h;rw[List.all_cons,aG]at b;rw[atm b.2 e,d,anD b.1 c];rfl
def atn {ok:Nat->Prop}:∀{rs:List (Ty×Bool)} {x:Args rs},(rs.all fun a=>flat a.1)=true->ed w ok rs x (avp rs x)
 |[],_,_=>rfl|a::l,x,b=>by rw[List.all_cons,aG]at b;exact⟨_,_,rfl,⟨_,anE b.1,rfl⟩,atn b.2⟩
def avq {f:FuncId}{con:Con}(u:ajc P w0 f con)(i:(Nat.beq con.m 1&&con.rs.all fun a=>flat a.1)=true)(h:Inv w0 G st a w){args:Array Operand}{ts:Array TypeId}(A:o.op=.call {callee:=.value (.func f),args:=args,argTypes:=ts})
  (b:Yu con st o.dst args.toList k=some r):avo P w0 w a o k r:=by
 rw[aG]at i;have j:=aO i.1;unfold Yu at b;split at b
 .rename_i x B;cases l:con.g x with
  |none=>rw[l]at b;cases b
  |some y =>
   rw[l]at b;simp only[am3]at b;cases m:o.dst with
   |none=>rw[m]at b;cases b
   |some d =>
    rw[m]at b;dsimp only at b;split at b
    .rename_i z;rw[j]at z;cases z
    .obtain⟨n,b⟩:=aX b;simp only[aG]at n;have hrel:=Dk (f:=true) (G:=G) (bx:=st.bx) (bl:=st.bl) n.2 (atn (w:=w) (x:=y) i.2);refine⟨fp (avp con.rs y),G,_,fun C p=>?_,by rw[m];exact h.put d (gO n.1) (ye (R:=fun _ _=>True) hrel),b⟩;have q:=h.more p;have D:=JF (ok:=fun _=>True) q con.ps args.toList x (fun t c v xs _=>VI q t c v xs) B;unfold Oper.quietAt;rw[J9 u.1 A];refine⟨rfl,?_⟩;have E:(args.map a.eval)=(args.toList.map a.eval).toArray:=by rw[<-adq,x6]
     rw[E];refine Calls.mono (u.2 x y l C q.below _ _ D) fun e I F=>?_
     obtain⟨us,rfl,s,g⟩:=F;unfold ZS at s;rw[j]at s;rw[atm i.2 s];have L:=p.size;exact⟨rfl,p.trans ⟨g.os,g.tape,g.output,g.size,fun k M=>g.block k (by omega)⟩⟩
    .rename_i H;exact absurd j H
 .cases b
def ax4 {C:FuncId->Option Any}(R:∀f u,C f=some u->S4 P w0 f u)(m:kH P C o=true)(h:Inv w0 G st a w)(d:iZ P C (rH.RJ N) o st k=some r):avo P w0 w a o k r:=by
 unfold iZ at d;split at d
 .exact bw.cK (JC h _ (.inl ‹_›) d)
 .exact bw.cK (JC h _ (.inr ‹_›) d)
 ·
  rename_i c x y e;split at d
  .exact bw.cK (agB h c x y e ‹_› d)
  .cases d
 ·
  rename_i t x e;simp[kH,e]at m
 ·
  rename_i t e;simp[kH,e]at m
 ·
  rename_i t parts e;split at d
  .split at d
   .exact bw.cK (abN h t parts e ‹_› ‹_› ‹_› ‹_› d)
   .cases d
  .cases d
 ·
  rename_i t len parts e;simp[kH,e]at m
 ·
  rename_i t x e;split at d
  .rename_i l off I;dsimp only at d;split at d
   .rename_i z;split at d
    .exact bw.cK (JD h t x e I z (b:=true) ‹_› (v:=.agg _) rfl d)
    .split at d
     .rename_i E _ y m;exact bw.cK (JD h t x e I z (b:=false) E (v:=.c y) ⟨y,m,rfl⟩ d)
     .cases d
    .cases d
   .cases d
  .cases d
 ·
  rename_i t x y e;simp[kH,e]at m
 ·
  rename_i x e;split at d
  .exact bw.cK (OR h x e ‹_› d)
  .cases d
 ·
  rename_i op F x y H e;split at d
  .exact bw.cK (abK h op F x y H e ‹_› ‹_› d)
  .split at d
   .exact bw.cK (oO h _ F x y H e ‹_› ‹_› ‹_› (.inl ⟨rfl,rfl⟩) d)
   .exact bw.cK (oO h _ F x y H e ‹_› ‹_› ‹_› (.inr ⟨rfl,rfl⟩) d)
   .cases d
  .cases d
 ·
  rename_i op t x e;split at d
  .exact bw.cK (ank h t x e ‹_› d)
  .exact bw.cK (anl h t x e ‹_› d)
  .cases d
 ·
  rename_i src dst x e;split at d
  .exact bw.cK (RN h src dst x e ‹_› ‹_› ‹_› d)
  .exact bw.cK (RP h src dst x e ‹_› ‹_› ‹_› d)
  .split at d
   .obtain⟨j,d⟩:=aX d;simp[kH,e,(show P.underlying _=some (.slice _) by assumption)]at m
   .cases d
  .split at d
   .exact bw.cK (abO h src dst x e ‹_› ‹_› ‹_› ‹_› d)
   .cases d
  .cases d
 ·
  rename_i t p q e;simp[kH,e]at m
 ·
  rename_i t x L B e;split at d
  .split at d
   .split at d
    .obtain⟨j,d⟩:=aX d;simp only[aG,bV]at j;exact bw.cK (VD h t x L B e ‹_› ‹_› ‹_› ‹_› j.1.1 j.1.2 j.2 d)
    .cases d
   .cases d
  .split at d
   .split at d
    .obtain⟨j,d⟩:=aX d;simp only[aG,bV]at j;exact bw.cK (abM h t x L B e ‹_› ‹_› (aO j.1.1) (bu j.1.2) ‹_› ‹_› j.2.1.1 j.2.1.2 j.2.2 d)
    .cases d
   .split at d
    .split at d
     .obtain⟨j,d⟩:=aX d;simp only[aG,bV]at j;exact bw.cK (VE h t x B e ‹_› ‹_› ‹_› (aO j.1) ‹_› j.2.1 j.2.2 d)
     .cases d
    .split at d
     .obtain⟨j,d⟩:=aX d;simp only[aG,bV]at j;exact bw.cK (OU h t x _ B e ‹_› ‹_› ‹_› (aO j.1) ‹_› ‹_› j.2.1.1 j.2.1.2 j.2.2 d)
     .cases d
    .cases d
   .cases d
  .cases d
 ·
  rename_i t x f e;split at d
  .split at d
   .exact bw.cK (fo h t x f e ‹_› ‹_› (by exact rfl) d)
   .split at d
    .exact bw.cK (fo h t x f e ‹_› ‹_› (by exact⟨rfl,_,eG ‹_›⟩) d)
    .cases d
   .exact bw.cK (fo h t x f e ‹_› ‹_› (by exact rfl) d)
   .cases d
  .cases d
 ·
  rename_i t x i e;split at d
  .split at d
   .split at d
    .split at d
     .split at d
      .obtain⟨j,d⟩:=aX d;simp only[aG,bV]at j;exact bw.cK (OS h t x i e ‹_› ‹_› ‹_› ‹_› ‹_› (aO j.1) j.2.1 j.2.2 d)
      .cases d
     .cases d
    .obtain⟨j,d⟩:=aX d;simp only[aG,bV]at j;exact bw.cK (RQ h t x i e ‹_› ‹_› ‹_› (aO j.1.1) (bu j.1.2) j.2.1 j.2.2 d)
    .cases d
   .split at d
    .obtain⟨j,d⟩:=aX d;simp only[aG,bV]at j;exact bw.cK (OT h t x i e ‹_› ‹_› ‹_› (bu j.1) j.2.1 j.2.2 d)
    .cases d
   .cases d
  .cases d
 ·
  rename_i t x i e;split at d
  .obtain⟨j,d⟩:=aX d;simp only[aG,bV]at j;exact bw.cK (abL h t x i e ‹_› ‹_› ‹_› j.1 j.2 d)
  .cases d
 ·
  rename_i t x f e;split at d
  .rename_i M A;dsimp only at d;split at d
   .rename_i z;split at d
    .exact bw.cK (Ce h t x f e M A z (b:=true) ‹_› (v:=.agg _) rfl d)
    .split at d
     .rename_i E _ y m;exact bw.cK (Ce h t x f e M A z (b:=false) E (v:=.c y) ⟨y,m,rfl⟩ d)
     .cases d
    .cases d
   .cases d
  .cases d
 ·
  rename_i x i e;split at d
  .split at d
   .exact bw.cK (RM h x i e ‹_› ‹_› d)
   .cases d
  .cases d
 ·
  rename_i f args D e;split at d
  .rename_i u n;exact avq (show ajc P w0 f u from R f (.one u) n) (by simpa [kH,e,n]using m) h e d
  .rename_i u n;simp[kH,e,n]at m
  .rename_i u n;simp[kH,e,n]at m
  .rename_i u n;simp[kH,e,n]at m
  .rename_i n;simp[kH,e,n]at m
  .rename_i n;simp[kH,e,n]at m
  .cases d
 ·
  rename_i args D e;split at d
  .rename_i x t A O;split at d
   .split at d
    .exact bw.cK (Pu h x t e A O ‹_› (.inl ⟨by assumption,_,by assumption⟩) d)
    .cases d
   .split at d
    .cases d
    .rename_i S;exact bw.cK (Pu h x t e A O ‹_› (.inr ⟨⟨_,by assumption⟩,fun s T=>S s T⟩) d)
   .cases d
  .cases d
 ·
  rename_i args D e;split at d
  .split at d
   .split at d
    .exact bw.cK (anB h e ‹_› ‹_› ‹_› d)
    .cases d
   .cases d
  .cases d
 ·
  rename_i args D e;split at d
  .split at d
   .split at d
    .exact bw.cK (anC h e ‹_› ‹_› ‹_› d)
    .cases d
   .cases d
  .cases d
 ·
  rename_i args D e;simp[kH,e]at m
 ·
  rename_i g first W e
  simp[kH,e]at m
 .cases d
def abV {C:FuncId->Option Any}(m:pa P o=true)(h:Inv w0 G st a w)(d:iZ P C (rH.RJ N) o st k=some r):bw P w0 w a o k r:=by
 unfold iZ at d;split at d
 .exact(JC h _ (.inl ‹_›) d)
 .exact(JC h _ (.inr ‹_›) d)
 ·
  rename_i c x y e;split at d
  .exact(agB h c x y e ‹_› d)
  .cases d
 ·
  rename_i t x e;simp[pa,e]at m
 ·
  rename_i t e;simp[pa,e]at m
 ·
  rename_i t parts e;split at d
  .split at d
   .exact(abN h t parts e ‹_› ‹_› ‹_› ‹_› d)
   .cases d
  .cases d
 ·
  rename_i t len parts e;simp[pa,e]at m
 ·
  rename_i t x e;split at d
  .rename_i l off F;dsimp only at d;split at d
   .rename_i n;split at d
    .exact(JD h t x e F n (b:=true) ‹_› (v:=.agg _) rfl d)
    .split at d
     .rename_i B _ y m;exact(JD h t x e F n (b:=false) B (v:=.c y) ⟨y,m,rfl⟩ d)
     .cases d
    .cases d
   .cases d
  .cases d
 ·
  rename_i t x y e;simp[pa,e]at m
 ·
  rename_i x e;split at d
  .exact(OR h x e ‹_› d)
  .cases d
 ·
  rename_i op D x y E e;split at d
  .exact(abK h op D x y E e ‹_› ‹_› d)
  .split at d
   .exact(oO h _ D x y E e ‹_› ‹_› ‹_› (.inl ⟨rfl,rfl⟩) d)
   .exact(oO h _ D x y E e ‹_› ‹_› ‹_› (.inr ⟨rfl,rfl⟩) d)
   .cases d
  .cases d
 ·
  rename_i op t x e;split at d
  .exact(ank h t x e ‹_› d)
  .exact(anl h t x e ‹_› d)
  .cases d
 ·
  rename_i src dst x e;split at d
  .exact(RN h src dst x e ‹_› ‹_› ‹_› d)
  .exact(RP h src dst x e ‹_› ‹_› ‹_› d)
  .split at d
   .obtain⟨j,d⟩:=aX d;simp[pa,e,(show P.underlying _=some (.slice _) by assumption)]at m
   .cases d
  .split at d
   .exact(abO h src dst x e ‹_› ‹_› ‹_› ‹_› d)
   .cases d
  .cases d
 ·
  rename_i t p q e;simp[pa,e]at m
 ·
  rename_i t x H z e;split at d
  .split at d
   .split at d
    .obtain⟨j,d⟩:=aX d;simp only[aG,bV]at j;exact(VD h t x H z e ‹_› ‹_› ‹_› ‹_› j.1.1 j.1.2 j.2 d)
    .cases d
   .cases d
  .split at d
   .split at d
    .obtain⟨j,d⟩:=aX d;simp only[aG,bV]at j;exact(abM h t x H z e ‹_› ‹_› (aO j.1.1) (bu j.1.2) ‹_› ‹_› j.2.1.1 j.2.1.2 j.2.2 d)
    .cases d
   .split at d
    .split at d
     .obtain⟨j,d⟩:=aX d;simp only[aG,bV]at j;exact(VE h t x z e ‹_› ‹_› ‹_› (aO j.1) ‹_› j.2.1 j.2.2 d)
     .cases d
    .split at d
     .obtain⟨j,d⟩:=aX d;simp only[aG,bV]at j;exact(OU h t x _ z e ‹_› ‹_› ‹_› (aO j.1) ‹_› ‹_› j.2.1.1 j.2.1.2 j.2.2 d)
     .cases d
    .cases d
   .cases d
  .cases d
 ·
  rename_i t x f e;split at d
  .split at d
   .exact(fo h t x f e ‹_› ‹_› (by exact rfl) d)
   .split at d
    .exact(fo h t x f e ‹_› ‹_› (by exact⟨rfl,_,eG ‹_›⟩) d)
    .cases d
   .exact(fo h t x f e ‹_› ‹_› (by exact rfl) d)
   .cases d
  .cases d
 ·
  rename_i t x i e;split at d
  .split at d
   .split at d
    .split at d
     .split at d
      .obtain⟨j,d⟩:=aX d;simp only[aG,bV]at j;exact(OS h t x i e ‹_› ‹_› ‹_› ‹_› ‹_› (aO j.1) j.2.1 j.2.2 d)
      .cases d
     .cases d
    .obtain⟨j,d⟩:=aX d;simp only[aG,bV]at j;exact(RQ h t x i e ‹_› ‹_› ‹_› (aO j.1.1) (bu j.1.2) j.2.1 j.2.2 d)
    .cases d
   .split at d
    .obtain⟨j,d⟩:=aX d;simp only[aG,bV]at j;exact(OT h t x i e ‹_› ‹_› ‹_› (bu j.1) j.2.1 j.2.2 d)
    .cases d
   .cases d
  .cases d
 ·
  rename_i t x i e;split at d
  .obtain⟨j,d⟩:=aX d;simp only[aG,bV]at j;exact(abL h t x i e ‹_› ‹_› ‹_› j.1 j.2 d)
  .cases d
 ·
  rename_i t x f e;split at d
  .rename_i I u;dsimp only at d;split at d
   .rename_i n;split at d
    .exact(Ce h t x f e I u n (b:=true) ‹_› (v:=.agg _) rfl d)
    .split at d
     .rename_i B _ y m;exact(Ce h t x f e I u n (b:=false) B (v:=.c y) ⟨y,m,rfl⟩ d)
     .cases d
    .cases d
   .cases d
  .cases d
 ·
  rename_i x i e;split at d
  .split at d
   .exact(RM h x i e ‹_› ‹_› d)
   .cases d
  .cases d
 ·
  rename_i f args A e;simp[pa,e]at m
 ·
  rename_i args A e;split at d
  .rename_i x t u L;split at d
   .split at d
    .exact(Pu h x t e u L ‹_› (.inl ⟨by assumption,_,by assumption⟩) d)
    .cases d
   .split at d
    .cases d
    .rename_i M;exact(Pu h x t e u L ‹_› (.inr ⟨⟨_,by assumption⟩,fun s O=>M s O⟩) d)
   .cases d
  .cases d
 ·
  rename_i args A e;split at d
  .split at d
   .split at d
    .exact(anB h e ‹_› ‹_› ‹_› d)
    .cases d
   .cases d
  .cases d
 ·
  rename_i args A e;split at d
  .split at d
   .split at d
    .exact(anC h e ‹_› ‹_› ‹_› d)
    .cases d
   .cases d
  .cases d
 ·
  rename_i args A e;simp[pa,e]at m
 ·
  rename_i g first R e
  simp[pa,e]at m
 .cases d
def avr {C:FuncId->Option Any}(n:pa P o=true)(e:J1 st o=true)(h:Inv w0 G st a w)(b:iZ P C (rH.RJ N) o st k=some r):ani P w0 G w a o k r:=by
 cases c:o.op with
 |load t x =>
  simp only[J1,c]at e;split at e
  .rename_i f D E F i;simp only[iZ,c]at b;split at b
   .rename_i l off j;split at b
    .rename_i m;split at b
     .rename_i g;exact aCX h t x c j m g rfl i b
     .rename_i g;split at b
      .rename_i y p;exact aCX h t x c j m g ⟨y,p,rfl⟩ i b
      .cases b
     .cases b
    .cases b
   .cases b
  .cases e
 |convert s d x=>simp[J1,c]at e
 |_ =>
  obtain⟨v,q,dd,u,z,A⟩:=abV n h b;exact⟨v,q,dd,fun B _=>u B (by unfold ai8;rw[c];trivial),z,A⟩
end
end Go.Am
