/- No condition. -/
import Derived.Test.YtpkabclplaibaaaGreatDoorQjAmRun
set_option linter.all false
namespace Go.Am
open Go.RowKit
variable [ec]
section
variable {N:Nat} {P:Program} {w0:dU} {w:World} {G:Gh} {st:St} {a:Act} {U:Type} {k:St->Option U} {r:U} {K:Act->World->Prop} {Q:Exit->Act->World->Prop} {o:Oper}
def anY (P:Program)(w0:dU)(w:World)(a:Act)(o:Oper){U:Type}(k:St->Option U)(r:U):Prop :=
 ∃v c b9,(∀b,Below w.heap.size w b->o.quietAt P a (fun d=>Below w.heap.size w d) b v)/\Inv w0 c b9 (a.put o.dst v) w/\k b9=some r
def bg.cy (h:bg P w0 w a o k r):anY P w0 w a o k r:=by obtain⟨v,b,b9,c,d,e⟩:=h;refine⟨v,b,b9,fun f g=>?_,d,e⟩;unfold Oper.quietAt;rw[c f (vy g)];exact⟨rfl,rfl⟩
def amg:(t:Ty)->t.D->List Value
 |.int k,x=>[.int k x]|.bool,x=>[.bool x]|.str,x=>[.string x]|.unit,_=>[]|.pair a b,x=>amg a x.1++amg b x.2|.sl _ _,_=>[]
def ahg {ok:Nat->Prop}:∀{t:Ty} {x:t.D} {cs:List Value},flat t=true->Rd w ok t x cs->cs=amg t x
 |.int _,_,_,_,h=>h|.bool,_,_,_,h=>h|.str,_,_,_,h=>h|.unit,_,_,_,h=>h|.pair a b,_,_,c,h=>by obtain⟨g,i,rfl,e,f⟩:=h;have d:(flat a&&flat b)=true:=c;rw[aD]at d;rw[ahg d.1 e,ahg d.2 f];rfl
 |.sl _ _,_,_,c,_=>by cases c
def ahh {ok:Nat->Prop}:∀{t:Ty} {x:t.D},flat t=true->Rd w ok t x (amg t x)
 |.int _,_,_=>rfl|.bool,_,_=>rfl|.str,_,_=>rfl|.unit,_,_=>rfl|.pair a b,_,c=>by have d:(flat a&&flat b)=true:=c;rw[aD]at d;exact⟨_,_,rfl,ahh d.1,ahh d.2⟩
 |.sl _ _,_,c=>by cases c
def anZ:(rs:List (Ty×Bool))->Args rs->List Value
 |[],_=>[]|a::l,x=>(match a.2 with|true=>.agg (amg a.1 x.1).toArray|false=>(amg a.1 x.1).headD undef)::anZ l x.2
def amh {ok:Nat->Prop}:∀{rs:List (Ty×Bool)} {x:Args rs} {vs:List Value},(rs.all fun a=>flat a.1)=true->dk w ok rs x vs->vs=anZ rs x
 |[],_,_,_,h=>h|a::l,x,vs,b,h=>by obtain⟨v,f,rfl,⟨cs,c,d⟩,e⟩:=h;rw[List.all_cons,aD]at b;rw[amh b.2 e,d,ahg b.1 c];rfl
def ami {ok:Nat->Prop}:∀{rs:List (Ty×Bool)} {x:Args rs},(rs.all fun a=>flat a.1)=true->dk w ok rs x (anZ rs x)
 |[],_,_=>rfl|a::l,x,b=>by rw[List.all_cons,aD]at b;exact⟨_,_,rfl,⟨_,ahh b.1,rfl⟩,ami b.2⟩
def an0 {f:FuncId}{con:Con}(u:adI P w0 f con)(i:(Nat.beq con.m 1&&con.rs.all fun a=>flat a.1)=true)(h:Inv w0 G st a w){args:Array Operand}{ts:Array TypeId}(A:o.op=.call {callee:=.value (.func f),args:=args,argTypes:=ts})
  (b:Ul con st o.dst args.toList k=some r):anY P w0 w a o k r:=by
 rw[aD]at i;have j:=aH i.1;unfold Ul at b;split at b
 .rename_i x B;cases l:con.g x with
  |none=>rw[l]at b;cases b
  |some y =>
   rw[l]at b;simp only[agG]at b;cases m:o.dst with
   |none=>rw[m]at b;cases b
   |some d =>
    rw[m]at b;dsimp only at b;split at b
    .rename_i z;rw[j]at z;cases z
    .obtain⟨n,b⟩:=aQ b;simp only[aD]at n;have hrel:=BD (f:=true) (G:=G) (bx:=st.bx) (bl:=st.bl) n.2 (ami (w:=w) (x:=y) i.2);refine⟨ed (anZ con.rs y),G,_,fun C p=>?_,by rw[m];exact h.put d (fh n.1) (vz (R:=fun _ _=>True) hrel),b⟩;have q:=h.more p;have D:=Ht (ok:=fun _=>True) q con.ps args.toList x (fun e t c v xs _=>RD q e t c v xs) B;unfold Oper.quietAt;rw[HO u.1 A];refine⟨rfl,?_⟩;have E:(args.map a.eval)=(args.toList.map a.eval).toArray:=by rw[<-adA,vq]
     rw[E];refine Calls.mono (u.2 x y l C q.below _ _ D) fun e I F=>?_
     obtain⟨us,rfl,s,g⟩:=F;unfold VI at s;rw[j]at s;rw[amh i.2 s];have L:=p.size;exact⟨rfl,p.trans ⟨g.os,g.tape,g.output,g.size,fun k M=>g.block k (by omega)⟩⟩
    .rename_i H;exact absurd j H
 .cases b
def ap9 {C:FuncId->Option Any}(R:∀f u,C f=some u->My P w0 f u)(m:ju P C o=true)(h:Inv w0 G st a w)(d:fa P C (nP.JE N) o st k=some r):anY P w0 w a o k r:=by
 unfold fa at d;split at d
 .exact bg.cy (Hq h _ (.inl ‹_›) d)
 .exact bg.cy (Hq h _ (.inr ‹_›) d)
 ·
  rename_i c x y e;split at d
  .exact bg.cy (abv h c x y e ‹_› d)
  .cases d
 ·
  rename_i t x e;simp[ju,e]at m
 ·
  rename_i t e;simp[ju,e]at m
 ·
  rename_i t parts e;split at d
  .split at d
   .exact bg.cy (Xo h t parts e ‹_› ‹_› ‹_› ‹_› d)
   .cases d
  .cases d
 ·
  rename_i t len parts e;simp[ju,e]at m
 ·
  rename_i t x e;split at d
  .rename_i l off I;dsimp only at d;split at d
   .rename_i z;split at d
    .exact bg.cy (Hr h t x e I z (b:=true) ‹_› (v:=.agg _) rfl d)
    .split at d
     .rename_i E _ y m;exact bg.cy (Hr h t x e I z (b:=false) E (v:=.c y) ⟨y,m,rfl⟩ d)
     .cases d
    .cases d
   .cases d
  .cases d
 ·
  rename_i t x y e;simp[ju,e]at m
 ·
  rename_i x e;split at d
  .exact bg.cy (L0 h x e ‹_› d)
  .cases d
 ·
  rename_i op F x y H e;split at d
  .exact bg.cy (Xl h op F x y H e ‹_› ‹_› d)
  .split at d
   .exact bg.cy (nA h _ F x y H e ‹_› ‹_› ‹_› (.inl ⟨rfl,rfl⟩) d)
   .exact bg.cy (nA h _ F x y H e ‹_› ‹_› ‹_› (.inr ⟨rfl,rfl⟩) d)
   .cases d
  .cases d
 ·
  rename_i op t x e;split at d
  .exact bg.cy (agY h t x e ‹_› d)
  .exact bg.cy (agZ h t x e ‹_› d)
  .cases d
 ·
  rename_i src dst x e;split at d
  .exact bg.cy (Oj h src dst x e ‹_› ‹_› ‹_› d)
  .exact bg.cy (Ok h src dst x e ‹_› ‹_› ‹_› d)
  .split at d
   .obtain⟨j,d⟩:=aQ d;simp[ju,e,(show P.underlying _=some (.slice _) by assumption)]at m
   .cases d
  .split at d
   .exact bg.cy (Xp h src dst x e ‹_› ‹_› ‹_› ‹_› d)
   .cases d
  .cases d
 ·
  rename_i t p q e;simp[ju,e]at m
 ·
  rename_i t x L B e;split at d
  .split at d
   .split at d
    .obtain⟨j,d⟩:=aQ d;simp only[aD,bJ]at j;exact bg.cy (RA h t x L B e ‹_› ‹_› ‹_› ‹_› j.1.1 j.1.2 j.2 d)
    .cases d
   .cases d
  .split at d
   .split at d
    .obtain⟨j,d⟩:=aQ d;simp only[aD,bJ]at j;exact bg.cy (Xn h t x L B e ‹_› ‹_› (aH j.1.1.1) (bo j.1.1.2) (ax5 j.1.2) ‹_› ‹_› j.2.1.1 j.2.1.2 j.2.2 d)
    .cases d
   .split at d
    .split at d
     .obtain⟨j,d⟩:=aQ d;simp only[aD,bJ]at j;exact bg.cy (RB h t x B e ‹_› ‹_› ‹_› (aH j.1) ‹_› j.2.1 j.2.2 d)
     .cases d
    .split at d
     .obtain⟨j,d⟩:=aQ d;simp only[aD,bJ]at j;exact bg.cy (L4 h t x _ B e ‹_› ‹_› ‹_› (aH j.1.1) (as1 j.1.2) ‹_› ‹_› j.2.1.1 j.2.1.2 j.2.2 d)
     .cases d
    .cases d
   .cases d
  .cases d
 ·
  rename_i t x f e;split at d
  .split at d
   .exact bg.cy (eF h t x f e ‹_› ‹_› (by exact rfl) d)
   .split at d
    .exact bg.cy (eF h t x f e ‹_› ‹_› (by exact⟨rfl,_,dj ‹_›⟩) d)
    .cases d
   .exact bg.cy (eF h t x f e ‹_› ‹_› (by exact rfl) d)
   .cases d
  .cases d
 ·
  rename_i t x i e;split at d
  .split at d
   .split at d
    .split at d
     .split at d
      .obtain⟨j,d⟩:=aQ d;simp only[aD,bJ]at j;exact bg.cy (L1 h t x i e ‹_› ‹_› ‹_› ‹_› ‹_› (aH j.1) j.2.1 j.2.2 d)
      .cases d
     .cases d
    .obtain⟨j,d⟩:=aQ d;simp only[aD,bJ]at j;exact bg.cy (Ol h t x i e ‹_› ‹_› ‹_› (aH j.1.1) (bo j.1.2) j.2.1 j.2.2 d)
    .cases d
   .split at d
    .obtain⟨j,d⟩:=aQ d;simp only[aD,bJ]at j;exact bg.cy (L3 h t x i e ‹_› ‹_› ‹_› (bo j.1) j.2.1 j.2.2 d)
    .cases d
   .cases d
  .cases d
 ·
  rename_i t x i e;split at d
  .obtain⟨j,d⟩:=aQ d;simp only[aD,bJ]at j;exact bg.cy (Xm h t x i e ‹_› ‹_› ‹_› j.1 j.2 d)
  .cases d
 ·
  rename_i t x f e;split at d
  .rename_i M A;dsimp only at d;split at d
   .rename_i z;split at d
    .exact bg.cy (AB h t x f e M A z (b:=true) ‹_› (v:=.agg _) rfl d)
    .split at d
     .rename_i E _ y m;exact bg.cy (AB h t x f e M A z (b:=false) E (v:=.c y) ⟨y,m,rfl⟩ d)
     .cases d
    .cases d
   .cases d
  .cases d
 ·
  rename_i x i e;split at d
  .split at d
   .exact bg.cy (Oi h x i e ‹_› ‹_› d)
   .cases d
  .cases d
 ·
  rename_i f args D e;split at d
  .rename_i u n;exact an0 (show adI P w0 f u from R f (.one u) n) (by simpa [ju,e,n]using m) h e d
  .rename_i u n;simp[ju,e,n]at m
  .rename_i u n;simp[ju,e,n]at m
  .rename_i u n;simp[ju,e,n]at m
  .rename_i n;simp[ju,e,n]at m
  .rename_i n;simp[ju,e,n]at m
  .cases d
 ·
  rename_i args D e;split at d
  .rename_i x t A O;split at d
   .split at d
    .exact bg.cy (Mt h x t e A O ‹_› (.inl ⟨by assumption,_,by assumption⟩) d)
    .cases d
   .split at d
    .cases d
    .rename_i S;exact bg.cy (Mt h x t e A O ‹_› (.inr ⟨⟨_,by assumption⟩,fun s T=>S s T⟩) d)
   .cases d
  .cases d
 ·
  rename_i args D e;split at d
  .split at d
   .split at d
    .exact bg.cy (ahe h e ‹_› ‹_› ‹_› d)
    .cases d
   .cases d
  .cases d
 ·
  rename_i args D e;split at d
  .split at d
   .split at d
    .exact bg.cy (ahf h e ‹_› ‹_› ‹_› d)
    .cases d
   .cases d
  .cases d
 ·
  rename_i args D e;simp[ju,e]at m
 ·
  rename_i g first W e
  simp[ju,e]at m
 .cases d
def Xx {C:FuncId->Option Any}(m:nR P o=true)(h:Inv w0 G st a w)(d:fa P C (nP.JE N) o st k=some r):bg P w0 w a o k r:=by
 unfold fa at d;split at d
 .exact(Hq h _ (.inl ‹_›) d)
 .exact(Hq h _ (.inr ‹_›) d)
 ·
  rename_i c x y e;split at d
  .exact(abv h c x y e ‹_› d)
  .cases d
 ·
  rename_i t x e;simp[nR,e]at m
 ·
  rename_i t e;simp[nR,e]at m
 ·
  rename_i t parts e;split at d
  .split at d
   .exact(Xo h t parts e ‹_› ‹_› ‹_› ‹_› d)
   .cases d
  .cases d
 ·
  rename_i t len parts e;simp[nR,e]at m
 ·
  rename_i t x e;split at d
  .rename_i l off F;dsimp only at d;split at d
   .rename_i n;split at d
    .exact(Hr h t x e F n (b:=true) ‹_› (v:=.agg _) rfl d)
    .split at d
     .rename_i B _ y m;exact(Hr h t x e F n (b:=false) B (v:=.c y) ⟨y,m,rfl⟩ d)
     .cases d
    .cases d
   .cases d
  .cases d
 ·
  rename_i t x y e;simp[nR,e]at m
 ·
  rename_i x e;split at d
  .exact(L0 h x e ‹_› d)
  .cases d
 ·
  rename_i op D x y E e;split at d
  .exact(Xl h op D x y E e ‹_› ‹_› d)
  .split at d
   .exact(nA h _ D x y E e ‹_› ‹_› ‹_› (.inl ⟨rfl,rfl⟩) d)
   .exact(nA h _ D x y E e ‹_› ‹_› ‹_› (.inr ⟨rfl,rfl⟩) d)
   .cases d
  .cases d
 ·
  rename_i op t x e;split at d
  .exact(agY h t x e ‹_› d)
  .exact(agZ h t x e ‹_› d)
  .cases d
 ·
  rename_i src dst x e;split at d
  .exact(Oj h src dst x e ‹_› ‹_› ‹_› d)
  .exact(Ok h src dst x e ‹_› ‹_› ‹_› d)
  .split at d
   .obtain⟨j,d⟩:=aQ d;simp[nR,e,(show P.underlying _=some (.slice _) by assumption)]at m
   .cases d
  .split at d
   .exact(Xp h src dst x e ‹_› ‹_› ‹_› ‹_› d)
   .cases d
  .cases d
 ·
  rename_i t p q e;simp[nR,e]at m
 ·
  rename_i t x H z e;split at d
  .split at d
   .split at d
    .obtain⟨j,d⟩:=aQ d;simp only[aD,bJ]at j;exact(RA h t x H z e ‹_› ‹_› ‹_› ‹_› j.1.1 j.1.2 j.2 d)
    .cases d
   .cases d
  .split at d
   .split at d
    .obtain⟨j,d⟩:=aQ d;simp only[aD,bJ]at j;exact(Xn h t x H z e ‹_› ‹_› (aH j.1.1.1) (bo j.1.1.2) (ax5 j.1.2) ‹_› ‹_› j.2.1.1 j.2.1.2 j.2.2 d)
    .cases d
   .split at d
    .split at d
     .obtain⟨j,d⟩:=aQ d;simp only[aD,bJ]at j;exact(RB h t x z e ‹_› ‹_› ‹_› (aH j.1) ‹_› j.2.1 j.2.2 d)
     .cases d
    .split at d
     .obtain⟨j,d⟩:=aQ d;simp only[aD,bJ]at j;exact(L4 h t x _ z e ‹_› ‹_› ‹_› (aH j.1.1) (as1 j.1.2) ‹_› ‹_› j.2.1.1 j.2.1.2 j.2.2 d)
     .cases d
    .cases d
   .cases d
  .cases d
 ·
  rename_i t x f e;split at d
  .split at d
   .exact(eF h t x f e ‹_› ‹_› (by exact rfl) d)
   .split at d
    .exact(eF h t x f e ‹_› ‹_› (by exact⟨rfl,_,dj ‹_›⟩) d)
    .cases d
   .exact(eF h t x f e ‹_› ‹_› (by exact rfl) d)
   .cases d
  .cases d
 ·
  rename_i t x i e;split at d
  .split at d
   .split at d
    .split at d
     .split at d
      .obtain⟨j,d⟩:=aQ d;simp only[aD,bJ]at j;exact(L1 h t x i e ‹_› ‹_› ‹_› ‹_› ‹_› (aH j.1) j.2.1 j.2.2 d)
      .cases d
     .cases d
    .obtain⟨j,d⟩:=aQ d;simp only[aD,bJ]at j;exact(Ol h t x i e ‹_› ‹_› ‹_› (aH j.1.1) (bo j.1.2) j.2.1 j.2.2 d)
    .cases d
   .split at d
    .obtain⟨j,d⟩:=aQ d;simp only[aD,bJ]at j;exact(L3 h t x i e ‹_› ‹_› ‹_› (bo j.1) j.2.1 j.2.2 d)
    .cases d
   .cases d
  .cases d
 ·
  rename_i t x i e;split at d
  .obtain⟨j,d⟩:=aQ d;simp only[aD,bJ]at j;exact(Xm h t x i e ‹_› ‹_› ‹_› j.1 j.2 d)
  .cases d
 ·
  rename_i t x f e;split at d
  .rename_i I u;dsimp only at d;split at d
   .rename_i n;split at d
    .exact(AB h t x f e I u n (b:=true) ‹_› (v:=.agg _) rfl d)
    .split at d
     .rename_i B _ y m;exact(AB h t x f e I u n (b:=false) B (v:=.c y) ⟨y,m,rfl⟩ d)
     .cases d
    .cases d
   .cases d
  .cases d
 ·
  rename_i x i e;split at d
  .split at d
   .exact(Oi h x i e ‹_› ‹_› d)
   .cases d
  .cases d
 ·
  rename_i f args A e;simp[nR,e]at m
 ·
  rename_i args A e;split at d
  .rename_i x t u L;split at d
   .split at d
    .exact(Mt h x t e u L ‹_› (.inl ⟨by assumption,_,by assumption⟩) d)
    .cases d
   .split at d
    .cases d
    .rename_i M;exact(Mt h x t e u L ‹_› (.inr ⟨⟨_,by assumption⟩,fun s O=>M s O⟩) d)
   .cases d
  .cases d
 ·
  rename_i args A e;split at d
  .split at d
   .split at d
    .exact(ahe h e ‹_› ‹_› ‹_› d)
    .cases d
   .cases d
  .cases d
 ·
  rename_i args A e;split at d
  .split at d
   .split at d
    .exact(ahf h e ‹_› ‹_› ‹_› d)
    .cases d
   .cases d
  .cases d
 ·
  rename_i args A e;simp[nR,e]at m
 ·
  rename_i g first R e
  simp[nR,e]at m
 .cases d
def an1 {C:FuncId->Option Any}(n:nR P o=true)(e:HG st o=true)(h:Inv w0 G st a w)(b:fa P C (nP.JE N) o st k=some r):agW P w0 G w a o k r:=by
 cases c:o.op with
 |load t x =>
  simp only[HG,c]at e;split at e
  .rename_i f D E F i;simp only[fa,c]at b;split at b
   .rename_i l off j;split at b
    .rename_i m;split at b
     .rename_i g;exact auY h t x c j m g rfl i b
     .rename_i g;split at b
      .rename_i y p;exact auY h t x c j m g ⟨y,p,rfl⟩ i b
      .cases b
     .cases b
    .cases b
   .cases b
  .cases e
 |convert s d x=>simp[HG,c]at e
 |_ =>
  obtain⟨v,q,b9,u,z,A⟩:=Xx n h b;exact⟨v,q,b9,fun B _=>u B (by unfold adE;rw[c];trivial),z,A⟩
end
end Go.Am
