/- Lemmas for the claim. No condition. -/
import Derived.Test.YtfapcfpkbahneaaGreatDoorQlAmRun
set_option linter.all false
namespace Go.Am
open Go.RowKit
section
variable {N:Nat} {P:Program} {w0:fK} {w:World} {G:Gh} {st:St} {a:Act} {α:Type} {k:St→Option α} {r:α} {K:Act→World→Prop} {Q:Exit→Act→World→Prop} {o:Oper}
def atH (P:Program)(w0:fK)(w:World)(a:Act)(o:Oper){α:Type}(k:St→Option α)(r:α):Prop :=
 ∃v G' dL,(∀w1,Below w.heap.size w w1→o.quietAt P a (fun w'=>Below w.heap.size w w') w1 v)∧Inv w0 G' dL (a.put o.dst v) w∧k dL=some r
theorem bJ.du (h:bJ P w0 w a o k r):atH P w0 w a o k r:=by
 obtain⟨v,G',dL,he,h1,h2⟩:=h
 refine⟨v,G',dL,fun w1 hB=>?_,h1,h2⟩
 unfold Oper.quietAt
 rw[he w1 (xZ hB)]
 exact⟨rfl,rfl⟩
def arU:(t:Ty)→t.D→List Value
 |.int k,x=>[.int k x]
 |.bool,x=>[.bool x]
 |.str,x=>[.string x]
 |.unit,_=>[]
 |.pair a b,x=>arU a x.1++arU b x.2
 |.sl _ _,_=>[]
theorem al7 {ok:Nat→Prop}:∀{t:Ty} {x:t.D} {cs:List Value},flat t=true→Rd w ok t x cs→cs=arU t x
 |.int _,_,_,_,h=>h
 |.bool,_,_,_,h=>h
 |.str,_,_,_,h=>h
 |.unit,_,_,_,h=>h
 |.pair a b,_,_,hf,h=>by
  obtain⟨c1,c2,rfl,h1,h2⟩:=h
  have hf':(flat a&&flat b)=true:=hf
  rw[aJ]at hf'
  rw[al7 hf'.1 h1,al7 hf'.2 h2]
  rfl
 |.sl _ _,_,_,hf,_=>by cases hf
theorem al8 {ok:Nat→Prop}:∀{t:Ty} {x:t.D},flat t=true→Rd w ok t x (arU t x)
 |.int _,_,_=>rfl
 |.bool,_,_=>rfl
 |.str,_,_=>rfl
 |.unit,_,_=>rfl
 |.pair a b,_,hf=>by
  have hf':(flat a&&flat b)=true:=hf
  rw[aJ]at hf'
  exact⟨_,_,rfl,al8 hf'.1,al8 hf'.2⟩
 |.sl _ _,_,hf=>by cases hf
def atI:(rs:List (Ty×Bool))→Args rs→List Value
 |[],_=>[]
 |a::l,x=>(match a.2 with|true=>.agg (arU a.1 x.1).toArray|false=>(arU a.1 x.1).headD undef)::atI l x.2
theorem arV {ok:Nat→Prop}:∀{rs:List (Ty×Bool)} {x:Args rs} {vs:List Value},(rs.all fun a=>flat a.1)=true→eU w ok rs x vs→vs=atI rs x
 |[],_,_,_,h=>h
 |a::l,x,vs,hf,h=>by
  obtain⟨v,vs',rfl,⟨cs,h1,h2⟩,h3⟩:=h
  rw[List.all_cons,aJ]at hf
  rw[arV hf.2 h3,h2,al7 hf.1 h1]
  rfl
theorem arW {ok:Nat→Prop}:∀{rs:List (Ty×Bool)} {x:Args rs},(rs.all fun a=>flat a.1)=true→eU w ok rs x (atI rs x)
 |[],_,_=>rfl
 |a::l,x,hf=>by
  rw[List.all_cons,aJ]at hf
  exact⟨_,_,rfl,⟨_,al8 hf.1,rfl⟩,arW hf.2⟩
theorem atJ {f:FuncId}{con:Con}(fz:ahv P w0 f con)(hq:(Nat.beq con.m 1&&con.rs.all fun a=>flat a.1)=true)(h:Inv w0 G st a w){args:Array Operand}{ts:Array TypeId}(ho:o.op=.call {callee:=.value (.func f),args:=args,argTypes:=ts})
  (hr:WQ con st o.dst args.toList k=some r):atH P w0 w a o k r:=by
 rw[aJ]at hq
 have hm:=aN hq.1
 unfold WQ at hr
 split at hr
 ·rename_i x hx
  cases hg:con.g x with
  |none=>rw[hg]at hr;cases hr
  |some y =>
   rw[hg]at hr
   simp only[alx]at hr
   cases hd:o.dst with
   |none=>rw[hd]at hr;cases hr
   |some d =>
    rw[hd]at hr
    dsimp only at hr
    split at hr
    ·rename_i hm0
     rw[hm]at hm0
     cases hm0
    ·obtain⟨hc,hr⟩:=aX hr
     simp only[aJ]at hc
     have hrel:=Ci (f:=true) (G:=G) (bx:=st.bx) (bl:=st.bl) hc.2 (arW (w:=w) (x:=y) hq.2)
     refine⟨fT (atI con.rs y),G,_,fun w1 hB=>?_,by rw[hd];exact h.put d (ir hc.1) (x5 (R:=fun _ _=>True) hrel),hr⟩
     have h1:=h.more hB
     have kc:=Iv (ok:=fun _=>True) h1 con.ps args.toList x (fun t c v xs _=>Ud h1 t c v xs) hx
     unfold Oper.quietAt
     rw[I0 fz.1 ho]
     refine⟨rfl,?_⟩
     have hargs:(args.map a.eval)=(args.toList.map a.eval).toArray:=by rw[←abI,xR]
     rw[hargs]
     refine Calls.mono (fz.2 x y hg w1 h1.below _ _ kc) fun e w' he=>?_
     obtain⟨us,rfl,dd,hB'⟩:=he
     unfold Yd at dd
     rw[hm]at dd
     rw[arV hq.2 dd]
     have hle:=hB.size
     exact⟨rfl,hB.trans ⟨hB'.os,hB'.tape,hB'.output,hB'.size,fun k hk=>hB'.block k (by omega)⟩⟩
    ·rename_i hm1
     exact absurd hm hm1
 ·cases hr
theorem awt {C:FuncId→Option Any}(hC:∀f con,C f=some con→RJ P w0 f con)(hq:kL P C o=true)(h:Inv w0 G st a w)(hr:jC P C (rQ.Qw N) o st k=some r):atH P w0 w a o k r:=by
 unfold jC at hr
 split at hr
 ·exact bJ.du (Is h _ (.inl (by assumption)) hr)
 ·exact bJ.du (Is h _ (.inr (by assumption)) hr)
 ·
  rename_i c x y ct
  split at hr
  ·exact bJ.du (aeV h c x y ct (by assumption) hr)
  ·cases hr
 ·
  rename_i t x ct
  simp[kL,ct]at hq
 ·
  rename_i t ct
  simp[kL,ct]at hq
 ·
  rename_i t parts ct
  split at hr
  ·split at hr
   ·exact bJ.du (aac h t parts ct (by assumption) (by assumption) (by assumption) (by assumption) hr)
   ·cases hr
  ·cases hr
 ·
  rename_i t len parts ct
  simp[kL,ct]at hq
 ·
  rename_i t x ct
  split at hr
  ·rename_i l off hcell
   dsimp only at hr
   split at hr
   ·rename_i hn
    split at hr
    ·exact bJ.du (It h t x ct hcell hn (b:=true) (by assumption) (v:=.agg _) rfl hr)
    ·split at hr
     ·rename_i nC _ y hq
      exact bJ.du (It h t x ct hcell hn (b:=false) nC (v:=.c y) ⟨y,hq,rfl⟩ hr)
     ·cases hr
    ·cases hr
   ·cases hr
  ·cases hr
 ·
  rename_i t x y ct
  simp[kL,ct]at hq
 ·
  rename_i x ct
  split at hr
  ·exact bJ.du (Ns h x ct (by assumption) hr)
  ·cases hr
 ·
  rename_i op xt x y yt ct
  split at hr
  ·exact bJ.du (Z8 h op xt x y yt ct (by assumption) (by assumption) hr)
  ·split at hr
   ·exact bJ.du (pq h _ xt x y yt ct (by assumption) (by assumption) (by assumption) (.inl ⟨rfl,rfl⟩) hr)
   ·exact bJ.du (pq h _ xt x y yt ct (by assumption) (by assumption) (by assumption) (.inr ⟨rfl,rfl⟩) hr)
   ·cases hr
  ·cases hr
 ·
  rename_i op t x ct
  split at hr
  ·exact bJ.du (alM h t x ct (by assumption) hr)
  ·exact bJ.du (alN h t x ct (by assumption) hr)
  ·cases hr
 ·
  rename_i src dst x ct
  split at hr
  ·exact bJ.du (Qz h src dst x ct (by assumption) (by assumption) (by assumption) hr)
  ·exact bJ.du (QA h src dst x ct (by assumption) (by assumption) (by assumption) hr)
  ·split at hr
   ·obtain⟨hc,hr⟩:=aX hr
    simp[kL,ct,(show P.underlying _=some (.slice _) by assumption)]at hq
   ·cases hr
  ·split at hr
   ·exact bJ.du (aad h src dst x ct (by assumption) (by assumption) (by assumption) (by assumption) hr)
   ·cases hr
  ·cases hr
 ·
  rename_i t p q ct
  simp[kL,ct]at hq
 ·
  rename_i t x lo hi ct
  split at hr
  ·split at hr
   ·split at hr
    ·obtain⟨hc,hr⟩:=aX hr
     simp only[aJ,cH]at hc
     exact bJ.du (T9 h t x lo hi ct (by assumption) (by assumption) (by assumption) (by assumption) hc.1.1 hc.1.2 hc.2 hr)
    ·cases hr
   ·cases hr
  ·split at hr
   ·split at hr
    ·obtain⟨hc,hr⟩:=aX hr
     simp only[aJ,cH]at hc
     exact bJ.du (aab h t x lo hi ct (by assumption) (by assumption) (aN hc.1.1) (bI hc.1.2) (by assumption) (by assumption) hc.2.1.1 hc.2.1.2 hc.2.2 hr)
    ·cases hr
   ·split at hr
    ·split at hr
     ·obtain⟨hc,hr⟩:=aX hr
      simp only[aJ,cH]at hc
      exact bJ.du (Ua h t x hi ct (by assumption) (by assumption) (by assumption) (aN hc.1) (by assumption) hc.2.1 hc.2.2 hr)
     ·cases hr
    ·split at hr
     ·obtain⟨hc,hr⟩:=aX hr
      simp only[aJ,cH]at hc
      exact bJ.du (Nv h t x _ hi ct (by assumption) (by assumption) (by assumption) (aN hc.1) (by assumption) (by assumption) hc.2.1.1 hc.2.1.2 hc.2.2 hr)
     ·cases hr
    ·cases hr
   ·cases hr
  ·cases hr
 ·
  rename_i t x f ct
  split at hr
  ·split at hr
   ·exact bJ.du (fS h t x f ct (by assumption) (by assumption) (by exact rfl) hr)
   ·split at hr
    ·exact bJ.du (fS h t x f ct (by assumption) (by assumption) (by exact⟨rfl,_,fm (by assumption)⟩) hr)
    ·cases hr
   ·exact bJ.du (fS h t x f ct (by assumption) (by assumption) (by exact rfl) hr)
   ·cases hr
  ·cases hr
 ·
  rename_i t x i ct
  split at hr
  ·split at hr
   ·split at hr
    ·split at hr
     ·split at hr
      ·obtain⟨hc,hr⟩:=aX hr
       simp only[aJ,cH]at hc
       exact bJ.du (Nt h t x i ct (by assumption) (by assumption) (by assumption) (by assumption) (by assumption) (aN hc.1) hc.2.1 hc.2.2 hr)
      ·cases hr
     ·cases hr
    ·obtain⟨hc,hr⟩:=aX hr
     simp only[aJ,cH]at hc
     exact bJ.du (QC h t x i ct (by assumption) (by assumption) (by assumption) (aN hc.1.1) (bI hc.1.2) hc.2.1 hc.2.2 hr)
    ·cases hr
   ·split at hr
    ·obtain⟨hc,hr⟩:=aX hr
     simp only[aJ,cH]at hc
     exact bJ.du (Nu h t x i ct (by assumption) (by assumption) (by assumption) (bI hc.1) hc.2.1 hc.2.2 hr)
    ·cases hr
   ·cases hr
  ·cases hr
 ·
  rename_i t x i ct
  split at hr
  ·obtain⟨hc,hr⟩:=aX hr
   simp only[aJ,cH]at hc
   exact bJ.du (Z9 h t x i ct (by assumption) (by assumption) (by assumption) hc.1 hc.2 hr)
  ·cases hr
 ·
  rename_i t x f ct
  split at hr
  ·rename_i hf hx
   dsimp only at hr
   split at hr
   ·rename_i hn
    split at hr
    ·exact bJ.du (Bb h t x f ct hf hx hn (b:=true) (by assumption) (v:=.agg _) rfl hr)
    ·split at hr
     ·rename_i nC _ y hq
      exact bJ.du (Bb h t x f ct hf hx hn (b:=false) nC (v:=.c y) ⟨y,hq,rfl⟩ hr)
     ·cases hr
    ·cases hr
   ·cases hr
  ·cases hr
 ·
  rename_i x i ct
  split at hr
  ·split at hr
   ·exact bJ.du (Qy h x i ct (by assumption) (by assumption) hr)
   ·cases hr
  ·cases hr
 ·
  rename_i f args ts ct
  split at hr
  ·rename_i con fz
   exact atJ (show ahv P w0 f con from hC f (.one con) fz) (by simpa [kL,ct,fz]using hq) h ct hr
  ·rename_i con fz
   simp[kL,ct,fz]at hq
  ·rename_i con fz
   simp[kL,ct,fz]at hq
  ·rename_i con fz
   simp[kL,ct,fz]at hq
  ·rename_i fz
   simp[kL,ct,fz]at hq
  ·rename_i fz
   simp[kL,ct,fz]at hq
  ·cases hr
 ·
  rename_i args ts ct
  split at hr
  ·rename_i x t hx ht
   split at hr
   ·split at hr
    ·exact bJ.du (N7 h x t ct hx ht (by assumption) (.inl ⟨by assumption,_,by assumption⟩) hr)
    ·cases hr
   ·split at hr
    ·cases hr
    ·rename_i hns
     exact bJ.du (N7 h x t ct hx ht (by assumption) (.inr ⟨⟨_,by assumption⟩,fun s hs=>hns s hs⟩) hr)
   ·cases hr
  ·cases hr
 ·
  rename_i args ts ct
  split at hr
  ·split at hr
   ·split at hr
    ·exact bJ.du (al4 h ct (by assumption) (by assumption) (by assumption) hr)
    ·cases hr
   ·cases hr
  ·cases hr
 ·
  rename_i args ts ct
  split at hr
  ·split at hr
   ·split at hr
    ·exact bJ.du (al5 h ct (by assumption) (by assumption) (by assumption) hr)
    ·cases hr
   ·cases hr
  ·cases hr
 ·
  rename_i args ts ct
  simp[kL,ct]at hq
 ·
  rename_i g first apY ct
  simp[kL,ct]at hq
 ·cases hr
theorem aak {C:FuncId→Option Any}(hq:pR P o=true)(h:Inv w0 G st a w)(hr:jC P C (rQ.Qw N) o st k=some r):bJ P w0 w a o k r:=by
 unfold jC at hr
 split at hr
 ·exact(Is h _ (.inl (by assumption)) hr)
 ·exact(Is h _ (.inr (by assumption)) hr)
 ·
  rename_i c x y ct
  split at hr
  ·exact(aeV h c x y ct (by assumption) hr)
  ·cases hr
 ·
  rename_i t x ct
  simp[pR,ct]at hq
 ·
  rename_i t ct
  simp[pR,ct]at hq
 ·
  rename_i t parts ct
  split at hr
  ·split at hr
   ·exact(aac h t parts ct (by assumption) (by assumption) (by assumption) (by assumption) hr)
   ·cases hr
  ·cases hr
 ·
  rename_i t len parts ct
  simp[pR,ct]at hq
 ·
  rename_i t x ct
  split at hr
  ·rename_i l off hcell
   dsimp only at hr
   split at hr
   ·rename_i hn
    split at hr
    ·exact(It h t x ct hcell hn (b:=true) (by assumption) (v:=.agg _) rfl hr)
    ·split at hr
     ·rename_i nC _ y hq
      exact(It h t x ct hcell hn (b:=false) nC (v:=.c y) ⟨y,hq,rfl⟩ hr)
     ·cases hr
    ·cases hr
   ·cases hr
  ·cases hr
 ·
  rename_i t x y ct
  simp[pR,ct]at hq
 ·
  rename_i x ct
  split at hr
  ·exact(Ns h x ct (by assumption) hr)
  ·cases hr
 ·
  rename_i op xt x y yt ct
  split at hr
  ·exact(Z8 h op xt x y yt ct (by assumption) (by assumption) hr)
  ·split at hr
   ·exact(pq h _ xt x y yt ct (by assumption) (by assumption) (by assumption) (.inl ⟨rfl,rfl⟩) hr)
   ·exact(pq h _ xt x y yt ct (by assumption) (by assumption) (by assumption) (.inr ⟨rfl,rfl⟩) hr)
   ·cases hr
  ·cases hr
 ·
  rename_i op t x ct
  split at hr
  ·exact(alM h t x ct (by assumption) hr)
  ·exact(alN h t x ct (by assumption) hr)
  ·cases hr
 ·
  rename_i src dst x ct
  split at hr
  ·exact(Qz h src dst x ct (by assumption) (by assumption) (by assumption) hr)
  ·exact(QA h src dst x ct (by assumption) (by assumption) (by assumption) hr)
  ·split at hr
   ·obtain⟨hc,hr⟩:=aX hr
    simp[pR,ct,(show P.underlying _=some (.slice _) by assumption)]at hq
   ·cases hr
  ·split at hr
   ·exact(aad h src dst x ct (by assumption) (by assumption) (by assumption) (by assumption) hr)
   ·cases hr
  ·cases hr
 ·
  rename_i t p q ct
  simp[pR,ct]at hq
 ·
  rename_i t x lo hi ct
  split at hr
  ·split at hr
   ·split at hr
    ·obtain⟨hc,hr⟩:=aX hr
     simp only[aJ,cH]at hc
     exact(T9 h t x lo hi ct (by assumption) (by assumption) (by assumption) (by assumption) hc.1.1 hc.1.2 hc.2 hr)
    ·cases hr
   ·cases hr
  ·split at hr
   ·split at hr
    ·obtain⟨hc,hr⟩:=aX hr
     simp only[aJ,cH]at hc
     exact(aab h t x lo hi ct (by assumption) (by assumption) (aN hc.1.1) (bI hc.1.2) (by assumption) (by assumption) hc.2.1.1 hc.2.1.2 hc.2.2 hr)
    ·cases hr
   ·split at hr
    ·split at hr
     ·obtain⟨hc,hr⟩:=aX hr
      simp only[aJ,cH]at hc
      exact(Ua h t x hi ct (by assumption) (by assumption) (by assumption) (aN hc.1) (by assumption) hc.2.1 hc.2.2 hr)
     ·cases hr
    ·split at hr
     ·obtain⟨hc,hr⟩:=aX hr
      simp only[aJ,cH]at hc
      exact(Nv h t x _ hi ct (by assumption) (by assumption) (by assumption) (aN hc.1) (by assumption) (by assumption) hc.2.1.1 hc.2.1.2 hc.2.2 hr)
     ·cases hr
    ·cases hr
   ·cases hr
  ·cases hr
 ·
  rename_i t x f ct
  split at hr
  ·split at hr
   ·exact(fS h t x f ct (by assumption) (by assumption) (by exact rfl) hr)
   ·split at hr
    ·exact(fS h t x f ct (by assumption) (by assumption) (by exact⟨rfl,_,fm (by assumption)⟩) hr)
    ·cases hr
   ·exact(fS h t x f ct (by assumption) (by assumption) (by exact rfl) hr)
   ·cases hr
  ·cases hr
 ·
  rename_i t x i ct
  split at hr
  ·split at hr
   ·split at hr
    ·split at hr
     ·split at hr
      ·obtain⟨hc,hr⟩:=aX hr
       simp only[aJ,cH]at hc
       exact(Nt h t x i ct (by assumption) (by assumption) (by assumption) (by assumption) (by assumption) (aN hc.1) hc.2.1 hc.2.2 hr)
      ·cases hr
     ·cases hr
    ·obtain⟨hc,hr⟩:=aX hr
     simp only[aJ,cH]at hc
     exact(QC h t x i ct (by assumption) (by assumption) (by assumption) (aN hc.1.1) (bI hc.1.2) hc.2.1 hc.2.2 hr)
    ·cases hr
   ·split at hr
    ·obtain⟨hc,hr⟩:=aX hr
     simp only[aJ,cH]at hc
     exact(Nu h t x i ct (by assumption) (by assumption) (by assumption) (bI hc.1) hc.2.1 hc.2.2 hr)
    ·cases hr
   ·cases hr
  ·cases hr
 ·
  rename_i t x i ct
  split at hr
  ·obtain⟨hc,hr⟩:=aX hr
   simp only[aJ,cH]at hc
   exact(Z9 h t x i ct (by assumption) (by assumption) (by assumption) hc.1 hc.2 hr)
  ·cases hr
 ·
  rename_i t x f ct
  split at hr
  ·rename_i hf hx
   dsimp only at hr
   split at hr
   ·rename_i hn
    split at hr
    ·exact(Bb h t x f ct hf hx hn (b:=true) (by assumption) (v:=.agg _) rfl hr)
    ·split at hr
     ·rename_i nC _ y hq
      exact(Bb h t x f ct hf hx hn (b:=false) nC (v:=.c y) ⟨y,hq,rfl⟩ hr)
     ·cases hr
    ·cases hr
   ·cases hr
  ·cases hr
 ·
  rename_i x i ct
  split at hr
  ·split at hr
   ·exact(Qy h x i ct (by assumption) (by assumption) hr)
   ·cases hr
  ·cases hr
 ·
  rename_i f args ts ct
  simp[pR,ct]at hq
 ·
  rename_i args ts ct
  split at hr
  ·rename_i x t hx ht
   split at hr
   ·split at hr
    ·exact(N7 h x t ct hx ht (by assumption) (.inl ⟨by assumption,_,by assumption⟩) hr)
    ·cases hr
   ·split at hr
    ·cases hr
    ·rename_i hns
     exact(N7 h x t ct hx ht (by assumption) (.inr ⟨⟨_,by assumption⟩,fun s hs=>hns s hs⟩) hr)
   ·cases hr
  ·cases hr
 ·
  rename_i args ts ct
  split at hr
  ·split at hr
   ·split at hr
    ·exact(al4 h ct (by assumption) (by assumption) (by assumption) hr)
    ·cases hr
   ·cases hr
  ·cases hr
 ·
  rename_i args ts ct
  split at hr
  ·split at hr
   ·split at hr
    ·exact(al5 h ct (by assumption) (by assumption) (by assumption) hr)
    ·cases hr
   ·cases hr
  ·cases hr
 ·
  rename_i args ts ct
  simp[pR,ct]at hq
 ·
  rename_i g first apY ct
  simp[pR,ct]at hq
 ·cases hr
theorem atK {C:FuncId→Option Any}(hq:pR P o=true)(hro:IS st o=true)(h:Inv w0 G st a w)(hr:jC P C (rQ.Qw N) o st k=some r):alK P w0 G w a o k r:=by
 cases ho:o.op with
 |load t x =>
  simp only[IS,ho]at hro
  split at hro
  ·rename_i f u0 y0 ap1 aC0
   simp only[jC,ho]at hr
   split at hr
   ·rename_i l off hc
    split at hr
    ·rename_i hn
     split at hr
     ·rename_i nC
      exact aBq h t x ho hc hn nC rfl aC0 hr
     ·rename_i nC
      split at hr
      ·rename_i y hy
       exact aBq h t x ho hc hn nC ⟨y,hy,rfl⟩ aC0 hr
      ·cases hr
     ·cases hr
    ·cases hr
   ·cases hr
  ·cases hro
 |convert s d x=>simp[IS,ho]at hro
 |_ =>
  obtain⟨v,G',dL,he,hi,hk⟩:=aak hq h hr
  exact⟨v,G',dL,fun w1 _=>he w1 (by unfold ahq;rw[ho];trivial),hi,hk⟩
end
end Go.Am
