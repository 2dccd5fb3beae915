/- Lemmas for the claim. No condition. -/
import Derived.Test.YtfapcfpkbahneaaGreatDoorQtAmRun
set_option linter.all false
namespace Go.Am
open Go.RowKit
section
variable {N:Nat} {P:Program} {w0:fJ} {w:World} {G:Gh} {st:St} {a:Act} {α:Type} {k:St->Option α} {r:α} {K:Act->World->Prop} {Q:Exit->Act->World->Prop} {o:Oper}
def auh (P:Program)(w0:fJ)(w:World)(a:Act)(o:Oper){α:Type}(k:St->Option α)(r:α):Prop :=
 ∃v G' dK,(∀w1,Below w.heap.size w w1->o.quietAt P a (fun w'=>Below w.heap.size w w') w1 v)/\Inv w0 G' dK (a.put o.dst v) w/\k dK=some r
theorem bJ.du (h:bJ P w0 w a o k r):auh P w0 w a o k r:=by obtain⟨v,G',dK,he,h1,h2⟩:=h;refine⟨v,G',dK,fun w1 hB=>?_,h1,h2⟩;unfold Oper.quietAt;rw[he w1 (x8 hB)];exact⟨rfl,rfl⟩
def ass:(t:Ty)->t.D->List Value
 |.int k,x=>[.int k x]
 |.bool,x=>[.bool x]
 |.str,x=>[.string x]
 |.unit,_=>[]
 |.pair a b,x=>ass a x.1++ass b x.2
 |.sl _ _,_=>[]
theorem amF {ok:Nat->Prop}:∀{t:Ty} {x:t.D} {cs:List Value},flat t=true->Rd w ok t x cs->cs=ass t x
 |.int _,_,_,_,h=>h
 |.bool,_,_,_,h=>h
 |.str,_,_,_,h=>h
 |.unit,_,_,_,h=>h
 |.pair a b,_,_,hf,h=>by obtain⟨c1,c2,rfl,h1,h2⟩:=h;have hf':(flat a&&flat b)=true:=hf;rw[aJ]at hf';rw[amF hf'.1 h1,amF hf'.2 h2];rfl
 |.sl _ _,_,_,hf,_=>by cases hf
theorem amG {ok:Nat->Prop}:∀{t:Ty} {x:t.D},flat t=true->Rd w ok t x (ass t x)
 |.int _,_,_=>rfl
 |.bool,_,_=>rfl
 |.str,_,_=>rfl
 |.unit,_,_=>rfl
 |.pair a b,_,hf=>by have hf':(flat a&&flat b)=true:=hf;rw[aJ]at hf';exact⟨_,_,rfl,amG hf'.1,amG hf'.2⟩
 |.sl _ _,_,hf=>by cases hf
def aui:(rs:List (Ty×Bool))->Args rs->List Value
 |[],_=>[]
 |a::l,x=>(match a.2 with|true=>.agg (ass a.1 x.1).toArray|false=>(ass a.1 x.1).headD undef)::aui l x.2
theorem ast {ok:Nat->Prop}:∀{rs:List (Ty×Bool)} {x:Args rs} {vs:List Value},(rs.all fun a=>flat a.1)=true->eQ w ok rs x vs->vs=aui rs x
 |[],_,_,_,h=>h
 |a::l,x,vs,hf,h=>by obtain⟨v,vs',rfl,⟨cs,h1,h2⟩,h3⟩:=h;rw[List.all_cons,aJ]at hf;rw[ast hf.2 h3,h2,amF hf.1 h1];rfl
theorem asu {ok:Nat->Prop}:∀{rs:List (Ty×Bool)} {x:Args rs},(rs.all fun a=>flat a.1)=true->eQ w ok rs x (aui rs x)
 |[],_,_=>rfl
 |a::l,x,hf=>by rw[List.all_cons,aJ]at hf;exact⟨_,_,rfl,⟨_,amG hf.1,rfl⟩,asu hf.2⟩
theorem auj {f:FuncId}{con:Con}(fw:ah6 P w0 f con)(hq:(Nat.beq con.m 1&&con.rs.all fun a=>flat a.1)=true)(h:Inv w0 G st a w){args:Array Operand}{ts:Array TypeId}(ho:o.op=.call {callee:=.value (.func f),args:=args,argTypes:=ts})
  (hr:Xp con st o.dst args.toList k=some r):auh P w0 w a o k r:=by
 rw[aJ]at hq;have hm:=aP hq.1;unfold Xp at hr;split at hr
 ·rename_i x hx;cases hg:con.g x with
  |none=>rw[hg]at hr;cases hr
  |some y =>
   rw[hg]at hr;simp only[al7]at hr;cases hd:o.dst with
   |none=>rw[hd]at hr;cases hr
   |some d =>
    rw[hd]at hr;dsimp only at hr;split at hr
    ·rename_i hm0;rw[hm]at hm0;cases hm0
    ·obtain⟨hc,hr⟩:=aY hr;simp only[aJ]at hc;have hrel:=Ct (f:=true) (G:=G) (bx:=st.bx) (bl:=st.bl) hc.2 (asu (w:=w) (x:=y) hq.2);refine⟨fS (aui con.rs y),G,_,fun w1 hB=>?_,by rw[hd];exact h.put d (il hc.1) (ya (R:=fun _ _=>True) hrel),hr⟩;have h1:=h.more hB;have kt:=IP (ok:=fun _=>True) h1 con.ps args.toList x (fun t c v xs _=>UK h1 t c v xs) hx;unfold Oper.quietAt;rw[Jh fw.1 ho];refine⟨rfl,?_⟩;have hargs:(args.map a.eval)=(args.toList.map a.eval).toArray:=by rw[<-acj,xW]
     rw[hargs];refine Calls.mono (fw.2 x y hg w1 h1.below _ _ kt) fun e w' he=>?_
     obtain⟨us,rfl,db,hB'⟩:=he;unfold YS at db;rw[hm]at db;rw[ast hq.2 db];have hle:=hB.size;exact⟨rfl,hB.trans ⟨hB'.os,hB'.tape,hB'.output,hB'.size,fun k hk=>hB'.block k (by omega)⟩⟩
    ·rename_i hm1;exact absurd hm hm1
 ·cases hr
theorem awZ {C:FuncId->Option Any}(hC:∀f con,C f=some con->Se P w0 f con)(hq:kQ P C o=true)(h:Inv w0 G st a w)(hr:jD P C (rT.QY N) o st k=some r):auh P w0 w a o k r:=by
 unfold jD at hr;split at hr
 ·exact bJ.du (IL h _ (.inl (by assumption)) hr)
 ·exact bJ.du (IL h _ (.inr (by assumption)) hr)
 ·
  rename_i c x y cr;split at hr
  ·exact bJ.du (afu h c x y cr (by assumption) hr)
  ·cases hr
 ·
  rename_i t x cr;simp[kQ,cr]at hq
 ·
  rename_i t cr;simp[kQ,cr]at hq
 ·
  rename_i t parts cr;split at hr
  ·split at hr
   ·exact bJ.du (aaN h t parts cr (by assumption) (by assumption) (by assumption) (by assumption) hr)
   ·cases hr
  ·cases hr
 ·
  rename_i t len parts cr;simp[kQ,cr]at hq
 ·
  rename_i t x cr;split at hr
  ·rename_i l off hcell;dsimp only at hr;split at hr
   ·rename_i hn;split at hr
    ·exact bJ.du (IM h t x cr hcell hn (b:=true) (by assumption) (v:=.agg _) rfl hr)
    ·split at hr
     ·rename_i nK _ y hq;exact bJ.du (IM h t x cr hcell hn (b:=false) nK (v:=.c y) ⟨y,hq,rfl⟩ hr)
     ·cases hr
    ·cases hr
   ·cases hr
  ·cases hr
 ·
  rename_i t x y cr;simp[kQ,cr]at hq
 ·
  rename_i x cr;split at hr
  ·exact bJ.du (NX h x cr (by assumption) hr)
  ·cases hr
 ·
  rename_i op xt x y yt cr;split at hr
  ·exact bJ.du (aaJ h op xt x y yt cr (by assumption) (by assumption) hr)
  ·split at hr
   ·exact bJ.du (pG h _ xt x y yt cr (by assumption) (by assumption) (by assumption) (.inl ⟨rfl,rfl⟩) hr)
   ·exact bJ.du (pG h _ xt x y yt cr (by assumption) (by assumption) (by assumption) (.inr ⟨rfl,rfl⟩) hr)
   ·cases hr
  ·cases hr
 ·
  rename_i op t x cr;split at hr
  ·exact bJ.du (amk h t x cr (by assumption) hr)
  ·exact bJ.du (aml h t x cr (by assumption) hr)
  ·cases hr
 ·
  rename_i src dst x cr;split at hr
  ·exact bJ.du (Q1 h src dst x cr (by assumption) (by assumption) (by assumption) hr)
  ·exact bJ.du (Q2 h src dst x cr (by assumption) (by assumption) (by assumption) hr)
  ·split at hr
   ·obtain⟨hc,hr⟩:=aY hr;simp[kQ,cr,(show P.underlying _=some (.slice _) by assumption)]at hq
   ·cases hr
  ·split at hr
   ·exact bJ.du (aaO h src dst x cr (by assumption) (by assumption) (by assumption) (by assumption) hr)
   ·cases hr
  ·cases hr
 ·
  rename_i t p q cr;simp[kQ,cr]at hq
 ·
  rename_i t x lo hi cr;split at hr
  ·split at hr
   ·split at hr
    ·obtain⟨hc,hr⟩:=aY hr;simp only[aJ,cD]at hc;exact bJ.du (UG h t x lo hi cr (by assumption) (by assumption) (by assumption) (by assumption) hc.1.1 hc.1.2 hc.2 hr)
    ·cases hr
   ·cases hr
  ·split at hr
   ·split at hr
    ·obtain⟨hc,hr⟩:=aY hr;simp only[aJ,cD]at hc;exact bJ.du (aaM h t x lo hi cr (by assumption) (by assumption) (aP hc.1.1) (bI hc.1.2) (by assumption) (by assumption) hc.2.1.1 hc.2.1.2 hc.2.2 hr)
    ·cases hr
   ·split at hr
    ·split at hr
     ·obtain⟨hc,hr⟩:=aY hr;simp only[aJ,cD]at hc;exact bJ.du (UH h t x hi cr (by assumption) (by assumption) (by assumption) (aP hc.1) (by assumption) hc.2.1 hc.2.2 hr)
     ·cases hr
    ·split at hr
     ·obtain⟨hc,hr⟩:=aY hr;simp only[aJ,cD]at hc;exact bJ.du (N1 h t x _ hi cr (by assumption) (by assumption) (by assumption) (aP hc.1) (by assumption) (by assumption) hc.2.1.1 hc.2.1.2 hc.2.2 hr)
     ·cases hr
    ·cases hr
   ·cases hr
  ·cases hr
 ·
  rename_i t x f cr;split at hr
  ·split at hr
   ·exact bJ.du (fR h t x f cr (by assumption) (by assumption) (by exact rfl) hr)
   ·split at hr
    ·exact bJ.du (fR h t x f cr (by assumption) (by assumption) (by exact⟨rfl,_,fi (by assumption)⟩) hr)
    ·cases hr
   ·exact bJ.du (fR h t x f cr (by assumption) (by assumption) (by exact rfl) hr)
   ·cases hr
  ·cases hr
 ·
  rename_i t x i cr;split at hr
  ·split at hr
   ·split at hr
    ·split at hr
     ·split at hr
      ·obtain⟨hc,hr⟩:=aY hr;simp only[aJ,cD]at hc;exact bJ.du (NY h t x i cr (by assumption) (by assumption) (by assumption) (by assumption) (by assumption) (aP hc.1) hc.2.1 hc.2.2 hr)
      ·cases hr
     ·cases hr
    ·obtain⟨hc,hr⟩:=aY hr;simp only[aJ,cD]at hc;exact bJ.du (Q4 h t x i cr (by assumption) (by assumption) (by assumption) (aP hc.1.1) (bI hc.1.2) hc.2.1 hc.2.2 hr)
    ·cases hr
   ·split at hr
    ·obtain⟨hc,hr⟩:=aY hr;simp only[aJ,cD]at hc;exact bJ.du (NZ h t x i cr (by assumption) (by assumption) (by assumption) (bI hc.1) hc.2.1 hc.2.2 hr)
    ·cases hr
   ·cases hr
  ·cases hr
 ·
  rename_i t x i cr;split at hr
  ·obtain⟨hc,hr⟩:=aY hr;simp only[aJ,cD]at hc;exact bJ.du (aaK h t x i cr (by assumption) (by assumption) (by assumption) hc.1 hc.2 hr)
  ·cases hr
 ·
  rename_i t x f cr;split at hr
  ·rename_i hf hx;dsimp only at hr;split at hr
   ·rename_i hn;split at hr
    ·exact bJ.du (Br h t x f cr hf hx hn (b:=true) (by assumption) (v:=.agg _) rfl hr)
    ·split at hr
     ·rename_i nK _ y hq;exact bJ.du (Br h t x f cr hf hx hn (b:=false) nK (v:=.c y) ⟨y,hq,rfl⟩ hr)
     ·cases hr
    ·cases hr
   ·cases hr
  ·cases hr
 ·
  rename_i x i cr;split at hr
  ·split at hr
   ·exact bJ.du (Q0 h x i cr (by assumption) (by assumption) hr)
   ·cases hr
  ·cases hr
 ·
  rename_i f args ts cr;split at hr
  ·rename_i con fw;exact auj (show ah6 P w0 f con from hC f (.one con) fw) (by simpa [kQ,cr,fw]using hq) h cr hr
  ·rename_i con fw;simp[kQ,cr,fw]at hq
  ·rename_i con fw;simp[kQ,cr,fw]at hq
  ·rename_i con fw;simp[kQ,cr,fw]at hq
  ·rename_i fw;simp[kQ,cr,fw]at hq
  ·rename_i fw;simp[kQ,cr,fw]at hq
  ·cases hr
 ·
  rename_i args ts cr;split at hr
  ·rename_i x t hx ht;split at hr
   ·split at hr
    ·exact bJ.du (OH h x t cr hx ht (by assumption) (.inl ⟨by assumption,_,by assumption⟩) hr)
    ·cases hr
   ·split at hr
    ·cases hr
    ·rename_i hns;exact bJ.du (OH h x t cr hx ht (by assumption) (.inr ⟨⟨_,by assumption⟩,fun s hs=>hns s hs⟩) hr)
   ·cases hr
  ·cases hr
 ·
  rename_i args ts cr;split at hr
  ·split at hr
   ·split at hr
    ·exact bJ.du (amC h cr (by assumption) (by assumption) (by assumption) hr)
    ·cases hr
   ·cases hr
  ·cases hr
 ·
  rename_i args ts cr;split at hr
  ·split at hr
   ·split at hr
    ·exact bJ.du (amD h cr (by assumption) (by assumption) (by assumption) hr)
    ·cases hr
   ·cases hr
  ·cases hr
 ·
  rename_i args ts cr;simp[kQ,cr]at hq
 ·
  rename_i g first aqv cr
  simp[kQ,cr]at hq
 ·cases hr
theorem aaV {C:FuncId->Option Any}(hq:pZ P o=true)(h:Inv w0 G st a w)(hr:jD P C (rT.QY N) o st k=some r):bJ P w0 w a o k r:=by
 unfold jD at hr;split at hr
 ·exact(IL h _ (.inl (by assumption)) hr)
 ·exact(IL h _ (.inr (by assumption)) hr)
 ·
  rename_i c x y cr;split at hr
  ·exact(afu h c x y cr (by assumption) hr)
  ·cases hr
 ·
  rename_i t x cr;simp[pZ,cr]at hq
 ·
  rename_i t cr;simp[pZ,cr]at hq
 ·
  rename_i t parts cr;split at hr
  ·split at hr
   ·exact(aaN h t parts cr (by assumption) (by assumption) (by assumption) (by assumption) hr)
   ·cases hr
  ·cases hr
 ·
  rename_i t len parts cr;simp[pZ,cr]at hq
 ·
  rename_i t x cr;split at hr
  ·rename_i l off hcell;dsimp only at hr;split at hr
   ·rename_i hn;split at hr
    ·exact(IM h t x cr hcell hn (b:=true) (by assumption) (v:=.agg _) rfl hr)
    ·split at hr
     ·rename_i nK _ y hq;exact(IM h t x cr hcell hn (b:=false) nK (v:=.c y) ⟨y,hq,rfl⟩ hr)
     ·cases hr
    ·cases hr
   ·cases hr
  ·cases hr
 ·
  rename_i t x y cr;simp[pZ,cr]at hq
 ·
  rename_i x cr;split at hr
  ·exact(NX h x cr (by assumption) hr)
  ·cases hr
 ·
  rename_i op xt x y yt cr;split at hr
  ·exact(aaJ h op xt x y yt cr (by assumption) (by assumption) hr)
  ·split at hr
   ·exact(pG h _ xt x y yt cr (by assumption) (by assumption) (by assumption) (.inl ⟨rfl,rfl⟩) hr)
   ·exact(pG h _ xt x y yt cr (by assumption) (by assumption) (by assumption) (.inr ⟨rfl,rfl⟩) hr)
   ·cases hr
  ·cases hr
 ·
  rename_i op t x cr;split at hr
  ·exact(amk h t x cr (by assumption) hr)
  ·exact(aml h t x cr (by assumption) hr)
  ·cases hr
 ·
  rename_i src dst x cr;split at hr
  ·exact(Q1 h src dst x cr (by assumption) (by assumption) (by assumption) hr)
  ·exact(Q2 h src dst x cr (by assumption) (by assumption) (by assumption) hr)
  ·split at hr
   ·obtain⟨hc,hr⟩:=aY hr;simp[pZ,cr,(show P.underlying _=some (.slice _) by assumption)]at hq
   ·cases hr
  ·split at hr
   ·exact(aaO h src dst x cr (by assumption) (by assumption) (by assumption) (by assumption) hr)
   ·cases hr
  ·cases hr
 ·
  rename_i t p q cr;simp[pZ,cr]at hq
 ·
  rename_i t x lo hi cr;split at hr
  ·split at hr
   ·split at hr
    ·obtain⟨hc,hr⟩:=aY hr;simp only[aJ,cD]at hc;exact(UG h t x lo hi cr (by assumption) (by assumption) (by assumption) (by assumption) hc.1.1 hc.1.2 hc.2 hr)
    ·cases hr
   ·cases hr
  ·split at hr
   ·split at hr
    ·obtain⟨hc,hr⟩:=aY hr;simp only[aJ,cD]at hc;exact(aaM h t x lo hi cr (by assumption) (by assumption) (aP hc.1.1) (bI hc.1.2) (by assumption) (by assumption) hc.2.1.1 hc.2.1.2 hc.2.2 hr)
    ·cases hr
   ·split at hr
    ·split at hr
     ·obtain⟨hc,hr⟩:=aY hr;simp only[aJ,cD]at hc;exact(UH h t x hi cr (by assumption) (by assumption) (by assumption) (aP hc.1) (by assumption) hc.2.1 hc.2.2 hr)
     ·cases hr
    ·split at hr
     ·obtain⟨hc,hr⟩:=aY hr;simp only[aJ,cD]at hc;exact(N1 h t x _ hi cr (by assumption) (by assumption) (by assumption) (aP hc.1) (by assumption) (by assumption) hc.2.1.1 hc.2.1.2 hc.2.2 hr)
     ·cases hr
    ·cases hr
   ·cases hr
  ·cases hr
 ·
  rename_i t x f cr;split at hr
  ·split at hr
   ·exact(fR h t x f cr (by assumption) (by assumption) (by exact rfl) hr)
   ·split at hr
    ·exact(fR h t x f cr (by assumption) (by assumption) (by exact⟨rfl,_,fi (by assumption)⟩) hr)
    ·cases hr
   ·exact(fR h t x f cr (by assumption) (by assumption) (by exact rfl) hr)
   ·cases hr
  ·cases hr
 ·
  rename_i t x i cr;split at hr
  ·split at hr
   ·split at hr
    ·split at hr
     ·split at hr
      ·obtain⟨hc,hr⟩:=aY hr;simp only[aJ,cD]at hc;exact(NY h t x i cr (by assumption) (by assumption) (by assumption) (by assumption) (by assumption) (aP hc.1) hc.2.1 hc.2.2 hr)
      ·cases hr
     ·cases hr
    ·obtain⟨hc,hr⟩:=aY hr;simp only[aJ,cD]at hc;exact(Q4 h t x i cr (by assumption) (by assumption) (by assumption) (aP hc.1.1) (bI hc.1.2) hc.2.1 hc.2.2 hr)
    ·cases hr
   ·split at hr
    ·obtain⟨hc,hr⟩:=aY hr;simp only[aJ,cD]at hc;exact(NZ h t x i cr (by assumption) (by assumption) (by assumption) (bI hc.1) hc.2.1 hc.2.2 hr)
    ·cases hr
   ·cases hr
  ·cases hr
 ·
  rename_i t x i cr;split at hr
  ·obtain⟨hc,hr⟩:=aY hr;simp only[aJ,cD]at hc;exact(aaK h t x i cr (by assumption) (by assumption) (by assumption) hc.1 hc.2 hr)
  ·cases hr
 ·
  rename_i t x f cr;split at hr
  ·rename_i hf hx;dsimp only at hr;split at hr
   ·rename_i hn;split at hr
    ·exact(Br h t x f cr hf hx hn (b:=true) (by assumption) (v:=.agg _) rfl hr)
    ·split at hr
     ·rename_i nK _ y hq;exact(Br h t x f cr hf hx hn (b:=false) nK (v:=.c y) ⟨y,hq,rfl⟩ hr)
     ·cases hr
    ·cases hr
   ·cases hr
  ·cases hr
 ·
  rename_i x i cr;split at hr
  ·split at hr
   ·exact(Q0 h x i cr (by assumption) (by assumption) hr)
   ·cases hr
  ·cases hr
 ·
  rename_i f args ts cr;simp[pZ,cr]at hq
 ·
  rename_i args ts cr;split at hr
  ·rename_i x t hx ht;split at hr
   ·split at hr
    ·exact(OH h x t cr hx ht (by assumption) (.inl ⟨by assumption,_,by assumption⟩) hr)
    ·cases hr
   ·split at hr
    ·cases hr
    ·rename_i hns;exact(OH h x t cr hx ht (by assumption) (.inr ⟨⟨_,by assumption⟩,fun s hs=>hns s hs⟩) hr)
   ·cases hr
  ·cases hr
 ·
  rename_i args ts cr;split at hr
  ·split at hr
   ·split at hr
    ·exact(amC h cr (by assumption) (by assumption) (by assumption) hr)
    ·cases hr
   ·cases hr
  ·cases hr
 ·
  rename_i args ts cr;split at hr
  ·split at hr
   ·split at hr
    ·exact(amD h cr (by assumption) (by assumption) (by assumption) hr)
    ·cases hr
   ·cases hr
  ·cases hr
 ·
  rename_i args ts cr;simp[pZ,cr]at hq
 ·
  rename_i g first aqv cr
  simp[pZ,cr]at hq
 ·cases hr
theorem auk {C:FuncId->Option Any}(hq:pZ P o=true)(hro:I9 st o=true)(h:Inv w0 G st a w)(hr:jD P C (rT.QY N) o st k=some r):ami P w0 G w a o k r:=by
 cases ho:o.op with
 |load t x =>
  simp only[I9,ho]at hro;split at hro
  ·rename_i f u0 y0 aqy aDo;simp only[jD,ho]at hr;split at hr
   ·rename_i l off hc;split at hr
    ·rename_i hn;split at hr
     ·rename_i nK;exact aBR h t x ho hc hn nK rfl aDo hr
     ·rename_i nK;split at hr
      ·rename_i y hy;exact aBR h t x ho hc hn nK ⟨y,hy,rfl⟩ aDo hr
      ·cases hr
     ·cases hr
    ·cases hr
   ·cases hr
  ·cases hro
 |convert s d x=>simp[I9,ho]at hro
 |_ =>
  obtain⟨v,G',dK,he,hi,hk⟩:=aaV hq h hr;exact⟨v,G',dK,fun w1 _=>he w1 (by unfold ah1;rw[ho];trivial),hi,hk⟩
end
end Go.Am
