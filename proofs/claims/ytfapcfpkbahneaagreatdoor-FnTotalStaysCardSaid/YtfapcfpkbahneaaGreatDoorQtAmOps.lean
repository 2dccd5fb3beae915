/- Lemmas for the claim. No condition. -/
import Derived.Test.YtfapcfpkbahneaaGreatDoorQtAmRel
import Derived.Laws.Small
import Derived.Laws.Shifts
import Derived.Laws.BytesArg
import Derived.Laws.Slices
import Derived.Laws.Strings2
import Derived.Laws.Strings3
import Derived.Laws.Strings
import Derived.Laws.OwnMore
import Derived.Laws.AppendOwnNone
set_option linter.all false
namespace Go.Am
open Go.RowKit
section
variable {w0:fJ} {w:World} {G:Gh} {st:St} {a:Act} {bx:List (Nat×List AC)} {bl:List (Nat×Option gp)}
theorem amh (v:Value):bN G w bx bl (Us v) v:=by unfold Us;split<;>simp[bN]
theorem aBP:∀(l:List Value),cT (bN G w bx bl) (l.map Us) l
 |[]=>trivial
 |v::l=>⟨amh v,aBP l⟩
theorem qQ (v:Value):fh G w bx bl (Lv v) v:=by
 unfold Lv;split
 ·exact⟨_,rfl,aBP _⟩
 ·exact amh v
theorem Inv.ev (h:Inv w0 G st a w)(o:Operand):j2 G w st.bx st.bl (st.ev o) (a.eval o):=by
 cases o with
 |tmp t =>
  show j2 G w st.bx st.bl (st.get t) (a.tmps.getD t undef);unfold St.get;cases hl:look st.tm t with
  |none=>exact trivial
  |some v=>exact h.tm t v hl
 |const v=>exact qQ v
 |global g=>exact trivial
 |func f=>exact trivial
theorem Inv.eP (h:Inv w0 G st a w)(o:Operand):fh G w st.bx st.bl (st.eP o) (a.eval o):=by
 have:=h.ev o;unfold St.eP;cases hv:st.ev o with
 |v x=>rw[hv]at this;exact this
 |Ul l=>exact trivial
theorem Inv.ac (h:Inv w0 G st a w)(o:Operand):bN G w st.bx st.bl (st.ac o) (a.eval o):=by
 have:=h.eP o;unfold St.ac;cases hv:st.eP o with
 |c x=>rw[hv]at this;exact this
 |agg l=>exact trivial
theorem bN.one {c:AC}{v:Value}(h:bN G w bx bl c v)(hn:c≠.none):v.oneCell'=true:=by
 cases c with
 |none=>exact absurd rfl hn
 |int k n=>rw[show v=_ from h];rfl
 |bool b=>rw[show v=_ from h];rfl
 |str s=>rw[show v=_ from h];rfl
 |nil=>rw[show v=_ from h];rfl
 |ro f e t xs=>exact(show Rd w _ (.sl e t) xs [v] from h).one v (by simp)
 |own id len =>
  cases len with
  |none =>
   obtain⟨_,⟨A,n,k,he⟩,hv⟩:=h;rw[hv,he];rfl
  |some l =>
   obtain⟨_,_,A,n,cap,_,_,rfl⟩:=h;rfl
 |ptr b off=>rw[h.2];rfl
 |fnp g b=>rw[h.2];rfl
 |any=>exact h
 |Ln id i off=>exact h.2.1
 |T5 f t x off =>
  obtain⟨b,o,c,rfl,_⟩:=h;rfl
theorem acv {v:Value}(h:v.oneCell'=true):v.cells=#[v]:=by cases v<;>first|rfl|(simp[Value.oneCell']at h)
theorem fh.cells {c:CV}{v:Value}(h:fh G w bx bl c v)(hk:c.kn=true):cT (bN G w bx bl) c.cells v.cells.toList:=by
 cases c with
 |c x =>
  have hn:x≠.none:=by rintro rfl;cases hk
  have h1:v.oneCell'=true:=bN.one (c:=x) h hn;rw[acv h1];exact⟨h,trivial⟩
 |agg l =>
  obtain⟨cs,rfl,h⟩:=h;exact h
end
theorem il {a b:Nat}(h:Nat.blt a b=true):a<b:=by rwa [Nat.blt_eq]at h
theorem Ff {a b:Nat}(h:Nat.ble a b=true):a<=b:=by rwa [Nat.ble_eq]at h
theorem aP {a b:Nat}(h:Nat.beq a b=true):a=b:=Nat.eq_of_beq_eq_true h
theorem bI {a b:Nat}(h:(!Nat.beq a b)=true):a≠b:=by rintro rfl;simp at h
theorem aY {α:Type}{c:Bool}{k:Option α}{r:α}(h:ck c k=some r):c=true/\k=some r:=by
 cases c
 ·cases h
 ·exact⟨rfl,h⟩
theorem acw {α:Type}{c:Bool}{x y:Option α}{r:α}(h:br c x y=some r):(c=true/\x=some r)\/(c=false/\y=some r):=by
 cases c
 ·exact .inr ⟨rfl,h⟩
 ·exact .inl ⟨rfl,h⟩
section
variable {P:Program} {w0:fJ} {w:World} {G:Gh} {st:St} {a:Act} {α:Type} {k:St->Option α} {r:α} {K:Act->World->Prop} {Q:Exit->Act->World->Prop} {o:Oper}
theorem Jb {v:Value}{w':World}(he:(execOp a.eval o).run P w=.ok (.value v) w')(h:K (a.put o.dst v) w'):o.wp P a w K Q:=by unfold Oper.wp;rw[he];exact h
theorem aFf {w':World}(he:(execOp a.eval o).run P w=.ok .skip w')(h:K (a.put o.dst undef) w'):o.wp P a w K Q:=by unfold Oper.wp;rw[he];exact h
def rW (w0:fJ)(k:St->Option α)(r:α)(K:Act->World->Prop):Prop:=∀G' dK a' w',Inv w0 G' dK a' w'->k dK=some r->K a' w'
theorem Cr {d:Option Tmp}{v:AV}{u:Value}(h:Inv w0 G st a w)(hv:j2 G w st.bx st.bl v u)(hr:st.pk d v k=some r)(hK:rW w0 k r K):K (a.put d u) w:=by
 cases d with
 |none=>exact hK G st a w h hr
 |some d =>
  obtain⟨hc,hk⟩:=aY hr;exact hK G _ _ w (h.put d (il hc) hv) hk
def ah1 (o:Oper)(w w1:World):Prop:=match o.op with
 |.load _ _|.convert _ _ _=>Below w.heap.size w w1
 |_=>True
theorem x8 {o:Oper}{w w1:World}(h:Below w.heap.size w w1):ah1 o w w1:=by unfold ah1;split<;>first|exact h|trivial
def bJ (P:Program)(w0:fJ)(w:World)(a:Act)(o:Oper){α:Type}(k:St->Option α)(r:α):Prop :=
 ∃v G' dK,(∀w1,ah1 o w w1->(execOp a.eval o).run P w1=.ok (.value v) w1)/\Inv w0 G' dK (a.put o.dst v) w/\k dK=some r
theorem dU (h:Inv w0 G st a w){v:AV}{u:Value}(hv:j2 G w st.bx st.bl v u)(hr:st.pk o.dst v k=some r)(he:∀w1,ah1 o w w1->(execOp a.eval o).run P w1=.ok (.value u) w1):bJ P w0 w a o k r:=by
 obtain⟨G',dK,h1,h2⟩:=Cr (K:=fun a' w'=>∃G' dK,Inv w0 G' dK a' w'/\k dK=some r) h hv hr fun G' dK a' w' h' lI=>⟨G',dK,h',lI⟩
 exact⟨u,G',dK,he,h1,h2⟩
theorem bS (h:bJ P w0 w a o k r)(hK:rW w0 k r K):o.wp P a w K Q:=by obtain⟨v,G',dK,he,h1,h2⟩:=h;exact Jb (he w (x8 (Below.refl _ w))) (hK _ _ _ _ h1 h2)
theorem aDm (h:Inv w0 G st a w){w1:World}(hB:Below w.heap.size w w1):Xr G w G w1:=⟨rfl,rfl,hB.size,fun b hb ho=>⟨ho,hB.block b hb⟩,fun b hb ho=>⟨ho,hB.block b hb⟩⟩
theorem Inv.lit (h:Inv w0 G st a w)(x:Operand)(b:Bool)(hb:a.eval x=.bool b):Inv w0 G (st.lit x b) a w:=by
 cases x with
 |tmp t =>
  refine {h with tm:=fun s v hs=>?_};simp only[St.lit,St.put,aw]at hs;by_cases ht:t=s
  ·subst ht;simp only[ig]at hs;cases hs;exact hb
  ·simp only[ht,gT]at hs;exact h.tm s v hs
 |const v=>exact h
 |global g=>exact h
 |func f=>exact h
theorem atW {c:AC}{v:Value}{b:Bool}{bx:List (Nat×List AC)}{bl:List (Nat×Option gp)}(h:bN G w bx bl c v)(hc:c=.bool b):v=.bool b:=by subst hc;exact h
theorem IL (h:Inv w0 G st a w)(x:Operand)(ho:o.op=.move x\/o.op=.assign x)(hr:st.pk o.dst (st.ev x) k=some r):bJ P w0 w a o k r:=by
 refine dU (u:=a.eval x) h (h.ev x) hr fun w1 hB=>?_
 rcases ho with ho|ho<;>(unfold execOp;rw[ho];rfl)
theorem afu (h:Inv w0 G st a w)(c x y:Operand)(ho:o.op=.pick c x y){b:Bool}(hc:st.ac c=.bool b)
  (hr:br b ((st.lit c true).pk o.dst (st.ev x) k) ((st.lit c false).pk o.dst (st.ev y) k)=some r):bJ P w0 w a o k r:=by
 have hb:=atW (h.ac c) hc;have he:∀w1,(execOp a.eval o).run P w1=.ok (.value (if b then a.eval x else a.eval y)) w1:=by intro w1;unfold execOp;rw[ho];simp[hb,asBool]
 rcases acw hr with ⟨rfl,hr⟩|⟨rfl,hr⟩
 ·exact dU (h.lit c true hb) (v:=st.ev x) (u:=a.eval x) (by have:=h.ev x;cases c<;>exact this) hr fun w1 _=>he w1
 ·exact dU (h.lit c false hb) (v:=st.ev y) (u:=a.eval y) (by have:=h.ev y;cases c<;>exact this) hr fun w1 _=>he w1
theorem Bo (t:TypeId)(v:Value)(w:World):(newVar t v).run P w=.ok ⟨w.heap.size,0,none⟩ (w.alloc (.cells v.cells t)):=by simp[newVar,newRow]
theorem awH (h:Inv w0 G st a w)(d:Tmp)(hd:look st.bx d=none)(hlt:d<st.nt)(c:CV)(v:Value)(hc:fh G w st.bx st.bl c v)(hk:c.kn=true)(t:TypeId)
  (hr:k {(st.put d (.v (.c (.ptr d 0)))) with bx:=(d,c.cells)::st.bx}=some r) (hK:rW w0 k r K) :
  K (a.put (some d) (.pointer (some ⟨w.heap.size,0,none⟩))) (w.alloc (.cells v.cells t)):=by
 obtain⟨h1,hx,hs⟩:=h.box d hd v.cells t c.cells (hc.cells hk);have h2:=h1.put d hlt (v:=.v (.c (.ptr d 0))) (u:=.pointer (some ⟨w.heap.size,0,none⟩)) (by
  refine⟨?_,?_⟩
  ·simp[aw]
  ·simp[Gh.box])
 exact hK _ _ _ _ h2 hr
theorem aDn (h:Inv w0 G st a w)(t:TypeId)(x:Operand)(ho:o.op=.box t x){d:Tmp}(UA:o.dst=some d)(hd:look st.bx d=none)
  (hr:ck (Nat.blt d st.nt&&(st.eP x).kn) (k {(st.put d (.v (.c (.ptr d 0)))) with bx:=(d,(st.eP x).cells)::st.bx})=some r) (hK:rW w0 k r K):o.wp P a w K Q:=by
 obtain⟨hc,hk⟩:=aY hr;rw[aJ]at hc;refine Jb (v:=.pointer (some ⟨w.heap.size,0,none⟩)) (w':=w.alloc (.cells (a.eval x).cells t)) ?_ ?_
 ·unfold execOp;rw[ho];simp[Instr.box,Bo]
 ·rw[UA];exact awH h d hd (il hc.1) _ _ (h.eP x) hc.2 t hk hK
theorem jE {t:TypeId}{z:CV}(h:tR P t=some z):∃i v,P.info? t=some i/\i.zero=some v/\z=Lv v:=by
 unfold tR at h;split at h
 ·rename_i i hi;split at h
  ·rename_i v hv;exact⟨i,v,hi,hv,by cases h;rfl⟩
  ·cases h
 ·cases h
theorem awI (h:Inv w0 G st a w)(t:TypeId)(ho:o.op=.alloc t){d:Tmp}(UA:o.dst=some d)(hd:look st.bx d=none){z:CV}(hz:tR P t=some z)
  (hr:ck (Nat.blt d st.nt&&z.kn) (k {(st.put d (.v (.c (.ptr d 0)))) with bx:=(d,z.cells)::st.bx})=some r) (hK:rW w0 k r K):o.wp P a w K Q:=by
 obtain⟨hc,hk⟩:=aY hr;rw[aJ]at hc;obtain⟨i,v,hi,hv,rfl⟩:=jE hz;refine Jb (v:=.pointer (some ⟨w.heap.size,0,none⟩)) (w':=w.alloc (.cells v.cells t)) ?_ ?_
 ·unfold execOp;rw[ho];simp[Instr.alloc,zeroValue,typeInfo,hi,hv,Bo]
 ·rw[UA];exact awH h d hd (il hc.1) _ _ (qQ v) hc.2 t hk hK
theorem UB {f:Bool}{bx:List (Nat×List AC)}{bl:List (Nat×Option gp)}:∀{t:Ty} {x:t.D} {c:List Value},Rd w (RO G f) t x c->cT (bN G w bx bl) (ex f t x) c
 |.int _,_,_,h=>by rw[show _=_ from h];exact⟨rfl,trivial⟩
 |.bool,_,_,h=>by rw[show _=_ from h];exact⟨rfl,trivial⟩
 |.str,_,_,h=>by rw[show _=_ from h];exact⟨rfl,trivial⟩
 |.unit,_,_,h=>by rw[show _=_ from h];trivial
 |.pair a b,_,_,h=>by obtain⟨c1,c2,rfl,h1,h2⟩:=h;exact cT.app (UB h1) (UB h2)
 |.sl e t,xs,c,h=>by obtain⟨A,cap,rfl,hr⟩:=h;exact⟨⟨A,cap,rfl,hr⟩,trivial⟩
def ep (w:World)(b o:Nat)(vs:List Value):Prop:=∀i u,vs[i]?=some u->w.cell? ⟨b,o+i,none⟩=some u
theorem ep.drop {b o n:Nat}{vs:List Value}(h:ep w b o vs):ep w b (o+n) (vs.drop n):=by
 intro i u hu;rw[ahT]at hu;have:=h _ _ hu
 rwa [<-Up]at this
theorem ep.take {b o n:Nat}{vs:List Value}(h:ep w b o vs):ep w b o (vs.take n):=by
 intro i u hu;rw[OC]at hu;split at hu
 ·exact h _ _ hu
 ·cases hu
theorem ep.of_heap {g:Nat}{cs:Array Value}{e:TypeId}{fr:Nat×Nat}(h:w.heap[g]?=some (.cells cs e fr)):ep w g 0 cs.toList:=by intro i u hu;rw[xf,cell_of_row w g i cs e fr h];simpa using hu
theorem Bp {α:Type}{l:List α}{i:Nat}(h:i<l.length)(d:α):l[i]?=some (l.getD i d):=by simp[oY h,Un]
theorem aHT {id:Nat}{b:gp}(hb:Ec G w id b){g o n cap:Nat}(hv:G.hv id=.slice (some ⟨g,o,none⟩) n cap){j:Nat}(hj:j<n) :
  n=b.xs.length/\∃c,Rd w (RO G b.f) b.t (b.xs.getD j b.t.aF) c/\ep w g (o+j*b.t.n) c:=by
 cases hw:b.w with
 |true =>
  obtain⟨cs,h1,h2,h3⟩:=hb.wr hw;rcases h1.2 with ⟨he,_⟩|⟨g',azJ,cur,he,_,hh,_,_,_,htk⟩
  ·rw[hv]at he;cases he
  ·rw[hv]at he;injection he with he1 he2 he3
   injection he1 with he1
   injection he1 with hg ho _
   subst hg ho he2;refine⟨rfl,?_⟩;obtain⟨c,hr,hc⟩:=h3 j _ (Bp hj b.t.aF);refine⟨c,hr,fun i u hu=>?_⟩;have:=hc i u hu;rw[<-htk,OC]at this;split at this
   ·rw[xf,cell_of_row w g _ cur b.e (0,0) hh];simpa using this
   ·cases this
 |false =>
  obtain⟨A,azJ,he,hc1,h63,hr⟩:=hb.rd hw;have he':=xX he;rw[hv]at he';injection he'.1 with h1 h2 h3
  subst h2;refine⟨rfl,?_⟩;obtain⟨b1,o1,hA,_,_,hr⟩:=hr (by omega);rw[hA]at h1;injection h1 with h1
  injection h1 with hg ho _
  subst hg ho;obtain⟨c,kt,hcell⟩:=hr j _ (Bp hj b.t.aF);refine⟨c,kt,fun i u hu=>?_⟩;rw[Up];exact hcell i u hu
theorem UC (h:Inv w0 G st a w){c:AC}{v:Value}(hc:bN G w st.bx st.bl c v){l:List AC}{off:Nat}(he:uR st c=some (l,off)) :
  ∃g o vs,v=.pointer (some ⟨g,o+off,none⟩)/\ep w g o vs/\cT (bN G w st.bx st.bl) l vs:=by
 cases c with
 |ptr b q =>
  obtain⟨h1,rfl⟩:=hc;simp only[uR]at he;cases hl:look st.bx b with
  |none=>rw[hl]at he;cases he
  |some m =>
   rw[hl]at he;cases he;obtain⟨cs,e,hh,_,hr⟩:=h.bx b _ hl;exact⟨G.hb b,0,cs.toList,by rw[xf],ep.of_heap hh,hr⟩
 |Ln id i q =>
  simp only[uR]at he;obtain⟨h1,_,h0,g,o,n,cap,hv,hi,hp⟩:=hc;unfold St.rS at he;cases hl:look st.bl id with
  |none=>rw[hl]at he;cases he
  |some ob =>
   rw[hl]at he;cases ob with
   |none=>cases he
   |some b =>
    cases he;have hp:=hp b hl;obtain⟨hn,c,hr,hcell⟩:=aHT (h.bl id b hl) hv (show i.toNat<n by omega);refine⟨g,o+i.toNat*b.t.n,c,?_,hcell,UB hr⟩;rw[hp,Up]
 |T5 f t x q =>
  simp only[uR]at he;cases he;obtain⟨b,o,cs,rfl,_,dO,hr,hcell⟩:=hc;exact⟨b,o,cs,rfl,hcell,UB hr⟩
 |_=>cases he
theorem Ee {t:TypeId}{g o:Nat}{vs:List Value}(hc:ep w g o vs)(hn:P.cellsOf t=vs.length)(hp:0<vs.length\/True){b:Bool}(nK:aaD P t=some b) :
  (loadVar t ⟨g,o,none⟩).run P w=match b with|true=>(match P.info? t with|some _=>.ok (.agg vs.toArray) w|none=>(loadVar t ⟨g,o,none⟩).run P w)|false=>(load ⟨g,o,none⟩).run P w:=by
 have hia:(isAgg t).run P w=.ok b w:=by
  unfold isAgg aaD at *;cases hu:P.underlying t with
  |none=>rw[hu]at nK;cases nK
  |some d =>
   rw[hu]at nK;rw[Sem.run_bind,run_underlying hu w];cases d<;>simp_all
 cases b with
 |false=>simp[loadVar,hia]
 |true =>
  cases hi:P.info? t with
  |none=>rfl
  |some i =>
   have hs:i.size=vs.length:=by rw[<-hn];simp[Program.cellsOf,hi]
   have hl:(loadCells ⟨g,o,none⟩ vs.length).run P w=.ok vs.toArray w:=by
    refine run_loadCells_list (P:=P) w ⟨g,o,none⟩ vs fun j v hv=>?_
    have:(⟨g,o,none⟩:Addr).add j=⟨g,o+j,none⟩:=by unfold Addr.add;split<;>simp_all
    rw[this];exact hc j v hv
   simp[loadVar,hia,sizeOf,typeInfo,hi,hs,hl]
theorem Ef {t:TypeId}{b:Bool}(h:aaD P t=some b):∃i,P.info? t=some i:=by
 unfold aaD Program.underlying at h;cases hi:P.info? t with
 |none=>rw[hi]at h;cases h
 |some i=>exact⟨i,rfl⟩
theorem ep.below {w w1:World}(hB:Below w.heap.size w w1){g o:Nat}{vs:List Value}(h:ep w g o vs):ep w1 g o vs:=by intro j v hv;have hc:=h j v hv;have hlt:=World.block_lt_of_cell? _ _ hc;rw[cell_of_heap (hB.block g hlt)];exact hc
theorem IM (h:Inv w0 G st a w)(t:TypeId)(x:Operand)(ho:o.op=.load t x){l:List AC}{off:Nat}(hc:uR st (st.ac x)=some (l,off))
  (hn:Nat.beq (xY (P.cellsOf t) (xZ off l)).length (P.cellsOf t)=true)
  {b:Bool} (nK:aaD P t=some b)
  {v:CV} (hv:match b with|true=>v=.agg (xY (P.cellsOf t) (xZ off l))|false=>∃y,xY (P.cellsOf t) (xZ off l)=[y]/\v=.c y)
  (hr:st.pk o.dst (.v v) k=some r):bJ P w0 w a o k r:=by
 obtain⟨g,q,vs,hp,hcell,hrel⟩:=UC h (h.ac x) hc;have ef:=(hrel.drop off).take (P.cellsOf t);have x9:ep w g (q+off) ((vs.drop off).take (P.cellsOf t)):=hcell.drop.take;have hlen:=ef.len;have hn':=aP hn;have UD:=fun w1 (hB:Below w.heap.size w w1)=>Ee (P:=P) (ep.below hB x9) (by omega) (.inr trivial) nK
 have Bq:∀w1,ah1 o w w1->Below w.heap.size w w1:=fun w1 hB=>by unfold ah1 at hB;rw[ho]at hB;exact hB
 obtain⟨i,hi⟩:=Ef nK;cases b with
 |true =>
  subst hv;simp only[hi]at UD;refine dU (u:=.agg ((vs.drop off).take (P.cellsOf t)).toArray) h (v:=.v (.agg _)) ⟨_,rfl,ef⟩ hr fun w1 hB=>?_
  have hB:=Bq w1 hB;have hrun:=UD w1 hB;unfold execOp;rw[ho];simp[Instr.loadAt,Instr.sureAddr,hp,hrun]
 |false =>
  obtain⟨y,hy,rfl⟩:=hv;rw[hy]at ef;obtain⟨u,hu⟩:∃u,(vs.drop off).take (P.cellsOf t)=[u]:=by
   cases hm:(vs.drop off).take (P.cellsOf t) with
   |nil=>rw[hm]at ef;exact ef.elim
   |cons u m =>
    rw[hm]at ef;cases m with
    |nil=>exact⟨u,rfl⟩
    |cons _ _=>exact ef.2.elim
  rw[hu]at ef x9;refine dU (u:=u) h (v:=.v (.c y)) ef.1 hr fun w1 hB=>?_
  have hB:=Bq w1 hB;have hrun:=UD w1 hB;have hcu:=ep.below hB x9 0 u rfl;rw[acm]at hcu;unfold execOp;rw[ho];simp[Instr.loadAt,Instr.sureAddr,hp,hrun,hcu]
def ami (P:Program)(w0:fJ)(G:Gh)(w:World)(a:Act)(o:Oper){α:Type}(k:St->Option α)(r:α):Prop :=
 ∃v G' dK,(∀w1,(∀g,g<w.heap.size->G.own g=none->w1.heap[g]?=w.heap[g]?)->(execOp a.eval o).run P w1=.ok (.value v) w1)/\Inv w0 G' dK (a.put o.dst v) w/\k dK=some r
theorem aBQ (h:Inv w0 G st a w){v:AV}{u:Value}(hv:j2 G w st.bx st.bl v u)(hr:st.pk o.dst v k=some r)(he:∀w1,(∀g,g<w.heap.size->G.own g=none->w1.heap[g]?=w.heap[g]?)->(execOp a.eval o).run P w1=.ok (.value u) w1):ami P w0 G w a o k r:=by
 obtain⟨G',dK,h1,h2⟩:=Cr (K:=fun a' w'=>∃G' dK,Inv w0 G' dK a' w'/\k dK=some r) h hv hr fun G' dK a' w' h' lI=>⟨G',dK,h',lI⟩
 exact⟨u,G',dK,he,h1,h2⟩
theorem azK (h:Inv w0 G st a w){c:AC}{v:Value}(hc:bN G w st.bx st.bl c v){f:Bool}{u0:Ty}{y0:u0.D}{aqy:Nat}(aDo:c=.T5 f u0 y0 aqy){l:List AC}{off:Nat}(he:uR st c=some (l,off)) :
  ∃g o vs,v=.pointer (some ⟨g,o+off,none⟩)/\ep w g o vs/\cT (bN G w st.bx st.bl) l vs/\G.own g=none/\g<w.heap.size:=by
 subst aDo;obtain⟨b,o,c,hv,hb,dO,hr,hc⟩:=hc;cases he;exact⟨b,o,c,hv,hc,UB hr,dO.1,hb⟩
theorem aBR (h:Inv w0 G st a w)(t:TypeId)(x:Operand)(ho:o.op=.load t x){l:List AC}{off:Nat}(hc:uR st (st.ac x)=some (l,off))
  (hn:Nat.beq (xY (P.cellsOf t) (xZ off l)).length (P.cellsOf t)=true)
  {b:Bool} (nK:aaD P t=some b)
  {v:CV} (hv:match b with|true=>v=.agg (xY (P.cellsOf t) (xZ off l))|false=>∃y,xY (P.cellsOf t) (xZ off l)=[y]/\v=.c y)
  {f:Bool} {u0:Ty} {y0:u0.D} {aqy:Nat} (aDo:st.ac x=.T5 f u0 y0 aqy) (hr:st.pk o.dst (.v v) k=some r):ami P w0 G w a o k r:=by
 obtain⟨g,q,vs,hp,hcell,hrel,hg,hlt⟩:=azK h (h.ac x) aDo hc;have ef:=(hrel.drop off).take (P.cellsOf t);have x9:ep w g (q+off) ((vs.drop off).take (P.cellsOf t)):=hcell.drop.take;have hlen:=ef.len;have hn':=aP hn;have hst:∀w1,(∀g,g<w.heap.size->G.own g=none->w1.heap[g]?=w.heap[g]?)->ep w1 g (q+off) ((vs.drop off).take (P.cellsOf t)):=fun w1 hB i u hu=>by rw[cell_of_heap (hB g hlt hg)];exact x9 i u hu
 have UD:=fun w1 hB=>Ee (P:=P) (hst w1 hB) (by omega) (.inr trivial) nK
 obtain⟨i,hi⟩:=Ef nK;cases b with
 |true =>
  subst hv;simp only[hi]at UD;refine aBQ (u:=.agg ((vs.drop off).take (P.cellsOf t)).toArray) h (v:=.v (.agg _)) ⟨_,rfl,ef⟩ hr fun w1 hB=>?_
  have hrun:=UD w1 hB;unfold execOp;rw[ho];simp[Instr.loadAt,Instr.sureAddr,hp,hrun]
 |false =>
  obtain⟨y,hy,rfl⟩:=hv;rw[hy]at ef;obtain⟨u,hu⟩:∃u,(vs.drop off).take (P.cellsOf t)=[u]:=by
   cases hm:(vs.drop off).take (P.cellsOf t) with
   |nil=>rw[hm]at ef;exact ef.elim
   |cons u m =>
    rw[hm]at ef;cases m with
    |nil=>exact⟨u,rfl⟩
    |cons _ _=>exact ef.2.elim
  rw[hu]at ef x9;refine aBQ (u:=u) h (v:=.v (.c y)) ef.1 hr fun w1 hB=>?_
  have hrun:=UD w1 hB;have hcu:=hst w1 hB 0 u (by rw[hu];rfl);rw[acm]at hcu;unfold execOp;rw[ho];simp[Instr.loadAt,Instr.sureAddr,hp,hrun,hcu]
def amj (P:Program)(w0:fJ)(G:Gh)(w:World)(d:Nat)(a:Act)(o:Oper){α:Type}(k:St->Option α)(r:α):Prop :=
 ∃v G' dK,(∀w1:World,w1.heap[G.hb d]?=w.heap[G.hb d]?->(execOp a.eval o).run P w1=.ok (.value v) w1)/\Inv w0 G' dK (a.put o.dst v) w/\k dK=some r
theorem aBS (h:Inv w0 G st a w){d:Nat}{v:AV}{u:Value}(hv:j2 G w st.bx st.bl v u)(hr:st.pk o.dst v k=some r)(he:∀w1:World,w1.heap[G.hb d]?=w.heap[G.hb d]?->(execOp a.eval o).run P w1=.ok (.value u) w1):amj P w0 G w d a o k r:=by
 obtain⟨G',dK,h1,h2⟩:=Cr (K:=fun a' w'=>∃G' dK,Inv w0 G' dK a' w'/\k dK=some r) h hv hr fun G' dK a' w' h' lI=>⟨G',dK,h',lI⟩
 exact⟨u,G',dK,he,h1,h2⟩
theorem azL (h:Inv w0 G st a w){c:AC}{v:Value}(hc:bN G w st.bx st.bl c v){d aqy:Nat}(acx:c=.ptr d aqy){l:List AC}{off:Nat}(he:uR st c=some (l,off)) :
  ∃o vs,v=.pointer (some ⟨G.hb d,o+off,none⟩)/\ep w (G.hb d) o vs/\cT (bN G w st.bx st.bl) l vs:=by
 subst acx;obtain⟨g,q,vs,h1,h2,h3⟩:=UC h hc he;have h4:=hc.2;simp only[uR]at he;split at he
 ·rename_i l' hl;cases he;rw[h4]at h1;injection h1 with h1
  injection h1 with h1
  injection h1 with h1 h5 _
  subst h1;exact⟨q,vs,by rw[<-h5];exact h4,h2,h3⟩
 ·cases he
theorem aBT (h:Inv w0 G st a w)(t:TypeId)(x:Operand)(ho:o.op=.load t x){l:List AC}{off:Nat}(hc:uR st (st.ac x)=some (l,off))
  (hn:Nat.beq (xY (P.cellsOf t) (xZ off l)).length (P.cellsOf t)=true)
  {b:Bool} (nK:aaD P t=some b)
  {v:CV} (hv:match b with|true=>v=.agg (xY (P.cellsOf t) (xZ off l))|false=>∃y,xY (P.cellsOf t) (xZ off l)=[y]/\v=.c y)
  {d aqy:Nat} (acx:st.ac x=.ptr d aqy) (hr:st.pk o.dst (.v v) k=some r):amj P w0 G w d a o k r:=by
 obtain⟨q,vs,hp,hcell,hrel⟩:=azL h (h.ac x) acx hc;have ef:=(hrel.drop off).take (P.cellsOf t);have x9:ep w (G.hb d) (q+off) ((vs.drop off).take (P.cellsOf t)):=hcell.drop.take;have hlen:=ef.len;have hn':=aP hn;have hst:∀w1:World,w1.heap[G.hb d]?=w.heap[G.hb d]?->ep w1 (G.hb d) (q+off) ((vs.drop off).take (P.cellsOf t)):=fun w1 hB i u hu=>by rw[cell_of_heap hB];exact x9 i u hu
 have UD:=fun w1 hB=>Ee (P:=P) (hst w1 hB) (by omega) (.inr trivial) nK
 obtain⟨i,hi⟩:=Ef nK;cases b with
 |true =>
  subst hv;simp only[hi]at UD;refine aBS (u:=.agg ((vs.drop off).take (P.cellsOf t)).toArray) h (v:=.v (.agg _)) ⟨_,rfl,ef⟩ hr fun w1 hB=>?_
  have hrun:=UD w1 hB;unfold execOp;rw[ho];simp[Instr.loadAt,Instr.sureAddr,hp,hrun]
 |false =>
  obtain⟨y,hy,rfl⟩:=hv;rw[hy]at ef;obtain⟨u,hu⟩:∃u,(vs.drop off).take (P.cellsOf t)=[u]:=by
   cases hm:(vs.drop off).take (P.cellsOf t) with
   |nil=>rw[hm]at ef;exact ef.elim
   |cons u m =>
    rw[hm]at ef;cases m with
    |nil=>exact⟨u,rfl⟩
    |cons _ _=>exact ef.2.elim
  rw[hu]at ef x9;refine aBS (u:=u) h (v:=.v (.c y)) ef.1 hr fun w1 hB=>?_
  have hrun:=UD w1 hB;have hcu:=hst w1 hB 0 u (by rw[hu];rfl);rw[acm]at hcu;unfold execOp;rw[ho];simp[Instr.loadAt,Instr.sureAddr,hp,hrun,hcu]
end
end Go.Am
