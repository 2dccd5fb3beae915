/- No condition. -/
import Derived.Test.YtfapcfpkbahneaaGreatDoorQpAmRel
import Derived.Laws.Small
import Derived.Laws.Shifts
import Derived.Laws.BytesArg
import Derived.Laws.Slices
import Derived.Laws.Strings2
import Derived.Laws.Strings3
import Derived.Laws.Strings
import Derived.Laws.OwnMore
import Derived.Laws.AppendOwnNone
set_option linter.all false
namespace Go.Am
open Go.RowKit
section
variable {w0:fR} {w:World} {G:Gh} {st:St} {a:Act} {bx:List (Nat×List AC)} {bl:List (Nat×Option gB)}
def am2 (v:Value):bS G w bx bl (U2 v) v:=by unfold U2;split<;>simp[bS]
def aDh:∀(l:List Value),cT (bS G w bx bl) (l.map U2) l
 |[]=>trivial|v::l=>⟨am2 v,aDh l⟩
def qY (v:Value):fv G w bx bl (LQ v) v:=by
 unfold LQ;split
 .exact⟨_,rfl,aDh _⟩
 .exact am2 v
def Inv.ev (h:Inv w0 G st a w)(o:Operand):kf G w st.bx st.bl (st.ev o) (a.eval o):=by
 cases o with
 |tmp t =>
  show kf G w st.bx st.bl (st.get t) (a.tmps.getD t undef);unfold St.get;cases hl:look st.tm t with
  |none=>exact trivial|some v=>exact h.tm t v hl
 |const v=>exact qY v|global g=>exact trivial|func f=>exact trivial
def Inv.eZ (h:Inv w0 G st a w)(o:Operand):fv G w st.bx st.bl (st.eZ o) (a.eval o):=by
 have:=h.ev o;unfold St.eZ;cases hv:st.ev o with
 |v x=>rw[hv]at this;exact this|UO l=>exact trivial
def Inv.ac (h:Inv w0 G st a w)(o:Operand):bS G w st.bx st.bl (st.ac o) (a.eval o):=by
 have:=h.eZ o;unfold St.ac;cases hv:st.eZ o with
 |c x=>rw[hv]at this;exact this|agg l=>exact trivial
def bS.one {c:AC}{v:Value}(h:bS G w bx bl c v)(hn:c≠.none):v.oneCell'=true:=by
 cases c with
 |none=>exact absurd rfl hn|int k n=>rw[show v=_ from h];rfl
 |bool b=>rw[show v=_ from h];rfl
 |str s=>rw[show v=_ from h];rfl
 |nil=>rw[show v=_ from h];rfl
 |ro f e t xs=>exact(show Rd w _ (.sl e t) xs [v] from h).one v (by simp)
 |own id len =>
  cases len with
  |none =>
   obtain⟨_,⟨A,n,k,he⟩,hv⟩:=h;rw[hv,he];rfl
  |some l =>
   obtain⟨_,_,A,n,cap,_,_,rfl⟩:=h;rfl
 |ptr b off=>rw[h.2];rfl|fnp g b=>rw[h.2];rfl|any=>exact h|LI id i off=>exact h.2.1
 |UA f t x off =>
  obtain⟨b,o,c,rfl,_⟩:=h;rfl
def acU {v:Value}(h:v.oneCell'=true):v.cells=#[v]:=by cases v<;>first|rfl|(simp[Value.oneCell']at h)
def fv.cells {c:CV}{v:Value}(h:fv G w bx bl c v)(hk:c.kn=true):cT (bS G w bx bl) c.cells v.cells.toList:=by
 cases c with
 |c x =>
  have hn:x≠.none:=by rintro rfl;cases hk
  have h1:v.oneCell'=true:=bS.one (c:=x) h hn;rw[acU h1];exact⟨h,trivial⟩
 |agg l =>
  obtain⟨cs,rfl,h⟩:=h;exact h
end
def iD {a b:Nat}(h:Nat.blt a b=true):a<b:=by rwa [Nat.blt_eq]at h
def Fz {a b:Nat}(h:Nat.ble a b=true):a<=b:=by rwa [Nat.ble_eq]at h
def aP {a b:Nat}(h:Nat.beq a b=true):a=b:=Nat.eq_of_beq_eq_true h
def bO {a b:Nat}(h:(!Nat.beq a b)=true):a≠b:=by rintro rfl;simp at h
def aY {U:Type}{c:Bool}{k:Option U}{r:U}(h:ck c k=some r):c=true/\k=some r:=by
 cases c
 .cases h
 .exact⟨rfl,h⟩
def acV {U:Type}{c:Bool}{x y:Option U}{r:U}(h:br c x y=some r):(c=true/\x=some r)\/(c=false/\y=some r):=by
 cases c
 .exact .inr ⟨rfl,h⟩
 .exact .inl ⟨rfl,h⟩
section
variable {P:Program} {w0:fR} {w:World} {G:Gh} {st:St} {a:Act} {U:Type} {k:St->Option U} {r:U} {K:Act->World->Prop} {Q:Exit->Act->World->Prop} {o:Oper}
def Jw {v:Value}{w':World}(he:(execOp a.eval o).run P w=.ok (.value v) w')(h:K (a.put o.dst v) w'):o.wp P a w K Q:=by unfold Oper.wp;rw[he];exact h
def aGS {w':World}(he:(execOp a.eval o).run P w=.ok .skip w')(h:K (a.put o.dst undef) w'):o.wp P a w K Q:=by unfold Oper.wp;rw[he];exact h
def sg (w0:fR)(k:St->Option U)(r:U)(K:Act->World->Prop):Prop:=∀G' dV a' w',Inv w0 G' dV a' w'->k dV=some r->K a' w'
def CM {d:Option Tmp}{v:AV}{u:Value}(h:Inv w0 G st a w)(hv:kf G w st.bx st.bl v u)(hr:st.pk d v k=some r)(hK:sg w0 k r K):K (a.put d u) w:=by
 cases d with
 |none=>exact hK G st a w h hr
 |some d =>
  obtain⟨hc,hk⟩:=aY hr;exact hK G _ _ w (h.put d (iD hc) hv) hk
def aiA (o:Oper)(w w1:World):Prop:=match o.op with
 |.load _ _|.convert _ _ _=>Below w.heap.size w w1|_=>True
def yA {o:Oper}{w w1:World}(h:Below w.heap.size w w1):aiA o w w1:=by unfold aiA;split<;>first|exact h|trivial
def bP (P:Program)(w0:fR)(w:World)(a:Act)(o:Oper){U:Type}(k:St->Option U)(r:U):Prop :=
 ∃v G' dV,(∀w1,aiA o w w1->(execOp a.eval o).run P w1=.ok (.value v) w1)/\Inv w0 G' dV (a.put o.dst v) w/\k dV=some r
def en (h:Inv w0 G st a w){v:AV}{u:Value}(hv:kf G w st.bx st.bl v u)(hr:st.pk o.dst v k=some r)(he:∀w1,aiA o w w1->(execOp a.eval o).run P w1=.ok (.value u) w1):bP P w0 w a o k r:=by
 obtain⟨G',dV,h1,h2⟩:=CM (K:=fun a' w'=>∃G' dV,Inv w0 G' dV a' w'/\k dV=some r) h hv hr fun G' dV a' w' h' l4=>⟨G',dV,h',l4⟩
 exact⟨u,G',dV,he,h1,h2⟩
def bY (h:bP P w0 w a o k r)(hK:sg w0 k r K):o.wp P a w K Q:=by obtain⟨v,G',dV,he,h1,h2⟩:=h;exact Jw (he w (yA (Below.refl _ w))) (hK _ _ _ _ h1 h2)
def aEW (h:Inv w0 G st a w){w1:World}(hB:Below w.heap.size w w1):X1 G w G w1:=⟨rfl,rfl,hB.size,fun b hb ho=>⟨ho,hB.block b hb⟩,fun b hb ho=>⟨ho,hB.block b hb⟩⟩
def Inv.lit (h:Inv w0 G st a w)(x:Operand)(b:Bool)(hb:a.eval x=.bool b):Inv w0 G (st.lit x b) a w:=by
 cases x with
 |tmp t =>
  refine {h with tm:=fun s v hs=>?_};simp only[St.lit,St.put,aw]at hs;by_cases ht:t=s
  .subst ht;simp only[iA]at hs;cases hs;exact hb
  .simp only[ht,hZ]at hs;exact h.tm s v hs
 |const v=>exact h|global g=>exact h|func f=>exact h
def avd {c:AC}{v:Value}{b:Bool}{bx:List (Nat×List AC)}{bl:List (Nat×Option gB)}(h:bS G w bx bl c v)(hc:c=.bool b):v=.bool b:=by subst hc;exact h
def I5 (h:Inv w0 G st a w)(x:Operand)(ho:o.op=.move x\/o.op=.assign x)(hr:st.pk o.dst (st.ev x) k=some r):bP P w0 w a o k r:=by
 refine en (u:=a.eval x) h (h.ev x) hr fun w1 hB=>?_
 rcases ho with ho|ho<;>(unfold execOp;rw[ho];rfl)
def afW (h:Inv w0 G st a w)(c x y:Operand)(ho:o.op=.pick c x y){b:Bool}(hc:st.ac c=.bool b)
  (hr:br b ((st.lit c true).pk o.dst (st.ev x) k) ((st.lit c false).pk o.dst (st.ev y) k)=some r):bP P w0 w a o k r:=by
 have hb:=avd (h.ac c) hc;have he:∀w1,(execOp a.eval o).run P w1=.ok (.value (if b then a.eval x else a.eval y)) w1:=by intro w1;unfold execOp;rw[ho];simp[hb,asBool]
 rcases acV hr with ⟨rfl,hr⟩|⟨rfl,hr⟩
 .exact en (h.lit c true hb) (v:=st.ev x) (u:=a.eval x) (by have:=h.ev x;cases c<;>exact this) hr fun w1 _=>he w1
 .exact en (h.lit c false hb) (v:=st.ev y) (u:=a.eval y) (by have:=h.ev y;cases c<;>exact this) hr fun w1 _=>he w1
def BF (t:TypeId)(v:Value)(w:World):(newVar t v).run P w=.ok ⟨w.heap.size,0,none⟩ (w.alloc (.cells v.cells t)):=by simp[newVar,newRow]
def axY (h:Inv w0 G st a w)(d:Tmp)(hd:look st.bx d=none)(hlt:d<st.nt)(c:CV)(v:Value)(hc:fv G w st.bx st.bl c v)(hk:c.kn=true)(t:TypeId)
  (hr:k {(st.put d (.v (.c (.ptr d 0)))) with bx:=(d,c.cells)::st.bx}=some r) (hK:sg w0 k r K) :
  K (a.put (some d) (.pointer (some ⟨w.heap.size,0,none⟩))) (w.alloc (.cells v.cells t)):=by
 obtain⟨h1,hx,hs⟩:=h.box d hd v.cells t c.cells (hc.cells hk);have h2:=h1.put d hlt (v:=.v (.c (.ptr d 0))) (u:=.pointer (some ⟨w.heap.size,0,none⟩)) (by
  refine⟨?_,?_⟩
  .simp[aw]
  .simp[Gh.box])
 exact hK _ _ _ _ h2 hr
def aEX (h:Inv w0 G st a w)(t:TypeId)(x:Operand)(ho:o.op=.box t x){d:Tmp}(Va:o.dst=some d)(hd:look st.bx d=none)
  (hr:ck (Nat.blt d st.nt&&(st.eZ x).kn) (k {(st.put d (.v (.c (.ptr d 0)))) with bx:=(d,(st.eZ x).cells)::st.bx})=some r) (hK:sg w0 k r K):o.wp P a w K Q:=by
 obtain⟨hc,hk⟩:=aY hr;rw[aI]at hc;refine Jw (v:=.pointer (some ⟨w.heap.size,0,none⟩)) (w':=w.alloc (.cells (a.eval x).cells t)) ?_ ?_
 .unfold execOp;rw[ho];simp[Instr.box,BF]
 .rw[Va];exact axY h d hd (iD hc.1) _ _ (h.eZ x) hc.2 t hk hK
def jQ {t:TypeId}{z:CV}(h:uh P t=some z):∃i v,P.info? t=some i/\i.zero=some v/\z=LQ v:=by
 unfold uh at h;split at h
 .rename_i i hi;split at h
  .rename_i v hv;exact⟨i,v,hi,hv,by cases h;rfl⟩
  .cases h
 .cases h
def axZ (h:Inv w0 G st a w)(t:TypeId)(ho:o.op=.alloc t){d:Tmp}(Va:o.dst=some d)(hd:look st.bx d=none){z:CV}(hz:uh P t=some z)
  (hr:ck (Nat.blt d st.nt&&z.kn) (k {(st.put d (.v (.c (.ptr d 0)))) with bx:=(d,z.cells)::st.bx})=some r) (hK:sg w0 k r K):o.wp P a w K Q:=by
 obtain⟨hc,hk⟩:=aY hr;rw[aI]at hc;obtain⟨i,v,hi,hv,rfl⟩:=jQ hz;refine Jw (v:=.pointer (some ⟨w.heap.size,0,none⟩)) (w':=w.alloc (.cells v.cells t)) ?_ ?_
 .unfold execOp;rw[ho];simp[Instr.alloc,zeroValue,typeInfo,hi,hv,BF]
 .rw[Va];exact axY h d hd (iD hc.1) _ _ (qY v) hc.2 t hk hK
def Vb {f:Bool}{bx:List (Nat×List AC)}{bl:List (Nat×Option gB)}:∀{t:Ty} {x:t.D} {c:List Value},Rd w (RO G f) t x c->cT (bS G w bx bl) (ex f t x) c
 |.int _,_,_,h=>by rw[show _=_ from h];exact⟨rfl,trivial⟩
 |.bool,_,_,h=>by rw[show _=_ from h];exact⟨rfl,trivial⟩
 |.str,_,_,h=>by rw[show _=_ from h];exact⟨rfl,trivial⟩
 |.unit,_,_,h=>by rw[show _=_ from h];trivial
 |.pair a b,_,_,h=>by obtain⟨c1,c2,rfl,h1,h2⟩:=h;exact cT.app (Vb h1) (Vb h2)
 |.sl e t,xs,c,h=>by obtain⟨A,cap,rfl,hr⟩:=h;exact⟨⟨A,cap,rfl,hr⟩,trivial⟩
def eG (w:World)(b o:Nat)(vs:List Value):Prop:=∀i u,vs[i]?=some u->w.cell? ⟨b,o+i,none⟩=some u
def eG.drop {b o n:Nat}{vs:List Value}(h:eG w b o vs):eG w b (o+n) (vs.drop n):=by
 intro i u hu;rw[air]at hu;have:=h _ _ hu
 rwa [<-UX]at this
def eG.take {b o n:Nat}{vs:List Value}(h:eG w b o vs):eG w b o (vs.take n):=by
 intro i u hu;rw[OQ]at hu;split at hu
 .exact h _ _ hu
 .cases hu
def eG.of_heap {g:Nat}{cs:Array Value}{e:TypeId}{fr:Nat×Nat}(h:w.heap[g]?=some (.cells cs e fr)):eG w g 0 cs.toList:=by intro i u hu;rw[xK,cell_of_row w g i cs e fr h];simpa using hu
def BG {U:Type}{l:List U}{i:Nat}(h:i<l.length)(d:U):l[i]?=some (l.getD i d):=by simp[pc h,Gr]
def aJL {id:Nat}{b:gB}(hb:EA G w id b){g o n cap:Nat}(hv:G.hv id=.slice (some ⟨g,o,none⟩) n cap){j:Nat}(hj:j<n) :
  n=b.xs.length/\∃c,Rd w (RO G b.f) b.t (b.xs.getD j b.t.aG) c/\eG w g (o+j*b.t.n) c:=by
 cases hw:b.w with
 |true =>
  obtain⟨cs,h1,h2,h3⟩:=hb.wr hw;rcases h1.2 with ⟨he,_⟩|⟨g',aBc,cur,he,_,hh,_,_,_,htk⟩
  .rw[hv]at he;cases he
  .rw[hv]at he;injection he with he1 he2 he3
   injection he1 with he1
   injection he1 with hg ho _
   subst hg ho he2;refine⟨rfl,?_⟩;obtain⟨c,hr,hc⟩:=h3 j _ (BG hj b.t.aG);refine⟨c,hr,fun i u hu=>?_⟩;have:=hc i u hu;rw[<-htk,OQ]at this;split at this
   .rw[xK,cell_of_row w g _ cur b.e (0,0) hh];simpa using this
   .cases this
 |false =>
  obtain⟨A,aBc,he,hc1,h63,hr⟩:=hb.rd hw;have he':=uE he;rw[hv]at he';injection he'.1 with h1 h2 h3
  subst h2;refine⟨rfl,?_⟩;obtain⟨b1,o1,hA,_,_,hr⟩:=hr (by omega);rw[hA]at h1;injection h1 with h1
  injection h1 with hg ho _
  subst hg ho;obtain⟨c,kz,hcell⟩:=hr j _ (BG hj b.t.aG);refine⟨c,kz,fun i u hu=>?_⟩;rw[UX];exact hcell i u hu
def Vc (h:Inv w0 G st a w){c:AC}{v:Value}(hc:bS G w st.bx st.bl c v){l:List AC}{off:Nat}(he:u9 st c=some (l,off)) :
  ∃g o vs,v=.pointer (some ⟨g,o+off,none⟩)/\eG w g o vs/\cT (bS G w st.bx st.bl) l vs:=by
 cases c with
 |ptr b q =>
  obtain⟨h1,rfl⟩:=hc;simp only[u9]at he;cases hl:look st.bx b with
  |none=>rw[hl]at he;cases he
  |some m =>
   rw[hl]at he;cases he;obtain⟨cs,e,hh,_,hr⟩:=h.bx b _ hl;exact⟨G.hb b,0,cs.toList,by rw[xK],eG.of_heap hh,hr⟩
 |LI id i q =>
  simp only[u9]at he;obtain⟨h1,_,h0,g,o,n,cap,hv,hi,hp⟩:=hc;unfold St.rZ at he;cases hl:look st.bl id with
  |none=>rw[hl]at he;cases he
  |some ob =>
   rw[hl]at he;cases ob with
   |none=>cases he
   |some b =>
    cases he;have hp:=hp b hl;obtain⟨hn,c,hr,hcell⟩:=aJL (h.bl id b hl) hv (show i.toNat<n by omega);refine⟨g,o+i.toNat*b.t.n,c,?_,hcell,Vb hr⟩;rw[hp,UX]
 |UA f t x q =>
  simp only[u9]at he;cases he;obtain⟨b,o,cs,rfl,_,dZ,hr,hcell⟩:=hc;exact⟨b,o,cs,rfl,hcell,Vb hr⟩
 |_=>cases he
def EC {t:TypeId}{g o:Nat}{vs:List Value}(hc:eG w g o vs)(hn:P.cellsOf t=vs.length)(hp:0<vs.length\/True){b:Bool}(nT:aa1 P t=some b) :
  (loadVar t ⟨g,o,none⟩).run P w=match b with|true=>(match P.info? t with|some _=>.ok (.agg vs.toArray) w|none=>(loadVar t ⟨g,o,none⟩).run P w)|false=>(load ⟨g,o,none⟩).run P w:=by
 have hia:(isAgg t).run P w=.ok b w:=by
  unfold isAgg aa1 at *;cases hu:P.underlying t with
  |none=>rw[hu]at nT;cases nT
  |some d =>
   rw[hu]at nT;rw[Sem.run_bind,run_underlying hu w];cases d<;>simp_all
 cases b with
 |false=>simp[loadVar,hia]
 |true =>
  cases hi:P.info? t with
  |none=>rfl
  |some i =>
   have hs:i.size=vs.length:=by rw[<-hn];simp[Program.cellsOf,hi]
   have hl:(loadCells ⟨g,o,none⟩ vs.length).run P w=.ok vs.toArray w:=by
    refine run_loadCells_list (P:=P) w ⟨g,o,none⟩ vs fun j v hv=>?_
    have:(⟨g,o,none⟩:Addr).add j=⟨g,o+j,none⟩:=by unfold Addr.add;split<;>simp_all
    rw[this];exact hc j v hv
   simp[loadVar,hia,sizeOf,typeInfo,hi,hs,hl]
def ED {t:TypeId}{b:Bool}(h:aa1 P t=some b):∃i,P.info? t=some i:=by
 unfold aa1 Program.underlying at h;cases hi:P.info? t with
 |none=>rw[hi]at h;cases h|some i=>exact⟨i,rfl⟩
def eG.below {w w1:World}(hB:Below w.heap.size w w1){g o:Nat}{vs:List Value}(h:eG w g o vs):eG w1 g o vs:=by intro j v hv;have hc:=h j v hv;have hlt:=World.block_lt_of_cell? _ _ hc;rw[cell_of_heap (hB.block g hlt)];exact hc
def I6 (h:Inv w0 G st a w)(t:TypeId)(x:Operand)(ho:o.op=.load t x){l:List AC}{off:Nat}(hc:u9 st (st.ac x)=some (l,off))
  (hn:Nat.beq (yu (P.cellsOf t) (yv off l)).length (P.cellsOf t)=true)
  {b:Bool} (nT:aa1 P t=some b)
  {v:CV} (hv:match b with|true=>v=.agg (yu (P.cellsOf t) (yv off l))|false=>∃y,yu (P.cellsOf t) (yv off l)=[y]/\v=.c y)
  (hr:st.pk o.dst (.v v) k=some r):bP P w0 w a o k r:=by
 obtain⟨g,q,vs,hp,hcell,hrel⟩:=Vc h (h.ac x) hc;have eB:=(hrel.drop off).take (P.cellsOf t);have yB:eG w g (q+off) ((vs.drop off).take (P.cellsOf t)):=hcell.drop.take;have hlen:=eB.len;have hn':=aP hn;have Vd:=fun w1 (hB:Below w.heap.size w w1)=>EC (P:=P) (eG.below hB yB) (by omega) (.inr trivial) nT
 have w9:∀w1,aiA o w w1->Below w.heap.size w w1:=fun w1 hB=>by unfold aiA at hB;rw[ho]at hB;exact hB
 obtain⟨i,hi⟩:=ED nT;cases b with
 |true =>
  subst hv;simp only[hi]at Vd;refine en (u:=.agg ((vs.drop off).take (P.cellsOf t)).toArray) h (v:=.v (.agg _)) ⟨_,rfl,eB⟩ hr fun w1 hB=>?_
  have hB:=w9 w1 hB;have hrun:=Vd w1 hB;unfold execOp;rw[ho];simp[Instr.loadAt,Instr.sureAddr,hp,hrun]
 |false =>
  obtain⟨y,hy,rfl⟩:=hv;rw[hy]at eB;obtain⟨u,hu⟩:∃u,(vs.drop off).take (P.cellsOf t)=[u]:=by
   cases hm:(vs.drop off).take (P.cellsOf t) with
   |nil=>rw[hm]at eB;exact eB.elim
   |cons u m =>
    rw[hm]at eB;cases m with
    |nil=>exact⟨u,rfl⟩|cons _ _=>exact eB.2.elim
  rw[hu]at eB yB;refine en (u:=u) h (v:=.v (.c y)) eB.1 hr fun w1 hB=>?_
  have hB:=w9 w1 hB;have hrun:=Vd w1 hB;have hcu:=eG.below hB yB 0 u rfl;rw[Ri]at hcu;unfold execOp;rw[ho];simp[Instr.loadAt,Instr.sureAddr,hp,hrun,hcu]
def am3 (P:Program)(w0:fR)(G:Gh)(w:World)(a:Act)(o:Oper){U:Type}(k:St->Option U)(r:U):Prop :=
 ∃v G' dV,(∀w1,(∀g,g<w.heap.size->G.own g=none->w1.heap[g]?=w.heap[g]?)->(execOp a.eval o).run P w1=.ok (.value v) w1)/\Inv w0 G' dV (a.put o.dst v) w/\k dV=some r
def aDi (h:Inv w0 G st a w){v:AV}{u:Value}(hv:kf G w st.bx st.bl v u)(hr:st.pk o.dst v k=some r)(he:∀w1,(∀g,g<w.heap.size->G.own g=none->w1.heap[g]?=w.heap[g]?)->(execOp a.eval o).run P w1=.ok (.value u) w1):am3 P w0 G w a o k r:=by
 obtain⟨G',dV,h1,h2⟩:=CM (K:=fun a' w'=>∃G' dV,Inv w0 G' dV a' w'/\k dV=some r) h hv hr fun G' dV a' w' h' l4=>⟨G',dV,h',l4⟩
 exact⟨u,G',dV,he,h1,h2⟩
def aBd (h:Inv w0 G st a w){c:AC}{v:Value}(hc:bS G w st.bx st.bl c v){f:Bool}{u0:Ty}{y0:u0.D}{arG:Nat}(aEY:c=.UA f u0 y0 arG){l:List AC}{off:Nat}(he:u9 st c=some (l,off)) :
  ∃g o vs,v=.pointer (some ⟨g,o+off,none⟩)/\eG w g o vs/\cT (bS G w st.bx st.bl) l vs/\G.own g=none/\g<w.heap.size:=by
 subst aEY;obtain⟨b,o,c,hv,hb,dZ,hr,hc⟩:=hc;cases he;exact⟨b,o,c,hv,hc,Vb hr,dZ.1,hb⟩
def aDj (h:Inv w0 G st a w)(t:TypeId)(x:Operand)(ho:o.op=.load t x){l:List AC}{off:Nat}(hc:u9 st (st.ac x)=some (l,off))
  (hn:Nat.beq (yu (P.cellsOf t) (yv off l)).length (P.cellsOf t)=true)
  {b:Bool} (nT:aa1 P t=some b)
  {v:CV} (hv:match b with|true=>v=.agg (yu (P.cellsOf t) (yv off l))|false=>∃y,yu (P.cellsOf t) (yv off l)=[y]/\v=.c y)
  {f:Bool} {u0:Ty} {y0:u0.D} {arG:Nat} (aEY:st.ac x=.UA f u0 y0 arG) (hr:st.pk o.dst (.v v) k=some r):am3 P w0 G w a o k r:=by
 obtain⟨g,q,vs,hp,hcell,hrel,hg,hlt⟩:=aBd h (h.ac x) aEY hc;have eB:=(hrel.drop off).take (P.cellsOf t);have yB:eG w g (q+off) ((vs.drop off).take (P.cellsOf t)):=hcell.drop.take;have hlen:=eB.len;have hn':=aP hn;have hst:∀w1,(∀g,g<w.heap.size->G.own g=none->w1.heap[g]?=w.heap[g]?)->eG w1 g (q+off) ((vs.drop off).take (P.cellsOf t)):=fun w1 hB i u hu=>by rw[cell_of_heap (hB g hlt hg)];exact yB i u hu
 have Vd:=fun w1 hB=>EC (P:=P) (hst w1 hB) (by omega) (.inr trivial) nT
 obtain⟨i,hi⟩:=ED nT;cases b with
 |true =>
  subst hv;simp only[hi]at Vd;refine aDi (u:=.agg ((vs.drop off).take (P.cellsOf t)).toArray) h (v:=.v (.agg _)) ⟨_,rfl,eB⟩ hr fun w1 hB=>?_
  have hrun:=Vd w1 hB;unfold execOp;rw[ho];simp[Instr.loadAt,Instr.sureAddr,hp,hrun]
 |false =>
  obtain⟨y,hy,rfl⟩:=hv;rw[hy]at eB;obtain⟨u,hu⟩:∃u,(vs.drop off).take (P.cellsOf t)=[u]:=by
   cases hm:(vs.drop off).take (P.cellsOf t) with
   |nil=>rw[hm]at eB;exact eB.elim
   |cons u m =>
    rw[hm]at eB;cases m with
    |nil=>exact⟨u,rfl⟩|cons _ _=>exact eB.2.elim
  rw[hu]at eB yB;refine aDi (u:=u) h (v:=.v (.c y)) eB.1 hr fun w1 hB=>?_
  have hrun:=Vd w1 hB;have hcu:=hst w1 hB 0 u (by rw[hu];rfl);rw[Ri]at hcu;unfold execOp;rw[ho];simp[Instr.loadAt,Instr.sureAddr,hp,hrun,hcu]
def am4 (P:Program)(w0:fR)(G:Gh)(w:World)(d:Nat)(a:Act)(o:Oper){U:Type}(k:St->Option U)(r:U):Prop :=
 ∃v G' dV,(∀w1:World,w1.heap[G.hb d]?=w.heap[G.hb d]?->(execOp a.eval o).run P w1=.ok (.value v) w1)/\Inv w0 G' dV (a.put o.dst v) w/\k dV=some r
def aDk (h:Inv w0 G st a w){d:Nat}{v:AV}{u:Value}(hv:kf G w st.bx st.bl v u)(hr:st.pk o.dst v k=some r)(he:∀w1:World,w1.heap[G.hb d]?=w.heap[G.hb d]?->(execOp a.eval o).run P w1=.ok (.value u) w1):am4 P w0 G w d a o k r:=by
 obtain⟨G',dV,h1,h2⟩:=CM (K:=fun a' w'=>∃G' dV,Inv w0 G' dV a' w'/\k dV=some r) h hv hr fun G' dV a' w' h' l4=>⟨G',dV,h',l4⟩
 exact⟨u,G',dV,he,h1,h2⟩
def aBe (h:Inv w0 G st a w){c:AC}{v:Value}(hc:bS G w st.bx st.bl c v){d arG:Nat}(acW:c=.ptr d arG){l:List AC}{off:Nat}(he:u9 st c=some (l,off)) :
  ∃o vs,v=.pointer (some ⟨G.hb d,o+off,none⟩)/\eG w (G.hb d) o vs/\cT (bS G w st.bx st.bl) l vs:=by
 subst acW;obtain⟨g,q,vs,h1,h2,h3⟩:=Vc h hc he;have h4:=hc.2;simp only[u9]at he;split at he
 .rename_i l' hl;cases he;rw[h4]at h1;injection h1 with h1
  injection h1 with h1
  injection h1 with h1 h5 _
  subst h1;exact⟨q,vs,by rw[<-h5];exact h4,h2,h3⟩
 .cases he
def aDl (h:Inv w0 G st a w)(t:TypeId)(x:Operand)(ho:o.op=.load t x){l:List AC}{off:Nat}(hc:u9 st (st.ac x)=some (l,off))
  (hn:Nat.beq (yu (P.cellsOf t) (yv off l)).length (P.cellsOf t)=true)
  {b:Bool} (nT:aa1 P t=some b)
  {v:CV} (hv:match b with|true=>v=.agg (yu (P.cellsOf t) (yv off l))|false=>∃y,yu (P.cellsOf t) (yv off l)=[y]/\v=.c y)
  {d arG:Nat} (acW:st.ac x=.ptr d arG) (hr:st.pk o.dst (.v v) k=some r):am4 P w0 G w d a o k r:=by
 obtain⟨q,vs,hp,hcell,hrel⟩:=aBe h (h.ac x) acW hc;have eB:=(hrel.drop off).take (P.cellsOf t);have yB:eG w (G.hb d) (q+off) ((vs.drop off).take (P.cellsOf t)):=hcell.drop.take;have hlen:=eB.len;have hn':=aP hn;have hst:∀w1:World,w1.heap[G.hb d]?=w.heap[G.hb d]?->eG w1 (G.hb d) (q+off) ((vs.drop off).take (P.cellsOf t)):=fun w1 hB i u hu=>by rw[cell_of_heap hB];exact yB i u hu
 have Vd:=fun w1 hB=>EC (P:=P) (hst w1 hB) (by omega) (.inr trivial) nT
 obtain⟨i,hi⟩:=ED nT;cases b with
 |true =>
  subst hv;simp only[hi]at Vd;refine aDk (u:=.agg ((vs.drop off).take (P.cellsOf t)).toArray) h (v:=.v (.agg _)) ⟨_,rfl,eB⟩ hr fun w1 hB=>?_
  have hrun:=Vd w1 hB;unfold execOp;rw[ho];simp[Instr.loadAt,Instr.sureAddr,hp,hrun]
 |false =>
  obtain⟨y,hy,rfl⟩:=hv;rw[hy]at eB;obtain⟨u,hu⟩:∃u,(vs.drop off).take (P.cellsOf t)=[u]:=by
   cases hm:(vs.drop off).take (P.cellsOf t) with
   |nil=>rw[hm]at eB;exact eB.elim
   |cons u m =>
    rw[hm]at eB;cases m with
    |nil=>exact⟨u,rfl⟩|cons _ _=>exact eB.2.elim
  rw[hu]at eB yB;refine aDk (u:=u) h (v:=.v (.c y)) eB.1 hr fun w1 hB=>?_
  have hrun:=Vd w1 hB;have hcu:=hst w1 hB 0 u (by rw[hu];rfl);rw[Ri]at hcu;unfold execOp;rw[ho];simp[Instr.loadAt,Instr.sureAddr,hp,hrun,hcu]
end
end Go.Am
