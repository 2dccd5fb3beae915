/- No condition. -/
import Derived.Test.YtpkabclplaibaaaGreatDoorQhAmRel
import Derived.Laws.Small
import Derived.Laws.Shifts
import Derived.Laws.BytesArg
import Derived.Laws.Slices
import Derived.Laws.Strings2
import Derived.Laws.Strings3
import Derived.Laws.Strings
import Derived.Laws.OwnMore
import Derived.Laws.AppendOwnNone
set_option linter.all false
namespace Go.Am
open Go.RowKit
variable [ds]
section
variable {w0:di} {w:World} {G:Gh} {st:St} {a:Act} {bx:List (Nat×List AC)} {bl:List (Nat×Option dD)}
def Wm (v:Value):a7 G w bx bl (Jb v) v:=by unfold Jb;split<;>simp[a7]
def aiT:∀(l:List Value),bD (a7 G w bx bl) (l.map Jb) l
 |[]=>trivial|v::l=>⟨Wm v,aiT l⟩
def lx (v:Value):da G w bx bl (C3 v) v:=by
 unfold C3;split
 .exact⟨_,rfl,aiT _⟩
 .exact Wm v
def Inv.ev (h:Inv w0 G st a w)(o:Operand):eK G w st.bx st.bl (st.ev o) (a.eval o):=by
 cases o with
 |tmp t =>
  show eK G w st.bx st.bl (st.get t) (a.tmps.getD t undef);unfold St.get;cases b:look st.tm t with
  |none=>exact trivial|some v=>exact h.tm t v b
 |const v=>exact lx v|global g=>exact trivial|func f=>exact trivial
def Inv.c6 (h:Inv w0 G st a w)(o:Operand):da G w st.bx st.bl (st.c6 o) (a.eval o):=by
 have:=h.ev o;unfold St.c6;cases b:st.ev o with
 |v x=>rw[b]at this;exact this|GF l=>exact trivial
def Inv.ac (h:Inv w0 G st a w)(o:Operand):a7 G w st.bx st.bl (st.ac o) (a.eval o):=by
 have:=h.c6 o;unfold St.ac;cases b:st.c6 o with
 |c x=>rw[b]at this;exact this|agg l=>exact trivial
def a7.one {c:AC}{v:Value}(h:a7 G w bx bl c v)(d:c≠.none):v.oneCell'=true:=by
 cases c with
 |none=>exact absurd rfl d|int k n=>rw[show v=_ from h];rfl
 |bool b=>rw[show v=_ from h];rfl
 |str s=>rw[show v=_ from h];rfl
 |nil=>rw[show v=_ from h];rfl
 |ro f e t xs=>exact(show Rd w _ (.sl e t) xs [v] from h).one v (by simp)
 |own id len =>
  cases len with
  |none =>
   obtain⟨_,⟨A,n,k,j⟩,m⟩:=h;rw[m,j];rfl
  |some l =>
   obtain⟨_,_,A,n,cap,_,_,rfl⟩:=h;rfl
 |ptr b off=>rw[h.2];rfl|fnp g b=>rw[h.2];rfl|any=>exact h|qV id i off=>exact h.2.1
 |IS f t x off =>
  obtain⟨b,o,c,rfl,_⟩:=h;rfl
def Pu {v:Value}(h:v.oneCell'=true):v.cells=#[v]:=by cases v<;>first|rfl|(simp[Value.oneCell']at h)
def da.cells {c:CV}{v:Value}(h:da G w bx bl c v)(b:c.kn=true):bD (a7 G w bx bl) c.cells v.cells.toList:=by
 cases c with
 |c x =>
  have d:x≠.none:=by rintro rfl;cases b
  have e:v.oneCell'=true:=a7.one (c:=x) h d;rw[Pu e];exact⟨h,trivial⟩
 |agg l =>
  obtain⟨cs,rfl,h⟩:=h;exact h
end
def ef {a b:Nat}(h:Nat.blt a b=true):a<b:=by rwa [Nat.blt_eq]at h
def tU {a b:Nat}(h:Nat.ble a b=true):a<=b:=by rwa [Nat.ble_eq]at h
def aA {a b:Nat}(h:Nat.beq a b=true):a=b:=Nat.eq_of_beq_eq_true h
def ba {a b:Nat}(h:(!Nat.beq a b)=true):a≠b:=by rintro rfl;simp at h
def aG {U:Type}{c:Bool}{k:Option U}{r:U}(h:ck c k=some r):c=true/\k=some r:=by
 cases c
 .cases h
 .exact⟨rfl,h⟩
def Pv {U:Type}{c:Bool}{x y:Option U}{r:U}(h:br c x y=some r):(c=true/\x=some r)\/(c=false/\y=some r):=by
 cases c
 .exact .inr ⟨rfl,h⟩
 .exact .inl ⟨rfl,h⟩
section
variable {P:Program} {w0:di} {w:World} {G:Gh} {st:St} {a:Act} {U:Type} {k:St->Option U} {r:U} {K:Act->World->Prop} {Q:Exit->Act->World->Prop} {o:Oper}
def BE {v:Value}{w':World}(b:(execOp a.eval o).run P w=.ok (.value v) w')(h:K (a.put o.dst v) w'):o.wp P a w K Q:=by unfold Oper.wp;rw[b];exact h
def alx {w':World}(b:(execOp a.eval o).run P w=.ok .skip w')(h:K (a.put o.dst undef) w'):o.wp P a w K Q:=by unfold Oper.wp;rw[b];exact h
def l4 (w0:di)(k:St->Option U)(r:U)(K:Act->World->Prop):Prop:=∀d bV b c,Inv w0 d bV b c->k bV=some r->K b c
def q4 {d:Option Tmp}{v:AV}{u:Value}(h:Inv w0 G st a w)(e:eK G w st.bx st.bl v u)(b:st.pk d v k=some r)(c:l4 w0 k r K):K (a.put d u) w:=by
 cases d with
 |none=>exact c G st a w h b
 |some d =>
  obtain⟨f,g⟩:=aG b;exact c G _ _ w (h.put d (ef f) e) g
def Tl (o:Oper)(w w1:World):Prop:=match o.op with
 |.load _ _|.convert _ _ _=>Below w.heap.size w w1|_=>True
def q5 {o:Oper}{w w1:World}(h:Below w.heap.size w w1):Tl o w w1:=by unfold Tl;split<;>first|exact h|trivial
def a8 (P:Program)(w0:di)(w:World)(a:Act)(o:Oper){U:Type}(k:St->Option U)(r:U):Prop :=
 ∃v c bV,(∀b,Tl o w b->(execOp a.eval o).run P b=.ok (.value v) b)/\Inv w0 c bV (a.put o.dst v) w/\k bV=some r
def cJ (h:Inv w0 G st a w){v:AV}{u:Value}(f:eK G w st.bx st.bl v u)(g:st.pk o.dst v k=some r)(i:∀c,Tl o w c->(execOp a.eval o).run P c=.ok (.value u) c):a8 P w0 w a o k r:=by
 obtain⟨b,bV,j,l⟩:=q4 (K:=fun d e=>∃b bV,Inv w0 b bV d e/\k bV=some r) h f g fun b bV d e m n=>⟨b,bV,m,n⟩
 exact⟨u,b,bV,i,j,l⟩
def bf (h:a8 P w0 w a o k r)(b:l4 w0 k r K):o.wp P a w K Q:=by obtain⟨v,f,bV,c,d,e⟩:=h;exact BE (c w (q5 (Below.refl _ w))) (b _ _ _ _ d e)
def aj7 (h:Inv w0 G st a w){w1:World}(c:Below w.heap.size w w1):LB G w G w1:=⟨rfl,rfl,c.size,fun b d e=>⟨e,c.block b d⟩,fun b d e=>⟨e,c.block b d⟩⟩
def Inv.lit (h:Inv w0 G st a w)(x:Operand)(b:Bool)(e:a.eval x=.bool b):Inv w0 G (st.lit x b) a w:=by
 cases x with
 |tmp t =>
  refine {h with tm:=fun s v c=>?_};simp only[St.lit,St.put,ai]at c;by_cases d:t=s
  .subst d;simp only[eJ]at c;cases c;exact e
  .simp only[d,eo]at c;exact h.tm s v c
 |const v=>exact h|global g=>exact h|func f=>exact h
def acg {c:AC}{v:Value}{b:Bool}{bx:List (Nat×List AC)}{bl:List (Nat×Option dD)}(h:a7 G w bx bl c v)(d:c=.bool b):v=.bool b:=by subst d;exact h
def Bj (h:Inv w0 G st a w)(x:Operand)(b:o.op=.move x\/o.op=.assign x)(c:st.pk o.dst (st.ev x) k=some r):a8 P w0 w a o k r:=by
 refine cJ (u:=a.eval x) h (h.ev x) c fun d e=>?_
 rcases b with b|b<;>(unfold execOp;rw[b];rfl)
def RA (h:Inv w0 G st a w)(c x y:Operand)(i:o.op=.pick c x y){b:Bool}(j:st.ac c=.bool b)
  (e:br b ((st.lit c true).pk o.dst (st.ev x) k) ((st.lit c false).pk o.dst (st.ev y) k)=some r):a8 P w0 w a o k r:=by
 have f:=acg (h.ac c) j;have g:∀d,(execOp a.eval o).run P d=.ok (.value (if b then a.eval x else a.eval y)) d:=by intro d;unfold execOp;rw[i];simp[f,asBool]
 rcases Pv e with ⟨rfl,e⟩|⟨rfl,e⟩
 .exact cJ (h.lit c true f) (v:=st.ev x) (u:=a.eval x) (by have:=h.ev x;cases c<;>exact this) e fun d _=>g d
 .exact cJ (h.lit c false f) (v:=st.ev y) (u:=a.eval y) (by have:=h.ev y;cases c<;>exact this) e fun d _=>g d
def tV (t:TypeId)(v:Value)(w:World):(newVar t v).run P w=.ok ⟨w.heap.size,0,none⟩ (w.alloc (.cells v.cells t)):=by simp[newVar,newRow]
def aek (h:Inv w0 G st a w)(d:Tmp)(b:look st.bx d=none)(hlt:d<st.nt)(c:CV)(v:Value)(e:da G w st.bx st.bl c v)(f:c.kn=true)(t:TypeId)
  (g:k {(st.put d (.v (.c (.ptr d 0)))) with bx:=(d,c.cells)::st.bx}=some r) (i:l4 w0 k r K) :
  K (a.put (some d) (.pointer (some ⟨w.heap.size,0,none⟩))) (w.alloc (.cells v.cells t)):=by
 obtain⟨j,m,n⟩:=h.box d b v.cells t c.cells (e.cells f);have l:=j.put d hlt (v:=.v (.c (.ptr d 0))) (u:=.pointer (some ⟨w.heap.size,0,none⟩)) (by
  refine⟨?_,?_⟩
  .simp[ai]
  .simp[Gh.box])
 exact i _ _ _ _ l g
def aj8 (h:Inv w0 G st a w)(t:TypeId)(x:Operand)(c:o.op=.box t x){d:Tmp}(e:o.dst=some d)(f:look st.bx d=none)
  (g:ck (Nat.blt d st.nt&&(st.c6 x).kn) (k {(st.put d (.v (.c (.ptr d 0)))) with bx:=(d,(st.c6 x).cells)::st.bx})=some r) (i:l4 w0 k r K):o.wp P a w K Q:=by
 obtain⟨b,j⟩:=aG g;rw[az]at b;refine BE (v:=.pointer (some ⟨w.heap.size,0,none⟩)) (w':=w.alloc (.cells (a.eval x).cells t)) ?_ ?_
 .unfold execOp;rw[c];simp[Instr.box,tV]
 .rw[e];exact aek h d f (ef b.1) _ _ (h.c6 x) b.2 t j i
def fp {t:TypeId}{z:CV}(h:nq P t=some z):∃i v,P.info? t=some i/\i.zero=some v/\z=C3 v:=by
 unfold nq at h;split at h
 .rename_i i b;split at h
  .rename_i v c;exact⟨i,v,b,c,by cases h;rfl⟩
  .cases h
 .cases h
def ael (h:Inv w0 G st a w)(t:TypeId)(c:o.op=.alloc t){d:Tmp}(e:o.dst=some d)(f:look st.bx d=none){z:CV}(g:nq P t=some z)
  (j:ck (Nat.blt d st.nt&&z.kn) (k {(st.put d (.v (.c (.ptr d 0)))) with bx:=(d,z.cells)::st.bx})=some r) (l:l4 w0 k r K):o.wp P a w K Q:=by
 obtain⟨b,m⟩:=aG j;rw[az]at b;obtain⟨i,v,n,p,rfl⟩:=fp g;refine BE (v:=.pointer (some ⟨w.heap.size,0,none⟩)) (w':=w.alloc (.cells v.cells t)) ?_ ?_
 .unfold execOp;rw[c];simp[Instr.alloc,zeroValue,typeInfo,n,p,tV]
 .rw[e];exact aek h d f (ef b.1) _ _ (lx v) b.2 t m l
def Jl {f:Bool}{bx:List (Nat×List AC)}{bl:List (Nat×Option dD)}:∀{t:Ty} {x:t.D} {c:List Value},Rd w (RO G f) t x c->bD (a7 G w bx bl) (ex f t x) c
 |.int _,_,_,h=>by rw[show _=_ from h];exact⟨rfl,trivial⟩
 |.bool,_,_,h=>by rw[show _=_ from h];exact⟨rfl,trivial⟩
 |.str,_,_,h=>by rw[show _=_ from h];exact⟨rfl,trivial⟩
 |.unit,_,_,h=>by rw[show _=_ from h];trivial
 |.pair a b,_,_,h=>by obtain⟨j,l,rfl,d,g⟩:=h;exact bD.app (Jl d) (Jl g)
 |.sl e t,xs,c,h=>by obtain⟨A,cap,rfl,i⟩:=h;exact⟨⟨A,cap,rfl,i⟩,trivial⟩
def cA (w:World)(b o:Nat)(vs:List Value):Prop:=∀i u,vs[i]?=some u->w.cell? ⟨b,o+i,none⟩=some u
def cA.drop {b o n:Nat}{vs:List Value}(h:cA w b o vs):cA w b (o+n) (vs.drop n):=by
 intro i u c;rw[Tb]at c;have:=h _ _ c
 rwa [<-I8]at this
def cA.take {b o n:Nat}{vs:List Value}(h:cA w b o vs):cA w b o (vs.take n):=by
 intro i u c;rw[C1]at c;split at c
 .exact h _ _ c
 .cases c
def cA.of_heap {g:Nat}{cs:Array Value}{e:TypeId}{b:Nat×Nat}(h:w.heap[g]?=some (.cells cs e b)):cA w g 0 cs.toList:=by intro i u c;rw[pF,cell_of_row w g i cs e b h];simpa using c
def tW {U:Type}{l:List U}{i:Nat}(h:i<l.length)(d:U):l[i]?=some (l.getD i d):=by simp[kK h,I6]
def anV {id:Nat}{b:dD}(s:wh G w id b){g o n M:Nat}(h:G.hv id=.slice (some ⟨g,o,none⟩) n M){j:Nat}(t:j<n) :
  n=b.xs.length/\∃c,Rd w (RO G b.f) b.t (b.xs.getD j b.t.aI) c/\cA w g (o+j*b.t.n) c:=by
 cases v:b.w with
 |true =>
  obtain⟨cs,e,x,y⟩:=s.wr v;rcases e.2 with ⟨d,_⟩|⟨N,B,cur,d,_,C,_,_,_,D⟩
  .rw[h]at d;cases d
  .rw[h]at d;injection d with l E O
   injection l with l
   injection l with m p _
   subst m p E;refine⟨rfl,?_⟩;obtain⟨c,f,F⟩:=y j _ (tW t b.t.aI);refine⟨c,f,fun i u q=>?_⟩;have:=F i u q;rw[<-D,C1]at this;split at this
   .rw[pF,cell_of_row w g _ cur b.e (0,0) C];simpa using this
   .cases this
 |false =>
  obtain⟨A,B,d,R,S,f⟩:=s.rd v;have z:=we d;rw[h]at z;injection z.1 with e x y
  subst x;refine⟨rfl,?_⟩;obtain⟨T,W,H,_,_,_,f⟩:=f (.inl (by omega));rw[H]at e;injection e with e
  injection e with m p _
  subst m p;obtain⟨c,I,L⟩:=f j _ (tW t b.t.aI);refine⟨c,I,fun i u q=>?_⟩;rw[I8];exact L i u q
def C5 (h:Inv w0 G st a w){c:AC}{v:Value}(s:a7 G w st.bx st.bl c v){l:List AC}{A:Nat}(d:nX st c=some (l,A)) :
  ∃g o z,v=.pointer (some ⟨g,o+A,none⟩)/\cA w g o z/\bD (a7 G w st.bx st.bl) l z:=by
 cases c with
 |ptr b q =>
  obtain⟨B,rfl⟩:=s;simp only[nX]at d;cases j:look st.bx b with
  |none=>rw[j]at d;cases d
  |some m =>
   rw[j]at d;cases d;obtain⟨cs,e,C,_,p⟩:=h.bx b _ j;exact⟨G.hb b,0,cs.toList,by rw[pF],cA.of_heap C,p⟩
 |qV id i q =>
  simp only[nX]at d;obtain⟨B,_,F,g,o,n,cap,D,H,u⟩:=s;unfold St.kA at d;cases j:look st.bl id with
  |none=>rw[j]at d;cases d
  |some E =>
   rw[j]at d;cases E with
   |none=>cases d
   |some b =>
    cases d;have u:=u b j;obtain⟨I,c,p,y⟩:=anV (h.bl id b j) D (show i.toNat<n by omega);refine⟨g,o+i.toNat*b.t.n,c,?_,y,Jl p⟩;rw[u,I8]
 |IS f t x q =>
  simp only[nX]at d;cases d;obtain⟨b,o,cs,rfl,_,cR,p,y⟩:=s;exact⟨b,o,cs,rfl,y,Jl p⟩
 |_=>cases d
def pI {t:TypeId}{g o:Nat}{vs:List Value}(l:cA w g o vs)(m:P.cellsOf t=vs.length)(s:0<vs.length\/True){b:Bool}(c:L5 P t=some b) :
  (loadVar t ⟨g,o,none⟩).run P w=match b with|true=>(match P.info? t with|some _=>.ok (.agg vs.toArray) w|none=>(loadVar t ⟨g,o,none⟩).run P w)|false=>(load ⟨g,o,none⟩).run P w:=by
 have h:(isAgg t).run P w=.ok b w:=by
  unfold isAgg L5 at *;cases e:P.underlying t with
  |none=>rw[e]at c;cases c
  |some d =>
   rw[e]at c;rw[Sem.run_bind,run_underlying e w];cases d<;>simp_all
 cases b with
 |false=>simp[loadVar,h]
 |true =>
  cases j:P.info? t with
  |none=>rfl
  |some i =>
   have n:i.size=vs.length:=by rw[<-m];simp[Program.cellsOf,j]
   have p:(loadCells ⟨g,o,none⟩ vs.length).run P w=.ok vs.toArray w:=by
    refine run_loadCells_list (P:=P) w ⟨g,o,none⟩ vs fun f v q=>?_
    have:(⟨g,o,none⟩:Addr).add f=⟨g,o+f,none⟩:=by unfold Addr.add;split<;>simp_all
    rw[this];exact l f v q
   simp[loadVar,h,sizeOf,typeInfo,j,n,p]
def pJ {t:TypeId}{b:Bool}(h:L5 P t=some b):∃i,P.info? t=some i:=by
 unfold L5 Program.underlying at h;cases c:P.info? t with
 |none=>rw[c]at h;cases h|some i=>exact⟨i,rfl⟩
def cA.below {w w1:World}(c:Below w.heap.size w w1){g o:Nat}{vs:List Value}(h:cA w g o vs):cA w1 g o vs:=by intro d v e;have b:=h d v e;have hlt:=World.block_lt_of_cell? _ _ b;rw[cell_of_heap (c.block g hlt)];exact b
def Bk (h:Inv w0 G st a w)(t:TypeId)(x:Operand)(n:o.op=.load t x){l:List AC}{e:Nat}(I:nX st (st.ac x)=some (l,e))
  (L:Nat.beq (nk (P.cellsOf t) (nm e l)).length (P.cellsOf t)=true)
  {b:Bool} (A:L5 P t=some b)
  {v:CV} (B:match b with|true=>v=.agg (nk (P.cellsOf t) (nm e l))|false=>∃y,nk (P.cellsOf t) (nm e l)=[y]/\v=.c y)
  (C:st.pk o.dst (.v v) k=some r):a8 P w0 w a o k r:=by
 obtain⟨g,q,j,D,M,hrel⟩:=C5 h (h.ac x) I;have f:=(hrel.drop e).take (P.cellsOf t);have p:cA w g (q+e) ((j.drop e).take (P.cellsOf t)):=M.drop.take;have hlen:=f.len;have S:=aA L;have s:=fun d (c:Below w.heap.size w d)=>pI (P:=P) (cA.below c p) (by omega) (.inr trivial) A
 have E:∀d,Tl o w d->Below w.heap.size w d:=fun d c=>by unfold Tl at c;rw[n]at c;exact c
 obtain⟨i,N⟩:=pJ A;cases b with
 |true =>
  subst B;simp only[N]at s;refine cJ (u:=.agg ((j.drop e).take (P.cellsOf t)).toArray) h (v:=.v (.agg _)) ⟨_,rfl,f⟩ C fun d c=>?_
  have c:=E d c;have z:=s d c;unfold execOp;rw[n];simp[Instr.loadAt,Instr.sureAddr,D,z]
 |false =>
  obtain⟨y,O,rfl⟩:=B;rw[O]at f;obtain⟨u,R⟩:∃u,(j.drop e).take (P.cellsOf t)=[u]:=by
   cases F:(j.drop e).take (P.cellsOf t) with
   |nil=>rw[F]at f;exact f.elim
   |cons u m =>
    rw[F]at f;cases m with
    |nil=>exact⟨u,rfl⟩|cons _ _=>exact f.2.elim
  rw[R]at f p;refine cJ (u:=u) h (v:=.v (.c y)) f.1 C fun d c=>?_
  have c:=E d c;have z:=s d c;have H:=cA.below c p 0 u rfl;rw[Mz]at H;unfold execOp;rw[n];simp[Instr.loadAt,Instr.sureAddr,D,z,H]
def Wn (P:Program)(w0:di)(G:Gh)(w:World)(a:Act)(o:Oper){U:Type}(k:St->Option U)(r:U):Prop :=
 ∃v c bV,(∀b,(∀g,g<w.heap.size->G.own g=none->b.heap[g]?=w.heap[g]?)->(execOp a.eval o).run P b=.ok (.value v) b)/\Inv w0 c bV (a.put o.dst v) w/\k bV=some r
def aiU (h:Inv w0 G st a w){v:AV}{u:Value}(f:eK G w st.bx st.bl v u)(i:st.pk o.dst v k=some r)(j:∀c,(∀g,g<w.heap.size->G.own g=none->c.heap[g]?=w.heap[g]?)->(execOp a.eval o).run P c=.ok (.value u) c):Wn P w0 G w a o k r:=by
 obtain⟨b,bV,l,m⟩:=q4 (K:=fun d e=>∃b bV,Inv w0 b bV d e/\k bV=some r) h f i fun b bV d e n p=>⟨b,bV,n,p⟩
 exact⟨u,b,bV,j,l,m⟩
def agY (h:Inv w0 G st a w){c:AC}{v:Value}(d:a7 G w st.bx st.bl c v){f:Bool}{e:Ty}{m:e.D}{n:Nat}(p:c=.IS f e m n){l:List AC}{j:Nat}(q:nX st c=some (l,j)) :
  ∃g o i,v=.pointer (some ⟨g,o+j,none⟩)/\cA w g o i/\bD (a7 G w st.bx st.bl) l i/\G.own g=none/\g<w.heap.size:=by
 subst p;obtain⟨b,o,c,s,t,cR,u,d⟩:=d;cases q;exact⟨b,o,c,s,d,Jl u,cR.1,t⟩
def aiV (h:Inv w0 G st a w)(t:TypeId)(x:Operand)(A:o.op=.load t x){l:List AC}{c:Nat}(N:nX st (st.ac x)=some (l,c))
  (O:Nat.beq (nk (P.cellsOf t) (nm c l)).length (P.cellsOf t)=true)
  {b:Bool} (B:L5 P t=some b)
  {v:CV} (C:match b with|true=>v=.agg (nk (P.cellsOf t) (nm c l))|false=>∃y,nk (P.cellsOf t) (nm c l)=[y]/\v=.c y)
  {f:Bool} {D:Ty} {R:D.D} {S:Nat} (T:st.ac x=.IS f D R S) (E:st.pk o.dst (.v v) k=some r):Wn P w0 G w a o k r:=by
 obtain⟨g,q,n,F,W,hrel,X,hlt⟩:=agY h (h.ac x) T N;have e:=(hrel.drop c).take (P.cellsOf t);have H:cA w g (q+c) ((n.drop c).take (P.cellsOf t)):=W.drop.take;have hlen:=e.len;have qa:=aA O;have I:∀d,(∀g,g<w.heap.size->G.own g=none->d.heap[g]?=w.heap[g]?)->cA d g (q+c) ((n.drop c).take (P.cellsOf t)):=fun d j i u p=>by rw[cell_of_heap (j g hlt X)];exact H i u p
 have s:=fun d j=>pI (P:=P) (I d j) (by omega) (.inr trivial) B
 obtain⟨i,Y⟩:=pJ B;cases b with
 |true =>
  subst C;simp only[Y]at s;refine aiU (u:=.agg ((n.drop c).take (P.cellsOf t)).toArray) h (v:=.v (.agg _)) ⟨_,rfl,e⟩ E fun d j=>?_
  have z:=s d j;unfold execOp;rw[A];simp[Instr.loadAt,Instr.sureAddr,F,z]
 |false =>
  obtain⟨y,Z,rfl⟩:=C;rw[Z]at e;obtain⟨u,p⟩:∃u,(n.drop c).take (P.cellsOf t)=[u]:=by
   cases L:(n.drop c).take (P.cellsOf t) with
   |nil=>rw[L]at e;exact e.elim
   |cons u m =>
    rw[L]at e;cases m with
    |nil=>exact⟨u,rfl⟩|cons _ _=>exact e.2.elim
  rw[p]at e H;refine aiU (u:=u) h (v:=.v (.c y)) e.1 E fun d j=>?_
  have z:=s d j;have M:=I d j 0 u (by rw[p];rfl);rw[Mz]at M;unfold execOp;rw[A];simp[Instr.loadAt,Instr.sureAddr,F,z,M]
def Wo (P:Program)(w0:di)(G:Gh)(w:World)(d:Nat)(a:Act)(o:Oper){U:Type}(k:St->Option U)(r:U):Prop :=
 ∃v c bV,(∀b:World,b.heap[G.hb d]?=w.heap[G.hb d]?->(execOp a.eval o).run P b=.ok (.value v) b)/\Inv w0 c bV (a.put o.dst v) w/\k bV=some r
def aiW (h:Inv w0 G st a w){d:Nat}{v:AV}{u:Value}(g:eK G w st.bx st.bl v u)(i:st.pk o.dst v k=some r)(j:∀c:World,c.heap[G.hb d]?=w.heap[G.hb d]?->(execOp a.eval o).run P c=.ok (.value u) c):Wo P w0 G w d a o k r:=by
 obtain⟨b,bV,l,m⟩:=q4 (K:=fun e f=>∃b bV,Inv w0 b bV e f/\k bV=some r) h g i fun b bV e f n p=>⟨b,bV,n,p⟩
 exact⟨u,b,bV,j,l,m⟩
def agZ (h:Inv w0 G st a w){c:AC}{v:Value}(i:a7 G w st.bx st.bl c v){d n:Nat}(p:c=.ptr d n){l:List AC}{m:Nat}(e:nX st c=some (l,m)) :
  ∃o f,v=.pointer (some ⟨G.hb d,o+m,none⟩)/\cA w (G.hb d) o f/\bD (a7 G w st.bx st.bl) l f:=by
 subst p;obtain⟨g,q,f,b,s,t⟩:=C5 h i e;have j:=i.2;simp only[nX]at e;split at e
 .rename_i x y;cases e;rw[j]at b;injection b with b
  injection b with b
  injection b with b u _
  subst b;exact⟨q,f,by rw[<-u];exact j,s,t⟩
 .cases e
def aiX (h:Inv w0 G st a w)(t:TypeId)(x:Operand)(z:o.op=.load t x){l:List AC}{c:Nat}(L:nX st (st.ac x)=some (l,c))
  (M:Nat.beq (nk (P.cellsOf t) (nm c l)).length (P.cellsOf t)=true)
  {b:Bool} (A:L5 P t=some b)
  {v:CV} (B:match b with|true=>v=.agg (nk (P.cellsOf t) (nm c l))|false=>∃y,nk (P.cellsOf t) (nm c l)=[y]/\v=.c y)
  {d N:Nat} (O:st.ac x=.ptr d N) (C:st.pk o.dst (.v v) k=some r):Wo P w0 G w d a o k r:=by
 obtain⟨q,j,D,R,hrel⟩:=agZ h (h.ac x) O L;have f:=(hrel.drop c).take (P.cellsOf t);have E:cA w (G.hb d) (q+c) ((j.drop c).take (P.cellsOf t)):=R.drop.take;have hlen:=f.len;have W:=aA M;have F:∀e:World,e.heap[G.hb d]?=w.heap[G.hb d]?->cA e (G.hb d) (q+c) ((j.drop c).take (P.cellsOf t)):=fun e g i u n=>by rw[cell_of_heap g];exact E i u n
 have p:=fun e g=>pI (P:=P) (F e g) (by omega) (.inr trivial) A
 obtain⟨i,S⟩:=pJ A;cases b with
 |true =>
  subst B;simp only[S]at p;refine aiW (u:=.agg ((j.drop c).take (P.cellsOf t)).toArray) h (v:=.v (.agg _)) ⟨_,rfl,f⟩ C fun e g=>?_
  have s:=p e g;unfold execOp;rw[z];simp[Instr.loadAt,Instr.sureAddr,D,s]
 |false =>
  obtain⟨y,T,rfl⟩:=B;rw[T]at f;obtain⟨u,n⟩:∃u,(j.drop c).take (P.cellsOf t)=[u]:=by
   cases H:(j.drop c).take (P.cellsOf t) with
   |nil=>rw[H]at f;exact f.elim
   |cons u m =>
    rw[H]at f;cases m with
    |nil=>exact⟨u,rfl⟩|cons _ _=>exact f.2.elim
  rw[n]at f E;refine aiW (u:=u) h (v:=.v (.c y)) f.1 C fun e g=>?_
  have s:=p e g;have I:=F e g 0 u (by rw[n];rfl);rw[Mz]at I;unfold execOp;rw[z];simp[Instr.loadAt,Instr.sureAddr,D,s,I]
end
end Go.Am
