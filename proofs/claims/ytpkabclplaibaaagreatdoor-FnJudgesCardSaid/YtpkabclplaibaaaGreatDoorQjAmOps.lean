/- No condition. -/
import Derived.Test.YtpkabclplaibaaaGreatDoorQjAmRel
import Derived.Laws.Small
import Derived.Laws.Shifts
import Derived.Laws.BytesArg
import Derived.Laws.Slices
import Derived.Laws.Strings2
import Derived.Laws.Strings3
import Derived.Laws.Strings
import Derived.Laws.OwnMore
import Derived.Laws.AppendOwnNone
set_option linter.all false
namespace Go.Am
open Go.RowKit
variable [ec]
section
variable {w0:dU} {w:World} {G:Gh} {st:St} {a:Act} {bx:List (Nat×List AC)} {bl:List (Nat×Option eC)}
def agV (v:Value):bf G w bx bl (Rn v) v:=by unfold Rn;split<;>simp[bf]
def auW:∀(l:List Value),bO (bf G w bx bl) (l.map Rn) l
 |[]=>trivial|v::l=>⟨agV v,auW l⟩
def oT (v:Value):dG G w bx bl (JO v) v:=by
 unfold JO;split
 .exact⟨_,rfl,auW _⟩
 .exact agV v
def Inv.ev (h:Inv w0 G st a w)(o:Operand):gh G w st.bx st.bl (st.ev o) (a.eval o):=by
 cases o with
 |tmp t =>
  show gh G w st.bx st.bl (st.get t) (a.tmps.getD t undef);unfold St.get;cases b:look st.tm t with
  |none=>exact trivial|some v=>exact h.tm t v b
 |const v=>exact oT v|global g=>exact trivial|func f=>exact trivial
def Inv.dB (h:Inv w0 G st a w)(o:Operand):dG G w st.bx st.bl (st.dB o) (a.eval o):=by
 have:=h.ev o;unfold St.dB;cases b:st.ev o with
 |v x=>rw[b]at this;exact this|Od l=>exact trivial
def Inv.ac (h:Inv w0 G st a w)(o:Operand):bf G w st.bx st.bl (st.ac o) (a.eval o):=by
 have:=h.dB o;unfold St.ac;cases b:st.dB o with
 |c x=>rw[b]at this;exact this|agg l=>exact trivial
def bf.one {c:AC}{v:Value}(h:bf G w bx bl c v)(d:c≠.none):v.oneCell'=true:=by
 cases c with
 |none=>exact absurd rfl d|int k n=>rw[show v=_ from h];rfl
 |bool b=>rw[show v=_ from h];rfl
 |str s=>rw[show v=_ from h];rfl
 |nil=>rw[show v=_ from h];rfl
 |ro f e t xs=>exact(show Rd w _ (.sl e t) xs [v] from h).one v (by simp)
 |own id len =>
  cases len with
  |none =>
   obtain⟨_,⟨A,n,k,j⟩,m⟩:=h;rw[m,j];rfl
  |some l =>
   obtain⟨_,_,A,n,cap,_,_,rfl⟩:=h;rfl
 |ptr b off=>rw[h.2];rfl|fnp g b=>rw[h.2];rfl|any=>exact h|vt id i off=>exact h.2.1
 |Oc f t x off =>
  obtain⟨b,o,c,rfl,_⟩:=h;rfl
def Y4 {v:Value}(h:v.oneCell'=true):v.cells=#[v]:=by cases v<;>first|rfl|(simp[Value.oneCell']at h)
def dG.cells {c:CV}{v:Value}(h:dG G w bx bl c v)(b:c.kn=true):bO (bf G w bx bl) c.cells v.cells.toList:=by
 cases c with
 |c x =>
  have d:x≠.none:=by rintro rfl;cases b
  have e:v.oneCell'=true:=bf.one (c:=x) h d;rw[Y4 e];exact⟨h,trivial⟩
 |agg l =>
  obtain⟨cs,rfl,h⟩:=h;exact h
end
def fh {a b:Nat}(h:Nat.blt a b=true):a<b:=by rwa [Nat.blt_eq]at h
def Ay {a b:Nat}(h:Nat.ble a b=true):a<=b:=by rwa [Nat.ble_eq]at h
def aH {a b:Nat}(h:Nat.beq a b=true):a=b:=Nat.eq_of_beq_eq_true h
def bo {a b:Nat}(h:(!Nat.beq a b)=true):a≠b:=by rintro rfl;simp at h
def aQ {U:Type}{c:Bool}{k:Option U}{r:U}(h:ck c k=some r):c=true/\k=some r:=by
 cases c
 .cases h
 .exact⟨rfl,h⟩
def Y5 {U:Type}{c:Bool}{x y:Option U}{r:U}(h:br c x y=some r):(c=true/\x=some r)\/(c=false/\y=some r):=by
 cases c
 .exact .inr ⟨rfl,h⟩
 .exact .inl ⟨rfl,h⟩
section
variable {P:Program} {w0:dU} {w:World} {G:Gh} {st:St} {a:Act} {U:Type} {k:St->Option U} {r:U} {K:Act->World->Prop} {Q:Exit->Act->World->Prop} {o:Oper}
def HJ {v:Value}{w':World}(b:(execOp a.eval o).run P w=.ok (.value v) w')(h:K (a.put o.dst v) w'):o.wp P a w K Q:=by unfold Oper.wp;rw[b];exact h
def axP {w':World}(b:(execOp a.eval o).run P w=.ok .skip w')(h:K (a.put o.dst undef) w'):o.wp P a w K Q:=by unfold Oper.wp;rw[b];exact h
def pK (w0:dU)(k:St->Option U)(r:U)(K:Act->World->Prop):Prop:=∀d b9 b c,Inv w0 d b9 b c->k b9=some r->K b c
def vx {d:Option Tmp}{v:AV}{u:Value}(h:Inv w0 G st a w)(e:gh G w st.bx st.bl v u)(b:st.pk d v k=some r)(c:pK w0 k r K):K (a.put d u) w:=by
 cases d with
 |none=>exact c G st a w h b
 |some d =>
  obtain⟨f,g⟩:=aQ b;exact c G _ _ w (h.put d (fh f) e) g
def adE (o:Oper)(w w1:World):Prop:=match o.op with
 |.load _ _|.convert _ _ _=>Below w.heap.size w w1|_=>True
def vy {o:Oper}{w w1:World}(h:Below w.heap.size w w1):adE o w w1:=by unfold adE;split<;>first|exact h|trivial
def bg (P:Program)(w0:dU)(w:World)(a:Act)(o:Oper){U:Type}(k:St->Option U)(r:U):Prop :=
 ∃v c b9,(∀b,adE o w b->(execOp a.eval o).run P b=.ok (.value v) b)/\Inv w0 c b9 (a.put o.dst v) w/\k b9=some r
def cY (h:Inv w0 G st a w){v:AV}{u:Value}(f:gh G w st.bx st.bl v u)(g:st.pk o.dst v k=some r)(i:∀c,adE o w c->(execOp a.eval o).run P c=.ok (.value u) c):bg P w0 w a o k r:=by
 obtain⟨b,b9,j,l⟩:=vx (K:=fun d e=>∃b b9,Inv w0 b b9 d e/\k b9=some r) h f g fun b b9 d e m n=>⟨b,b9,m,n⟩
 exact⟨u,b,b9,i,j,l⟩
def bw (h:bg P w0 w a o k r)(b:pK w0 k r K):o.wp P a w K Q:=by obtain⟨v,f,b9,c,d,e⟩:=h;exact HJ (c w (vy (Below.refl _ w))) (b _ _ _ _ d e)
def av9 (h:Inv w0 G st a w){w1:World}(c:Below w.heap.size w w1):Un G w G w1:=⟨rfl,rfl,c.size,fun b d e=>⟨e,c.block b d⟩,fun b d e=>⟨e,c.block b d⟩⟩
def Inv.lit (h:Inv w0 G st a w)(x:Operand)(b:Bool)(e:a.eval x=.bool b):Inv w0 G (st.lit x b) a w:=by
 cases x with
 |tmp t =>
  refine {h with tm:=fun s v c=>?_};simp only[St.lit,St.put,aq]at c;by_cases d:t=s
  .subst d;simp only[gg]at c;cases c;exact e
  .simp only[d,fz]at c;exact h.tm s v c
 |const v=>exact h|global g=>exact h|func f=>exact h
def anK {c:AC}{v:Value}{b:Bool}{bx:List (Nat×List AC)}{bl:List (Nat×Option eC)}(h:bf G w bx bl c v)(d:c=.bool b):v=.bool b:=by subst d;exact h
def Hq (h:Inv w0 G st a w)(x:Operand)(b:o.op=.move x\/o.op=.assign x)(c:st.pk o.dst (st.ev x) k=some r):bg P w0 w a o k r:=by
 refine cY (u:=a.eval x) h (h.ev x) c fun d e=>?_
 rcases b with b|b<;>(unfold execOp;rw[b];rfl)
def abv (h:Inv w0 G st a w)(c x y:Operand)(i:o.op=.pick c x y){b:Bool}(j:st.ac c=.bool b)
  (e:br b ((st.lit c true).pk o.dst (st.ev x) k) ((st.lit c false).pk o.dst (st.ev y) k)=some r):bg P w0 w a o k r:=by
 have f:=anK (h.ac c) j;have g:∀d,(execOp a.eval o).run P d=.ok (.value (if b then a.eval x else a.eval y)) d:=by intro d;unfold execOp;rw[i];simp[f,asBool]
 rcases Y5 e with ⟨rfl,e⟩|⟨rfl,e⟩
 .exact cY (h.lit c true f) (v:=st.ev x) (u:=a.eval x) (by have:=h.ev x;cases c<;>exact this) e fun d _=>g d
 .exact cY (h.lit c false f) (v:=st.ev y) (u:=a.eval y) (by have:=h.ev y;cases c<;>exact this) e fun d _=>g d
def Az (t:TypeId)(v:Value)(w:World):(newVar t v).run P w=.ok ⟨w.heap.size,0,none⟩ (w.alloc (.cells v.cells t)):=by simp[newVar,newRow]
def apW (h:Inv w0 G st a w)(d:Tmp)(b:look st.bx d=none)(hlt:d<st.nt)(c:CV)(v:Value)(e:dG G w st.bx st.bl c v)(f:c.kn=true)(t:TypeId)
  (g:k {(st.put d (.v (.c (.ptr d 0)))) with bx:=(d,c.cells)::st.bx}=some r) (i:pK w0 k r K) :
  K (a.put (some d) (.pointer (some ⟨w.heap.size,0,none⟩))) (w.alloc (.cells v.cells t)):=by
 obtain⟨j,m,n⟩:=h.box d b v.cells t c.cells (e.cells f);have l:=j.put d hlt (v:=.v (.c (.ptr d 0))) (u:=.pointer (some ⟨w.heap.size,0,none⟩)) (by
  refine⟨?_,?_⟩
  .simp[aq]
  .simp[Gh.box])
 exact i _ _ _ _ l g
def awa (h:Inv w0 G st a w)(t:TypeId)(x:Operand)(c:o.op=.box t x){d:Tmp}(e:o.dst=some d)(f:look st.bx d=none)
  (g:ck (Nat.blt d st.nt&&(st.dB x).kn) (k {(st.put d (.v (.c (.ptr d 0)))) with bx:=(d,(st.dB x).cells)::st.bx})=some r) (i:pK w0 k r K):o.wp P a w K Q:=by
 obtain⟨b,j⟩:=aQ g;rw[aD]at b;refine HJ (v:=.pointer (some ⟨w.heap.size,0,none⟩)) (w':=w.alloc (.cells (a.eval x).cells t)) ?_ ?_
 .unfold execOp;rw[c];simp[Instr.box,Az]
 .rw[e];exact apW h d f (fh b.1) _ _ (h.dB x) b.2 t j i
def hI {t:TypeId}{z:CV}(h:rR P t=some z):∃i v,P.info? t=some i/\i.zero=some v/\z=JO v:=by
 unfold rR at h;split at h
 .rename_i i b;split at h
  .rename_i v c;exact⟨i,v,b,c,by cases h;rfl⟩
  .cases h
 .cases h
def apX (h:Inv w0 G st a w)(t:TypeId)(c:o.op=.alloc t){d:Tmp}(e:o.dst=some d)(f:look st.bx d=none){z:CV}(g:rR P t=some z)
  (j:ck (Nat.blt d st.nt&&z.kn) (k {(st.put d (.v (.c (.ptr d 0)))) with bx:=(d,z.cells)::st.bx})=some r) (l:pK w0 k r K):o.wp P a w K Q:=by
 obtain⟨b,m⟩:=aQ j;rw[aD]at b;obtain⟨i,v,n,p,rfl⟩:=hI g;refine HJ (v:=.pointer (some ⟨w.heap.size,0,none⟩)) (w':=w.alloc (.cells v.cells t)) ?_ ?_
 .unfold execOp;rw[c];simp[Instr.alloc,zeroValue,typeInfo,n,p,Az]
 .rw[e];exact apW h d f (fh b.1) _ _ (oT v) b.2 t m l
def Ry {f:Bool}{bx:List (Nat×List AC)}{bl:List (Nat×Option eC)}:∀{t:Ty} {x:t.D} {c:List Value},Rd w (RO G f) t x c->bO (bf G w bx bl) (ex f t x) c
 |.int _,_,_,h=>by rw[show _=_ from h];exact⟨rfl,trivial⟩
 |.bool,_,_,h=>by rw[show _=_ from h];exact⟨rfl,trivial⟩
 |.str,_,_,h=>by rw[show _=_ from h];exact⟨rfl,trivial⟩
 |.unit,_,_,h=>by rw[show _=_ from h];trivial
 |.pair a b,_,_,h=>by obtain⟨j,l,rfl,d,g⟩:=h;exact bO.app (Ry d) (Ry g)
 |.sl e t,xs,c,h=>by obtain⟨A,cap,rfl,i⟩:=h;exact⟨⟨A,cap,rfl,i⟩,trivial⟩
def cQ (w:World)(b o:Nat)(vs:List Value):Prop:=∀i u,vs[i]?=some u->w.cell? ⟨b,o+i,none⟩=some u
def cQ.drop {b o n:Nat}{vs:List Value}(h:cQ w b o vs):cQ w b (o+n) (vs.drop n):=by
 intro i u c;rw[ady]at c;have:=h _ _ c
 rwa [<-Rl]at this
def cQ.take {b o n:Nat}{vs:List Value}(h:cQ w b o vs):cQ w b o (vs.take n):=by
 intro i u c;rw[JK]at c;split at c
 .exact h _ _ c
 .cases c
def cQ.of_heap {g:Nat}{cs:Array Value}{e:TypeId}{b:Nat×Nat}(h:w.heap[g]?=some (.cells cs e b)):cQ w g 0 cs.toList:=by intro i u c;rw[uP,cell_of_row w g i cs e b h];simpa using c
def AA {U:Type}{l:List U}{i:Nat}(h:i<l.length)(d:U):l[i]?=some (l.getD i d):=by simp[mO h,VA]
def aAe {id:Nat}{b:eC}(s:C6 G w id b){g o n M:Nat}(h:G.hv id=.slice (some ⟨g,o,none⟩) n M){j:Nat}(t:j<n) :
  n=b.xs.length/\∃c,Rd w (RO G b.f) b.t (b.xs.getD j b.t.aw) c/\cQ w g (o+j*b.t.n) c:=by
 cases v:b.w with
 |true =>
  obtain⟨cs,e,x,y⟩:=s.wr v;rcases e.2 with ⟨d,_⟩|⟨N,B,cur,d,_,C,_,_,_,D⟩
  .rw[h]at d;cases d
  .rw[h]at d;injection d with l E O
   injection l with l
   injection l with m p _
   subst m p E;refine⟨rfl,?_⟩;obtain⟨c,f,F⟩:=y j _ (AA t b.t.aw);refine⟨c,f,fun i u q=>?_⟩;have:=F i u q;rw[<-D,JK]at this;split at this
   .rw[uP,cell_of_row w g _ cur b.e (0,0) C];simpa using this
   .cases this
 |false =>
  obtain⟨A,B,d,R,S,f⟩:=s.rd v;have z:=uO d;rw[h]at z;injection z.1 with e x y
  subst x;refine⟨rfl,?_⟩;obtain⟨T,W,H,_,_,_,f⟩:=f (.inl (by omega));rw[H]at e;injection e with e
  injection e with m p _
  subst m p;obtain⟨c,I,L⟩:=f j _ (AA t b.t.aw);refine⟨c,I,fun i u q=>?_⟩;rw[Rl];exact L i u q
def JQ (h:Inv w0 G st a w){c:AC}{v:Value}(s:bf G w st.bx st.bl c v){l:List AC}{A:Nat}(d:sF st c=some (l,A)) :
  ∃g o z,v=.pointer (some ⟨g,o+A,none⟩)/\cQ w g o z/\bO (bf G w st.bx st.bl) l z:=by
 cases c with
 |ptr b q =>
  obtain⟨B,rfl⟩:=s;simp only[sF]at d;cases j:look st.bx b with
  |none=>rw[j]at d;cases d
  |some m =>
   rw[j]at d;cases d;obtain⟨cs,e,C,_,p⟩:=h.bx b _ j;exact⟨G.hb b,0,cs.toList,by rw[uP],cQ.of_heap C,p⟩
 |vt id i q =>
  simp only[sF]at d;obtain⟨B,_,F,g,o,n,cap,D,H,u⟩:=s;unfold St.nO at d;cases j:look st.bl id with
  |none=>rw[j]at d;cases d
  |some E =>
   rw[j]at d;cases E with
   |none=>cases d
   |some b =>
    cases d;have u:=u b j;obtain⟨I,c,p,y⟩:=aAe (h.bl id b j) D (show i.toNat<n by omega);refine⟨g,o+i.toNat*b.t.n,c,?_,y,Ry p⟩;rw[u,Rl]
 |Oc f t x q =>
  simp only[sF]at d;cases d;obtain⟨b,o,cs,rfl,_,cX,p,y⟩:=s;exact⟨b,o,cs,rfl,y,Ry p⟩
 |_=>cases d
def uS {t:TypeId}{g o:Nat}{vs:List Value}(l:cQ w g o vs)(m:P.cellsOf t=vs.length)(s:0<vs.length\/True){b:Bool}(c:UX P t=some b) :
  (loadVar t ⟨g,o,none⟩).run P w=match b with|true=>(match P.info? t with|some _=>.ok (.agg vs.toArray) w|none=>(loadVar t ⟨g,o,none⟩).run P w)|false=>(load ⟨g,o,none⟩).run P w:=by
 have h:(isAgg t).run P w=.ok b w:=by
  unfold isAgg UX at *;cases e:P.underlying t with
  |none=>rw[e]at c;cases c
  |some d =>
   rw[e]at c;rw[Sem.run_bind,run_underlying e w];cases d<;>simp_all
 cases b with
 |false=>simp[loadVar,h]
 |true =>
  cases j:P.info? t with
  |none=>rfl
  |some i =>
   have n:i.size=vs.length:=by rw[<-m];simp[Program.cellsOf,j]
   have p:(loadCells ⟨g,o,none⟩ vs.length).run P w=.ok vs.toArray w:=by
    refine run_loadCells_list (P:=P) w ⟨g,o,none⟩ vs fun f v q=>?_
    have:(⟨g,o,none⟩:Addr).add f=⟨g,o+f,none⟩:=by unfold Addr.add;split<;>simp_all
    rw[this];exact l f v q
   simp[loadVar,h,sizeOf,typeInfo,j,n,p]
def uT {t:TypeId}{b:Bool}(h:UX P t=some b):∃i,P.info? t=some i:=by
 unfold UX Program.underlying at h;cases c:P.info? t with
 |none=>rw[c]at h;cases h|some i=>exact⟨i,rfl⟩
def cQ.below {w w1:World}(c:Below w.heap.size w w1){g o:Nat}{vs:List Value}(h:cQ w g o vs):cQ w1 g o vs:=by intro d v e;have b:=h d v e;have hlt:=World.block_lt_of_cell? _ _ b;rw[cell_of_heap (c.block g hlt)];exact b
def Hr (h:Inv w0 G st a w)(t:TypeId)(x:Operand)(n:o.op=.load t x){l:List AC}{e:Nat}(I:sF st (st.ac x)=some (l,e))
  (L:Nat.beq (rJ (P.cellsOf t) (rK e l)).length (P.cellsOf t)=true)
  {b:Bool} (A:UX P t=some b)
  {v:CV} (B:match b with|true=>v=.agg (rJ (P.cellsOf t) (rK e l))|false=>∃y,rJ (P.cellsOf t) (rK e l)=[y]/\v=.c y)
  (C:st.pk o.dst (.v v) k=some r):bg P w0 w a o k r:=by
 obtain⟨g,q,j,D,M,hrel⟩:=JQ h (h.ac x) I;have f:=(hrel.drop e).take (P.cellsOf t);have p:cQ w g (q+e) ((j.drop e).take (P.cellsOf t)):=M.drop.take;have hlen:=f.len;have S:=aH L;have s:=fun d (c:Below w.heap.size w d)=>uS (P:=P) (cQ.below c p) (by omega) (.inr trivial) A
 have E:∀d,adE o w d->Below w.heap.size w d:=fun d c=>by unfold adE at c;rw[n]at c;exact c
 obtain⟨i,N⟩:=uT A;cases b with
 |true =>
  subst B;simp only[N]at s;refine cY (u:=.agg ((j.drop e).take (P.cellsOf t)).toArray) h (v:=.v (.agg _)) ⟨_,rfl,f⟩ C fun d c=>?_
  have c:=E d c;have z:=s d c;unfold execOp;rw[n];simp[Instr.loadAt,Instr.sureAddr,D,z]
 |false =>
  obtain⟨y,O,rfl⟩:=B;rw[O]at f;obtain⟨u,R⟩:∃u,(j.drop e).take (P.cellsOf t)=[u]:=by
   cases F:(j.drop e).take (P.cellsOf t) with
   |nil=>rw[F]at f;exact f.elim
   |cons u m =>
    rw[F]at f;cases m with
    |nil=>exact⟨u,rfl⟩|cons _ _=>exact f.2.elim
  rw[R]at f p;refine cY (u:=u) h (v:=.v (.c y)) f.1 C fun d c=>?_
  have c:=E d c;have z:=s d c;have H:=cQ.below c p 0 u rfl;rw[VD]at H;unfold execOp;rw[n];simp[Instr.loadAt,Instr.sureAddr,D,z,H]
def agW (P:Program)(w0:dU)(G:Gh)(w:World)(a:Act)(o:Oper){U:Type}(k:St->Option U)(r:U):Prop :=
 ∃v c b9,(∀b,(∀g,g<w.heap.size->G.own g=none->b.heap[g]?=w.heap[g]?)->(execOp a.eval o).run P b=.ok (.value v) b)/\Inv w0 c b9 (a.put o.dst v) w/\k b9=some r
def auX (h:Inv w0 G st a w){v:AV}{u:Value}(f:gh G w st.bx st.bl v u)(i:st.pk o.dst v k=some r)(j:∀c,(∀g,g<w.heap.size->G.own g=none->c.heap[g]?=w.heap[g]?)->(execOp a.eval o).run P c=.ok (.value u) c):agW P w0 G w a o k r:=by
 obtain⟨b,b9,l,m⟩:=vx (K:=fun d e=>∃b b9,Inv w0 b b9 d e/\k b9=some r) h f i fun b b9 d e n p=>⟨b,b9,n,p⟩
 exact⟨u,b,b9,j,l,m⟩
def asN (h:Inv w0 G st a w){c:AC}{v:Value}(d:bf G w st.bx st.bl c v){f:Bool}{e:Ty}{m:e.D}{n:Nat}(p:c=.Oc f e m n){l:List AC}{j:Nat}(q:sF st c=some (l,j)) :
  ∃g o i,v=.pointer (some ⟨g,o+j,none⟩)/\cQ w g o i/\bO (bf G w st.bx st.bl) l i/\G.own g=none/\g<w.heap.size:=by
 subst p;obtain⟨b,o,c,s,t,cX,u,d⟩:=d;cases q;exact⟨b,o,c,s,d,Ry u,cX.1,t⟩
def auY (h:Inv w0 G st a w)(t:TypeId)(x:Operand)(A:o.op=.load t x){l:List AC}{c:Nat}(N:sF st (st.ac x)=some (l,c))
  (O:Nat.beq (rJ (P.cellsOf t) (rK c l)).length (P.cellsOf t)=true)
  {b:Bool} (B:UX P t=some b)
  {v:CV} (C:match b with|true=>v=.agg (rJ (P.cellsOf t) (rK c l))|false=>∃y,rJ (P.cellsOf t) (rK c l)=[y]/\v=.c y)
  {f:Bool} {D:Ty} {R:D.D} {S:Nat} (T:st.ac x=.Oc f D R S) (E:st.pk o.dst (.v v) k=some r):agW P w0 G w a o k r:=by
 obtain⟨g,q,n,F,W,hrel,X,hlt⟩:=asN h (h.ac x) T N;have e:=(hrel.drop c).take (P.cellsOf t);have H:cQ w g (q+c) ((n.drop c).take (P.cellsOf t)):=W.drop.take;have hlen:=e.len;have qa:=aH O;have I:∀d,(∀g,g<w.heap.size->G.own g=none->d.heap[g]?=w.heap[g]?)->cQ d g (q+c) ((n.drop c).take (P.cellsOf t)):=fun d j i u p=>by rw[cell_of_heap (j g hlt X)];exact H i u p
 have s:=fun d j=>uS (P:=P) (I d j) (by omega) (.inr trivial) B
 obtain⟨i,Y⟩:=uT B;cases b with
 |true =>
  subst C;simp only[Y]at s;refine auX (u:=.agg ((n.drop c).take (P.cellsOf t)).toArray) h (v:=.v (.agg _)) ⟨_,rfl,e⟩ E fun d j=>?_
  have z:=s d j;unfold execOp;rw[A];simp[Instr.loadAt,Instr.sureAddr,F,z]
 |false =>
  obtain⟨y,Z,rfl⟩:=C;rw[Z]at e;obtain⟨u,p⟩:∃u,(n.drop c).take (P.cellsOf t)=[u]:=by
   cases L:(n.drop c).take (P.cellsOf t) with
   |nil=>rw[L]at e;exact e.elim
   |cons u m =>
    rw[L]at e;cases m with
    |nil=>exact⟨u,rfl⟩|cons _ _=>exact e.2.elim
  rw[p]at e H;refine auX (u:=u) h (v:=.v (.c y)) e.1 E fun d j=>?_
  have z:=s d j;have M:=I d j 0 u (by rw[p];rfl);rw[VD]at M;unfold execOp;rw[A];simp[Instr.loadAt,Instr.sureAddr,F,z,M]
def agX (P:Program)(w0:dU)(G:Gh)(w:World)(d:Nat)(a:Act)(o:Oper){U:Type}(k:St->Option U)(r:U):Prop :=
 ∃v c b9,(∀b:World,b.heap[G.hb d]?=w.heap[G.hb d]?->(execOp a.eval o).run P b=.ok (.value v) b)/\Inv w0 c b9 (a.put o.dst v) w/\k b9=some r
def auZ (h:Inv w0 G st a w){d:Nat}{v:AV}{u:Value}(g:gh G w st.bx st.bl v u)(i:st.pk o.dst v k=some r)(j:∀c:World,c.heap[G.hb d]?=w.heap[G.hb d]?->(execOp a.eval o).run P c=.ok (.value u) c):agX P w0 G w d a o k r:=by
 obtain⟨b,b9,l,m⟩:=vx (K:=fun e f=>∃b b9,Inv w0 b b9 e f/\k b9=some r) h g i fun b b9 e f n p=>⟨b,b9,n,p⟩
 exact⟨u,b,b9,j,l,m⟩
def asO (h:Inv w0 G st a w){c:AC}{v:Value}(i:bf G w st.bx st.bl c v){d n:Nat}(p:c=.ptr d n){l:List AC}{m:Nat}(e:sF st c=some (l,m)) :
  ∃o f,v=.pointer (some ⟨G.hb d,o+m,none⟩)/\cQ w (G.hb d) o f/\bO (bf G w st.bx st.bl) l f:=by
 subst p;obtain⟨g,q,f,b,s,t⟩:=JQ h i e;have j:=i.2;simp only[sF]at e;split at e
 .rename_i x y;cases e;rw[j]at b;injection b with b
  injection b with b
  injection b with b u _
  subst b;exact⟨q,f,by rw[<-u];exact j,s,t⟩
 .cases e
def au0 (h:Inv w0 G st a w)(t:TypeId)(x:Operand)(z:o.op=.load t x){l:List AC}{c:Nat}(L:sF st (st.ac x)=some (l,c))
  (M:Nat.beq (rJ (P.cellsOf t) (rK c l)).length (P.cellsOf t)=true)
  {b:Bool} (A:UX P t=some b)
  {v:CV} (B:match b with|true=>v=.agg (rJ (P.cellsOf t) (rK c l))|false=>∃y,rJ (P.cellsOf t) (rK c l)=[y]/\v=.c y)
  {d N:Nat} (O:st.ac x=.ptr d N) (C:st.pk o.dst (.v v) k=some r):agX P w0 G w d a o k r:=by
 obtain⟨q,j,D,R,hrel⟩:=asO h (h.ac x) O L;have f:=(hrel.drop c).take (P.cellsOf t);have E:cQ w (G.hb d) (q+c) ((j.drop c).take (P.cellsOf t)):=R.drop.take;have hlen:=f.len;have W:=aH M;have F:∀e:World,e.heap[G.hb d]?=w.heap[G.hb d]?->cQ e (G.hb d) (q+c) ((j.drop c).take (P.cellsOf t)):=fun e g i u n=>by rw[cell_of_heap g];exact E i u n
 have p:=fun e g=>uS (P:=P) (F e g) (by omega) (.inr trivial) A
 obtain⟨i,S⟩:=uT A;cases b with
 |true =>
  subst B;simp only[S]at p;refine auZ (u:=.agg ((j.drop c).take (P.cellsOf t)).toArray) h (v:=.v (.agg _)) ⟨_,rfl,f⟩ C fun e g=>?_
  have s:=p e g;unfold execOp;rw[z];simp[Instr.loadAt,Instr.sureAddr,D,s]
 |false =>
  obtain⟨y,T,rfl⟩:=B;rw[T]at f;obtain⟨u,n⟩:∃u,(j.drop c).take (P.cellsOf t)=[u]:=by
   cases H:(j.drop c).take (P.cellsOf t) with
   |nil=>rw[H]at f;exact f.elim
   |cons u m =>
    rw[H]at f;cases m with
    |nil=>exact⟨u,rfl⟩|cons _ _=>exact f.2.elim
  rw[n]at f E;refine auZ (u:=u) h (v:=.v (.c y)) f.1 C fun e g=>?_
  have s:=p e g;have I:=F e g 0 u (by rw[n];rfl);rw[VD]at I;unfold execOp;rw[z];simp[Instr.loadAt,Instr.sureAddr,D,s,I]
end
end Go.Am
