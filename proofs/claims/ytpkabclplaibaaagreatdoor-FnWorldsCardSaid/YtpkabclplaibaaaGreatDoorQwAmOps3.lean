/- No condition. -/
import Derived.Test.YtpkabclplaibaaaGreatDoorQwAmOps2
set_option linter.all false
namespace Go.Am
open Go.RowKit
variable [ei]
section
variable {P:Program} {w0:dY} {w:World} {G:Gh} {st:St} {a:Act} {U:Type} {k:St->Option U} {r:U} {K:Act->World->Prop} {Q:Exit->Act->World->Prop} {o:Oper}
def dm {id:Nat}{b:eF}(h:st.oi id=some b):look st.bl id=some (some b):=by
 unfold St.oi at h;cases c:look st.bl id with
 |none=>rw[c]at h;cases h|some d=>rw[c]at h;rw[show d=some b from h]
def n0 {t:TypeId}{n:Nat}(h:P.cellsOf t=n)(c:0<n):∃i,P.info? t=some i/\i.size=n:=by
 unfold Program.cellsOf at h;cases b:P.info? t with
 |none=>rw[b]at h;simp at h;omega|some i=>exact⟨i,rfl,by rw[b]at h;simpa using h⟩
def aqY {id:Nat}{b:eF}(e:EB G w id b):∃A cap,G.hv id=.slice A b.xs.length cap/\b.xs.length<=cap/\cap=cap/\(0<b.xs.length->∃g o,A=some ⟨g,o,none⟩)/\b.xs.length<=9223372036854775807:=by
 cases f:b.w with
 |true =>
  obtain⟨cs,h,_,_⟩:=e.wr f;rcases h.2 with ⟨c,i⟩|⟨g,cap,cur,c,_,_,d,n,_⟩
  .exact⟨none,0,by rw[c,i],by omega,rfl,by omega,by omega⟩
  .have:maxLen=9223372036854775807:=rfl;exact⟨_,cap,c,d,rfl,fun _=>⟨g,0,rfl⟩,by omega⟩
 |false =>
  obtain⟨A,cap,c,d,j,l⟩:=e.rd f;refine⟨A,cap,(sD c).1,d,rfl,fun p=>?_,j⟩;obtain⟨g,o,m,_⟩:=l (.inl (by omega));exact⟨g,o,m⟩
def ayy {t e:TypeId}(c:P.underlying t=some (.slice e)){g o n h b:Nat}(j:P.cellsOf e=b)(l:0<b){d:IntKind}{i:Int}(m:0<=i)(hi:i<n) :
  (Instr.indexAt t (.slice (some ⟨g,o,none⟩) n h) (.int d i)).run P w=.ok (.pointer (some ⟨g,o+i.toNat*b,none⟩)) w:=by
 obtain⟨s,p,q⟩:=n0 j l;have f:P.elem t=e:=by simp[Program.elem,c]
 rw[run_indexAt_slice w t _ n h d i (by rw[f];exact c),ak ⟨m,hi⟩,f];simp[sizeOf,typeInfo,p,q,TK]
def NN (h:Inv w0 G st a w)(t:TypeId)(x i:Operand)(H:o.op=.indexAddr t x i){e:TypeId}(I:P.underlying t=some (.slice e)){id:Nat}{len:Option Int}(L:st.ac x=.own id len)
  {b:eF} (y:st.oi id=some b) {m:Int} (j:ajI st (.own id len)=some m) {z:IntKind} {n:Int} (hi:st.ac i=.int z n) (M:P.cellsOf e=b.t.n) (B:0<=n) (Z:n<m)
  (N:st.pk o.dst (.v (.c (.wS id n 0))) k=some r):bp P w0 w a o k r:=by
 have p:=dm y;have C:=h.bl id b p;obtain⟨A,cap,q,qd,_,D,_⟩:=aqY C;have O:a.eval i=.int z n:=by have:=h.ac i;rw[hi]at this;exact this
 have s:=h.ac x;rw[L]at s;have key:∃c g d,a.eval x=.slice (some ⟨g,d,none⟩) m.toNat c/\A=some ⟨g,d,none⟩/\m<=b.xs.length:=by
  cases len with
  |none =>
   simp only[ajI,y]at j;cases j;obtain⟨g,d,f⟩:=D (by omega);exact⟨cap,g,d,by rw[s.2.2,q,f];simp,f,by omega⟩
  |some l =>
   cases j;obtain⟨_,_,qe,qf,qg,E,R,S⟩:=s;rw[q]at E;injection E with T W X
   subst T W X;obtain⟨g,d,f⟩:=D (by omega);exact⟨cap,g,d,by rw[S,f],f,R⟩
 obtain⟨c,g,d,Y,f,qh⟩:=key;refine c2 (u:=.pointer (some ⟨g,d+n.toNat*b.t.n,none⟩)) h (v:=.v (.c (.wS id n 0))) ?_ N fun qi qj=>?_
 rotate_left
 .unfold execOp;rw[H];dsimp only;rw[Y,O];simp[ayy I M C.pos B (show n<(m.toNat:Int) by omega)]
 .refine⟨by rw[p];rfl,rfl,B,g,d,b.xs.length,cap,by rw[q,f],by omega,fun qk F=>?_⟩;rw[p]at F;cases F;rfl
def Qm (h:Inv w0 G st a w)(t:TypeId)(x i:Operand)(m:o.op=.indexAddr t x i){e p:TypeId}(q:P.underlying t=some (.slice e)){f:Bool}{u:Ty}{xs:List u.D}(s:st.ac x=.ro f p u xs)
  {d:IntKind} {n:Int} (hi:st.ac i=.int d n) (y:P.cellsOf e=u.n) (R:u.n≠0) (z:0<=n) (B:n<(xs.length:Int))
  (C:st.pk o.dst (.v (.c (.Qd f u (xs.getD n.toNat u.az) 0))) k=some r):bp P w0 w a o k r:=by
 have D:a.eval i=.int d n:=by have:=h.ac i;rw[hi]at this;exact this
 have j:=h.ac x;rw[s]at j;obtain⟨A,cap,b,S,T,E⟩:=j;have b:=(sD b).1;obtain⟨g,l,F,hlt,cz,_,H⟩:=E (.inl (by omega));obtain⟨c,I,L⟩:=H n.toNat _ (BS (by omega) u.az);refine c2 (u:=.pointer (some ⟨g,l+n.toNat*u.n,none⟩)) h (v:=.v (.c (.Qd f u (xs.getD n.toNat u.az) 0))) ?_ C fun W X=>?_
 rotate_left
 .unfold execOp;rw[m];dsimp only;rw[b,F,D];simp[ayy q y (by omega) z B]
 .exact⟨g,l+n.toNat*u.n,c,rfl,hlt,cz,I,fun M N O=>by rw[Tp];exact L M N O⟩
def NO (h:Inv w0 G st a w)(t:TypeId)(x i:Operand)(p:o.op=.indexAddr t x i){e:TypeId}{m:Nat}(d:P.underlying t=some (.array m e)){b c:Nat}(q:st.ac x=.ptr b c)
  {f:IntKind} {n:Int} (hi:st.ac i=.int f n) (H:P.cellsOf e≠0) (s:0<=n) (y:n<(m:Int))
  (z:st.pk o.dst (.v (.c (.ptr b (c+n.toNat*P.cellsOf e)))) k=some r):bp P w0 w a o k r:=by
 have A:a.eval i=.int f n:=by have:=h.ac i;rw[hi]at this;exact this
 have g:=h.ac x;rw[q]at g;obtain⟨B,C⟩:=g;obtain⟨I,D,E⟩:=n0 rfl (show 0<P.cellsOf e by omega);refine c2 (u:=.pointer (some ⟨G.hb b,c+n.toNat*P.cellsOf e,none⟩)) h (v:=.v (.c (.ptr b (c+n.toNat*P.cellsOf e)))) ⟨B,rfl⟩ z fun F L=>?_
 unfold execOp;rw[p];dsimp only;rw[C,A];have j:P.elem t=e:=by simp[Program.elem,d]
 have l:P.arrayLen t=m:=by simp[Program.arrayLen,d]
 simp[run_indexAt_array F t ⟨G.hb b,c,none⟩ f n (by rw[j,l];exact d),l,s,y,j,sizeOf,typeInfo,D,E,TK]
def apf (h:Inv w0 G st a w){c:Option Operand}{d n:Int}(b:s5 c st d=some n):(c=none/\n=d)\/∃x e,c=some x/\a.eval x=.int e n:=by
 cases c with
 |none=>cases b;exact .inl ⟨rfl,rfl⟩
 |some x =>
  simp only[s5]at b;have:=h.ac x;split at b
  .rename_i e m f;cases b;rw[f]at this;exact .inr ⟨x,e,rfl,this⟩
  .cases b
def ajV (h:Inv w0 G st a w)(w1:World)(c:Bool){len b:Nat}(z:len<=b){lo hi:Option Operand}{l m:Int}(j:s5 lo st 0=some l)(n:s5 hi st (len:Int)=some m)(d:0<=l)(e:l<=m)(A:m<=(len:Int)) :
  (Instr.sliceBounds c len b (lo.map a.eval) (hi.map a.eval) none).run P w1=.ok (l.toNat,m.toNat,b) w1:=by
 rcases apf h j with ⟨rfl,rfl⟩|⟨x,p,rfl,f⟩<;>rcases apf h n with ⟨rfl,rfl⟩|⟨y,q,rfl,g⟩
 .simp[Instr.sliceBounds]
 .have:m<=(b:Int):=by omega
  simp[Instr.sliceBounds,g,run_sliceBound,e,this]
 .simp[Instr.sliceBounds,f,run_sliceBound,d,e]
 .have s:m<=(b:Int):=by omega
  have t:l<=((m.toNat:Nat):Int):=by omega
  have i:0<=m:=by omega
  have B:((m.toNat:Nat):Int)=m:=Tm i;have u:=run_sliceBound (P:=P) w1 q m b (if c then .sliceAcap else .sliceAlen) i s;have v:=run_sliceBound (P:=P) w1 p l m.toNat .sliceB d t;simp[Instr.sliceBounds,f,g,u,v]
def TL (h:Inv w0 G st a w)(t:TypeId)(x:Operand)(lo hi:Option Operand)(b:o.op=.slice t x lo hi none)(c:P.underlying t=some .string){s:ByteArray}(d:st.ac x=.str s)
  {l m:Int} (e:s5 lo st 0=some l) (f:s5 hi st (s.size:Int)=some m) (g:0<=l) (i:l<=m) (j:m<=(s.size:Int))
  (n:st.pk o.dst (.v (.c (.str (s.extract l.toNat m.toNat)))) k=some r):bp P w0 w a o k r:=by
 have p:a.eval x=.string s:=by have:=h.ac x;rw[d]at this;exact this
 refine c2 (u:=.string (s.extract l.toNat m.toNat)) h (v:=.v (.c (.str (s.extract l.toNat m.toNat)))) rfl n fun q z=>?_
 unfold execOp;rw[b];dsimp only;rw[p];have y:=ajV (P:=P) h q false (bh s.size) e f g i j;simp[Instr.sliceAt,run_underlying c,Instr.slice,y]
def awo {lo:Option Operand}{l:Int}(b:lo.isNone=true)(c:s5 lo st 0=some l):l.toNat=0:=by
 cases lo with
 |none=>cases c;rfl|some _=>cases b
def aBu {ok:Nat->Prop}{e:TypeId}{t:Ty}{xs:List t.D}{A:Option Addr}{f:Nat}(h:Rd w ok (.sl e t) xs [.slice A xs.length f]){l m:Nat}(N:l<=m)(O:m<=xs.length)(hb:l=0\/big t=false) :
  Rd w ok (.sl e t) ((xs.take m).drop l) [sliced A l m f t.n]:=by
 obtain⟨R,S,n,T,W,y⟩:=h;have n:=(sD n).1;injection n with z X B
 subst z B;have hlen:((xs.take m).drop l).length=m-l:=by simp;omega
 refine⟨if f=l then A else A.map (·.add (l*t.n)),f-l,?_,by omega,by omega,fun d=>?_⟩
 .simp[sliced,hlen]
 .have q:Lv t xs.length A f/\(f=l->l=0):=by
   rcases d with d|⟨d,g⟩
   .rw[hlen]at d;exact⟨.inl (by omega),fun s=>by omega⟩
   .have C:l=0:=hb.resolve_right fun D=>by rw[D]at d;cases d
    refine⟨.inr ⟨d,g.imp (fun h=>by omega) fun g E=>g ?_⟩,fun _=>C⟩;rw[E];split<;>rfl
  obtain⟨b,o,g,hlt,cz,v,F⟩:=y q.1;refine⟨b,o+l*t.n,?_,hlt,cz,?_,fun p x j=>?_⟩
  .rw[g];split
   .rename_i s;rw[q.2 s];simp
   .simp[TK]
  .rcases hb with hb|hb
   .subst hb;simpa using v
   .exact v.part hb
  .have H:xs[l+p]?=some x:=by
    rw[af9,Ls]at j;split at j
    .exact j
    .cases j
   obtain⟨c,I,L⟩:=F _ x H;refine⟨c,I,fun i u M=>?_⟩;have:=L i u M;rw[Jd]at this;rw[show o+l*t.n+(p*t.n+i)=o+(l*t.n+p*t.n+i) by omega];exact this
def aqZ (h:Inv w0 G st a w)(w1:World){t e:TypeId}(d:P.underlying t=some (.slice e)){b:Nat}(f:P.cellsOf e=b)(g:0<b){A:Option Addr}{len c:Nat}(i:len<=c){lo hi:Option Operand}{l m:Int}
  (j:s5 lo st 0=some l) (n:s5 hi st (len:Int)=some m) (p:0<=l) (q:l<=m) (s:m<=(len:Int)) :
  (Instr.sliceAt t (.slice A len c) (lo.map a.eval) (hi.map a.eval) none).run P w1=.ok (sliced A l.toNat m.toNat c b) w1:=by
 have u:=ajV (P:=P) h w1 true i j n p q s;obtain⟨y,v,x⟩:=n0 f g;simp[Instr.sliceAt,run_underlying d,Instr.slice,u,sizeOf,typeInfo,v,x,sliced]
def ZD (h:Inv w0 G st a w)(t:TypeId)(x:Operand)(lo hi:Option Operand)(j:o.op=.slice t x lo hi none){e b:TypeId}(n:P.underlying t=some (.slice e)){f:Bool}{u:Ty}{xs:List u.D}(p:st.ac x=.ro f b u xs)
  (q:P.cellsOf e=u.n) (I:u.n≠0) (s:lo.isNone=true\/big u=false) {l m:Int} (g:s5 lo st 0=some l) (y:s5 hi st (xs.length:Int)=some m) (z:0<=l) (B:l<=m) (C:m<=(xs.length:Int))
  (D:st.pk o.dst (.v (.c (.ro f b u ((xs.take m.toNat).drop l.toNat)))) k=some r):bp P w0 w a o k r:=by
 have d:=h.ac x;rw[p]at d;obtain⟨A,cap,c,E,_⟩:=id d;have c:=(sD c).1;have i:Rd w (RO G f) (.sl b u) xs [a.eval x]:=d;rw[c]at i;refine c2 (u:=sliced A l.toNat m.toNat cap u.n) h (v:=.v (.c (.ro f b u _))) (aBu i (by omega) (by omega) (s.imp_left fun F=>awo F g)) D fun H L=>?_
 unfold execOp;rw[j];dsimp only;rw[c];simp only[Option.map_none,Sem.run_bind,aqZ h H n q (by omega) E g y z B C,Result.andThen_ok];rfl
def TM (h:Inv w0 G st a w)(t:TypeId)(x:Operand)(hi:Option Operand)(n:o.op=.slice t x none hi none){e:TypeId}(p:P.underlying t=some (.slice e)){id:Nat}(q:st.ac x=.own id none)
  {b:eF} (s:st.oi id=some b) (y:P.cellsOf e=b.t.n) {m:Int} (z:s5 hi st (b.xs.length:Int)=some m) (d:0<=m) (f:m<=(b.xs.length:Int))
  (B:st.pk o.dst (.v (.c (.own id (some m)))) k=some r):bp P w0 w a o k r:=by
 have C:=dm s;have g:=h.bl id b C;obtain⟨A,cap,i,D,_,I,_⟩:=aqY g;have c:=h.ac x;rw[q]at c;have E:a.eval x=.slice A b.xs.length cap:=by rw[c.2.2,i]
 have F:sliced A 0 m.toNat cap b.t.n=.slice A m.toNat cap:=by unfold sliced;simp[Addr.add_zero']
 refine c2 (u:=.slice A m.toNat cap) h (v:=.v (.c (.own id (some m)))) ⟨c.1,d,A,b.xs.length,cap,i,f,rfl⟩ B fun H L=>?_
 unfold execOp;rw[n];dsimp only;rw[E];have j:=aqZ (P:=P) (lo:=none) h H p y g.pos D (A:=A) (l:=0) rfl z (by omega) d f;simp only[Option.map_none,Sem.run_bind]at j ⊢;rw[j,Int.toNat_zero,F];rfl
def NP (h:Inv w0 G st a w)(t:TypeId)(x:Operand)(lo hi:Option Operand)(j:o.op=.slice t x lo hi none){e:TypeId}(n:P.underlying t=some (.slice e)){id:Nat}(p:st.ac x=.own id none)
  {b:eF} (q:st.oi id=some b) (s:P.cellsOf e=b.t.n) (y:big b.t=false) {l m:Int} (z:s5 lo st 0=some l) (B:s5 hi st (b.xs.length:Int)=some m) (C:0<=l) (D:l<=m) (E:m<=(b.xs.length:Int))
  (F:({st with bl:=(id,some {b with w:=false})::st.bl}:St).pk o.dst (.v (.c (.ro b.f b.e b.t ((b.xs.take m.toNat).drop l.toNat)))) k=some r):bp P w0 w a o k r:=by
 have c:=dm q;have d:=h.bl id b c;obtain⟨A,cap,f,H,_,N,_⟩:=aqY d;have g:=h.ac x;rw[p]at g;have I:a.eval x=.slice A b.xs.length cap:=by rw[g.2.2,f]
 obtain⟨i,O,R⟩:=h.drop id b c;have L:Rd w (RO (G.drop id) b.f) (.sl b.e b.t) b.xs [.slice A b.xs.length cap]:=by have:=(i.bl id {b with w:=false} (by simp[ar])).rd rfl;rw[show(G.drop id).hv id=_ from f]at this;exact this
 refine c2 (u:=sliced A l.toNat m.toNat cap b.t.n) i (v:=.v (.c (.ro b.f b.e b.t _))) (aBu L (by omega) (by omega) (.inr y)) F fun M S=>?_
 unfold execOp;rw[j];dsimp only;rw[I];simp only[Option.map_none,Sem.run_bind,aqZ h M n s d.pos H z B C D E,Result.andThen_ok];rfl
def aq0 {V:Type}:∀(l:List V) (i:Nat),kj l i=l[i]?
 |[],_=>rfl|x::l,0=>rfl|x::l,i+1=>by simpa [kj]using aq0 l i
def Jk:∀(vs:List Value) (b m:Nat) (cs:Array Value),((vs.zipIdx m).foldl (fun cs (c,d)=>cs.setIfInBounds (b+d) c) cs).toList=Jh cs.toList (b+m) vs
 |[],_,_,_=>rfl|v::vs,b,m,cs=>by simp only[List.zipIdx_cons,List.foldl_cons,Jh];rw[Jk vs b (m+1) (cs.setIfInBounds (b+m) v)];simp[Tp]
def ajW (h:Inv w0 G st a w)(g:List (Nat×Nat)):∀(parts:List (Nat×Operand)) (j:List AC) (cs:Array Value) (l:List AC),bY (bo G w st.bx st.bl) j cs.toList->BO st g j parts=some l ->
  ∃d,Instr.fill (g.toArray[·]?) cs (parts.map fun (i,x)=>(i,a.eval x))=some d/\bY (bo G w st.bx st.bl) l d.toList
 |[],j,cs,l,e,b=>by simp only[BO]at b;cases b;exact⟨cs,rfl,e⟩
 |(f,x)::parts,j,cs,l,e,b=>by
  simp only[BO]at b;split at b
  .rename_i off size m;split at b
   .rename_i n;rw[aE,aE]at n;obtain⟨⟨q,s⟩,t⟩:=n;have p:=(h.dB x).cells q;have hlen:=p.len;have u:=aK s;have B:=BQ t;have v:=e.len;have C:(a.eval x).cells.size=size:=by rw[u,hlen];simp
    obtain⟨d,y,hrel⟩:=ajW h g parts _ ((a.eval x).cells.toList.zipIdx.foldl (fun cs (c,z)=>cs.setIfInBounds (off+z) c) cs) l (by rw[Jk];exact bY.Hx off e p) b
    refine⟨d,?_,hrel⟩;rw[aq0]at m;have A:g.toArray[f]?=some (off,size):=by simpa using m
    simp only[sE,Instr.fill,A];rw[ag]
    .rw[<-y]
     congr 1
     rw[<-Array.foldl_toList,Array.toList_zipIdx]
    .simp at hlen v ⊢;omega
   .cases b
  .cases b
def ZE (h:Inv w0 G st a w)(t:TypeId)(parts:Array (Nat×Operand))(e:o.op=.build t parts){z:CV}(d:sO P t=some z){ps:List (Nat×Nat)}(b:ajJ P t=some ps)(f:z.kn=true)
  {l:List AC} (g:BO st ps z.cells parts.toList=some l) (j:st.pk o.dst (.v (.agg l)) k=some r):bp P w0 w a o k r:=by
 obtain⟨i,v,m,n,rfl⟩:=hN d;have d:=(py (G:=G) (w:=w) (bx:=st.bx) (bl:=st.bl) v).cells f;obtain⟨c,p,hrel⟩:=ajW h ps parts.toList _ v.cells l d g;unfold ajJ at b;split at b
 .rename_i A q;have s:P.built t (parts.map fun (i,x)=>(i,a.eval x)).toList=some c:=by unfold Program.built;rw[m,q];dsimp only;rw[n,b];dsimp only;rw[agb];exact p
  refine c2 (u:=.agg c) h (v:=.v (.agg l)) ⟨c,rfl,hrel⟩ j fun y B=>?_
  unfold execOp;rw[e];dsimp only;simp only[Sem.run_bind,run_build y t _ c s,Result.andThen_ok];rfl
 .cases b
end
end Go.Am
