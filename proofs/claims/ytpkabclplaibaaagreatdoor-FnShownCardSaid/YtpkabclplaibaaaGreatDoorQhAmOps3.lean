/- No condition. -/
import Derived.Test.YtpkabclplaibaaaGreatDoorQhAmOps2
set_option linter.all false
namespace Go.Am
open Go.RowKit
variable [ds]
section
variable {P:Program} {w0:di} {w:World} {G:Gh} {st:St} {a:Act} {U:Type} {k:St->Option U} {r:U} {K:Act->World->Prop} {Q:Exit->Act->World->Prop} {o:Oper}
def cV {id:Nat}{b:dD}(h:st.kA id=some b):look st.bl id=some (some b):=by
 unfold St.kA at h;cases c:look st.bl id with
 |none=>rw[c]at h;cases h|some d=>rw[c]at h;rw[show d=some b from h]
def km {t:TypeId}{n:Nat}(h:P.cellsOf t=n)(c:0<n):∃i,P.info? t=some i/\i.size=n:=by
 unfold Program.cellsOf at h;cases b:P.info? t with
 |none=>rw[b]at h;simp at h;omega|some i=>exact⟨i,rfl,by rw[b]at h;simpa using h⟩
def ach {id:Nat}{b:dD}(e:wh G w id b):∃A cap,G.hv id=.slice A b.xs.length cap/\b.xs.length<=cap/\cap=cap/\(0<b.xs.length->∃g o,A=some ⟨g,o,none⟩)/\b.xs.length<=9223372036854775807:=by
 cases f:b.w with
 |true =>
  obtain⟨cs,h,_,_⟩:=e.wr f;rcases h.2 with ⟨c,i⟩|⟨g,cap,cur,c,_,_,d,n,_⟩
  .exact⟨none,0,by rw[c,i],by omega,rfl,by omega,by omega⟩
  .have:maxLen=9223372036854775807:=rfl;exact⟨_,cap,c,d,rfl,fun _=>⟨g,0,rfl⟩,by omega⟩
 |false =>
  obtain⟨A,cap,c,d,j,l⟩:=e.rd f;refine⟨A,cap,(we c).1,d,rfl,fun p=>?_,j⟩;obtain⟨g,o,m,_⟩:=l (.inl (by omega));exact⟨g,o,m⟩
def aiZ {t e:TypeId}(c:P.underlying t=some (.slice e)){g o n h b:Nat}(j:P.cellsOf e=b)(l:0<b){d:IntKind}{i:Int}(m:0<=i)(p:i<n) :
  (Instr.indexAt t (.slice (some ⟨g,o,none⟩) n h) (.int d i)).run P w=.ok (.pointer (some ⟨g,o+i.toNat*b,none⟩)) w:=by
 obtain⟨u,q,s⟩:=km j l;have f:P.elem t=e:=by simp[Program.elem,c]
 rw[run_indexAt_slice w t _ n h d i (by rw[f];exact c),aj ⟨m,p⟩,f];simp[sizeOf,typeInfo,q,s,Jm]
def EP (h:Inv w0 G st a w)(t:TypeId)(x i:Operand)(H:o.op=.indexAddr t x i){e:TypeId}(I:P.underlying t=some (.slice e)){id:Nat}{len:Option Int}(L:st.ac x=.own id len)
  {b:dD} (y:st.kA id=some b) {m:Int} (j:Wc st (.own id len)=some m) {z:IntKind} {n:Int} (M:st.ac i=.int z n) (N:P.cellsOf e=b.t.n) (B:0<=n) (qa:n<m)
  (O:st.pk o.dst (.v (.c (.qV id n 0))) k=some r):a8 P w0 w a o k r:=by
 have p:=cV y;have C:=h.bl id b p;obtain⟨A,cap,q,qb,_,D,_⟩:=ach C;have R:a.eval i=.int z n:=by have:=h.ac i;rw[M]at this;exact this
 have s:=h.ac x;rw[L]at s;have key:∃c g d,a.eval x=.slice (some ⟨g,d,none⟩) m.toNat c/\A=some ⟨g,d,none⟩/\m<=b.xs.length:=by
  cases len with
  |none =>
   simp only[Wc,y]at j;cases j;obtain⟨g,d,f⟩:=D (by omega);exact⟨cap,g,d,by rw[s.2.2,q,f];simp,f,by omega⟩
  |some l =>
   cases j;obtain⟨_,_,qd,qe,qf,E,S,T⟩:=s;rw[q]at E;injection E with W X Y
   subst W X Y;obtain⟨g,d,f⟩:=D (by omega);exact⟨cap,g,d,by rw[T,f],f,S⟩
 obtain⟨c,g,d,Z,f,qg⟩:=key;refine cJ (u:=.pointer (some ⟨g,d+n.toNat*b.t.n,none⟩)) h (v:=.v (.c (.qV id n 0))) ?_ O fun qh qi=>?_
 rotate_left
 .unfold execOp;rw[H];dsimp only;rw[Z,R];simp[aiZ I N C.pos B (show n<(m.toNat:Int) by omega)]
 .refine⟨by rw[p];rfl,rfl,B,g,d,b.xs.length,cap,by rw[q,f],by omega,fun qj F=>?_⟩;rw[p]at F;cases F;rfl
def GN (h:Inv w0 G st a w)(t:TypeId)(x i:Operand)(m:o.op=.indexAddr t x i){e p:TypeId}(q:P.underlying t=some (.slice e)){f:Bool}{u:Ty}{xs:List u.D}(s:st.ac x=.ro f p u xs)
  {d:IntKind} {n:Int} (y:st.ac i=.int d n) (z:P.cellsOf e=u.n) (S:u.n≠0) (B:0<=n) (C:n<(xs.length:Int))
  (D:st.pk o.dst (.v (.c (.IS f u (xs.getD n.toNat u.aI) 0))) k=some r):a8 P w0 w a o k r:=by
 have E:a.eval i=.int d n:=by have:=h.ac i;rw[y]at this;exact this
 have j:=h.ac x;rw[s]at j;obtain⟨A,cap,b,T,W,F⟩:=j;have b:=(we b).1;obtain⟨g,l,H,hlt,cR,_,I⟩:=F (.inl (by omega));obtain⟨c,L,M⟩:=I n.toNat _ (tW (by omega) u.aI);refine cJ (u:=.pointer (some ⟨g,l+n.toNat*u.n,none⟩)) h (v:=.v (.c (.IS f u (xs.getD n.toNat u.aI) 0))) ?_ D fun X Y=>?_
 rotate_left
 .unfold execOp;rw[m];dsimp only;rw[b,H,E];simp[aiZ q z (by omega) B C]
 .exact⟨g,l+n.toNat*u.n,c,rfl,hlt,cR,L,fun N O R=>by rw[I8];exact M N O R⟩
def ER (h:Inv w0 G st a w)(t:TypeId)(x i:Operand)(p:o.op=.indexAddr t x i){e:TypeId}{m:Nat}(d:P.underlying t=some (.array m e)){b c:Nat}(q:st.ac x=.ptr b c)
  {f:IntKind} {n:Int} (s:st.ac i=.int f n) (I:P.cellsOf e≠0) (y:0<=n) (z:n<(m:Int))
  (A:st.pk o.dst (.v (.c (.ptr b (c+n.toNat*P.cellsOf e)))) k=some r):a8 P w0 w a o k r:=by
 have B:a.eval i=.int f n:=by have:=h.ac i;rw[s]at this;exact this
 have g:=h.ac x;rw[q]at g;obtain⟨C,D⟩:=g;obtain⟨L,E,F⟩:=km rfl (show 0<P.cellsOf e by omega);refine cJ (u:=.pointer (some ⟨G.hb b,c+n.toNat*P.cellsOf e,none⟩)) h (v:=.v (.c (.ptr b (c+n.toNat*P.cellsOf e)))) ⟨C,rfl⟩ A fun H M=>?_
 unfold execOp;rw[p];dsimp only;rw[D,B];have j:P.elem t=e:=by simp[Program.elem,d]
 have l:P.arrayLen t=m:=by simp[Program.arrayLen,d]
 simp[run_indexAt_array H t ⟨G.hb b,c,none⟩ f n (by rw[j,l];exact d),l,y,z,j,sizeOf,typeInfo,E,F,Jm]
def aaP (h:Inv w0 G st a w){c:Option Operand}{d n:Int}(b:nE c st d=some n):(c=none/\n=d)\/∃x e,c=some x/\a.eval x=.int e n:=by
 cases c with
 |none=>cases b;exact .inl ⟨rfl,rfl⟩
 |some x =>
  simp only[nE]at b;have:=h.ac x;split at b
  .rename_i e m f;cases b;rw[f]at this;exact .inr ⟨x,e,rfl,this⟩
  .cases b
def Wr (h:Inv w0 G st a w)(w1:World)(c:Bool){len b:Nat}(A:len<=b){lo d:Option Operand}{l m:Int}(n:nE lo st 0=some l)(p:nE d st (len:Int)=some m)(e:0<=l)(f:l<=m)(B:m<=(len:Int)) :
  (Instr.sliceBounds c len b (lo.map a.eval) (d.map a.eval) none).run P w1=.ok (l.toNat,m.toNat,b) w1:=by
 rcases aaP h n with ⟨rfl,rfl⟩|⟨x,q,rfl,g⟩<;>rcases aaP h p with ⟨rfl,rfl⟩|⟨y,s,rfl,i⟩
 .simp[Instr.sliceBounds]
 .have:m<=(b:Int):=by omega
  simp[Instr.sliceBounds,i,run_sliceBound,f,this]
 .simp[Instr.sliceBounds,g,run_sliceBound,e,f]
 .have t:m<=(b:Int):=by omega
  have u:l<=((m.toNat:Nat):Int):=by omega
  have j:0<=m:=by omega
  have C:((m.toNat:Nat):Int)=m:=aea j;have v:=run_sliceBound (P:=P) w1 s m b (if c then .sliceAcap else .sliceAlen) j t;have z:=run_sliceBound (P:=P) w1 q l m.toNat .sliceB e u;simp[Instr.sliceBounds,g,i,v,z]
def Jn (h:Inv w0 G st a w)(t:TypeId)(x:Operand)(lo b:Option Operand)(c:o.op=.slice t x lo b none)(d:P.underlying t=some .string){s:ByteArray}(e:st.ac x=.str s)
  {l m:Int} (f:nE lo st 0=some l) (g:nE b st (s.size:Int)=some m) (i:0<=l) (j:l<=m) (n:m<=(s.size:Int))
  (p:st.pk o.dst (.v (.c (.str (s.extract l.toNat m.toNat)))) k=some r):a8 P w0 w a o k r:=by
 have q:a.eval x=.string s:=by have:=h.ac x;rw[e]at this;exact this
 refine cJ (u:=.string (s.extract l.toNat m.toNat)) h (v:=.v (.c (.str (s.extract l.toNat m.toNat)))) rfl p fun y A=>?_
 unfold execOp;rw[c];dsimp only;rw[q];have z:=Wr (P:=P) h y false (bq s.size) f g i j n;simp[Instr.sliceAt,run_underlying d,Instr.slice,z]
def ag1 {lo:Option Operand}{l:Int}(b:lo.isNone=true)(c:nE lo st 0=some l):l.toNat=0:=by
 cases lo with
 |none=>cases c;rfl|some _=>cases b
def alz {ok:Nat->Prop}{e:TypeId}{t:Ty}{xs:List t.D}{A:Option Addr}{f:Nat}(h:Rd w ok (.sl e t) xs [.slice A xs.length f]){l m:Nat}(N:l<=m)(O:m<=xs.length)(hb:l=0\/big t=false) :
  Rd w ok (.sl e t) ((xs.take m).drop l) [sliced A l m f t.n]:=by
 obtain⟨R,S,n,T,W,y⟩:=h;have n:=(we n).1;injection n with z X B
 subst z B;have hlen:((xs.take m).drop l).length=m-l:=by simp;omega
 refine⟨if f=l then A else A.map (·.add (l*t.n)),f-l,?_,by omega,by omega,fun d=>?_⟩
 .simp[sliced,hlen]
 .have q:Lv t xs.length A f/\(f=l->l=0):=by
   rcases d with d|⟨d,g⟩
   .rw[hlen]at d;exact⟨.inl (by omega),fun s=>by omega⟩
   .have C:l=0:=hb.resolve_right fun D=>by rw[D]at d;cases d
    refine⟨.inr ⟨d,g.imp (fun h=>by omega) fun g E=>g ?_⟩,fun _=>C⟩;rw[E];split<;>rfl
  obtain⟨b,o,g,hlt,cR,v,F⟩:=y q.1;refine⟨b,o+l*t.n,?_,hlt,cR,?_,fun p x j=>?_⟩
  .rw[g];split
   .rename_i s;rw[q.2 s];simp
   .simp[Jm]
  .rcases hb with hb|hb
   .subst hb;simpa using v
   .exact v.part hb
  .have H:xs[l+p]?=some x:=by
    rw[Tb,C1]at j;split at j
    .exact j
    .cases j
   obtain⟨c,I,L⟩:=F _ x H;refine⟨c,I,fun i u M=>?_⟩;have:=L i u M;rw[By]at this;rw[show o+l*t.n+(p*t.n+i)=o+(l*t.n+p*t.n+i) by omega];exact this
def aci (h:Inv w0 G st a w)(w1:World){t e:TypeId}(f:P.underlying t=some (.slice e)){b:Nat}(g:P.cellsOf e=b)(i:0<b){A:Option Addr}{len c:Nat}(j:len<=c){lo d:Option Operand}{l m:Int}
  (n:nE lo st 0=some l) (p:nE d st (len:Int)=some m) (q:0<=l) (s:l<=m) (u:m<=(len:Int)) :
  (Instr.sliceAt t (.slice A len c) (lo.map a.eval) (d.map a.eval) none).run P w1=.ok (sliced A l.toNat m.toNat c b) w1:=by
 have v:=Wr (P:=P) h w1 true j n p q s u;obtain⟨z,x,y⟩:=km g i;simp[Instr.sliceAt,run_underlying f,Instr.slice,v,sizeOf,typeInfo,x,y,sliced]
def N3 (h:Inv w0 G st a w)(t:TypeId)(x:Operand)(lo g:Option Operand)(n:o.op=.slice t x lo g none){e b:TypeId}(p:P.underlying t=some (.slice e)){f:Bool}{u:Ty}{xs:List u.D}(q:st.ac x=.ro f b u xs)
  (s:P.cellsOf e=u.n) (L:u.n≠0) (y:lo.isNone=true\/big u=false) {l m:Int} (i:nE lo st 0=some l) (z:nE g st (xs.length:Int)=some m) (B:0<=l) (C:l<=m) (D:m<=(xs.length:Int))
  (E:st.pk o.dst (.v (.c (.ro f b u ((xs.take m.toNat).drop l.toNat)))) k=some r):a8 P w0 w a o k r:=by
 have d:=h.ac x;rw[q]at d;obtain⟨A,cap,c,F,_⟩:=id d;have c:=(we c).1;have j:Rd w (RO G f) (.sl b u) xs [a.eval x]:=d;rw[c]at j;refine cJ (u:=sliced A l.toNat m.toNat cap u.n) h (v:=.v (.c (.ro f b u _))) (alz j (by omega) (by omega) (y.imp_left fun H=>ag1 H i)) E fun I M=>?_
 unfold execOp;rw[n];dsimp only;rw[c];simp only[Option.map_none,Sem.run_bind,aci h I p s (by omega) F i z B C D,Result.andThen_ok];rfl
def Jo (h:Inv w0 G st a w)(t:TypeId)(x:Operand)(d:Option Operand)(p:o.op=.slice t x none d none){e:TypeId}(q:P.underlying t=some (.slice e)){id:Nat}(s:st.ac x=.own id none)
  {b:dD} (y:st.kA id=some b) (z:P.cellsOf e=b.t.n) {m:Int} (B:nE d st (b.xs.length:Int)=some m) (f:0<=m) (g:m<=(b.xs.length:Int))
  (C:st.pk o.dst (.v (.c (.own id (some m)))) k=some r):a8 P w0 w a o k r:=by
 have D:=cV y;have i:=h.bl id b D;obtain⟨A,cap,j,E,_,L,_⟩:=ach i;have c:=h.ac x;rw[s]at c;have F:a.eval x=.slice A b.xs.length cap:=by rw[c.2.2,j]
 have H:sliced A 0 m.toNat cap b.t.n=.slice A m.toNat cap:=by unfold sliced;simp[Addr.add_zero']
 refine cJ (u:=.slice A m.toNat cap) h (v:=.v (.c (.own id (some m)))) ⟨c.1,f,A,b.xs.length,cap,j,g,rfl⟩ C fun I M=>?_
 unfold execOp;rw[p];dsimp only;rw[F];have n:=aci (P:=P) (lo:=none) h I q z i.pos E (A:=A) (l:=0) rfl B (by omega) f g;simp only[Option.map_none,Sem.run_bind]at n ⊢;rw[n,Int.toNat_zero,H];rfl
def ES (h:Inv w0 G st a w)(t:TypeId)(x:Operand)(lo c:Option Operand)(n:o.op=.slice t x lo c none){e:TypeId}(p:P.underlying t=some (.slice e)){id:Nat}(q:st.ac x=.own id none)
  {b:dD} (s:st.kA id=some b) (y:P.cellsOf e=b.t.n) (z:big b.t=false) {l m:Int} (B:nE lo st 0=some l) (C:nE c st (b.xs.length:Int)=some m) (D:0<=l) (E:l<=m) (F:m<=(b.xs.length:Int))
  (H:({st with bl:=(id,some {b with w:=false})::st.bl}:St).pk o.dst (.v (.c (.ro b.f b.e b.t ((b.xs.take m.toNat).drop l.toNat)))) k=some r):a8 P w0 w a o k r:=by
 have d:=cV s;have f:=h.bl id b d;obtain⟨A,cap,g,I,_,O,_⟩:=ach f;have i:=h.ac x;rw[q]at i;have L:a.eval x=.slice A b.xs.length cap:=by rw[i.2.2,g]
 obtain⟨j,R,S⟩:=h.drop id b d;have M:Rd w (RO (G.drop id) b.f) (.sl b.e b.t) b.xs [.slice A b.xs.length cap]:=by have:=(j.bl id {b with w:=false} (by simp[ai])).rd rfl;rw[show(G.drop id).hv id=_ from g]at this;exact this
 refine cJ (u:=sliced A l.toNat m.toNat cap b.t.n) j (v:=.v (.c (.ro b.f b.e b.t _))) (alz M (by omega) (by omega) (.inr z)) H fun N T=>?_
 unfold execOp;rw[n];dsimp only;rw[L];simp only[Option.map_none,Sem.run_bind,aci h N p y f.pos I B C D E F,Result.andThen_ok];rfl
def acj {V:Type}:∀(l:List V) (i:Nat),gU l i=l[i]?
 |[],_=>rfl|x::l,0=>rfl|x::l,i+1=>by simpa [gU]using acj l i
def BF:∀(vs:List Value) (b m:Nat) (cs:Array Value),((vs.zipIdx m).foldl (fun cs (c,d)=>cs.setIfInBounds (b+d) c) cs).toList=BC cs.toList (b+m) vs
 |[],_,_,_=>rfl|v::vs,b,m,cs=>by simp only[List.zipIdx_cons,List.foldl_cons,BC];rw[BF vs b (m+1) (cs.setIfInBounds (b+m) v)];simp[I8]
def Ws (h:Inv w0 G st a w)(g:List (Nat×Nat)):∀(parts:List (Nat×Operand)) (j:List AC) (cs:Array Value) (l:List AC),bD (a7 G w st.bx st.bl) j cs.toList->tS st g j parts=some l ->
  ∃d,Instr.fill (g.toArray[·]?) cs (parts.map fun (i,x)=>(i,a.eval x))=some d/\bD (a7 G w st.bx st.bl) l d.toList
 |[],j,cs,l,e,b=>by simp only[tS]at b;cases b;exact⟨cs,rfl,e⟩
 |(f,x)::parts,j,cs,l,e,b=>by
  simp only[tS]at b;split at b
  .rename_i off size m;split at b
   .rename_i n;rw[az,az]at n;obtain⟨⟨q,s⟩,t⟩:=n;have p:=(h.c6 x).cells q;have hlen:=p.len;have u:=aA s;have B:=tU t;have v:=e.len;have C:(a.eval x).cells.size=size:=by rw[u,hlen];simp
    obtain⟨d,y,hrel⟩:=Ws h g parts _ ((a.eval x).cells.toList.zipIdx.foldl (fun cs (c,z)=>cs.setIfInBounds (off+z) c) cs) l (by rw[BF];exact bD.Ae off e p) b
    refine⟨d,?_,hrel⟩;rw[acj]at m;have A:g.toArray[f]?=some (off,size):=by simpa using m
    simp only[kL,Instr.fill,A];rw[ag]
    .rw[<-y]
     congr 1
     rw[<-Array.foldl_toList,Array.toList_zipIdx]
    .simp at hlen v ⊢;omega
   .cases b
  .cases b
def N4 (h:Inv w0 G st a w)(t:TypeId)(parts:Array (Nat×Operand))(e:o.op=.build t parts){z:CV}(d:nq P t=some z){ps:List (Nat×Nat)}(b:Wd P t=some ps)(f:z.kn=true)
  {l:List AC} (g:tS st ps z.cells parts.toList=some l) (j:st.pk o.dst (.v (.agg l)) k=some r):a8 P w0 w a o k r:=by
 obtain⟨i,v,m,n,rfl⟩:=fp d;have d:=(lx (G:=G) (w:=w) (bx:=st.bx) (bl:=st.bl) v).cells f;obtain⟨c,p,hrel⟩:=Ws h ps parts.toList _ v.cells l d g;unfold Wd at b;split at b
 .rename_i A q;have s:P.built t (parts.map fun (i,x)=>(i,a.eval x)).toList=some c:=by unfold Program.built;rw[m,q];dsimp only;rw[n,b];dsimp only;rw[Td];exact p
  refine cJ (u:=.agg c) h (v:=.v (.agg l)) ⟨c,rfl,hrel⟩ j fun y B=>?_
  unfold execOp;rw[e];dsimp only;simp only[Sem.run_bind,run_build y t _ c s,Result.andThen_ok];rfl
 .cases b
end
end Go.Am
