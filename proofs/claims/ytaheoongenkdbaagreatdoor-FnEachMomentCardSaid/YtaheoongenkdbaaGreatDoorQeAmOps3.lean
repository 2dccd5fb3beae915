/- No condition. -/
import Derived.Test.YtaheoongenkdbaaGreatDoorQeAmOps2
set_option linter.all false
namespace Go.Am
open Go.RowKit
section
variable {P:Program} {w0:eH} {w:World} {G:Gh} {st:St} {a:Act} {U:Type} {k:St->Option U} {r:U} {K:Act->World->Prop} {Q:Exit->Act->World->Prop} {o:Oper}
def dA {id:Nat}{b:fo}(h:st.oG id=some b):look st.bl id=some (some b):=by
 unfold St.oG at h;cases c:look st.bl id with
 |none=>rw[c]at h;cases h|some d=>rw[c]at h;rw[show d=some b from h]
def n6 {t:TypeId}{n:Nat}(h:P.cellsOf t=n)(c:0<n):∃i,P.info? t=some i/\i.size=n:=by
 unfold Program.cellsOf at h;cases b:P.info? t with
 |none=>rw[b]at h;simp at h;omega|some i=>exact⟨i,rfl,by rw[b]at h;simpa using h⟩
def atj {id:Nat}{b:fo}(e:Et G w id b):∃A cap,G.hv id=.slice A b.xs.length cap/\b.xs.length<=cap/\cap=cap/\(0<b.xs.length->∃g o,A=some ⟨g,o,none⟩)/\b.xs.length<=9223372036854775807:=by
 cases f:b.w with
 |true =>
  obtain⟨cs,h,_,_⟩:=e.wr f;rcases h.2 with ⟨c,i⟩|⟨g,cap,cur,c,_,_,d,p,_⟩
  .exact⟨none,0,by rw[c,i],by omega,rfl,by omega,by omega⟩
  .have:maxLen=9223372036854775807:=rfl;exact⟨_,cap,c,d,rfl,fun _=>⟨g,0,rfl⟩,by omega⟩
 |false =>
  obtain⟨A,cap,c,d,j,l⟩:=e.rd f;refine⟨A,cap,(s6 c).1,d,rfl,fun m=>?_,j⟩;obtain⟨g,o,n,_⟩:=l m;exact⟨g,o,n⟩
def aAQ {t e:TypeId}(c:P.underlying t=some (.slice e)){g o n h b:Nat}(hs:P.cellsOf e=b)(j:0<b){d:IntKind}{i:Int}(l:0<=i)(m:i<n) :
  (Instr.indexAt t (.slice (some ⟨g,o,none⟩) n h) (.int d i)).run P w=.ok (.pointer (some ⟨g,o+i.toNat*b,none⟩)) w:=by
 obtain⟨s,p,q⟩:=n6 hs j;have f:P.elem t=e:=by simp[Program.elem,c]
 rw[run_indexAt_slice w t _ n h d i (by rw[f];exact c),ag ⟨l,m⟩,f];simp[sizeOf,typeInfo,p,q,Ue]
def NK (h:Inv w0 G st a w)(t:TypeId)(x i:Operand)(H:o.op=.indexAddr t x i){e:TypeId}(I:P.underlying t=some (.slice e)){id:Nat}{len:Option Int}(L:st.ac x=.own id len)
  {b:fo} (y:st.oG id=some b) {m:Int} (j:als st (.own id len)=some m) {z:IntKind} {n:Int} (M:st.ac i=.int z n) (hs:P.cellsOf e=b.t.n) (B:0<=n) (Z:n<m)
  (N:st.pk o.dst (.v (.c (.Be id n 0))) k=some r):bu P w0 w a o k r:=by
 have p:=dA y;have C:=h.bl id b p;obtain⟨A,cap,q,qa,_,D,_⟩:=atj C;have O:a.eval i=.int z n:=by have:=h.ac i;rw[M]at this;exact this
 have s:=h.ac x;rw[L]at s;have key:∃c g d,a.eval x=.slice (some ⟨g,d,none⟩) m.toNat c/\A=some ⟨g,d,none⟩/\m<=b.xs.length:=by
  cases len with
  |none =>
   simp only[als,y]at j;cases j;obtain⟨g,d,f⟩:=D (by omega);exact⟨cap,g,d,by rw[s.2.2,q,f];simp,f,by omega⟩
  |some l =>
   cases j;obtain⟨_,_,qb,qd,qe,E,R,S⟩:=s;rw[q]at E;injection E with T W X
   subst T W X;obtain⟨g,d,f⟩:=D (by omega);exact⟨cap,g,d,by rw[S,f],f,R⟩
 obtain⟨c,g,d,Y,f,qf⟩:=key;refine dh (u:=.pointer (some ⟨g,d+n.toNat*b.t.n,none⟩)) h (v:=.v (.c (.Be id n 0))) ?_ N fun qg qh=>?_
 rotate_left
 .unfold execOp;rw[H];dsimp only;rw[Y,O];simp[aAQ I hs C.pos B (show n<(m.toNat:Int) by omega)]
 .refine⟨by rw[p];rfl,rfl,B,g,d,b.xs.length,cap,by rw[q,f],by omega,fun qi F=>?_⟩;rw[p]at F;cases F;rfl
def QM (h:Inv w0 G st a w)(t:TypeId)(x i:Operand)(m:o.op=.indexAddr t x i){e p:TypeId}(q:P.underlying t=some (.slice e)){f:Bool}{u:Ty}{xs:List u.D}(s:st.ac x=.ro f p u xs)
  {d:IntKind} {n:Int} (y:st.ac i=.int d n) (hs:P.cellsOf e=u.n) (R:u.n≠0) (z:0<=n) (B:n<(xs.length:Int))
  (C:st.pk o.dst (.v (.c (.TI f u (xs.getD n.toNat u.aC) 0))) k=some r):bu P w0 w a o k r:=by
 have D:a.eval i=.int d n:=by have:=h.ac i;rw[y]at this;exact this
 have j:=h.ac x;rw[s]at j;obtain⟨A,cap,b,S,T,E⟩:=j;have b:=(s6 b).1;obtain⟨g,l,F,hlt,cW,H⟩:=E (by omega);obtain⟨c,I,L⟩:=H n.toNat _ (getD_some (by omega) u.aC);refine dh (u:=.pointer (some ⟨g,l+n.toNat*u.n,none⟩)) h (v:=.v (.c (.TI f u (xs.getD n.toNat u.aC) 0))) ?_ C fun W X=>?_
 rotate_left
 .unfold execOp;rw[m];dsimp only;rw[b,F,D];simp[aAQ q hs (by omega) z B]
 .exact⟨g,l+n.toNat*u.n,c,rfl,hlt,cW,I,fun M N O=>by rw[T1];exact L M N O⟩
def NL (h:Inv w0 G st a w)(t:TypeId)(x i:Operand)(p:o.op=.indexAddr t x i){e:TypeId}{m:Nat}(d:P.underlying t=some (.array m e)){b c:Nat}(q:st.ac x=.ptr b c)
  {f:IntKind} {n:Int} (s:st.ac i=.int f n) (hs:P.cellsOf e≠0) (y:0<=n) (z:n<(m:Int))
  (A:st.pk o.dst (.v (.c (.ptr b (c+n.toNat*P.cellsOf e)))) k=some r):bu P w0 w a o k r:=by
 have B:a.eval i=.int f n:=by have:=h.ac i;rw[s]at this;exact this
 have g:=h.ac x;rw[q]at g;obtain⟨C,D⟩:=g;obtain⟨I,E,F⟩:=n6 rfl (show 0<P.cellsOf e by omega);refine dh (u:=.pointer (some ⟨G.hb b,c+n.toNat*P.cellsOf e,none⟩)) h (v:=.v (.c (.ptr b (c+n.toNat*P.cellsOf e)))) ⟨C,rfl⟩ A fun H L=>?_
 unfold execOp;rw[p];dsimp only;rw[D,B];have j:P.elem t=e:=by simp[Program.elem,d]
 have l:P.arrayLen t=m:=by simp[Program.arrayLen,d]
 simp[run_indexAt_array H t ⟨G.hb b,c,none⟩ f n (by rw[j,l];exact d),l,y,z,j,sizeOf,typeInfo,E,F,Ue]
def arq (h:Inv w0 G st a w){c:Option Operand}{d n:Int}(b:wg c st d=some n):(c=none/\n=d)\/∃x e,c=some x/\a.eval x=.int e n:=by
 cases c with
 |none=>cases b;exact .inl ⟨rfl,rfl⟩
 |some x =>
  simp only[wg]at b;have:=h.ac x;split at b
  .rename_i e m f;cases b;rw[f]at this;exact .inr ⟨x,e,rfl,this⟩
  .cases b
def alF (h:Inv w0 G st a w)(w1:World)(c:Bool){len b:Nat}(A:len<=b){lo d:Option Operand}{l m:Int}(n:wg lo st 0=some l)(p:wg d st (len:Int)=some m)(e:0<=l)(f:l<=m)(B:m<=(len:Int)) :
  (Instr.sliceBounds c len b (lo.map a.eval) (d.map a.eval) none).run P w1=.ok (l.toNat,m.toNat,b) w1:=by
 rcases arq h n with ⟨rfl,rfl⟩|⟨x,q,rfl,g⟩<;>rcases arq h p with ⟨rfl,rfl⟩|⟨y,s,rfl,i⟩
 .simp[Instr.sliceBounds]
 .have:m<=(b:Int):=by omega
  simp[Instr.sliceBounds,i,run_sliceBound,f,this]
 .simp[Instr.sliceBounds,g,run_sliceBound,e,f]
 .have t:m<=(b:Int):=by omega
  have u:l<=((m.toNat:Nat):Int):=by omega
  have j:0<=m:=by omega
  have C:((m.toNat:Nat):Int)=m:=Oe j;have v:=run_sliceBound (P:=P) w1 s m b (if c then .sliceAcap else .sliceAlen) j t;have z:=run_sliceBound (P:=P) w1 q l m.toNat .sliceB e u;simp[Instr.sliceBounds,g,i,v,z]
def Uf (h:Inv w0 G st a w)(t:TypeId)(x:Operand)(lo b:Option Operand)(c:o.op=.slice t x lo b none)(d:P.underlying t=some .string){s:ByteArray}(e:st.ac x=.str s)
  {l m:Int} (f:wg lo st 0=some l) (g:wg b st (s.size:Int)=some m) (i:0<=l) (j:l<=m) (n:m<=(s.size:Int))
  (p:st.pk o.dst (.v (.c (.str (s.extract l.toNat m.toNat)))) k=some r):bu P w0 w a o k r:=by
 have q:a.eval x=.string s:=by have:=h.ac x;rw[e]at this;exact this
 refine dh (u:=.string (s.extract l.toNat m.toNat)) h (v:=.v (.c (.str (s.extract l.toNat m.toNat)))) rfl p fun y A=>?_
 unfold execOp;rw[c];dsimp only;rw[q];have z:=alF (P:=P) h y false (bf s.size) f g i j n;simp[Instr.sliceAt,run_underlying d,Instr.slice,z]
def aDT {ok:Nat->Prop}{e:TypeId}{t:Ty}{xs:List t.D}{A:Option Addr}{f:Nat}(h:Rd w ok (.sl e t) xs [.slice A xs.length f]){l m:Nat}(D:l<=m)(E:m<=xs.length) :
  Rd w ok (.sl e t) ((xs.take m).drop l) [sliced A l m f t.n]:=by
 obtain⟨F,H,g,I,L,n⟩:=h;have g:=(s6 g).1;injection g with p M q
 subst p q;have hlen:((xs.take m).drop l).length=m-l:=by simp;omega
 refine⟨if f=l then A else A.map (·.add (l*t.n)),f-l,?_,by omega,by omega,fun N=>?_⟩
 .simp[sliced,hlen]
 .obtain⟨b,o,s,hlt,cW,v⟩:=n (by omega);refine⟨b,o+l*t.n,?_,hlt,cW,fun j x d=>?_⟩
  .rw[af (by omega),s];simp[Ue]
  .have y:xs[l+j]?=some x:=by
    rw[ahf,Of]at d;split at d
    .exact d
    .cases d
   obtain⟨c,z,B⟩:=v _ x y;refine⟨c,z,fun i u C=>?_⟩;have:=B i u C;rw[Li]at this;rw[show o+l*t.n+(j*t.n+i)=o+(l*t.n+j*t.n+i) by omega];exact this
def atk (h:Inv w0 G st a w)(w1:World){t e:TypeId}(f:P.underlying t=some (.slice e)){b:Nat}(hs:P.cellsOf e=b)(g:0<b){A:Option Addr}{len c:Nat}(i:len<=c){lo d:Option Operand}{l m:Int}
  (j:wg lo st 0=some l) (n:wg d st (len:Int)=some m) (p:0<=l) (q:l<=m) (s:m<=(len:Int)) :
  (Instr.sliceAt t (.slice A len c) (lo.map a.eval) (d.map a.eval) none).run P w1=.ok (sliced A l.toNat m.toNat c b) w1:=by
 have u:=alF (P:=P) h w1 true i j n p q s;obtain⟨y,v,x⟩:=n6 hs g;simp[Instr.sliceAt,run_underlying f,Instr.slice,u,sizeOf,typeInfo,v,x,sliced]
def aaa (h:Inv w0 G st a w)(t:TypeId)(x:Operand)(lo g:Option Operand)(j:o.op=.slice t x lo g none){e b:TypeId}(n:P.underlying t=some (.slice e)){f:Bool}{u:Ty}{xs:List u.D}(p:st.ac x=.ro f b u xs)
  (hs:P.cellsOf e=u.n) (F:u.n≠0) {l m:Int} (q:wg lo st 0=some l) (s:wg g st (xs.length:Int)=some m) (y:0<=l) (z:l<=m) (B:m<=(xs.length:Int))
  (C:st.pk o.dst (.v (.c (.ro f b u ((xs.take m.toNat).drop l.toNat)))) k=some r):bu P w0 w a o k r:=by
 have d:=h.ac x;rw[p]at d;obtain⟨A,cap,c,D,_⟩:=id d;have c:=(s6 c).1;have i:Rd w (RO G f) (.sl b u) xs [a.eval x]:=d;rw[c]at i;refine dh (u:=sliced A l.toNat m.toNat cap u.n) h (v:=.v (.c (.ro f b u _))) (aDT i (by omega) (by omega)) C fun E H=>?_
 unfold execOp;rw[j];dsimp only;rw[c];simp only[Option.map_none,Sem.run_bind,atk h E n hs (by omega) D q s y z B,Result.andThen_ok];rfl
def Ug (h:Inv w0 G st a w)(t:TypeId)(x:Operand)(d:Option Operand)(p:o.op=.slice t x none d none){e:TypeId}(q:P.underlying t=some (.slice e)){id:Nat}(s:st.ac x=.own id none)
  {b:fo} (y:st.oG id=some b) (hs:P.cellsOf e=b.t.n) {m:Int} (z:wg d st (b.xs.length:Int)=some m) (f:0<=m) (g:m<=(b.xs.length:Int))
  (B:st.pk o.dst (.v (.c (.own id (some m)))) k=some r):bu P w0 w a o k r:=by
 have C:=dA y;have i:=h.bl id b C;obtain⟨A,cap,j,D,_,I,_⟩:=atj i;have c:=h.ac x;rw[s]at c;have E:a.eval x=.slice A b.xs.length cap:=by rw[c.2.2,j]
 have F:sliced A 0 m.toNat cap b.t.n=.slice A m.toNat cap:=by unfold sliced;simp[Addr.add_zero']
 refine dh (u:=.slice A m.toNat cap) h (v:=.v (.c (.own id (some m)))) ⟨c.1,f,A,b.xs.length,cap,j,g,rfl⟩ B fun H L=>?_
 unfold execOp;rw[p];dsimp only;rw[E];have n:=atk (P:=P) (lo:=none) h H q hs i.pos D (A:=A) (l:=0) rfl z (by omega) f g;simp only[Option.map_none,Sem.run_bind]at n ⊢;rw[n,Int.toNat_zero,F];rfl
def NM (h:Inv w0 G st a w)(t:TypeId)(x:Operand)(lo c:Option Operand)(n:o.op=.slice t x lo c none){e:TypeId}(p:P.underlying t=some (.slice e)){id:Nat}(q:st.ac x=.own id none)
  {b:fo} (s:st.oG id=some b) (hs:P.cellsOf e=b.t.n) {l m:Int} (y:wg lo st 0=some l) (z:wg c st (b.xs.length:Int)=some m) (B:0<=l) (C:l<=m) (D:m<=(b.xs.length:Int))
  (E:({st with bl:=(id,some {b with w:=false})::st.bl}:St).pk o.dst (.v (.c (.ro b.f b.e b.t ((b.xs.take m.toNat).drop l.toNat)))) k=some r):bu P w0 w a o k r:=by
 have d:=dA s;have f:=h.bl id b d;obtain⟨A,cap,g,F,_,M,_⟩:=atj f;have i:=h.ac x;rw[q]at i;have H:a.eval x=.slice A b.xs.length cap:=by rw[i.2.2,g]
 obtain⟨j,N,O⟩:=h.drop id b d;have I:Rd w (RO (G.drop id) b.f) (.sl b.e b.t) b.xs [.slice A b.xs.length cap]:=by have:=(j.bl id {b with w:=false} (by simp[aq])).rd rfl;rw[show(G.drop id).hv id=_ from g]at this;exact this
 refine dh (u:=sliced A l.toNat m.toNat cap b.t.n) j (v:=.v (.c (.ro b.f b.e b.t _))) (aDT I (by omega) (by omega)) E fun L R=>?_
 unfold execOp;rw[n];dsimp only;rw[H];simp only[Option.map_none,Sem.run_bind,atk h L p hs f.pos F y z B C D,Result.andThen_ok];rfl
def atl {V:Type}:∀(l:List V) (i:Nat),mA l i=l[i]?
 |[],_=>rfl|x::l,0=>rfl|x::l,i+1=>by simpa [mA]using atl l i
def Je:∀(vs:List Value) (b m:Nat) (cs:Array Value),((vs.zipIdx m).foldl (fun cs (c,d)=>cs.setIfInBounds (b+d) c) cs).toList=Jb cs.toList (b+m) vs
 |[],_,_,_=>rfl|v::vs,b,m,cs=>by simp only[List.zipIdx_cons,as1,Jb];rw[Je vs b (m+1) (cs.setIfInBounds (b+m) v)];simp[T1]
def alG (h:Inv w0 G st a w)(g:List (Nat×Nat)):∀(parts:List (Nat×Operand)) (j:List AC) (cs:Array Value) (l:List AC),cg (bz G w st.bx st.bl) j cs.toList->BE st g j parts=some l ->
  ∃d,Instr.fill (g.toArray[·]?) cs (parts.map fun (i,x)=>(i,a.eval x))=some d/\cg (bz G w st.bx st.bl) l d.toList
 |[],j,cs,l,e,b=>by simp only[BE]at b;cases b;exact⟨cs,rfl,e⟩
 |(f,x)::parts,j,cs,l,e,b=>by
  simp only[BE]at b;split at b
  .rename_i off size m;split at b
   .rename_i n;rw[aA,aA]at n;obtain⟨⟨q,s⟩,t⟩:=n;have p:=(h.dR x).cells q;have hlen:=p.len;have u:=aJ s;have B:=Fs t;have v:=e.len;have C:(a.eval x).cells.size=size:=by rw[u,hlen];simp
    obtain⟨d,y,hrel⟩:=alG h g parts _ ((a.eval x).cells.toList.zipIdx.foldl (fun cs (c,z)=>cs.setIfInBounds (off+z) c) cs) l (by rw[Je];exact cg.Hf off e p) b
    refine⟨d,?_,hrel⟩;rw[atl]at m;have A:g.toArray[f]?=some (off,size):=by simpa using m
    simp only[sG,Instr.fill,A];rw[af]
    .rw[<-y]
     congr 1
     rw[<-Array.foldl_toList,Array.toList_zipIdx]
    .simp at hlen v ⊢;omega
   .cases b
  .cases b
def aab (h:Inv w0 G st a w)(t:TypeId)(parts:Array (Nat×Operand))(e:o.op=.build t parts){z:CV}(d:sS P t=some z){ps:List (Nat×Nat)}(b:alu P t=some ps)(f:z.kn=true)
  {l:List AC} (g:BE st ps z.cells parts.toList=some l) (j:st.pk o.dst (.v (.agg l)) k=some r):bu P w0 w a o k r:=by
 obtain⟨i,v,m,n,rfl⟩:=iz d;have d:=(pB (G:=G) (w:=w) (bx:=st.bx) (bl:=st.bl) v).cells f;obtain⟨c,p,hrel⟩:=alG h ps parts.toList _ v.cells l d g;unfold alu at b;split at b
 .rename_i A q;have s:P.built t (parts.map fun (i,x)=>(i,a.eval x)).toList=some c:=by unfold Program.built;rw[m,q];dsimp only;rw[n,b];dsimp only;rw[abE];exact p
  refine dh (u:=.agg c) h (v:=.v (.agg l)) ⟨c,rfl,hrel⟩ j fun y B=>?_
  unfold execOp;rw[e];dsimp only;simp only[Sem.run_bind,run_build y t _ c s,Result.andThen_ok];rfl
 .cases b
end
end Go.Am
