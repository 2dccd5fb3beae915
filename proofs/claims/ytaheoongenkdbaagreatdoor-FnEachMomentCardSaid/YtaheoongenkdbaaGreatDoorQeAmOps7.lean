/- No condition. -/
import Derived.Test.YtaheoongenkdbaaGreatDoorQeAmOps6
import Derived.Lib.ConvBytes
set_option linter.all false
namespace Go.Am
open Go.RowKit
section
variable {P:Program} {w0:eH} {w:World} {G:Gh} {st:St} {a:Act} {U:Type} {k:St->Option U} {r:U} {K:Act->World->Prop} {Q:Exit->Act->World->Prop} {o:Oper}
def atq:∀{t:Ty} {l:List AC} {x:t.D} {c:List AC},im st t (.none::l)=some (x,c)->t.n=0/\c=.none::l
 |.int _,l,x,c,h=>by simp[im]at h
 |.bool,l,x,c,h=>by simp[im]at h
 |.str,l,x,c,h=>by simp[im]at h
 |.unit,l,x,c,h=>by simp only[im]at h;cases h;exact⟨rfl,rfl⟩
 |.pair a b,l,x,c,h=>by
  simp only[im]at h;split at h
  .rename_i y i d;obtain⟨e,rfl⟩:=atq d;split at h
   .rename_i z j f;obtain⟨g,rfl⟩:=atq f;cases h;exact⟨by simp[Ty.n,e,g],rfl⟩
   .cases h
  .cases h
 |.sl _ _,l,x,c,h=>by simp[im,cx]at h
def aI5 {t:Ty}(d:0<t.n){c:CV}{x:t.D}{b:List AC}(h:im st t c.cells=some (x,b)):c.kn=true:=by
 cases c with
 |agg l=>rfl
 |c y =>
  cases y with
  |none =>
   have:=(atq (l:=[]) h).1;omega
  |_=>rfl
def aeW (a:Act):List (Nat×Operand)->List Value
 |[]=>[]|(_,x)::l=>(a.eval x).cells.toList++aeW a l
def Uh (h:Inv w0 G st a w){t:Ty}(D:0<t.n){ok:Nat->Prop}:∀(parts:List (Nat×Operand)) (i:Nat) (f:Array Value) (xs:List t.D),
  (∀u c v j,c∈cn st parts->bz G w st.bx st.bl c v->cx st u c=some j->∀e,Rd w ok (.sl e u) j [v]) ->
  f.size=(i+parts.length)*t.n->hZ st t i parts=some xs ->
  ∃b:List Value,Instr.fill (fun i=>some (i*t.n,t.n)) f (parts.map fun (i,x)=>(i,a.eval x))=some (f.toList.take (i*t.n)++b).toArray/\b.length=xs.length*t.n/\xs.length=parts.length/\eT w ok t b xs/\b=aeW a parts
 |[],i,f,xs,q,m,d=>by simp only[hZ]at d;cases d;refine⟨[],?_,by simp,rfl,fun g x n=>by simp at n,rfl⟩;simp only[List.map_nil,Instr.fill,fU];have:f.toList.take (i*t.n)=f.toList:=abD (by simp[m]);rw[this]
 |(g,x)::parts,i,f,xs,q,m,d=>by
  simp only[hZ]at d;split at d
  .rename_i s;have s:=aJ s;subst s;split at d
   .rename_i y E;split at d
    .rename_i j L;cases d;have M:=aI5 D E;have N:=(h.dR x).cells M;obtain⟨qe,F,H,z,O,_⟩:=Ok (ok:=ok) (fun u c v A B=>q u c v A (by simp[cn,B])) N E;have R:F=[]:=by
      cases F with
      |nil=>rfl|cons _ _=>exact O.elim
     subst R;rw[fU]at H;have hlen:=z.len;rw[<-H]at hlen z;have C:(a.eval x).cells.size=t.n:=by simpa using hlen
     have S:(i+1)*t.n<=f.size:=by rw[m];exact Gg _ (by simp)
     rw[Li,QF]at S;obtain⟨b,T,W,X,Y,Z⟩:=Uh h D parts (i+1) ((a.eval x).cells.zipIdx.foldl (fun b (c,g)=>b.setIfInBounds (i*t.n+g) c) f) j (fun u c v A B=>q u c v A (by simp[cn,B])) (by
      have:∀(l:List (Value×Nat)) (b:Array Value),(l.foldl (fun b (c,g)=>b.setIfInBounds (i*t.n+g) c) b).size=b.size:=by
       intro l
       induction l with
       |nil=>intro b;rfl|cons p l qa=>intro b;rw[as1,qa,Array.size_setIfInBounds]
      rw[<-Array.foldl_toList,this,m];simp[T1,Nat.add_comm 1]) L
     refine⟨(a.eval x).cells.toList++b,?_,?_,by simp[X],W3 (xs:=[y]) (by simpa using hlen) ?_ Y,by rw[Z];rfl⟩
     .simp only[sG,Instr.fill];rw[af (by simp[C];omega),T]
      congr 2
      rw[<-Array.foldl_toList,Array.toList_zipIdx,Je,NG,ahn _ _ _ (by simp[C];omega)];have qb:(i+1)*t.n=(f.toList.take (i*t.n)++(a.eval x).cells.toList).length:=by rw[Li,QF];simp[C];omega
      simp only[NG];rw[qb,Z3];simp
     .rw[aG,W,hlen];simp[Li,Nat.add_comm]
     .intro I qf n;cases I with
      |zero =>
       cases n;exact⟨_,z,fun ii u qd=>by simpa using qd⟩
      |succ I=>simp at n
    .cases d
   .cases d
  .cases d
def art (w:World)(b:Obj):w.grownBy (w.alloc b) none:=⟨rfl,rfl,rfl,by simp,fun k c _=>Below.heap_alloc _ _ _ c⟩
def Jh {t e:TypeId}{i:TypeInfo}{d:Value}(g:P.underlying t=some (.slice e))(h:P.info? e=some i)(l:i.zero=some d){len:Nat}{parts:Array (Nat×Value)}{cells:Array Value}(n:len*i.size<=16777216)
  (b:Instr.fill (fun q=>some (q*i.size,i.size)) ((Array.range (len*i.size)).map (fun q=>(if len*i.size=0 then #[] else d.cells)[q%(if len*i.size=0 then #[] else d.cells).size]!)) parts.toList=some cells) :
  (Instr.buildSlice t len parts).run P w=.ok (.slice (some ⟨w.heap.size,0,none⟩) len len) (w.alloc (.cells cells e)):=by
 have m:¬2 ^ 24<len*i.size:=by omega
 by_cases c:len*i.size=0
 .have j:∀f:Nat->Value,(Array.range 0).map f=#[]:=fun f=>by simp[Array.range_zero']
  simp only[c,fX,j]at b;simp[Instr.buildSlice,run_underlying g,sizeOf,typeInfo,h,c,j,b,newRow]
 .simp only[c,fW]at b;simp[Instr.buildSlice,run_underlying g,sizeOf,typeInfo,h,c,m,zeroValue,l,b,newRow]
def aiS (h:Inv w0 G st a w)(t:TypeId)(len:Nat)(parts:Array (Nat×Operand))(C:o.op=.buildSlice t len parts){e:TypeId}(b:Es P t=some e){u:Ty}
  {xs:List u.D} (D:hZ st u 0 parts.toList=some xs)
  (j:(Nat.beq parts.toList.length len&&oy st (cn st parts.toList)&&(Nat.beq (P.cellsOf e) u.n&& !Nat.beq u.n 0&&Nat.ble (len*u.n) 16777216&&(sS P e).isSome))=true) :
  ∃cs:List Value,(execOp a.eval o).run P w=.ok (.value (.slice (some ⟨w.heap.size,0,none⟩) len len)) (w.alloc (.cells cs.toArray e)):=by
 simp only[aA]at j;obtain⟨⟨E,F⟩,⟨⟨⟨H,I⟩,L⟩,M⟩⟩:=j;have c:P.underlying t=some (.slice e):=by
  unfold Es at b;split at b
  .rename_i X c;cases b;exact c
  .cases b
 have hlen:=aJ E;have m:0<u.n:=TZ (bD I);obtain⟨i,n,s⟩:=n6 (aJ H) m;have Y:=Fs L;obtain⟨z,N⟩:=iR.1 M;obtain⟨Z,v,y,O,_⟩:=iz N;rw[n]at y;cases y;obtain⟨qa,A,qb,qd,d⟩:=Inv.freeze (cn st parts.toList) h;have R:∀l,cn (st.freeze (cn st parts.toList)) l=cn st l:=by
  intro l
  induction l with
  |nil=>rfl
  |cons p l f =>
   obtain⟨S,x⟩:=p;have g:(st.freeze (cn st parts.toList)).dR x=st.dR x:=by unfold St.dR St.ev St.get;rw[d.tm]
   simp only[cn,f,g]
 have T:∀i l,hZ (st.freeze (cn st parts.toList)) u i l=hZ st u i l:=by
  intro i l
  induction l generalizing i with
  |nil=>rfl
  |cons p l f =>
   obtain⟨S,x⟩:=p;have g:(st.freeze (cn st parts.toList)).dR x=st.dR x:=by unfold St.dR St.ev St.get;rw[d.tm]
   simp only[hZ,g,tM d,f]
 have W:((Array.range (len*u.n)).map (fun q=>(if len*u.n=0 then #[] else v.cells)[q%(if len*u.n=0 then #[] else v.cells).size]!)).size=(0+parts.toList.length)*u.n:=by simp[<-hlen]
 obtain⟨cs,B,qe,qf,qg,_⟩:=Uh A m parts.toList 0 _ xs (by rw[R];exact Om (bx:=st.bx) A F fun h=>h) W (by rw[T];exact D)
 simp only[alo,List.take_zero,Bi]at B;refine⟨cs,?_⟩;unfold execOp;rw[C];dsimp only;have:=Jh (P:=P) (w:=w) c n O (len:=len) (parts:=parts.map fun (i,x)=>(i,a.eval x)) (cells:=cs.toArray) (by rw[s];omega) (by rw[s,abE];exact B);simp only[Sem.run_bind,this,Result.andThen_ok];rfl
def aeX (h:Inv w0 G st a w)(t:TypeId)(len:Nat)(parts:Array (Nat×Operand))(M:o.op=.buildSlice t len parts){d:Tmp}(N:o.dst=some d){e:TypeId}(b:Es P t=some e){u:Ty}
  {xs:List u.D} (O:hZ st u 0 parts.toList=some xs)
  (B:(Nat.beq parts.toList.length len&&oy st (cn st parts.toList)&&(Nat.beq (P.cellsOf e) u.n&& !Nat.beq u.n 0&&Nat.ble (len*u.n) 16777216&&(sS P e).isSome))=true)
  (R:(st.freeze (cn st parts.toList)).row d ⟨e,u,xs,cj (cn st parts.toList),true⟩ k=some r) (S:ra w0 k r K):o.wp P a w K Q:=by
 simp only[aA]at B;obtain⟨⟨T,W⟩,⟨⟨⟨X,Y⟩,Z⟩,qa⟩⟩:=B;have f:P.underlying t=some (.slice e):=by
  unfold Es at b;split at b
  .rename_i qk f;cases b;exact f
  .cases b
 have hlen:=aJ T;have c:0<u.n:=TZ (bD Y);obtain⟨i,C,D⟩:=n6 (aJ X) c;have ql:=Fs Z;obtain⟨z,qb⟩:=iR.1 qa;obtain⟨qm,E,F,qd,_⟩:=iz qb;rw[C]at F;cases F;obtain⟨qn,j,qo,qp,m⟩:=Inv.freeze (cn st parts.toList) h;have qe:∀l,cn (st.freeze (cn st parts.toList)) l=cn st l:=by
  intro l
  induction l with
  |nil=>rfl
  |cons p l n =>
   obtain⟨qf,x⟩:=p;have s:(st.freeze (cn st parts.toList)).dR x=st.dR x:=by unfold St.dR St.ev St.get;rw[m.tm]
   simp only[cn,n,s]
 have H:∀i l,hZ (st.freeze (cn st parts.toList)) u i l=hZ st u i l:=by
  intro i l
  induction l generalizing i with
  |nil=>rfl
  |cons p l n =>
   obtain⟨qf,x⟩:=p;have s:(st.freeze (cn st parts.toList)).dR x=st.dR x:=by unfold St.dR St.ev St.get;rw[m.tm]
   simp only[hZ,s,tM m,n]
 have qg:((Array.range (len*u.n)).map (fun q=>(if len*u.n=0 then #[] else E.cells)[q%(if len*u.n=0 then #[] else E.cells).size]!)).size=(0+parts.toList.length)*u.n:=by simp[<-hlen]
 obtain⟨cs,I,y,qh,qi,_⟩:=Uh j c parts.toList 0 _ xs (by rw[qe];exact Om (bx:=st.bx) j W fun h=>h) qg (by rw[H];exact O)
 simp only[alo,List.take_zero,Bi]at I;refine Jd (v:=.slice (some ⟨w.heap.size,0,none⟩) len len) (w':=w.alloc (.cells cs.toArray e)) ?_ ?_
 .unfold execOp;rw[M];dsimp only;have:=Jh (P:=P) (w:=w) f C qd (len:=len) (parts:=parts.map fun (i,x)=>(i,a.eval x)) (cells:=cs.toArray) (by rw[D];omega) (by rw[D,abE];exact I);simp only[Sem.run_bind,this,Result.andThen_ok];rfl
 .rw[N];have qj:0<=w.heap.size:=aO _;refine On j none (art w _) (fun g A=>by cases A) d ⟨e,u,xs,cj (cn st parts.toList),true⟩ rfl c _ cs ?_ (fun g A=>by simp[Value.ownBlock]at A;omega) qi R S;have L:xs.length=len:=by rw[qh,hlen]
  have qq:maxLen=9223372036854775807:=rfl;have H:len<=len*u.n:=asT _ c;refine⟨y,.inr ⟨w.heap.size,len,cs.toArray,by rw[L],qj,heap_alloc_new w _,by show xs.length<=len;omega,by omega,by simp[y,L],?_⟩⟩;rw[<-y];simp
def abW (v:Value):(∀id len,T4 v≠.own id len)/\(∀f e t xs,T4 v≠.ro f e t xs):=by unfold T4;split<;>simp
def Yi (v:Value):∀c∈(Lk v).cells,(∀id len,c≠.own id len)/\(∀f e t xs,c≠.ro f e t xs):=by
 intro c b;unfold Lk at b;split at b
 .simp only[CV.cells,Ep]at b;obtain⟨u,_,rfl⟩:=b;exact abW u
 .simp only[CV.cells,fA]at b;rw[b];exact abW _
def aiT (h:Inv w0 G st a w)(t:TypeId)(p q:Operand)(qa:o.op=.makeSlice t p q){d:Tmp}(qb:o.dst=some d){e:TypeId}(s:Es P t=some e){n m:Int}(qd:st.ac p=.int .i64 n)(qe:st.ac q=.int .i64 m)
  {u:Ty} {z:CV} (qf:sS P e=some z) {x:u.D} (qg:im st u z.cells=some (x,[]))
  (I:(z.kn&&(Nat.beq (P.cellsOf e) u.n&& !Nat.beq u.n 0&& !Nat.beq (P.bytesOf e) 0)&&decide (0<=n)&&n==m&&decide (n*(P.bytesOf e:Int)<=140737488355328))=true)
  (qh:st.row d ⟨e,u,List.replicate n.toNat x,true,true⟩ k=some r) (qi:ra w0 k r K):o.wp P a w K Q:=by
 simp only[aA,bR,bg]at I;obtain⟨⟨⟨⟨qj,⟨B,qk⟩,L⟩,M⟩,rfl⟩,ql⟩:=I;have C:P.underlying t=some (.slice e):=by
  unfold Es at s;split at s
  .rename_i qE C;cases s;exact C
  .cases s
 have qm:0<u.n:=TZ (bD qk);obtain⟨i,j,N,qn,rfl⟩:=iz qf;obtain⟨qo,l⟩:=abV N;have qp:i.size=u.n:=by rw[<-l];exact aJ B
 have qq:a.eval p=.int .i64 n:=by have:=h.ac p;rw[qd]at this;exact this
 have qt:a.eval q=.int .i64 n:=by have:=h.ac q;rw[qe]at this;exact this
 have qu:=(pB (G:=G) (w:=w) (bx:=st.bx) (bl:=st.bl) j).cells qj;obtain⟨qF,O,R,D,qv,_⟩:=Ok (ok:=RO G true) (fun qG c v qH S qw qx=>by
  refine jO h qw qx (fun id len b E=>?_) (fun f e u qy E=>?_)
  .exact absurd E ((Yi j c S).1 id len)
  .exact absurd E ((Yi j c S).2 f e u qy)) qu qg
 have qz:O=[]:=by
  cases O with
  |nil=>rfl|cons _ _=>exact qv.elim
 subst qz;rw[fU]at R;rw[<-R]at D;have T:j.cells.size=u.n:=by simpa using D.len
 rw[qo]at ql L;have qI:0<i.bytes:=TZ (bD L);have hlen:n<=140737488355328:=by have:n*1<=n*(i.bytes:Int):=Int.mul_le_mul_of_nonneg_left (by omega) M;omega
 have W:=run_make (P:=P) w t e i j C N qn .i64 .i64 n n M (Lj _) (by rw[Int.mul_comm];omega) (by omega);rw[qp]at W;refine Jd (v:=.slice (some ⟨w.heap.size,0,none⟩) n.toNat n.toNat) (w':=w.alloc (.cells (madeCells j.cells (n.toNat*u.n)) e)) ?_ ?_
 .unfold execOp;rw[qa];dsimp only;rw[qq,qt];simp only[Sem.run_bind,W,Result.andThen_ok];rfl
 .rw[qb];have qA:0<=w.heap.size:=aO _;have qK:maxLen=9223372036854775807:=rfl;have l:(madeCells j.cells (n.toNat*u.n)).size=n.toNat*u.n:=size_madeCells _ _;refine On h none (art w _) (fun g F=>by cases F) d ⟨e,u,List.replicate n.toNat x,true,true⟩ rfl qm _ (madeCells j.cells (n.toNat*u.n)).toList ?_ (fun g F=>by simp[Value.ownBlock]at F;omega) ?_ qh qi
  .refine⟨by simp[l],.inr ⟨w.heap.size,n.toNat,madeCells j.cells (n.toNat*u.n),by simp,qA,heap_alloc_new w _,by simp,by omega,l,?_⟩⟩;rw[abD (by simp[l])]
  .intro A y H;have qB:A<n.toNat:=by have:=(wb.1 H).1;simpa using this
   have qC:y=x:=by simp[List.getElem?_replicate,qB]at H;exact H.symm
   rw[qC];refine⟨j.cells.toList,D,fun ii v X=>?_⟩;have Y:ii<u.n:=by have:=(wb.1 X).1;simpa [T]using this
   have hlt:A*u.n+ii<n.toNat*u.n:=by have:(A+1)*u.n<=n.toNat*u.n:=Gg _ (by omega);rw[Li,QF]at this;omega
   have qD:(A*u.n+ii)%u.n=ii:=by rw[Nat.mul_comm,Nat.mul_add_mod];exact asZ Y
   have Z:j.cells[ii]?=some v:=by simpa using X
   simp[madeCells,hlt,T,qD,Y];rw[asS (by omega)]at Z;have B:=eE Z;rw[<-B]
def ap1 (w:World)(e:TypeId)(s:ByteArray):w.grownBy (Lib.bytesWorld w e s) none:=by exact⟨rfl,rfl,rfl,by rw[Lib.bytesWorld_size];omega,fun k b _=>Lib.bytesWorld_at_old w e s k b⟩
def ap2 (h:Inv w0 G st a w)(l m:TypeId)(x:Operand)(f:o.op=.convert l m x){e:TypeId}(hs:P.underlying l=some .string)(z:P.underlying m=some (.slice e))(A:P.underlying e=some (.int .u8))
  {s:ByteArray} (B:st.ac x=.str s) (L:s.size<=140737488355328) (C:st.pk o.dst (.v (.c (.ro true e (.int .u8) (bytesOf s)))) k=some r) (D:ra w0 k r K):o.wp P a w K Q:=by
 have E:a.eval x=.string s:=by have:=h.ac x;rw[B]at this;exact this
 have j:=ap1 w e s;obtain⟨F,M,N⟩:=h.grow none j (fun g j=>by cases j) [] G.hv (fun _=>none) (fun id hs=>by simp[look]at hs) (fun g id H=>by cases H) (fun id b d=>by simp[look]at d);have I:=grownCap_ge w s.size 0 e;refine Jd (v:=.slice (some ⟨w.heap.size,0,none⟩) s.size (grownCap w s.size 0 e)) (w':=Lib.bytesWorld w e s) ?_ (w6 F (v:=.v (.c (.ro true e (.int .u8) (bytesOf s)))) ?_ C D)
 .unfold execOp;rw[f];dsimp only;rw[E];simp only[Sem.run_bind,Lib.run_convert_string_bytes w l m e s hs z A,Result.andThen_ok];rfl
 .refine⟨_,_,by rw[bytesOf_length],by rw[bytesOf_length];exact I,by rw[bytesOf_length];omega,fun n=>⟨w.heap.size,0,rfl,?_,⟨?_,.inl ?_⟩,fun p y c=>⟨[.int .u8 y],rfl,fun i u q=>?_⟩⟩⟩
  .have:=Lib.bytesWorld_cell w e s 0 (by rw[bytesOf_length]at n;exact n);exact World.block_lt_of_cell? _ _ this
  .have:G.own w.heap.size=none:=by
    cases f:G.own w.heap.size with
    |none=>rfl|some k=>have:=(h.own _ _ f).2.1;omega
   simp[Gh.grow,this]
  .exact h.avX (bf _)
  .cases i with
   |succ i=>simp at q
   |zero =>
    cases q;have t:=(wb.1 c).1;rw[bytesOf_length]at t;have:=Lib.bytesWorld_cell w e s p t;simp only[Ty.n,Nat.mul_one,NG,we];rw[this];simp only[bytesOf,List.getElem?_map]at c;cases d:s.data.toList[p]? with
    |none=>rw[d]at c;cases c
    |some b =>
     rw[d]at c;cases c;simp[Em,d]
def aac (h:Inv w0 G st a w)(g j:TypeId)(x:Operand)(t:o.op=.convert g j x){e:TypeId}(hs:P.underlying g=some (.slice e))(l:P.underlying j=some .string)(m:P.underlying e=some (.int .u8))
  {xs:List Int} (y:cx st (.int .u8) (st.ac x)=some xs) (z:st.pk o.dst (.v (.c (.str (strOf xs)))) k=some r):bu P w0 w a o k r:=by
 have n:=jO (ok:=fun _=>True) h (h.ac x) y (fun _ _ _ _ _=>⟨fun _ _=>trivial,fun _ _ _=>trivial⟩) (fun _ _ _ _ _ _ _=>trivial) 0;obtain⟨A,cap,p,H,I,q⟩:=n;have p:=(s6 p).1;have B:∀d,Below w.heap.size w d->(convert g j (a.eval x)).run P d=.ok (.string (strOf xs)) d:=by
  intro d f;rw[p];rcases aeK xs.length with s|s
  .have C:xs=[]:=Ya s;subst C;cases A with
   |none=>rw[run_convert_bytes_nil d g e hs m _ _ j l];rfl
   |some L =>
    rw[run_convert_bytes_string d g j e _ _ _ hs m l];simp[Conv.bytesToString,loadCells,loadCellsFrom,strOf];rfl
  .obtain⟨b,D,rfl,hlt,_,q⟩:=q s;refine run_convert_bytes_arg d g e hs m b D xs.length cap xs rfl (fun i E=>?_) j l;obtain⟨c,n,F⟩:=q i _ (getD_some E 0);have:=F 0 (.int .u8 (xs.getD i 0)) (by rw[show c=_ from n];rfl);rw[cell_of_heap (f.block b hlt)];simpa [Ty.n]using this
 refine dh (u:=.string (strOf xs)) h (v:=.v (.c (.str (strOf xs)))) rfl z fun d f=>?_
 unfold execOp;rw[t];have f:Below w.heap.size w d:=by unfold ahl at f;rw[t]at f;exact f
 simp only[Sem.run_bind,B d f,Result.andThen_ok];rfl
end
end Go.Am
