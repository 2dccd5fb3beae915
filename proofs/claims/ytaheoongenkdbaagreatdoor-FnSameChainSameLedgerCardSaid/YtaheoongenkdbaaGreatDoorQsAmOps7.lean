/- No condition. -/
import Derived.Test.YtaheoongenkdbaaGreatDoorQsAmOps6
import Derived.Lib.ConvBytes
set_option linter.all false
namespace Go.Am
open Go.RowKit
section
variable {P:Program} {w0:eA} {w:World} {G:Gh} {st:St} {a:Act} {U:Type} {k:St->Option U} {r:U} {K:Act->World->Prop} {Q:Exit->Act->World->Prop} {o:Oper}
def aq4:∀{t:Ty} {l:List AC} {x:t.D} {c:List AC},im st t (.none::l)=some (x,c)->t.n=0/\c=.none::l
 |.int _,l,x,c,h=>by simp[im]at h
 |.bool,l,x,c,h=>by simp[im]at h
 |.str,l,x,c,h=>by simp[im]at h
 |.unit,l,x,c,h=>by simp only[im]at h;cases h;exact⟨rfl,rfl⟩
 |.pair a b,l,x,c,h=>by
  simp only[im]at h;split at h
  .rename_i y i d;obtain⟨e,rfl⟩:=aq4 d;split at h
   .rename_i z j f;obtain⟨g,rfl⟩:=aq4 f;cases h;exact⟨by simp[Ty.n,e,g],rfl⟩
   .cases h
  .cases h
 |.sl _ _,l,x,c,h=>by simp[im,cz]at h
def aFa {t:Ty}(d:0<t.n){c:CV}{x:t.D}{b:List AC}(h:im st t c.cells=some (x,b)):c.kn=true:=by
 cases c with
 |agg l=>rfl
 |c y =>
  cases y with
  |none =>
   have:=(aq4 (l:=[]) h).1;omega
  |_=>rfl
def adp (a:Act):List (Nat×Operand)->List Value
 |[]=>[]|(_,x)::l=>(a.eval x).cells.toList++adp a l
def S6 (h:Inv w0 G st a w){t:Ty}(D:0<t.n){ok:Nat->Prop}:∀(parts:List (Nat×Operand)) (i:Nat) (f:Array Value) (xs:List t.D),
  (∀u c v j,c∈cm st parts->bm G w st.bx st.bl c v->cz st u c=some j->∀e,Rd w ok (.sl e u) j [v]) ->
  f.size=(i+parts.length)*t.n->gO st t i parts=some xs ->
  ∃b:List Value,Instr.fill (fun i=>some (i*t.n,t.n)) f (parts.map fun (i,x)=>(i,a.eval x))=some (f.toList.take (i*t.n)++b).toArray/\b.length=xs.length*t.n/\xs.length=parts.length/\eJ w ok t b xs/\b=adp a parts
 |[],i,f,xs,q,m,d=>by simp only[gO]at d;cases d;refine⟨[],?_,by simp,rfl,fun g x n=>by simp at n,rfl⟩;simp only[List.map_nil,Instr.fill,fS];have:f.toList.take (i*t.n)=f.toList:=ajq (by simp[m]);rw[this]
 |(g,x)::parts,i,f,xs,q,m,d=>by
  simp only[gO]at d;split at d
  .rename_i s;have s:=aI s;subst s;split at d
   .rename_i y E;split at d
    .rename_i j L;cases d;have M:=aFa D E;have N:=(h.dO x).cells M;obtain⟨qe,F,H,z,O,_⟩:=Nj (ok:=ok) (fun u c v A B=>q u c v A (by simp[cm,B])) N E;have R:F=[]:=by
      cases F with
      |nil=>rfl|cons _ _=>exact O.elim
     subst R;rw[fS]at H;have hlen:=z.len;rw[<-H]at hlen z;have C:(a.eval x).cells.size=t.n:=by simpa using hlen
     have S:(i+1)*t.n<=f.size:=by rw[m];exact Fa _ (by simp)
     rw[J7,Px]at S;obtain⟨b,T,W,X,Y,Z⟩:=S6 h D parts (i+1) ((a.eval x).cells.zipIdx.foldl (fun b (c,g)=>b.setIfInBounds (i*t.n+g) c) f) j (fun u c v A B=>q u c v A (by simp[cm,B])) (by
      have:∀(l:List (Value×Nat)) (b:Array Value),(l.foldl (fun b (c,g)=>b.setIfInBounds (i*t.n+g) c) b).size=b.size:=by
       intro l
       induction l with
       |nil=>intro b;rfl|cons p l qa=>intro b;rw[List.foldl_cons,qa,Array.size_setIfInBounds]
      rw[<-Array.foldl_toList,this,m];simp[SP,Nat.add_comm 1]) L
     refine⟨(a.eval x).cells.toList++b,?_,?_,by simp[X],VG (xs:=[y]) (by simpa using hlen) ?_ Y,by rw[Z];rfl⟩
     .simp only[r8,Instr.fill];rw[af (by simp[C];omega),T]
      congr 2
      rw[<-Array.foldl_toList,Array.toList_zipIdx,H6,WW,afK _ _ _ (by simp[C];omega)];have qb:(i+1)*t.n=(f.toList.take (i*t.n)++(a.eval x).cells.toList).length:=by rw[J7,Px];simp[C];omega
      simp only[WW];rw[qb,List.take_left];simp
     .rw[aL,W,hlen];simp[J7,Nat.add_comm]
     .intro I qf n;cases I with
      |zero =>
       cases n;exact⟨_,z,fun ii u qd=>by simpa using qd⟩
      |succ I=>simp at n
    .cases d
   .cases d
  .cases d
def apj (w:World)(b:Obj):w.grownBy (w.alloc b) none:=⟨rfl,rfl,rfl,by simp,fun k c _=>Below.heap_alloc _ _ _ c⟩
def H9 {t e:TypeId}{i:TypeInfo}{d:Value}(g:P.underlying t=some (.slice e))(hi:P.info? e=some i)(j:i.zero=some d){len:Nat}{parts:Array (Nat×Value)}{cells:Array Value}(m:len*i.size<=16777216)
  (b:Instr.fill (fun q=>some (q*i.size,i.size)) ((Array.range (len*i.size)).map (fun q=>(if len*i.size=0 then #[] else d.cells)[q%(if len*i.size=0 then #[] else d.cells).size]!)) parts.toList=some cells) :
  (Instr.buildSlice t len parts).run P w=.ok (.slice (some ⟨w.heap.size,0,none⟩) len len) (w.alloc (.cells cells e)):=by
 have l:¬2 ^ 24<len*i.size:=by omega
 by_cases c:len*i.size=0
 .have h:∀f:Nat->Value,(Array.range 0).map f=#[]:=fun f=>by simp[Array.range_zero']
  simp only[c,fE,h]at b;simp[Instr.buildSlice,run_underlying g,sizeOf,typeInfo,hi,c,h,b,newRow]
 .simp only[c,fD]at b;simp[Instr.buildSlice,run_underlying g,sizeOf,typeInfo,hi,c,l,zeroValue,j,b,newRow]
def ag9 (h:Inv w0 G st a w)(t:TypeId)(len:Nat)(parts:Array (Nat×Operand))(C:o.op=.buildSlice t len parts){e:TypeId}(b:Dl P t=some e){u:Ty}
  {xs:List u.D} (D:gO st u 0 parts.toList=some xs)
  (j:(Nat.beq parts.toList.length len&&nN st (cm st parts.toList)&&(Nat.beq (P.cellsOf e) u.n&& !Nat.beq u.n 0&&Nat.ble (len*u.n) 16777216&&(rW P e).isSome))=true) :
  ∃cs:List Value,(execOp a.eval o).run P w=.ok (.value (.slice (some ⟨w.heap.size,0,none⟩) len len)) (w.alloc (.cells cs.toArray e)):=by
 simp only[aD]at j;obtain⟨⟨E,F⟩,⟨⟨⟨H,I⟩,L⟩,M⟩⟩:=j;have c:P.underlying t=some (.slice e):=by
  unfold Dl at b;split at b
  .rename_i X c;cases b;exact c
  .cases b
 have hlen:=aI E;have m:0<u.n:=SO (bu I);obtain⟨i,n,s⟩:=nu (aI H) m;have Y:=Ep L;obtain⟨z,N⟩:=ij.1 M;obtain⟨Z,v,y,O,_⟩:=hJ N;rw[n]at y;cases y;obtain⟨qa,A,qb,qd,d⟩:=Inv.freeze (cm st parts.toList) h;have R:∀l,cm (st.freeze (cm st parts.toList)) l=cm st l:=by
  intro l
  induction l with
  |nil=>rfl
  |cons p l f =>
   obtain⟨S,x⟩:=p;have g:(st.freeze (cm st parts.toList)).dO x=st.dO x:=by unfold St.dO St.ev St.get;rw[d.tm]
   simp only[cm,f,g]
 have T:∀i l,gO (st.freeze (cm st parts.toList)) u i l=gO st u i l:=by
  intro i l
  induction l generalizing i with
  |nil=>rfl
  |cons p l f =>
   obtain⟨S,x⟩:=p;have g:(st.freeze (cm st parts.toList)).dO x=st.dO x:=by unfold St.dO St.ev St.get;rw[d.tm]
   simp only[gO,g,sL d,f]
 have W:((Array.range (len*u.n)).map (fun q=>(if len*u.n=0 then #[] else v.cells)[q%(if len*u.n=0 then #[] else v.cells).size]!)).size=(0+parts.toList.length)*u.n:=by simp[<-hlen]
 obtain⟨cs,B,qe,qf,qg,_⟩:=S6 A m parts.toList 0 _ xs (by rw[R];exact Nl (bx:=st.bx) A F fun h=>h) W (by rw[T];exact D)
 simp only[ajy,List.take_zero,Fc]at B;refine⟨cs,?_⟩;unfold execOp;rw[C];dsimp only;have:=H9 (P:=P) (w:=w) c n O (len:=len) (parts:=parts.map fun (i,x)=>(i,a.eval x)) (cells:=cs.toArray) (by rw[s];omega) (by rw[s,aak];exact B);simp only[Sem.run_bind,this,Result.andThen_ok];rfl
def adq (h:Inv w0 G st a w)(t:TypeId)(len:Nat)(parts:Array (Nat×Operand))(M:o.op=.buildSlice t len parts){d:Tmp}(N:o.dst=some d){e:TypeId}(b:Dl P t=some e){u:Ty}
  {xs:List u.D} (O:gO st u 0 parts.toList=some xs)
  (B:(Nat.beq parts.toList.length len&&nN st (cm st parts.toList)&&(Nat.beq (P.cellsOf e) u.n&& !Nat.beq u.n 0&&Nat.ble (len*u.n) 16777216&&(rW P e).isSome))=true)
  (R:(st.freeze (cm st parts.toList)).row d ⟨e,u,xs,ca (cm st parts.toList),true⟩ k=some r) (S:pD w0 k r K):o.wp P a w K Q:=by
 simp only[aD]at B;obtain⟨⟨T,W⟩,⟨⟨⟨X,Y⟩,Z⟩,qa⟩⟩:=B;have f:P.underlying t=some (.slice e):=by
  unfold Dl at b;split at b
  .rename_i qk f;cases b;exact f
  .cases b
 have hlen:=aI T;have c:0<u.n:=SO (bu Y);obtain⟨i,C,D⟩:=nu (aI X) c;have ql:=Ep Z;obtain⟨z,qb⟩:=ij.1 qa;obtain⟨qm,E,F,qd,_⟩:=hJ qb;rw[C]at F;cases F;obtain⟨qn,j,qo,qp,m⟩:=Inv.freeze (cm st parts.toList) h;have qe:∀l,cm (st.freeze (cm st parts.toList)) l=cm st l:=by
  intro l
  induction l with
  |nil=>rfl
  |cons p l n =>
   obtain⟨qf,x⟩:=p;have s:(st.freeze (cm st parts.toList)).dO x=st.dO x:=by unfold St.dO St.ev St.get;rw[m.tm]
   simp only[cm,n,s]
 have H:∀i l,gO (st.freeze (cm st parts.toList)) u i l=gO st u i l:=by
  intro i l
  induction l generalizing i with
  |nil=>rfl
  |cons p l n =>
   obtain⟨qf,x⟩:=p;have s:(st.freeze (cm st parts.toList)).dO x=st.dO x:=by unfold St.dO St.ev St.get;rw[m.tm]
   simp only[gO,s,sL m,n]
 have qg:((Array.range (len*u.n)).map (fun q=>(if len*u.n=0 then #[] else E.cells)[q%(if len*u.n=0 then #[] else E.cells).size]!)).size=(0+parts.toList.length)*u.n:=by simp[<-hlen]
 obtain⟨cs,I,y,qh,qi,_⟩:=S6 j c parts.toList 0 _ xs (by rw[qe];exact Nl (bx:=st.bx) j W fun h=>h) qg (by rw[H];exact O)
 simp only[ajy,List.take_zero,Fc]at I;refine H5 (v:=.slice (some ⟨w.heap.size,0,none⟩) len len) (w':=w.alloc (.cells cs.toArray e)) ?_ ?_
 .unfold execOp;rw[M];dsimp only;have:=H9 (P:=P) (w:=w) f C qd (len:=len) (parts:=parts.map fun (i,x)=>(i,a.eval x)) (cells:=cs.toArray) (by rw[D];omega) (by rw[D,aak];exact I);simp only[Sem.run_bind,this,Result.andThen_ok];rfl
 .rw[N];have qj:0<=w.heap.size:=aQ _;refine Nn j none (apj w _) (fun g A=>by cases A) d ⟨e,u,xs,ca (cm st parts.toList),true⟩ rfl c _ cs ?_ (fun g A=>by simp[Value.ownBlock]at A;omega) qi R S;have L:xs.length=len:=by rw[qh,hlen]
  have qq:maxLen=9223372036854775807:=rfl;have H:len<=len*u.n:=aqz _ c;refine⟨y,.inr ⟨w.heap.size,len,cs.toArray,by rw[L],qj,heap_alloc_new w _,by show xs.length<=len;omega,by omega,by simp[y,L],?_⟩⟩;rw[<-y];simp
def aaC (v:Value):(∀id len,SS v≠.own id len)/\(∀f e t xs,SS v≠.ro f e t xs):=by unfold SS;split<;>simp
def WY (v:Value):∀c∈(J8 v).cells,(∀id len,c≠.own id len)/\(∀f e t xs,c≠.ro f e t xs):=by
 intro c b;unfold J8 at b;split at b
 .simp only[CV.cells,HY]at b;obtain⟨u,_,rfl⟩:=b;exact aaC u
 .simp only[CV.cells,ki]at b;rw[b];exact aaC _
def aha (h:Inv w0 G st a w)(t:TypeId)(p q:Operand)(qa:o.op=.makeSlice t p q){d:Tmp}(qb:o.dst=some d){e:TypeId}(s:Dl P t=some e){n m:Int}(qd:st.ac p=.int .i64 n)(qe:st.ac q=.int .i64 m)
  {u:Ty} {z:CV} (qf:rW P e=some z) {x:u.D} (qg:im st u z.cells=some (x,[]))
  (I:(z.kn&&(Nat.beq (P.cellsOf e) u.n&& !Nat.beq u.n 0&& !Nat.beq (P.bytesOf e) 0)&&decide (0<=n)&&n==m&&decide (n*(P.bytesOf e:Int)<=140737488355328))=true)
  (qh:st.row d ⟨e,u,List.replicate n.toNat x,true,true⟩ k=some r) (qi:pD w0 k r K):o.wp P a w K Q:=by
 simp only[aD,bV,bc]at I;obtain⟨⟨⟨⟨qj,⟨B,qk⟩,L⟩,M⟩,rfl⟩,ql⟩:=I;have C:P.underlying t=some (.slice e):=by
  unfold Dl at s;split at s
  .rename_i qE C;cases s;exact C
  .cases s
 have qm:0<u.n:=SO (bu qk);obtain⟨i,j,N,qn,rfl⟩:=hJ qf;obtain⟨qo,l⟩:=aaB N;have qp:i.size=u.n:=by rw[<-l];exact aI B
 have qq:a.eval p=.int .i64 n:=by have:=h.ac p;rw[qd]at this;exact this
 have qt:a.eval q=.int .i64 n:=by have:=h.ac q;rw[qe]at this;exact this
 have qu:=(oM (G:=G) (w:=w) (bx:=st.bx) (bl:=st.bl) j).cells qj;obtain⟨qF,O,R,D,qv,_⟩:=Nj (ok:=RO G true) (fun qG c v qH S qw qx=>by
  refine iV h qw qx (fun id len b E=>?_) (fun f e u qy E=>?_)
  .exact absurd E ((WY j c S).1 id len)
  .exact absurd E ((WY j c S).2 f e u qy)) qu qg
 have qz:O=[]:=by
  cases O with
  |nil=>rfl|cons _ _=>exact qv.elim
 subst qz;rw[fS]at R;rw[<-R]at D;have T:j.cells.size=u.n:=by simpa using D.len
 rw[qo]at ql L;have qI:0<i.bytes:=SO (bu L);have hlen:n<=140737488355328:=by have:n*1<=n*(i.bytes:Int):=Int.mul_le_mul_of_nonneg_left (by omega) M;omega
 have W:=run_make (P:=P) w t e i j C N qn .i64 .i64 n n M (QL _) (by rw[Int.mul_comm];omega) (by omega);rw[qp]at W;refine H5 (v:=.slice (some ⟨w.heap.size,0,none⟩) n.toNat n.toNat) (w':=w.alloc (.cells (madeCells j.cells (n.toNat*u.n)) e)) ?_ ?_
 .unfold execOp;rw[qa];dsimp only;rw[qq,qt];simp only[Sem.run_bind,W,Result.andThen_ok];rfl
 .rw[qb];have qA:0<=w.heap.size:=aQ _;have qK:maxLen=9223372036854775807:=rfl;have l:(madeCells j.cells (n.toNat*u.n)).size=n.toNat*u.n:=size_madeCells _ _;refine Nn h none (apj w _) (fun g F=>by cases F) d ⟨e,u,List.replicate n.toNat x,true,true⟩ rfl qm _ (madeCells j.cells (n.toNat*u.n)).toList ?_ (fun g F=>by simp[Value.ownBlock]at F;omega) ?_ qh qi
  .refine⟨by simp[l],.inr ⟨w.heap.size,n.toNat,madeCells j.cells (n.toNat*u.n),by simp,qA,heap_alloc_new w _,by simp,by omega,l,?_⟩⟩;rw[ajq (by simp[l])]
  .intro A y H;have qB:A<n.toNat:=by have:=(u9.1 H).1;simpa using this
   have qC:y=x:=by simp[List.getElem?_replicate,qB]at H;exact H.symm
   rw[qC];refine⟨j.cells.toList,D,fun ii v X=>?_⟩;have Y:ii<u.n:=by have:=(u9.1 X).1;simpa [T]using this
   have hlt:A*u.n+ii<n.toNat*u.n:=by have:(A+1)*u.n<=n.toNat*u.n:=Fa _ (by omega);rw[J7,Px]at this;omega
   have qD:(A*u.n+ii)%u.n=ii:=by rw[Nat.mul_comm,Nat.mul_add_mod];exact aqE Y
   have Z:j.cells[ii]?=some v:=by simpa using X
   simp[madeCells,hlt,T,qD,Y];rw[axM (by omega)]at Z;have B:=eO Z;rw[<-B]
def anO (w:World)(e:TypeId)(s:ByteArray):w.grownBy (Lib.bytesWorld w e s) none:=by exact⟨rfl,rfl,rfl,by rw[Lib.bytesWorld_size];omega,fun k b _=>Lib.bytesWorld_at_old w e s k b⟩
def anP (h:Inv w0 G st a w)(m n:TypeId)(x:Operand)(f:o.op=.convert m n x){e:TypeId}(j:P.underlying m=some .string)(A:P.underlying n=some (.slice e))(B:P.underlying e=some (.int .u8))
  {s:ByteArray} (C:st.ac x=.str s) (M:s.size<=140737488355328) (D:st.pk o.dst (.v (.c (.ro true e (.int .u8) (bytesOf s)))) k=some r) (E:pD w0 k r K):o.wp P a w K Q:=by
 have F:a.eval x=.string s:=by have:=h.ac x;rw[C]at this;exact this
 have l:=anO w e s;obtain⟨H,N,O⟩:=h.grow none l (fun g l=>by cases l) [] G.hv (fun _=>none) (fun id j=>by simp[look]at j) (fun g id I=>by cases I) (fun id b d=>by simp[look]at d);have L:=grownCap_ge w s.size 0 e;refine H5 (v:=.slice (some ⟨w.heap.size,0,none⟩) s.size (grownCap w s.size 0 e)) (w':=Lib.bytesWorld w e s) ?_ (vX H (v:=.v (.c (.ro true e (.int .u8) (bytesOf s)))) ?_ D E)
 .unfold execOp;rw[f];dsimp only;rw[F];simp only[Sem.run_bind,Lib.run_convert_string_bytes w m n e s j A B,Result.andThen_ok];rfl
 .refine⟨_,_,by rw[bytesOf_length],by rw[bytesOf_length];exact L,by rw[bytesOf_length];omega,fun p=>⟨w.heap.size,0,rfl,?_,⟨?_,.inl ?_⟩,fun q y c=>⟨[.int .u8 y],rfl,fun i u t=>?_⟩⟩⟩
  .have:=Lib.bytesWorld_cell w e s 0 (by rw[bytesOf_length]at p;exact p);exact World.block_lt_of_cell? _ _ this
  .have:G.own w.heap.size=none:=by
    cases f:G.own w.heap.size with
    |none=>rfl|some k=>have:=(h.own _ _ f).2.1;omega
   simp[Gh.grow,this]
  .exact h.atl (bP _)
  .cases i with
   |succ i=>simp at t
   |zero =>
    cases t;have z:=(u9.1 c).1;rw[bytesOf_length]at z;have:=Lib.bytesWorld_cell w e s q z;simp only[Ty.n,Nat.mul_one,WW,vd];rw[this];simp only[bytesOf,List.getElem?_map]at c;cases d:s.data.toList[q]? with
    |none=>rw[d]at c;cases c
    |some b =>
     rw[d]at c;cases c;simp[SN,d]
def YV (h:Inv w0 G st a w)(g j:TypeId)(x:Operand)(y:o.op=.convert g j x){e:TypeId}(l:P.underlying g=some (.slice e))(m:P.underlying j=some .string)(n:P.underlying e=some (.int .u8))
  {xs:List Int} (z:cz st (.int .u8) (st.ac x)=some xs) (B:st.pk o.dst (.v (.c (.str (strOf xs)))) k=some r):bj P w0 w a o k r:=by
 have p:=iV (ok:=fun _=>True) h (h.ac x) z (fun _ _ _ _ _=>⟨fun _ _=>trivial,fun _ _ _=>trivial⟩) (fun _ _ _ _ _ _ _=>trivial) 0;obtain⟨A,cap,q,I,L,s⟩:=p;have q:=(vS q).1;have C:∀d,Below w.heap.size w d->(convert g j (a.eval x)).run P d=.ok (.string (strOf xs)) d:=by
  intro d f;rw[q];rcases apb xs.length with t|t
  .have D:xs=[]:=WS t;subst D;cases A with
   |none=>rw[run_convert_bytes_nil d g e l n _ _ j m];rfl
   |some M =>
    rw[run_convert_bytes_string d g j e _ _ _ l n m];simp[Conv.bytesToString,loadCells,loadCellsFrom,strOf];rfl
  .obtain⟨b,E,rfl,hlt,_,s⟩:=s t;refine run_convert_bytes_arg d g e l n b E xs.length cap xs rfl (fun i F=>?_) j m;obtain⟨c,p,H⟩:=s i _ (getD_some F 0);have:=H 0 (.int .u8 (xs.getD i 0)) (by rw[show c=_ from p];rfl);rw[cell_of_heap (f.block b hlt)];simpa [Ty.n]using this
 refine dd (u:=.string (strOf xs)) h (v:=.v (.c (.str (strOf xs)))) rfl B fun d f=>?_
 unfold execOp;rw[y];have f:Below w.heap.size w d:=by unfold afI at f;rw[y]at f;exact f
 simp only[Sem.run_bind,C d f,Result.andThen_ok];rfl
end
end Go.Am
