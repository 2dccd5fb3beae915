/- No condition. -/
import Derived.Test.YtpkabclplaibaaaGreatDoorQhAmOps6
import Derived.Lib.ConvBytes
set_option linter.all false
namespace Go.Am
open Go.RowKit
variable [ds]
section
variable {P:Program} {w0:di} {w:World} {G:Gh} {st:St} {a:Act} {U:Type} {k:St->Option U} {r:U} {K:Act->World->Prop} {Q:Exit->Act->World->Prop} {o:Oper}
def acp:∀{t:Ty} {l:List AC} {x:t.D} {c:List AC},im st t (.none::l)=some (x,c)->t.n=0/\c=.none::l
 |.int _,l,x,c,h=>by simp[im]at h
 |.bool,l,x,c,h=>by simp[im]at h
 |.str,l,x,c,h=>by simp[im]at h
 |.unit,l,x,c,h=>by simp only[im]at h;cases h;exact⟨rfl,rfl⟩
 |.pair a b,l,x,c,h=>by
  simp only[im]at h;split at h
  .rename_i y i d;obtain⟨e,rfl⟩:=acp d;split at h
   .rename_i z j f;obtain⟨g,rfl⟩:=acp f;cases h;exact⟨by simp[Ty.n,e,g],rfl⟩
   .cases h
  .cases h
 |.sl _ _,l,x,c,h=>by simp[im,bU]at h
def aqK {t:Ty}(d:0<t.n){c:CV}{x:t.D}{b:List AC}(h:im st t c.cells=some (x,b)):c.kn=true:=by
 cases c with
 |agg l=>rfl
 |c y =>
  cases y with
  |none =>
   have:=(acp (l:=[]) h).1;omega
  |_=>rfl
def RE (a:Act):List (Nat×Operand)->List Value
 |[]=>[]|(_,x)::l=>(a.eval x).cells.toList++RE a l
def Jp (h:Inv w0 G st a w){t:Ty}(D:0<t.n){ok:Nat->Prop}:∀(parts:List (Nat×Operand)) (i:Nat) (f:Array Value) (xs:List t.D),
  (∀e u c v j,c∈bM st parts->a7 G w st.bx st.bl c v->bU st e u c=some j->Rd w ok (.sl e u) j [v]) ->
  f.size=(i+parts.length)*t.n->fa st t i parts=some xs ->
  ∃b:List Value,Instr.fill (fun i=>some (i*t.n,t.n)) f (parts.map fun (i,x)=>(i,a.eval x))=some (f.toList.take (i*t.n)++b).toArray/\b.length=xs.length*t.n/\xs.length=parts.length/\dx w ok t b xs/\b=RE a parts
 |[],i,f,xs,q,m,d=>by simp only[fa]at d;cases d;refine⟨[],?_,by simp,rfl,fun g x n=>by simp at n,rfl⟩;simp only[List.map_nil,Instr.fill,fo];have:f.toList.take (i*t.n)=f.toList:=ad8 (by simp[m]);rw[this]
 |(g,x)::parts,i,f,xs,q,m,d=>by
  simp only[fa]at d;split at d
  .rename_i s;have s:=aA s;subst s;split at d
   .rename_i y E;split at d
    .rename_i j L;cases d;have M:=aqK D E;have N:=(h.c6 x).cells M;obtain⟨qe,F,H,z,O,_⟩:=Fe (ok:=ok) (fun e u c v A B=>q e u c v A (by simp[bM,B])) N E;have R:F=[]:=by
      cases F with
      |nil=>rfl|cons _ _=>exact O.elim
     subst R;rw[fo]at H;have hlen:=z.len;rw[<-H]at hlen z;have C:(a.eval x).cells.size=t.n:=by simpa using hlen
     have S:(i+1)*t.n<=f.size:=by rw[m];exact tt _ (by simp)
     rw[By,MA]at S;obtain⟨b,T,W,X,Y,Z⟩:=Jp h D parts (i+1) ((a.eval x).cells.zipIdx.foldl (fun b (c,g)=>b.setIfInBounds (i*t.n+g) c) f) j (fun e u c v A B=>q e u c v A (by simp[bM,B])) (by
      have:∀(l:List (Value×Nat)) (b:Array Value),(l.foldl (fun b (c,g)=>b.setIfInBounds (i*t.n+g) c) b).size=b.size:=by
       intro l
       induction l with
       |nil=>intro b;rfl|cons p l qa=>intro b;rw[List.foldl_cons,qa,Array.size_setIfInBounds]
      rw[<-Array.foldl_toList,this,m];simp[I8,Nat.add_comm 1]) L
     refine⟨(a.eval x).cells.toList++b,?_,?_,by simp[X],LD (xs:=[y]) (by simpa using hlen) ?_ Y,by rw[Z];rfl⟩
     .simp only[kL,Instr.fill];rw[ag (by simp[C];omega),T]
      congr 2
      rw[<-Array.foldl_toList,Array.toList_zipIdx,BF,Mz,Tn _ _ _ (by simp[C];omega)];have qb:(i+1)*t.n=(f.toList.take (i*t.n)++(a.eval x).cells.toList).length:=by rw[By,MA];simp[C];omega
      simp only[Mz];rw[qb,List.take_left];simp
     .rw[aB,W,hlen];simp[By,Nat.add_comm]
     .intro I qf n;cases I with
      |zero =>
       cases n;exact⟨_,z,fun ii u qd=>by simpa using qd⟩
      |succ I=>simp at n
    .cases d
   .cases d
  .cases d
def aaR (w:World)(b:Obj):w.grownBy (w.alloc b) none:=⟨rfl,rfl,rfl,by simp,fun k c _=>Below.heap_alloc _ _ _ c⟩
def BI {t e:TypeId}{i:TypeInfo}{d:Value}(g:P.underlying t=some (.slice e))(h:P.info? e=some i)(l:i.zero=some d){len:Nat}{parts:Array (Nat×Value)}{cells:Array Value}(n:len*i.size<=16777216)
  (b:Instr.fill (fun q=>some (q*i.size,i.size)) ((Array.range (len*i.size)).map (fun q=>(if len*i.size=0 then #[] else d.cells)[q%(if len*i.size=0 then #[] else d.cells).size]!)) parts.toList=some cells) :
  (Instr.buildSlice t len parts).run P w=.ok (.slice (some ⟨w.heap.size,0,none⟩) len len) (w.alloc (.cells cells e)):=by
 have m:¬2 ^ 24<len*i.size:=by omega
 by_cases c:len*i.size=0
 .have j:∀f:Nat->Value,(Array.range 0).map f=#[]:=fun f=>by simp[Array.range_zero']
  simp only[c,eJ,j]at b;simp[Instr.buildSlice,run_underlying g,sizeOf,typeInfo,h,c,j,b,newRow]
 .simp only[c,eo]at b;simp[Instr.buildSlice,run_underlying g,sizeOf,typeInfo,h,c,m,zeroValue,l,b,newRow]
def Ug (h:Inv w0 G st a w)(t:TypeId)(len:Nat)(parts:Array (Nat×Operand))(C:o.op=.buildSlice t len parts){e:TypeId}(b:wg P t=some e){u:Ty}
  {xs:List u.D} (D:fa st u 0 parts.toList=some xs)
  (j:(Nat.beq parts.toList.length len&&kB st (bM st parts.toList)&&(Nat.beq (P.cellsOf e) u.n&& !Nat.beq u.n 0&&Nat.ble (len*u.n) 16777216&&(nq P e).isSome))=true) :
  ∃cs:List Value,(execOp a.eval o).run P w=.ok (.value (.slice (some ⟨w.heap.size,0,none⟩) len len)) (w.alloc (.cells cs.toArray e)):=by
 simp only[az]at j;obtain⟨⟨E,F⟩,⟨⟨⟨H,I⟩,L⟩,M⟩⟩:=j;have c:P.underlying t=some (.slice e):=by
  unfold wg at b;split at b
  .rename_i X c;cases b;exact c
  .cases b
 have hlen:=aA E;have m:0<u.n:=I7 (ba I);obtain⟨i,n,s⟩:=km (aA H) m;have Y:=tU L;obtain⟨z,N⟩:=ek.1 M;obtain⟨Z,v,y,O,_⟩:=fp N;rw[n]at y;cases y;obtain⟨qa,A,qb,qd,d⟩:=Inv.freeze (bM st parts.toList) h;have R:∀l,bM (st.freeze (bM st parts.toList)) l=bM st l:=by
  intro l
  induction l with
  |nil=>rfl
  |cons p l f =>
   obtain⟨S,x⟩:=p;have g:(st.freeze (bM st parts.toList)).c6 x=st.c6 x:=by unfold St.c6 St.ev St.get;rw[d.tm]
   simp only[bM,f,g]
 have T:∀i l,fa (st.freeze (bM st parts.toList)) u i l=fa st u i l:=by
  intro i l
  induction l generalizing i with
  |nil=>rfl
  |cons p l f =>
   obtain⟨S,x⟩:=p;have g:(st.freeze (bM st parts.toList)).c6 x=st.c6 x:=by unfold St.c6 St.ev St.get;rw[d.tm]
   simp only[fa,g,nY d,f]
 have W:((Array.range (len*u.n)).map (fun q=>(if len*u.n=0 then #[] else v.cells)[q%(if len*u.n=0 then #[] else v.cells).size]!)).size=(0+parts.toList.length)*u.n:=by simp[<-hlen]
 obtain⟨cs,B,qe,qf,qg,_⟩:=Jp A m parts.toList 0 _ xs (by rw[R];exact Fg (bx:=st.bx) A F fun h=>h) W (by rw[T];exact D)
 simp only[V7,List.take_zero,nD]at B;refine⟨cs,?_⟩;unfold execOp;rw[C];dsimp only;have:=BI (P:=P) (w:=w) c n O (len:=len) (parts:=parts.map fun (i,x)=>(i,a.eval x)) (cells:=cs.toArray) (by rw[s];omega) (by rw[s,Td];exact B);simp only[Sem.run_bind,this,Result.andThen_ok];rfl
def RF (h:Inv w0 G st a w)(t:TypeId)(len:Nat)(parts:Array (Nat×Operand))(M:o.op=.buildSlice t len parts){d:Tmp}(N:o.dst=some d){e:TypeId}(b:wg P t=some e){u:Ty}
  {xs:List u.D} (O:fa st u 0 parts.toList=some xs)
  (B:(Nat.beq parts.toList.length len&&kB st (bM st parts.toList)&&(Nat.beq (P.cellsOf e) u.n&& !Nat.beq u.n 0&&Nat.ble (len*u.n) 16777216&&(nq P e).isSome))=true)
  (R:(st.freeze (bM st parts.toList)).row d ⟨e,u,xs,bI (bM st parts.toList),true⟩ k=some r) (S:l4 w0 k r K):o.wp P a w K Q:=by
 simp only[az]at B;obtain⟨⟨T,W⟩,⟨⟨⟨X,Y⟩,Z⟩,qa⟩⟩:=B;have f:P.underlying t=some (.slice e):=by
  unfold wg at b;split at b
  .rename_i qk f;cases b;exact f
  .cases b
 have hlen:=aA T;have c:0<u.n:=I7 (ba Y);obtain⟨i,C,D⟩:=km (aA X) c;have ql:=tU Z;obtain⟨z,qb⟩:=ek.1 qa;obtain⟨qm,E,F,qd,_⟩:=fp qb;rw[C]at F;cases F;obtain⟨qn,j,qo,qp,m⟩:=Inv.freeze (bM st parts.toList) h;have qe:∀l,bM (st.freeze (bM st parts.toList)) l=bM st l:=by
  intro l
  induction l with
  |nil=>rfl
  |cons p l n =>
   obtain⟨qf,x⟩:=p;have s:(st.freeze (bM st parts.toList)).c6 x=st.c6 x:=by unfold St.c6 St.ev St.get;rw[m.tm]
   simp only[bM,n,s]
 have H:∀i l,fa (st.freeze (bM st parts.toList)) u i l=fa st u i l:=by
  intro i l
  induction l generalizing i with
  |nil=>rfl
  |cons p l n =>
   obtain⟨qf,x⟩:=p;have s:(st.freeze (bM st parts.toList)).c6 x=st.c6 x:=by unfold St.c6 St.ev St.get;rw[m.tm]
   simp only[fa,s,nY m,n]
 have qg:((Array.range (len*u.n)).map (fun q=>(if len*u.n=0 then #[] else E.cells)[q%(if len*u.n=0 then #[] else E.cells).size]!)).size=(0+parts.toList.length)*u.n:=by simp[<-hlen]
 obtain⟨cs,I,y,qh,qi,_⟩:=Jp j c parts.toList 0 _ xs (by rw[qe];exact Fg (bx:=st.bx) j W fun h=>h) qg (by rw[H];exact O)
 simp only[V7,List.take_zero,nD]at I;refine BE (v:=.slice (some ⟨w.heap.size,0,none⟩) len len) (w':=w.alloc (.cells cs.toArray e)) ?_ ?_
 .unfold execOp;rw[M];dsimp only;have:=BI (P:=P) (w:=w) f C qd (len:=len) (parts:=parts.map fun (i,x)=>(i,a.eval x)) (cells:=cs.toArray) (by rw[D];omega) (by rw[D,Td];exact I);simp only[Sem.run_bind,this,Result.andThen_ok];rfl
 .rw[N];have qj:0<=w.heap.size:=a1 _;refine Fh j none (aaR w _) (fun g A=>by cases A) d ⟨e,u,xs,bI (bM st parts.toList),true⟩ rfl c _ cs ?_ (fun g A=>by simp[Value.ownBlock]at A;omega) qi R S;have L:xs.length=len:=by rw[qh,hlen]
  have qq:maxLen=9223372036854775807:=rfl;have H:len<=len*u.n:=aiF _ c;refine⟨y,.inr ⟨w.heap.size,len,cs.toArray,by rw[L],qj,heap_alloc_new w _,by show xs.length<=len;omega,by omega,by simp[y,L],?_⟩⟩;rw[<-y];simp
def PE (v:Value):(∀id len,Jb v≠.own id len)/\(∀f e t xs,Jb v≠.ro f e t xs):=by unfold Jb;split<;>simp
def MC (v:Value):∀c∈(C3 v).cells,(∀id len,c≠.own id len)/\(∀f e t xs,c≠.ro f e t xs):=by
 intro c b;unfold C3 at b;split at b
 .simp only[CV.cells,Bx]at b;obtain⟨u,_,rfl⟩:=b;exact PE u
 .simp only[CV.cells,fA]at b;rw[b];exact PE _
def Uh (h:Inv w0 G st a w)(t:TypeId)(p q:Operand)(qa:o.op=.makeSlice t p q){d:Tmp}(qb:o.dst=some d){e:TypeId}(s:wg P t=some e){n m:Int}(qd:st.ac p=.int .i64 n)(qe:st.ac q=.int .i64 m)
  {u:Ty} {z:CV} (qf:nq P e=some z) {x:u.D} (qg:im st u z.cells=some (x,[]))
  (I:(z.kn&&(Nat.beq (P.cellsOf e) u.n&& !Nat.beq u.n 0&& !Nat.beq (P.bytesOf e) 0)&&decide (0<=n)&&n==m&&decide (n*(P.bytesOf e:Int)<=140737488355328))=true)
  (qh:st.row d ⟨e,u,List.replicate n.toNat x,true,true⟩ k=some r) (qi:l4 w0 k r K):o.wp P a w K Q:=by
 simp only[az,bu,cS]at I;obtain⟨⟨⟨⟨qj,⟨B,qk⟩,L⟩,M⟩,rfl⟩,ql⟩:=I;have C:P.underlying t=some (.slice e):=by
  unfold wg at s;split at s
  .rename_i qm C;cases s;exact C
  .cases s
 have qn:0<u.n:=I7 (ba qk);obtain⟨i,j,N,qo,rfl⟩:=fp qf;obtain⟨qp,l⟩:=PD N;have qq:i.size=u.n:=by rw[<-l];exact aA B
 have qt:a.eval p=.int .i64 n:=by have:=h.ac p;rw[qd]at this;exact this
 have qu:a.eval q=.int .i64 n:=by have:=h.ac q;rw[qe]at this;exact this
 have qv:=(lx (G:=G) (w:=w) (bx:=st.bx) (bl:=st.bl) j).cells qj;obtain⟨qF,O,R,D,qw,_⟩:=Fe (ok:=RO G true) (fun qm qG c v qH S qx qy=>by
  refine gi h qx qy (fun id len b E=>?_) (fun f e u qz E=>?_)
  .exact absurd E ((MC j c S).1 id len)
  .exact absurd E ((MC j c S).2 f e u qz)) qv qg
 have qA:O=[]:=by
  cases O with
  |nil=>rfl|cons _ _=>exact qw.elim
 subst qA;rw[fo]at R;rw[<-R]at D;have T:j.cells.size=u.n:=by simpa using D.len
 rw[qp]at ql L;have qI:0<i.bytes:=I7 (ba L);have hlen:n<=140737488355328:=by have:n*1<=n*(i.bytes:Int):=Int.mul_le_mul_of_nonneg_left (by omega) M;omega
 have W:=run_make (P:=P) w t e i j C N qo .i64 .i64 n n M (I9 _) (by rw[Int.mul_comm];omega) (by omega);rw[qq]at W;refine BE (v:=.slice (some ⟨w.heap.size,0,none⟩) n.toNat n.toNat) (w':=w.alloc (.cells (madeCells j.cells (n.toNat*u.n)) e)) ?_ ?_
 .unfold execOp;rw[qa];dsimp only;rw[qt,qu];simp only[Sem.run_bind,W,Result.andThen_ok];rfl
 .rw[qb];have qB:0<=w.heap.size:=a1 _;have qK:maxLen=9223372036854775807:=rfl;have l:(madeCells j.cells (n.toNat*u.n)).size=n.toNat*u.n:=size_madeCells _ _;refine Fh h none (aaR w _) (fun g F=>by cases F) d ⟨e,u,List.replicate n.toNat x,true,true⟩ rfl qn _ (madeCells j.cells (n.toNat*u.n)).toList ?_ (fun g F=>by simp[Value.ownBlock]at F;omega) ?_ qh qi
  .refine⟨by simp[l],.inr ⟨w.heap.size,n.toNat,madeCells j.cells (n.toNat*u.n),by simp,qB,heap_alloc_new w _,by simp,by omega,l,?_⟩⟩;rw[ad8 (by simp[l])]
  .intro A y H;have qC:A<n.toNat:=by have:=(lu.1 H).1;simpa using this
   have qD:y=x:=by simp[List.getElem?_replicate,qC]at H;exact H.symm
   rw[qD];refine⟨j.cells.toList,D,fun ii v X=>?_⟩;have Y:ii<u.n:=by have:=(lu.1 X).1;simpa [T]using this
   have hlt:A*u.n+ii<n.toNat*u.n:=by have:(A+1)*u.n<=n.toNat*u.n:=tt _ (by omega);rw[By,MA]at this;omega
   have qE:(A*u.n+ii)%u.n=ii:=by rw[Nat.mul_comm,Nat.mul_add_mod];exact abX Y
   have Z:j.cells[ii]?=some v:=by simpa using X
   simp[madeCells,hlt,T,qE,Y];rw[agF (by omega)]at Z;have B:=dI Z;rw[<-B]
def ZR (w:World)(e:TypeId)(s:ByteArray):w.grownBy (Lib.bytesWorld w e s) none:=by exact⟨rfl,rfl,rfl,by rw[Lib.bytesWorld_size];omega,fun k b _=>Lib.bytesWorld_at_old w e s k b⟩
def ZS (h:Inv w0 G st a w)(m n:TypeId)(x:Operand)(f:o.op=.convert m n x){e:TypeId}(j:P.underlying m=some .string)(z:P.underlying n=some (.slice e))(A:P.underlying e=some (.int .u8))
  {s:ByteArray} (B:st.ac x=.str s) (L:s.size<=140737488355328) (C:st.pk o.dst (.v (.c (.ro true e (.int .u8) (bytesOf s)))) k=some r) (D:l4 w0 k r K):o.wp P a w K Q:=by
 have E:a.eval x=.string s:=by have:=h.ac x;rw[B]at this;exact this
 have l:=ZR w e s;obtain⟨F,M,N⟩:=h.grow none l (fun g l=>by cases l) [] G.hv (fun _=>none) (fun id j=>by simp[look]at j) (fun g id H=>by cases H) (fun id b c=>by simp[look]at c);have I:=grownCap_ge w s.size 0 e;refine BE (v:=.slice (some ⟨w.heap.size,0,none⟩) s.size (grownCap w s.size 0 e)) (w':=Lib.bytesWorld w e s) ?_ (q4 F (v:=.v (.c (.ro true e (.int .u8) (bytesOf s)))) ?_ C D)
 .unfold execOp;rw[f];dsimp only;rw[E];simp only[Sem.run_bind,Lib.run_convert_string_bytes w m n e s j z A,Result.andThen_ok];rfl
 .refine⟨_,_,by rw[ly],by rw[ly];exact I,by rw[ly];omega,fun O=>⟨w.heap.size,0,rfl,by rw[Lib.bytesWorld_size];omega,⟨?_,.inl ?_⟩,fun _=>⟨h.arA,_,_,Lib.bytesWorld_at_new w e s,fun c=>by simp[big,Ty.n]at c⟩,fun p y d=>⟨[.int .u8 y],rfl,fun i u q=>?_⟩⟩⟩
  .have:G.own w.heap.size=none:=by
    cases f:G.own w.heap.size with
    |none=>rfl|some k=>have:=(h.own _ _ f).2.1;omega
   simp[Gh.grow,this]
  .exact h.aei (bq _)
  .cases i with
   |succ i=>simp at q
   |zero =>
    cases q;have t:=(lu.1 d).1;rw[ly]at t;have:=Lib.bytesWorld_cell w e s p t;simp only[Ty.n,Nat.mul_one,Mz,pF];rw[this];simp only[bytesOf,List.getElem?_map]at d;cases c:s.data.toList[p]? with
    |none=>rw[c]at d;cases d
    |some b =>
     rw[c]at d;cases d;simp[I6,c]
def N5 (h:Inv w0 G st a w)(g j:TypeId)(x:Operand)(t:o.op=.convert g j x){e:TypeId}(l:P.underlying g=some (.slice e))(m:P.underlying j=some .string)(n:P.underlying e=some (.int .u8))
  {xs:List Int} (z:bU st e (.int .u8) (st.ac x)=some xs) (B:st.pk o.dst (.v (.c (.str (strOf xs)))) k=some r):a8 P w0 w a o k r:=by
 have p:=gi (ok:=fun _=>True) h (h.ac x) z (fun _ _ _ _ _=>⟨fun _ _=>trivial,fun _ _ _=>trivial⟩) (fun _ _ _ _ _ _ _=>trivial);obtain⟨A,cap,q,I,L,s⟩:=p;have q:=(we q).1;have C:∀d,Below w.heap.size w d->(convert g j (a.eval x)).run P d=.ok (.string (strOf xs)) d:=by
  intro d f;rw[q];rcases Tc xs.length with y|y
  .have D:xs=[]:=Pn y;subst D;cases A with
   |none=>rw[run_convert_bytes_nil d g e l n _ _ j m];rfl
   |some M =>
    rw[run_convert_bytes_string d g j e _ _ _ l n m];simp[Conv.bytesToString,loadCells,loadCellsFrom,strOf];rfl
  .obtain⟨b,E,rfl,hlt,_,_,s⟩:=s (.inl (by omega));refine run_convert_bytes_arg d g e l n b E xs.length cap xs rfl (fun i F=>?_) j m;obtain⟨c,p,H⟩:=s i _ (tW F 0);have:=H 0 (.int .u8 (xs.getD i 0)) (by rw[show c=_ from p];rfl);rw[cell_of_heap (f.block b hlt)];simpa [Ty.n]using this
 refine cJ (u:=.string (strOf xs)) h (v:=.v (.c (.str (strOf xs)))) rfl B fun d f=>?_
 unfold execOp;rw[t];have f:Below w.heap.size w d:=by unfold Tl at f;rw[t]at f;exact f
 simp only[Sem.run_bind,C d f,Result.andThen_ok];rfl
end
end Go.Am
