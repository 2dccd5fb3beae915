/- No condition. -/
import Derived.Test.YtpkabclplaibaaaGreatDoorQwAmOps6
import Derived.Lib.ConvBytes
set_option linter.all false
namespace Go.Am
open Go.RowKit
variable [ei]
section
variable {P:Program} {w0:dY} {w:World} {G:Gh} {st:St} {a:Act} {U:Type} {k:St->Option U} {r:U} {K:Act->World->Prop} {Q:Exit->Act->World->Prop} {o:Oper}
def aq5:∀{t:Ty} {l:List AC} {x:t.D} {c:List AC},im st t (.none::l)=some (x,c)->t.n=0/\c=.none::l
 |.int _,l,x,c,h=>by simp[im]at h
 |.bool,l,x,c,h=>by simp[im]at h
 |.str,l,x,c,h=>by simp[im]at h
 |.unit,l,x,c,h=>by simp only[im]at h;cases h;exact⟨rfl,rfl⟩
 |.pair a b,l,x,c,h=>by
  simp only[im]at h;split at h
  .rename_i y i d;obtain⟨e,rfl⟩:=aq5 d;split at h
   .rename_i z j f;obtain⟨g,rfl⟩:=aq5 f;cases h;exact⟨by simp[Ty.n,e,g],rfl⟩
   .cases h
  .cases h
 |.sl _ _,l,x,c,h=>by simp[im,cn]at h
def aGV {t:Ty}(d:0<t.n){c:CV}{x:t.D}{b:List AC}(h:im st t c.cells=some (x,b)):c.kn=true:=by
 cases c with
 |agg l=>rfl
 |c y =>
  cases y with
  |none =>
   have:=(aq5 (l:=[]) h).1;omega
  |_=>rfl
def ad4 (a:Act):List (Nat×Operand)->List Value
 |[]=>[]|(_,x)::l=>(a.eval x).cells.toList++ad4 a l
def TN (h:Inv w0 G st a w){t:Ty}(D:0<t.n){ok:Nat->Prop}:∀(parts:List (Nat×Operand)) (i:Nat) (f:Array Value) (xs:List t.D),
  (∀e u c v j,c∈cb st parts->bo G w st.bx st.bl c v->cn st e u c=some j->Rd w ok (.sl e u) j [v]) ->
  f.size=(i+parts.length)*t.n->gX st t i parts=some xs ->
  ∃b:List Value,Instr.fill (fun i=>some (i*t.n,t.n)) f (parts.map fun (i,x)=>(i,a.eval x))=some (f.toList.take (i*t.n)++b).toArray/\b.length=xs.length*t.n/\xs.length=parts.length/\et w ok t b xs/\b=ad4 a parts
 |[],i,f,xs,q,m,d=>by simp only[gX]at d;cases d;refine⟨[],?_,by simp,rfl,fun g x n=>by simp at n,rfl⟩;simp only[List.map_nil,Instr.fill,fD];have:f.toList.take (i*t.n)=f.toList:=ao9 (by simp[m]);rw[this]
 |(g,x)::parts,i,f,xs,q,m,d=>by
  simp only[gX]at d;split at d
  .rename_i s;have s:=aK s;subst s;split at d
   .rename_i y E;split at d
    .rename_i j L;cases d;have M:=aGV D E;have N:=(h.dB x).cells M;obtain⟨qg,F,H,z,O,_⟩:=Oi (ok:=ok) (fun e u c v A B=>q e u c v A (by simp[cb,B])) N E;have R:F=[]:=by
      cases F with
      |nil=>rfl|cons _ _=>exact O.elim
     subst R;rw[fD]at H;have hlen:=z.len;rw[<-H]at hlen z;have C:(a.eval x).cells.size=t.n:=by simpa using hlen
     have S:(i+1)*t.n<=f.size:=by rw[m];exact Bb _ (by simp)
     rw[Jd,NJ]at S;obtain⟨b,T,W,X,Y,Z⟩:=TN h D parts (i+1) ((a.eval x).cells.zipIdx.foldl (fun b (c,g)=>b.setIfInBounds (i*t.n+g) c) f) j (fun e u c v A B=>q e u c v A (by simp[cb,B])) (by
      have:∀(l:List (Value×Nat)) (b:Array Value),(l.foldl (fun b (c,g)=>b.setIfInBounds (i*t.n+g) c) b).size=b.size:=by
       intro l
       induction l with
       |nil=>intro b;rfl|cons p l qd=>intro b;rw[List.foldl_cons,qd,Array.size_setIfInBounds]
      rw[<-Array.foldl_toList,this,m];simp[Tp,Nat.add_comm 1]) L
     refine⟨(a.eval x).cells.toList++b,?_,?_,by simp[X],WG (xs:=[y]) (by simpa using hlen) ?_ Y,by rw[Z];rfl⟩
     .simp only[sE,Instr.fill];rw[ag (by simp[C];omega),T]
      congr 2
      rw[<-Array.foldl_toList,Array.toList_zipIdx,Jk,XR,agk _ _ _ (by simp[C];omega)];have qe:(i+1)*t.n=(f.toList.take (i*t.n)++(a.eval x).cells.toList).length:=by rw[Jd,NJ];simp[C];omega
      simp only[XR];rw[qe,ajB];simp
     .rw[aN,W,hlen];simp[Jd,Nat.add_comm]
     .intro I qh n;cases I with
      |zero =>
       cases n;exact⟨_,z,fun ii u qf=>by simpa using qf⟩
      |succ I=>simp at n
    .cases d
   .cases d
  .cases d
def aph (w:World)(b:Obj):w.grownBy (w.alloc b) none:=⟨rfl,rfl,rfl,by simp,fun k c _=>Below.heap_alloc _ _ _ c⟩
def Jn {t e:TypeId}{i:TypeInfo}{d:Value}(g:P.underlying t=some (.slice e))(hi:P.info? e=some i)(j:i.zero=some d){len:Nat}{parts:Array (Nat×Value)}{cells:Array Value}(m:len*i.size<=16777216)
  (b:Instr.fill (fun q=>some (q*i.size,i.size)) ((Array.range (len*i.size)).map (fun q=>(if len*i.size=0 then #[] else d.cells)[q%(if len*i.size=0 then #[] else d.cells).size]!)) parts.toList=some cells) :
  (Instr.buildSlice t len parts).run P w=.ok (.slice (some ⟨w.heap.size,0,none⟩) len len) (w.alloc (.cells cells e)):=by
 have l:¬2 ^ 24<len*i.size:=by omega
 by_cases c:len*i.size=0
 .have h:∀f:Nat->Value,(Array.range 0).map f=#[]:=fun f=>by simp[Array.range_zero']
  simp only[c,gr,h]at b;simp[Instr.buildSlice,run_underlying g,sizeOf,typeInfo,hi,c,h,b,newRow]
 .simp only[c,fG]at b;simp[Instr.buildSlice,run_underlying g,sizeOf,typeInfo,hi,c,l,zeroValue,j,b,newRow]
def ahp (h:Inv w0 G st a w)(t:TypeId)(len:Nat)(parts:Array (Nat×Operand))(C:o.op=.buildSlice t len parts){e:TypeId}(b:EA P t=some e){u:Ty}
  {xs:List u.D} (D:gX st u 0 parts.toList=some xs)
  (j:(Nat.beq parts.toList.length len&&oj st (cb st parts.toList)&&(Nat.beq (P.cellsOf e) u.n&& !Nat.beq u.n 0&&Nat.ble (len*u.n) 16777216&&(sO P e).isSome))=true) :
  ∃cs:List Value,(execOp a.eval o).run P w=.ok (.value (.slice (some ⟨w.heap.size,0,none⟩) len len)) (w.alloc (.cells cs.toArray e)):=by
 simp only[aE]at j;obtain⟨⟨E,F⟩,⟨⟨⟨H,I⟩,L⟩,M⟩⟩:=j;have c:P.underlying t=some (.slice e):=by
  unfold EA at b;split at b
  .rename_i X c;cases b;exact c
  .cases b
 have hlen:=aK E;have m:0<u.n:=To (bu I);obtain⟨i,n,s⟩:=n0 (aK H) m;have Y:=BQ L;obtain⟨z,N⟩:=fC.1 M;obtain⟨Z,v,y,O,_⟩:=hN N;rw[n]at y;cases y;obtain⟨qd,A,qe,qf,d⟩:=Inv.freeze (cb st parts.toList) h;have R:∀l,cb (st.freeze (cb st parts.toList)) l=cb st l:=by
  intro l
  induction l with
  |nil=>rfl
  |cons p l f =>
   obtain⟨S,x⟩:=p;have g:(st.freeze (cb st parts.toList)).dB x=st.dB x:=by unfold St.dB St.ev St.get;rw[d.tm]
   simp only[cb,f,g]
 have T:∀i l,gX (st.freeze (cb st parts.toList)) u i l=gX st u i l:=by
  intro i l
  induction l generalizing i with
  |nil=>rfl
  |cons p l f =>
   obtain⟨S,x⟩:=p;have g:(st.freeze (cb st parts.toList)).dB x=st.dB x:=by unfold St.dB St.ev St.get;rw[d.tm]
   simp only[gX,g,tG d,f]
 have W:((Array.range (len*u.n)).map (fun q=>(if len*u.n=0 then #[] else v.cells)[q%(if len*u.n=0 then #[] else v.cells).size]!)).size=(0+parts.toList.length)*u.n:=by simp[<-hlen]
 obtain⟨cs,B,qg,qh,qi,_⟩:=TN A m parts.toList 0 _ xs (by rw[R];exact Ok (bx:=st.bx) A F fun h=>h) W (by rw[T];exact D)
 simp only[ajD,List.take_zero,s4]at B;refine⟨cs,?_⟩;unfold execOp;rw[C];dsimp only;have:=Jn (P:=P) (w:=w) c n O (len:=len) (parts:=parts.map fun (i,x)=>(i,a.eval x)) (cells:=cs.toArray) (by rw[s];omega) (by rw[s,agb];exact B);simp only[Sem.run_bind,this,Result.andThen_ok];rfl
def ad5 (h:Inv w0 G st a w)(t:TypeId)(len:Nat)(parts:Array (Nat×Operand))(M:o.op=.buildSlice t len parts){d:Tmp}(N:o.dst=some d){e:TypeId}(b:EA P t=some e){u:Ty}
  {xs:List u.D} (O:gX st u 0 parts.toList=some xs)
  (B:(Nat.beq parts.toList.length len&&oj st (cb st parts.toList)&&(Nat.beq (P.cellsOf e) u.n&& !Nat.beq u.n 0&&Nat.ble (len*u.n) 16777216&&(sO P e).isSome))=true)
  (R:(st.freeze (cb st parts.toList)).row d ⟨e,u,xs,b5 (cb st parts.toList),true⟩ k=some r) (S:q9 w0 k r K):o.wp P a w K Q:=by
 simp only[aE]at B;obtain⟨⟨T,W⟩,⟨⟨⟨X,Y⟩,Z⟩,qd⟩⟩:=B;have f:P.underlying t=some (.slice e):=by
  unfold EA at b;split at b
  .rename_i qm f;cases b;exact f
  .cases b
 have hlen:=aK T;have c:0<u.n:=To (bu Y);obtain⟨i,C,D⟩:=n0 (aK X) c;have qn:=BQ Z;obtain⟨z,qe⟩:=fC.1 qd;obtain⟨qo,E,F,qf,_⟩:=hN qe;rw[C]at F;cases F;obtain⟨qp,j,qq,qt,m⟩:=Inv.freeze (cb st parts.toList) h;have qg:∀l,cb (st.freeze (cb st parts.toList)) l=cb st l:=by
  intro l
  induction l with
  |nil=>rfl
  |cons p l n =>
   obtain⟨qh,x⟩:=p;have s:(st.freeze (cb st parts.toList)).dB x=st.dB x:=by unfold St.dB St.ev St.get;rw[m.tm]
   simp only[cb,n,s]
 have H:∀i l,gX (st.freeze (cb st parts.toList)) u i l=gX st u i l:=by
  intro i l
  induction l generalizing i with
  |nil=>rfl
  |cons p l n =>
   obtain⟨qh,x⟩:=p;have s:(st.freeze (cb st parts.toList)).dB x=st.dB x:=by unfold St.dB St.ev St.get;rw[m.tm]
   simp only[gX,s,tG m,n]
 have qi:((Array.range (len*u.n)).map (fun q=>(if len*u.n=0 then #[] else E.cells)[q%(if len*u.n=0 then #[] else E.cells).size]!)).size=(0+parts.toList.length)*u.n:=by simp[<-hlen]
 obtain⟨cs,I,y,qj,qk,_⟩:=TN j c parts.toList 0 _ xs (by rw[qg];exact Ok (bx:=st.bx) j W fun h=>h) qi (by rw[H];exact O)
 simp only[ajD,List.take_zero,s4]at I;refine Jj (v:=.slice (some ⟨w.heap.size,0,none⟩) len len) (w':=w.alloc (.cells cs.toArray e)) ?_ ?_
 .unfold execOp;rw[M];dsimp only;have:=Jn (P:=P) (w:=w) f C qf (len:=len) (parts:=parts.map fun (i,x)=>(i,a.eval x)) (cells:=cs.toArray) (by rw[D];omega) (by rw[D,agb];exact I);simp only[Sem.run_bind,this,Result.andThen_ok];rfl
 .rw[N];have ql:0<=w.heap.size:=a7 _;refine Ol j none (aph w _) (fun g A=>by cases A) d ⟨e,u,xs,b5 (cb st parts.toList),true⟩ rfl c _ cs ?_ (fun g A=>by simp[Value.ownBlock]at A;omega) qk R S;have L:xs.length=len:=by rw[qj,hlen]
  have qu:maxLen=9223372036854775807:=rfl;have H:len<=len*u.n:=aqz _ c;refine⟨y,.inr ⟨w.heap.size,len,cs.toArray,by rw[L],ql,heap_alloc_new w _,by show xs.length<=len;omega,by omega,by simp[y,L],?_⟩⟩;rw[<-y];simp
def abw (v:Value):(∀id len,Tw v≠.own id len)/\(∀f e t xs,Tw v≠.ro f e t xs):=by unfold Tw;split<;>simp
def XS (v:Value):∀c∈(Lw v).cells,(∀id len,c≠.own id len)/\(∀f e t xs,c≠.ro f e t xs):=by
 intro c b;unfold Lw at b;split at b
 .simp only[CV.cells,Ey]at b;obtain⟨u,_,rfl⟩:=b;exact abw u
 .simp only[CV.cells,fj]at b;rw[b];exact abw _
def ahq (h:Inv w0 G st a w)(t:TypeId)(p q:Operand)(qd:o.op=.makeSlice t p q){d:Tmp}(qe:o.dst=some d){e:TypeId}(s:EA P t=some e){n m:Int}(qf:st.ac p=.int .i64 n)(qg:st.ac q=.int .i64 m)
  {u:Ty} {z:CV} (qh:sO P e=some z) {x:u.D} (qi:im st u z.cells=some (x,[]))
  (I:(z.kn&&(Nat.beq (P.cellsOf e) u.n&& !Nat.beq u.n 0&& !Nat.beq (P.bytesOf e) 0)&&decide (0<=n)&&n==m&&decide (n*(P.bytesOf e:Int)<=140737488355328))=true)
  (qj:st.row d ⟨e,u,List.replicate n.toNat x,true,true⟩ k=some r) (qk:q9 w0 k r K):o.wp P a w K Q:=by
 simp only[aE,bM,cj]at I;obtain⟨⟨⟨⟨ql,⟨B,qm⟩,L⟩,M⟩,rfl⟩,qn⟩:=I;have C:P.underlying t=some (.slice e):=by
  unfold EA at s;split at s
  .rename_i qo C;cases s;exact C
  .cases s
 have qp:0<u.n:=To (bu qm);obtain⟨i,j,N,qq,rfl⟩:=hN qh;obtain⟨qt,l⟩:=abv N;have qu:i.size=u.n:=by rw[<-l];exact aK B
 have qv:a.eval p=.int .i64 n:=by have:=h.ac p;rw[qf]at this;exact this
 have qw:a.eval q=.int .i64 n:=by have:=h.ac q;rw[qg]at this;exact this
 have qx:=(py (G:=G) (w:=w) (bx:=st.bx) (bl:=st.bl) j).cells ql;obtain⟨qH,O,R,D,qy,_⟩:=Oi (ok:=RO G true) (fun qo qI c v qK S qz qA=>by
  refine jv h qz qA (fun id len b E=>?_) (fun f e u qB E=>?_)
  .exact absurd E ((XS j c S).1 id len)
  .exact absurd E ((XS j c S).2 f e u qB)) qx qi
 have qC:O=[]:=by
  cases O with
  |nil=>rfl|cons _ _=>exact qy.elim
 subst qC;rw[fD]at R;rw[<-R]at D;have T:j.cells.size=u.n:=by simpa using D.len
 rw[qt]at qn L;have qL:0<i.bytes:=To (bu L);have hlen:n<=140737488355328:=by have:n*1<=n*(i.bytes:Int):=Int.mul_le_mul_of_nonneg_left (by omega) M;omega
 have W:=run_make (P:=P) w t e i j C N qq .i64 .i64 n n M (Gr _) (by rw[Int.mul_comm];omega) (by omega);rw[qu]at W;refine Jj (v:=.slice (some ⟨w.heap.size,0,none⟩) n.toNat n.toNat) (w':=w.alloc (.cells (madeCells j.cells (n.toNat*u.n)) e)) ?_ ?_
 .unfold execOp;rw[qd];dsimp only;rw[qv,qw];simp only[Sem.run_bind,W,Result.andThen_ok];rfl
 .rw[qe];have qD:0<=w.heap.size:=a7 _;have qM:maxLen=9223372036854775807:=rfl;have l:(madeCells j.cells (n.toNat*u.n)).size=n.toNat*u.n:=size_madeCells _ _;refine Ol h none (aph w _) (fun g F=>by cases F) d ⟨e,u,List.replicate n.toNat x,true,true⟩ rfl qp _ (madeCells j.cells (n.toNat*u.n)).toList ?_ (fun g F=>by simp[Value.ownBlock]at F;omega) ?_ qj qk
  .refine⟨by simp[l],.inr ⟨w.heap.size,n.toNat,madeCells j.cells (n.toNat*u.n),by simp,qD,heap_alloc_new w _,by simp,by omega,l,?_⟩⟩;rw[ao9 (by simp[l])]
  .intro A y H;have qE:A<n.toNat:=by have:=(oC.1 H).1;simpa using this
   have qF:y=x:=by simp[List.getElem?_replicate,qE]at H;exact H.symm
   rw[qF];refine⟨j.cells.toList,D,fun ii v X=>?_⟩;have Y:ii<u.n:=by have:=(oC.1 X).1;simpa [T]using this
   have hlt:A*u.n+ii<n.toNat*u.n:=by have:(A+1)*u.n<=n.toNat*u.n:=Bb _ (by omega);rw[Jd,NJ]at this;omega
   have qG:(A*u.n+ii)%u.n=ii:=by rw[Nat.mul_comm,Nat.mul_add_mod];exact aqG Y
   have Z:j.cells[ii]?=some v:=by simpa using X
   simp[madeCells,hlt,T,qG,Y];rw[avY (by omega)]at Z;have B:=eh Z;rw[<-B]
def anR (w:World)(e:TypeId)(s:ByteArray):w.grownBy (Lib.bytesWorld w e s) none:=by exact⟨rfl,rfl,rfl,by rw[Lib.bytesWorld_size];omega,fun k b _=>Lib.bytesWorld_at_old w e s k b⟩
def anS (h:Inv w0 G st a w)(m n:TypeId)(x:Operand)(f:o.op=.convert m n x){e:TypeId}(j:P.underlying m=some .string)(z:P.underlying n=some (.slice e))(A:P.underlying e=some (.int .u8))
  {s:ByteArray} (B:st.ac x=.str s) (L:s.size<=140737488355328) (C:st.pk o.dst (.v (.c (.ro true e (.int .u8) (bytesOf s)))) k=some r) (D:q9 w0 k r K):o.wp P a w K Q:=by
 have E:a.eval x=.string s:=by have:=h.ac x;rw[B]at this;exact this
 have l:=anR w e s;obtain⟨F,M,N⟩:=h.grow none l (fun g l=>by cases l) [] G.hv (fun _=>none) (fun id j=>by simp[look]at j) (fun g id H=>by cases H) (fun id b c=>by simp[look]at c);have I:=grownCap_ge w s.size 0 e;refine Jj (v:=.slice (some ⟨w.heap.size,0,none⟩) s.size (grownCap w s.size 0 e)) (w':=Lib.bytesWorld w e s) ?_ (wW F (v:=.v (.c (.ro true e (.int .u8) (bytesOf s)))) ?_ C D)
 .unfold execOp;rw[f];dsimp only;rw[E];simp only[Sem.run_bind,Lib.run_convert_string_bytes w m n e s j z A,Result.andThen_ok];rfl
 .refine⟨_,_,by rw[pz],by rw[pz];exact I,by rw[pz];omega,fun O=>⟨w.heap.size,0,rfl,by rw[Lib.bytesWorld_size];omega,⟨?_,.inl ?_⟩,fun _=>⟨h.aHF,_,_,Lib.bytesWorld_at_new w e s,fun c=>by simp[big,Ty.n]at c⟩,fun p y d=>⟨[.int .u8 y],rfl,fun i u q=>?_⟩⟩⟩
  .have:G.own w.heap.size=none:=by
    cases f:G.own w.heap.size with
    |none=>rfl|some k=>have:=(h.own _ _ f).2.1;omega
   simp[Gh.grow,this]
  .exact h.atk (bh _)
  .cases i with
   |succ i=>simp at q
   |zero =>
    cases q;have t:=(oC.1 d).1;rw[pz]at t;have:=Lib.bytesWorld_cell w e s p t;simp only[Ty.n,Nat.mul_one,XR,vS];rw[this];simp only[bytesOf,List.getElem?_map]at d;cases c:s.data.toList[p]? with
    |none=>rw[c]at d;cases d
    |some b =>
     rw[c]at d;cases d;simp[Od,c]
def ZF (h:Inv w0 G st a w)(g j:TypeId)(x:Operand)(t:o.op=.convert g j x){e:TypeId}(l:P.underlying g=some (.slice e))(m:P.underlying j=some .string)(n:P.underlying e=some (.int .u8))
  {xs:List Int} (z:cn st e (.int .u8) (st.ac x)=some xs) (B:st.pk o.dst (.v (.c (.str (strOf xs)))) k=some r):bp P w0 w a o k r:=by
 have p:=jv (ok:=fun _=>True) h (h.ac x) z (fun _ _ _ _ _=>⟨fun _ _=>trivial,fun _ _ _=>trivial⟩) (fun _ _ _ _ _ _ _=>trivial);obtain⟨A,cap,q,I,L,s⟩:=p;have q:=(sD q).1;have C:∀d,Below w.heap.size w d->(convert g j (a.eval x)).run P d=.ok (.string (strOf xs)) d:=by
  intro d f;rw[q];rcases aga xs.length with y|y
  .have D:xs=[]:=XO y;subst D;cases A with
   |none=>rw[run_convert_bytes_nil d g e l n _ _ j m];rfl
   |some M =>
    rw[run_convert_bytes_string d g j e _ _ _ l n m];simp[Conv.bytesToString,loadCells,loadCellsFrom,strOf];rfl
  .obtain⟨b,E,rfl,hlt,_,_,s⟩:=s (.inl (by omega));refine run_convert_bytes_arg d g e l n b E xs.length cap xs rfl (fun i F=>?_) j m;obtain⟨c,p,H⟩:=s i _ (BS F 0);have:=H 0 (.int .u8 (xs.getD i 0)) (by rw[show c=_ from p];rfl);rw[cell_of_heap (f.block b hlt)];simpa [Ty.n]using this
 refine c2 (u:=.string (strOf xs)) h (v:=.v (.c (.str (strOf xs)))) rfl B fun d f=>?_
 unfold execOp;rw[t];have f:Below w.heap.size w d:=by unfold agi at f;rw[t]at f;exact f
 simp only[Sem.run_bind,C d f,Result.andThen_ok];rfl
end
end Go.Am
