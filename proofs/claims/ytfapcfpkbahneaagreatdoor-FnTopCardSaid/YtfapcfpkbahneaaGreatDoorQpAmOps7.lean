/- No condition. -/
import Derived.Test.YtfapcfpkbahneaaGreatDoorQpAmOps6
import Derived.Lib.ConvBytes
set_option linter.all false
namespace Go.Am
open Go.RowKit
section
variable {P:Program} {w0:fR} {w:World} {G:Gh} {st:St} {a:Act} {U:Type} {k:St->Option U} {r:U} {K:Act->World->Prop} {Q:Exit->Act->World->Prop} {o:Oper}
def avm:∀{t:Ty} {l:List AC} {x:t.D} {l':List AC},im st t (.none::l)=some (x,l')->t.n=0/\l'=.none::l
 |.int _,l,x,l',h=>by simp[im]at h
 |.bool,l,x,l',h=>by simp[im]at h
 |.str,l,x,l',h=>by simp[im]at h
 |.unit,l,x,l',h=>by simp only[im]at h;cases h;exact⟨rfl,rfl⟩
 |.pair a b,l,x,l',h=>by
  simp only[im]at h;split at h
  .rename_i y r1 h1;obtain⟨h2,rfl⟩:=avm h1;split at h
   .rename_i z r2 h3;obtain⟨h4,rfl⟩:=avm h3;cases h;exact⟨by simp[Ty.n,h2,h4],rfl⟩
   .cases h
  .cases h
 |.sl _ _,l,x,l',h=>by simp[im,dm]at h
def aNO {t:Ty}(hp:0<t.n){c:CV}{x:t.D}{l':List AC}(h:im st t c.cells=some (x,l')):c.kn=true:=by
 cases c with
 |agg l=>rfl
 |c y =>
  cases y with
  |none =>
   have:=(avm (l:=[]) h).1;omega
  |_=>rfl
def af1 (a:Act):List (Nat×Operand)->List Value
 |[]=>[]|(_,x)::l=>(a.eval x).cells.toList++af1 a l
def Vi (h:Inv w0 G st a w){t:Ty}(hp:0<t.n){ok:Nat->Prop}:∀(parts:List (Nat×Operand)) (i:Nat) (acc:Array Value) (xs:List t.D),
  (∀u c v ys,c∈c8 st parts->bS G w st.bx st.bl c v->dm st u c=some ys->∀e,Rd w ok (.sl e u) ys [v]) ->
  acc.size=(i+parts.length)*t.n->jy st t i parts=some xs ->
  ∃cs:List Value,Instr.fill (fun i=>some (i*t.n,t.n)) acc (parts.map fun (i,x)=>(i,a.eval x))=some (acc.toList.take (i*t.n)++cs).toArray/\cs.length=xs.length*t.n/\xs.length=parts.length/\fU w ok t cs xs/\cs=af1 a parts
 |[],i,acc,xs,hc,hs,hl=>by simp only[jy]at hl;cases hl;refine⟨[],?_,by simp,rfl,fun j x hj=>by simp at hj,rfl⟩;simp only[List.map_nil,Instr.fill,iz];have:acc.toList.take (i*t.n)=acc.toList:=amC (by simp[hs]);rw[this]
 |(j,x)::parts,i,acc,xs,hc,hs,hl=>by
  simp only[jy]at hl;split at hl
  .rename_i hij;have hij:=aP hij;subst hij;split at hl
   .rename_i y hy;split at hl
    .rename_i ys hys;cases hl;have hk:=aNO hp hy;have hcell:=(h.eZ x).cells hk;obtain⟨vs1,vs2,he,kz,hr2,_⟩:=OV (ok:=ok) (fun u c v zs hm=>hc u c v zs (by simp[c8,hm])) hcell hy;have hv2:vs2=[]:=by
      cases vs2 with
      |nil=>rfl|cons _ _=>exact hr2.elim
     subst hv2;rw[iz]at he;have hlen:=kz.len;rw[<-he]at hlen kz;have hsz:(a.eval x).cells.size=t.n:=by simpa using hlen
     have gO:(i+1)*t.n<=acc.size:=by rw[hs];exact Gs _ (by simp)
     rw[LP,Rl]at gO;obtain⟨cs,hf,hcl,hxl,FA,hpv⟩:=Vi h hp parts (i+1) ((a.eval x).cells.zipIdx.foldl (fun cs (c,j)=>cs.setIfInBounds (i*t.n+j) c) acc) ys (fun u c v zs hm=>hc u c v zs (by simp[c8,hm])) (by
      have:∀(l:List (Value×Nat)) (cs:Array Value),(l.foldl (fun cs (c,j)=>cs.setIfInBounds (i*t.n+j) c) cs).size=cs.size:=by
       intro l
       induction l with
       |nil=>intro cs;rfl|cons p l ih=>intro cs;rw[amL,ih,Array.size_setIfInBounds]
      rw[<-Array.foldl_toList,this,hs];simp[UX,Nat.add_comm 1]) hys
     refine⟨(a.eval x).cells.toList++cs,?_,?_,by simp[hxl],X3 (xs:=[y]) (by simpa using hlen) ?_ FA,by rw[hpv];rfl⟩
     .simp only[tW,Instr.fill];rw[ah (by simp[hsz];omega),hf]
      congr 2
      rw[<-Array.foldl_toList,Array.toList_zipIdx,Jx,Ri,aiC _ _ _ (by simp[hsz];omega)];have e1:(i+1)*t.n=(acc.toList.take (i*t.n)++(a.eval x).cells.toList).length:=by rw[LP,Rl];simp[hsz];omega
      simp only[Ri];rw[e1,afQ];simp
     .rw[aL,hcl,hlen];simp[LP,Nat.add_comm]
     .intro jj xx hj;cases jj with
      |zero =>
       cases hj;exact⟨_,kz,fun ii u hu=>by simpa using hu⟩
      |succ jj=>simp at hj
    .cases hl
   .cases hl
  .cases hl
def atl (w:World)(ob:Obj):w.grownBy (w.alloc ob) none:=⟨rfl,rfl,rfl,by simp,fun k hk _=>Below.heap_alloc _ _ _ hk⟩
def JB {t e:TypeId}{i:TypeInfo}{zv:Value}(hu:P.underlying t=some (.slice e))(hi:P.info? e=some i)(hz:i.zero=some zv){len:Nat}{parts:Array (Nat×Value)}{cells:Array Value}(h16:len*i.size<=16777216)
  (hf:Instr.fill (fun q=>some (q*i.size,i.size)) ((Array.range (len*i.size)).map (fun q=>(if len*i.size=0 then #[] else zv.cells)[q%(if len*i.size=0 then #[] else zv.cells).size]!)) parts.toList=some cells) :
  (Instr.buildSlice t len parts).run P w=.ok (.slice (some ⟨w.heap.size,0,none⟩) len len) (w.alloc (.cells cells e)):=by
 have aPR:¬2 ^ 24<len*i.size:=by omega
 by_cases h0:len*i.size=0
 .have e0:∀f:Nat->Value,(Array.range 0).map f=#[]:=fun f=>by simp[Array.range_zero']
  simp only[h0,iA,e0]at hf;simp[Instr.buildSlice,run_underlying hu,sizeOf,typeInfo,hi,h0,e0,hf,newRow]
 .simp only[h0,hZ]at hf;simp[Instr.buildSlice,run_underlying hu,sizeOf,typeInfo,hi,h0,aPR,zeroValue,hz,hf,newRow]
def ake (h:Inv w0 G st a w)(t:TypeId)(len:Nat)(parts:Array (Nat×Operand))(ho:o.op=.buildSlice t len parts){e:TypeId}(he:Ey P t=some e){u:Ty}
  {xs:List u.D} (hl:jy st u 0 parts.toList=some xs)
  (hc:(Nat.beq parts.toList.length len&&p7 st (c8 st parts.toList)&&(Nat.beq (P.cellsOf e) u.n&& !Nat.beq u.n 0&&Nat.ble (len*u.n) 16777216&&(uh P e).isSome))=true) :
  ∃cs:List Value,(execOp a.eval o).run P w=.ok (.value (.slice (some ⟨w.heap.size,0,none⟩) len len)) (w.alloc (.cells cs.toArray e)):=by
 simp only[aI]at hc;obtain⟨⟨h1,h2⟩,⟨⟨⟨h3,h4⟩,h5⟩,h6⟩⟩:=hc;have hu:P.underlying t=some (.slice e):=by
  unfold Ey at he;split at he
  .rename_i e' hu;cases he;exact hu
  .cases he
 have hlen:=aP h1;have hp:0<u.n:=UU (bO h4);obtain⟨i,hi,his⟩:=pM (aP h3) hp;have h16:=Fz h5;obtain⟨z,hz⟩:=mA.1 h6;obtain⟨i',zv,hi',hiz,_⟩:=jQ hz;rw[hi]at hi';cases hi';obtain⟨G',h',hx,hs,hsd⟩:=Inv.freeze (c8 st parts.toList) h;have OO:∀l,c8 (st.freeze (c8 st parts.toList)) l=c8 st l:=by
  intro l
  induction l with
  |nil=>rfl
  |cons p l ih =>
   obtain⟨j,x⟩:=p;have Rr:(st.freeze (c8 st parts.toList)).eZ x=st.eZ x:=by unfold St.eZ St.ev St.get;rw[hsd.tm]
   simp only[c8,ih,Rr]
 have hle:∀i l,jy (st.freeze (c8 st parts.toList)) u i l=jy st u i l:=by
  intro i l
  induction l generalizing i with
  |nil=>rfl
  |cons p l ih =>
   obtain⟨j,x⟩:=p;have Rr:(st.freeze (c8 st parts.toList)).eZ x=st.eZ x:=by unfold St.eZ St.ev St.get;rw[hsd.tm]
   simp only[jy,Rr,vd hsd,ih]
 have avh:((Array.range (len*u.n)).map (fun q=>(if len*u.n=0 then #[] else zv.cells)[q%(if len*u.n=0 then #[] else zv.cells).size]!)).size=(0+parts.toList.length)*u.n:=by simp[<-hlen]
 obtain⟨cs,hf,hcl,hxl,FA,_⟩:=Vi h' hp parts.toList 0 _ xs (by rw[OO];exact OX (bx:=st.bx) h' h2 fun h=>h) avh (by rw[hle];exact hl)
 simp only[amR,List.take_zero,Bk]at hf;refine⟨cs,?_⟩;unfold execOp;rw[ho];dsimp only;have:=JB (P:=P) (w:=w) hu hi hiz (len:=len) (parts:=parts.map fun (i,x)=>(i,a.eval x)) (cells:=cs.toArray) (by rw[his];omega) (by rw[his,acM];exact hf);simp only[Sem.run_bind,this,Result.andThen_ok];rfl
def af2 (h:Inv w0 G st a w)(t:TypeId)(len:Nat)(parts:Array (Nat×Operand))(ho:o.op=.buildSlice t len parts){d:Tmp}(Va:o.dst=some d){e:TypeId}(he:Ey P t=some e){u:Ty}
  {xs:List u.D} (hl:jy st u 0 parts.toList=some xs)
  (hc:(Nat.beq parts.toList.length len&&p7 st (c8 st parts.toList)&&(Nat.beq (P.cellsOf e) u.n&& !Nat.beq u.n 0&&Nat.ble (len*u.n) 16777216&&(uh P e).isSome))=true)
  (hr:(st.freeze (c8 st parts.toList)).row d ⟨e,u,xs,cZ (c8 st parts.toList),true⟩ k=some r) (hK:sg w0 k r K):o.wp P a w K Q:=by
 simp only[aI]at hc;obtain⟨⟨h1,h2⟩,⟨⟨⟨h3,h4⟩,h5⟩,h6⟩⟩:=hc;have hu:P.underlying t=some (.slice e):=by
  unfold Ey at he;split at he
  .rename_i e' hu;cases he;exact hu
  .cases he
 have hlen:=aP h1;have hp:0<u.n:=UU (bO h4);obtain⟨i,hi,his⟩:=pM (aP h3) hp;have h16:=Fz h5;obtain⟨z,hz⟩:=mA.1 h6;obtain⟨i',zv,hi',hiz,_⟩:=jQ hz;rw[hi]at hi';cases hi';obtain⟨G',h',hx,hs,hsd⟩:=Inv.freeze (c8 st parts.toList) h;have OO:∀l,c8 (st.freeze (c8 st parts.toList)) l=c8 st l:=by
  intro l
  induction l with
  |nil=>rfl
  |cons p l ih =>
   obtain⟨j,x⟩:=p;have Rr:(st.freeze (c8 st parts.toList)).eZ x=st.eZ x:=by unfold St.eZ St.ev St.get;rw[hsd.tm]
   simp only[c8,ih,Rr]
 have hle:∀i l,jy (st.freeze (c8 st parts.toList)) u i l=jy st u i l:=by
  intro i l
  induction l generalizing i with
  |nil=>rfl
  |cons p l ih =>
   obtain⟨j,x⟩:=p;have Rr:(st.freeze (c8 st parts.toList)).eZ x=st.eZ x:=by unfold St.eZ St.ev St.get;rw[hsd.tm]
   simp only[jy,Rr,vd hsd,ih]
 have avh:((Array.range (len*u.n)).map (fun q=>(if len*u.n=0 then #[] else zv.cells)[q%(if len*u.n=0 then #[] else zv.cells).size]!)).size=(0+parts.toList.length)*u.n:=by simp[<-hlen]
 obtain⟨cs,hf,hcl,hxl,FA,_⟩:=Vi h' hp parts.toList 0 _ xs (by rw[OO];exact OX (bx:=st.bx) h' h2 fun h=>h) avh (by rw[hle];exact hl)
 simp only[amR,List.take_zero,Bk]at hf;refine Jw (v:=.slice (some ⟨w.heap.size,0,none⟩) len len) (w':=w.alloc (.cells cs.toArray e)) ?_ ?_
 .unfold execOp;rw[ho];dsimp only;have:=JB (P:=P) (w:=w) hu hi hiz (len:=len) (parts:=parts.map fun (i,x)=>(i,a.eval x)) (cells:=cs.toArray) (by rw[his];omega) (by rw[his,acM];exact hf);simp only[Sem.run_bind,this,Result.andThen_ok];rfl
 .rw[Va];have EB:0<=w.heap.size:=aT _;refine OY h' none (atl w _) (fun g hg=>by cases hg) d ⟨e,u,xs,cZ (c8 st parts.toList),true⟩ rfl hp _ cs ?_ (fun g hg=>by simp[Value.ownBlock]at hg;omega) FA hr hK;have aNQ:xs.length=len:=by rw[hxl,hlen]
  have hmax:maxLen=9223372036854775807:=rfl;have hle:len<=len*u.n:=auO _ hp;refine⟨hcl,.inr ⟨w.heap.size,len,cs.toArray,by rw[aNQ],EB,heap_alloc_new w _,by show xs.length<=len;omega,by omega,by simp[hcl,aNQ],?_⟩⟩;rw[<-hcl];simp
def ac5 (v:Value):(∀id len,U2 v≠.own id len)/\(∀f e t xs,U2 v≠.ro f e t xs):=by unfold U2;split<;>simp
def Zg (v:Value):∀c∈(LQ v).cells,(∀id len,c≠.own id len)/\(∀f e t xs,c≠.ro f e t xs):=by
 intro c hc;unfold LQ at hc;split at hc
 .simp only[CV.cells,Jr]at hc;obtain⟨u,_,rfl⟩:=hc;exact ac5 u
 .simp only[CV.cells,hU]at hc;rw[hc];exact ac5 _
def akf (h:Inv w0 G st a w)(t:TypeId)(p q:Operand)(ho:o.op=.makeSlice t p q){d:Tmp}(Va:o.dst=some d){e:TypeId}(he:Ey P t=some e){n m:Int}(hp:st.ac p=.int .i64 n)(hq:st.ac q=.int .i64 m)
  {u:Ty} {z:CV} (hz:uh P e=some z) {x:u.D} (hx:im st u z.cells=some (x,[]))
  (hc:(z.kn&&(Nat.beq (P.cellsOf e) u.n&& !Nat.beq u.n 0&& !Nat.beq (P.bytesOf e) 0)&&decide (0<=n)&&n==m&&decide (n*(P.bytesOf e:Int)<=140737488355328))=true)
  (hr:st.row d ⟨e,u,List.replicate n.toNat x,true,true⟩ k=some r) (hK:sg w0 k r K):o.wp P a w K Q:=by
 simp only[aI,cA,bC]at hc;obtain⟨⟨⟨⟨h1,⟨h2,h3⟩,h7⟩,h4⟩,rfl⟩,h6⟩:=hc;have hu:P.underlying t=some (.slice e):=by
  unfold Ey at he;split at he
  .rename_i e' hu;cases he;exact hu
  .cases he
 have hpu:0<u.n:=UU (bO h3);obtain⟨i,zv,hi,hiz,rfl⟩:=jQ hz;obtain⟨hby,hsz⟩:=anh hi;have hcu:i.size=u.n:=by rw[<-hsz];exact aP h2
 have hpv:a.eval p=.int .i64 n:=by have:=h.ac p;rw[hp]at this;exact this
 have hqv:a.eval q=.int .i64 n:=by have:=h.ac q;rw[hq]at this;exact this
 have hzc:=(qY (G:=G) (w:=w) (bx:=st.bx) (bl:=st.bl) zv).cells h1;obtain⟨vs1,vs2,hzv,kz,hr2,_⟩:=OV (ok:=RO G true) (fun u' c v zs hm hrc hd=>by
  refine kL h hrc hd (fun id len b hcc=>?_) (fun f e u ys hcc=>?_)
  .exact absurd hcc ((Zg zv c hm).1 id len)
  .exact absurd hcc ((Zg zv c hm).2 f e u ys)) hzc hx
 have hv2:vs2=[]:=by
  cases vs2 with
  |nil=>rfl|cons _ _=>exact hr2.elim
 subst hv2;rw[iz]at hzv;rw[<-hzv]at kz;have hzs:zv.cells.size=u.n:=by simpa using kz.len
 rw[hby]at h6 h7;have hb:0<i.bytes:=UU (bO h7);have hlen:n<=140737488355328:=by have:n*1<=n*(i.bytes:Int):=Int.mul_le_mul_of_nonneg_left (by omega) h4;omega
 have hrun:=run_make (P:=P) w t e i zv hu hi hiz .i64 .i64 n n h4 (UY _) (by rw[Int.mul_comm];omega) (by omega);rw[hcu]at hrun;refine Jw (v:=.slice (some ⟨w.heap.size,0,none⟩) n.toNat n.toNat) (w':=w.alloc (.cells (madeCells zv.cells (n.toNat*u.n)) e)) ?_ ?_
 .unfold execOp;rw[ho];dsimp only;rw[hpv,hqv];simp only[Sem.run_bind,hrun,Result.andThen_ok];rfl
 .rw[Va];have EB:0<=w.heap.size:=aT _;have hmax:maxLen=9223372036854775807:=rfl;have hsz:(madeCells zv.cells (n.toNat*u.n)).size=n.toNat*u.n:=size_madeCells _ _;refine OY h none (atl w _) (fun g hg=>by cases hg) d ⟨e,u,List.replicate n.toNat x,true,true⟩ rfl hpu _ (madeCells zv.cells (n.toNat*u.n)).toList ?_ (fun g hg=>by simp[Value.ownBlock]at hg;omega) ?_ hr hK
  .refine⟨by simp[hsz],.inr ⟨w.heap.size,n.toNat,madeCells zv.cells (n.toNat*u.n),by simp,EB,heap_alloc_new w _,by simp,by omega,hsz,?_⟩⟩;rw[amC (by simp[hsz])]
  .intro j y hj;have hjl:j<n.toNat:=by have:=(xJ.1 hj).1;simpa using this
   have hy:y=x:=by simp[List.getElem?_replicate,hjl]at hj;exact hj.symm
   rw[hy];refine⟨zv.cells.toList,kz,fun ii v hv=>?_⟩;have hil:ii<u.n:=by have:=(xJ.1 hv).1;simpa [hzs]using this
   have hlt:j*u.n+ii<n.toNat*u.n:=by have:(j+1)*u.n<=n.toNat*u.n:=Gs _ (by omega);rw[LP,Rl]at this;omega
   have aJQ:(j*u.n+ii)%u.n=ii:=by rw[Nat.mul_comm,Nat.mul_add_mod];exact auV hil
   have hgz:zv.cells[ii]?=some v:=by simpa using hv
   simp[madeCells,hlt,hzs,aJQ,hil];rw[aAS (by omega)]at hgz;have h2:=fJ hgz;rw[<-h2]
def arK (w:World)(e:TypeId)(s:ByteArray):w.grownBy (Lib.bytesWorld w e s) none:=by exact⟨rfl,rfl,rfl,by rw[Lib.bytesWorld_size];omega,fun k hk _=>Lib.bytesWorld_at_old w e s k hk⟩
def arL (h:Inv w0 G st a w)(src dst:TypeId)(x:Operand)(ho:o.op=.convert src dst x){e:TypeId}(hs:P.underlying src=some .string)(hd:P.underlying dst=some (.slice e))(he:P.underlying e=some (.int .u8))
  {s:ByteArray} (hx:st.ac x=.str s) (hc:s.size<=140737488355328) (hr:st.pk o.dst (.v (.c (.ro true e (.int .u8) (bytesOf s)))) k=some r) (hK:sg w0 k r K):o.wp P a w K Q:=by
 have hv:a.eval x=.string s:=by have:=h.ac x;rw[hx]at this;exact this
 have hg:=arK w e s;obtain⟨h',hxt,hst⟩:=h.grow none hg (fun g hg=>by cases hg) [] G.hv (fun _=>none) (fun id hs=>by simp[look]at hs) (fun g id hn=>by cases hn) (fun id b hb=>by simp[look]at hb);have hge:=grownCap_ge w s.size 0 e;refine Jw (v:=.slice (some ⟨w.heap.size,0,none⟩) s.size (grownCap w s.size 0 e)) (w':=Lib.bytesWorld w e s) ?_ (CM h' (v:=.v (.c (.ro true e (.int .u8) (bytesOf s)))) ?_ hr hK)
 .unfold execOp;rw[ho];dsimp only;rw[hv];simp only[Sem.run_bind,Lib.run_convert_string_bytes w src dst e s hs hd he,Result.andThen_ok];rfl
 .refine⟨_,_,by rw[bytesOf_length],by rw[bytesOf_length];exact hge,by rw[bytesOf_length];omega,fun h0=>⟨w.heap.size,0,rfl,?_,⟨?_,.inl ?_⟩,fun j y hj=>⟨[.int .u8 y],rfl,fun i u hu=>?_⟩⟩⟩
  .have:=Lib.bytesWorld_cell w e s 0 (by rw[bytesOf_length]at h0;exact h0);exact World.block_lt_of_cell? _ _ this
  .have:G.own w.heap.size=none:=by
    cases ho:G.own w.heap.size with
    |none=>rfl|some k=>have:=(h.own _ _ ho).2.1;omega
   simp[Gh.grow,this]
  .exact h.axV (bZ _)
  .cases i with
   |succ i=>simp at hu
   |zero =>
    cases hu;have hjl:=(xJ.1 hj).1;rw[bytesOf_length]at hjl;have:=Lib.bytesWorld_cell w e s j hjl;simp only[Ty.n,Nat.mul_one,Ri,xK];rw[this];simp only[bytesOf,auU]at hj;cases hb:s.data.toList[j]? with
    |none=>rw[hb]at hj;cases hj
    |some b =>
     rw[hb]at hj;cases hj;simp[Gr,hb]
def abc (h:Inv w0 G st a w)(src dst:TypeId)(x:Operand)(ho:o.op=.convert src dst x){e:TypeId}(hs:P.underlying src=some (.slice e))(hd:P.underlying dst=some .string)(he:P.underlying e=some (.int .u8))
  {xs:List Int} (hx:dm st (.int .u8) (st.ac x)=some xs) (hr:st.pk o.dst (.v (.c (.str (strOf xs)))) k=some r):bP P w0 w a o k r:=by
 have kz:=kL (ok:=fun _=>True) h (h.ac x) hx (fun _ _ _ _ _=>⟨fun _ _=>trivial,fun _ _ _=>trivial⟩) (fun _ _ _ _ _ _ _=>trivial) 0;obtain⟨A,cap,hv,hc,h63,hcell⟩:=kz;have hv:=(uE hv).1;have JA:∀w1,Below w.heap.size w w1->(convert src dst (a.eval x)).run P w1=.ok (.string (strOf xs)) w1:=by
  intro w1 hB;rw[hv];rcases amD xs.length with h0|h0
  .have hxs:xs=[]:=Za h0;subst hxs;cases A with
   |none=>rw[run_convert_bytes_nil w1 src e hs he _ _ dst hd];rfl
   |some ad =>
    rw[run_convert_bytes_string w1 src dst e _ _ _ hs he hd];simp[Conv.bytesToString,loadCells,loadCellsFrom,strOf];rfl
  .obtain⟨b,o',rfl,hlt,_,hcell⟩:=hcell h0;refine run_convert_bytes_arg w1 src e hs he b o' xs.length cap xs rfl (fun i hi=>?_) dst hd;obtain⟨c,kz,hcc⟩:=hcell i _ (BG hi 0);have:=hcc 0 (.int .u8 (xs.getD i 0)) (by rw[show c=_ from kz];rfl);rw[cell_of_heap (hB.block b hlt)];simpa [Ty.n]using this
 refine en (u:=.string (strOf xs)) h (v:=.v (.c (.str (strOf xs)))) rfl hr fun w1 hB=>?_
 unfold execOp;rw[ho];have hB:Below w.heap.size w w1:=by unfold aiA at hB;rw[ho]at hB;exact hB
 simp only[Sem.run_bind,JA w1 hB,Result.andThen_ok];rfl
end
end Go.Am
