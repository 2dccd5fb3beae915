/- No condition. -/
import Derived.Test.YtpkabclplaibaaaGreatDoorQhAmUse
import Derived.ProofKit
set_option linter.all false
namespace Go.Am
open Go.RowKit Go.ChangeShapes
def alZ (P:Program)(f:TypeId->Option Ty):Nat->List Field->Option (List Ty×Nat)
 |off,[]=>some ([],off)|off,x::l=>match f x.type with
  |some u=>match Nat.beq x.offset off&&Nat.beq (P.cellsOf x.type) u.n with
   |true=>match alZ P f (off+u.n) l with
    |some (us,a)=>some (u::us,a)|none=>none
   |false=>none
  |none=>none
def Tz (P:Program):Nat->TypeId->Option Ty
 |0,_=>none|n+1,t=>match P.underlying t with
  |some (.int k)=>some (.int k)|some .bool=>some .bool|some .string=>some .str|some (.slice e)=>match Tz P n e with
   |some u=>match Nat.beq (P.cellsOf e) u.n&& !Nat.beq u.n 0&& !big u with|true=>some (.sl e u)|false=>none
   |none=>none
  |some (.struct a)=>match alZ P (Tz P n) 0 a.toList with
   |some (us,b)=>match Nat.beq b (P.cellsOf t) with|true=>some (aed us)|false=>none
   |none=>none
  |_=>none
def Wf:(t:Ty)->t.D->Prop
 |.int k,x=>(Lit.int k x).wf=true|.bool,_=>True|.str,s=>s.size<=maxLen|.unit,_=>True|.pair a b,x=>Wf a x.1/\Wf b x.2|.sl _ t,xs=>xs.length<=maxLen/\∀x∈xs,Wf t x
section
variable [ds] {H:Type} {enc:TypeId×Value->H} {P:Program} {w:World} {al0:Nat} {al1:Nat->Bool} {apO:Bool}
def aku {a:Addr}{v:Value}(h:w.cell? a=some v):a.spot=none:=by
 unfold World.cell? at h;split at h
 .split at h
  .cases h
  .rename_i b;cases c:a.spot with
   |none=>rfl|some x=>rw[c]at b;simp at b
 .cases h
def ao7 {m:Nat}{f:TypeId->Option Ty}(d:∀t u,f t=some u->∀cs y,DataW.trod enc P w al0 al1 apO m t cs=some y->∃x:u.D,Rd w (fun _=>True) u x cs/\Wf u x)(cs:List Value) :
  ∀(l:List Field) (a:Nat) (us:List Ty) (o:Nat),alZ P f a l=some (us,o)->(∀x∈l,∃y,DataW.trod enc P w al0 al1 apO m x.type ((cs.drop x.offset).take (P.cellsOf x.type))=some y) ->
   a<=o/\∃x:(aed us).D,Rd w (fun _=>True) (aed us) x ((cs.drop a).take (o-a))/\Wf (aed us) x
 |[],a,us,o,h,_=>by simp only[alZ]at h;cases h;exact⟨bq _,(),by simp[Rd,aed],trivial⟩
 |x::l,a,us,o,h,e=>by
  simp only[alZ]at h;split at h
  .rename_i u n;split at h
   .rename_i b;rw[az]at b;have p:=aA b.1;have q:=aA b.2;split at h
    .rename_i g E r;cases h;obtain⟨y,s⟩:=e x (by simp);obtain⟨v,c,i⟩:=d _ _ n _ _ s;rw[p,q]at c;obtain⟨F,z,j,A⟩:=ao7 d cs l (a+u.n) g o r fun B C=>e B (by simp[C])
     refine⟨by omega,?_⟩;have k:(cs.drop a).take (o-a)=(cs.drop a).take u.n++(cs.drop (a+u.n)).take (o-(a+u.n)):=by
      have:o-a=u.n+(o-(a+u.n)):=by omega
      rw[this,List.take_add,List.drop_drop]
     cases g with
     |nil =>
      have D:(cs.drop (a+u.n)).take (o-(a+u.n))=[]:=j;rw[k,D,fo];exact⟨v,c,i⟩
     |cons G I =>
      rw[k];exact⟨(v,z),⟨_,_,rfl,c,j⟩,i,A⟩
    .cases h
   .cases h
  .cases h
def Oi (C:w.heap.size<=ds.n):∀(n:Nat) (t:TypeId) (u:Ty),Tz P n t=some u->∀(Y:Nat) (cs:List Value) (y:DataW H×List MemPlace),DataW.trod enc P w al0 al1 apO Y t cs=some y->∃x:u.D,Rd w (fun _=>True) u x cs/\Wf u x
 |0,_,_,h=>by cases h
 |n+1,t,u,h=>by
  intro Y cs y l;simp only[Tz]at h;split at h
  .rename_i k j;cases h;obtain⟨x,rfl,_,s⟩:=DataW.trod_int j l;exact⟨x,rfl,s⟩
  .rename_i j;cases h;obtain⟨x,rfl,_⟩:=DataW.trod_bool j l;exact⟨x,rfl,trivial⟩
  .rename_i j;cases h;obtain⟨x,rfl,_,s⟩:=DataW.trod_string j l;exact⟨x,rfl,s⟩
  .rename_i e j;split at h
   .rename_i v Z;split at h
    .rename_i B;cases h;rw[az,az]at B;have qa:=aA B.1.1;have qm:=ba B.1.2;have Q:big v=false:=by simpa using B.2
     rcases DataW.trod_slice j l with ⟨rfl,_⟩|⟨a,len,cap,asj,rest,m,rfl,rfl,_,_,qb,qn,qo,D,_⟩
     .exact⟨[],⟨none,0,rfl,bq _,by simp,fun o=>Lv.nil o⟩,by simp,fun x E=>by simp at E⟩
     .have qp:maxLen=9223372036854775807:=rfl;have arZ:∀i,∃x:v.D,i<len->∃c,Rd w (fun _=>True) v x c/\Wf v x/\∀d q,c[d]?=some q->w.cell? ((a.add (i*v.n)).add d)=some q:=by
       intro i;by_cases p:i<len
       .have R:=D i p;rw[kK (by omega)]at R;obtain⟨c,z,qd⟩:=Option.bind_eq_some_iff.1 R;obtain⟨x,qe,qf⟩:=Oi C n e v Z _ _ _ qd;refine⟨x,fun _=>⟨c,qe,qf,fun d q g=>?_⟩⟩;unfold World.cells? at z;split at z
        .have hlen:=mapM_some_length z;have qg:d<P.cellsOf e:=by have:=(lu.1 g).1;simpa [hlen]using this
         have:=mapM_some_get z d d (by rw[List.getElem?_range qg]);rw[qa]at this;rw[this,g]
        .cases z
       .exact⟨v.aI,fun h=>absurd h p⟩
      obtain⟨f,A⟩:=Classical.axiomOfChoice arZ;have hlen:((List.range len).map f).length=len:=by simp
      have S:∀d x,((List.range len).map f)[d]?=some x->d<len/\x=f d:=by intro d x g;have hlt:=(lu.1 g).1;rw[hlen]at hlt;rw[List.getElem?_map,List.getElem?_range hlt]at g;exact⟨hlt,(dI g).symm⟩
      refine⟨(List.range len).map f,⟨some a,cap,by rw[hlen],by rw[hlen];exact qb,by rw[hlen];omega,fun o=>?_⟩,by rw[hlen];omega,fun x E=>?_⟩
      .rw[hlen]at o;have o:0<len:=o.elim (fun h=>h) fun h=>by rw[Q]at h;cases h.1
       obtain⟨c,F,_,G⟩:=A 0 o;have qq:=F.len;obtain⟨q,qh⟩:∃q,c[0]?=some q:=⟨c[0],kK (by omega)⟩;have I:=G 0 q qh;have qi:(a.add (0*v.n)).add 0=a:=by simp[Addr.add]
       rw[qi]at I;have K:=aku I;obtain⟨b,L,sp⟩:=a;have K:sp=none:=K;subst K;have T:=World.block_lt_of_cell? _ _ I;refine⟨b,L,rfl,T,trivial,fun r=>?_,fun d x g=>?_⟩
       .rcases r with r|r
        .exact absurd T (Nat.not_lt.2 (aL C r))
        .rw[Q]at r;cases r
       obtain⟨M,rfl⟩:=S d x g;obtain⟨c,F,_,G⟩:=A d M;refine⟨c,F,fun i q p=>?_⟩;have:=G i q p;rw[Jm,Jm,I8]at this;exact this
      .obtain⟨d,g⟩:=List.getElem?_of_mem E;obtain⟨M,rfl⟩:=S d x g;obtain⟨c,_,s,_⟩:=A d M;exact s
    .cases h
   .cases h
  .rename_i N j;split at h
   .rename_i us L qj;split at h
    .rename_i O;cases h;have O:=aA O;obtain⟨xs,m,rfl,_,hlen,qt,D⟩:=DataW.trod_struct j l;obtain⟨_,x,W,qk⟩:=ao7 (f:=Tz P n) (fun t u ql cs y l=>Oi C n t u ql m cs y l) cs N.toList 0 us L qj fun f A=>by
      obtain⟨i,p⟩:=List.getElem?_of_mem A;have X:N[i]?=some f:=by simpa using p
      have:=D i f X;have hlt:i<N.size:=(nj.1 X).1;rw[kK (by omega)]at this;exact⟨_,this⟩
     refine⟨x,?_,qk⟩;rw[V3,Rv,O,<-hlen,gq]at W;exact W
    .cases h
   .cases h
  .cases h
end
end Go.Am
