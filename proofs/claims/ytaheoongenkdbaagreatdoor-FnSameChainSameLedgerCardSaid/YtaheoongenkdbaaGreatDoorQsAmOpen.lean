/- No condition. -/
import Derived.Test.YtaheoongenkdbaaGreatDoorQsAmUse
import Derived.ProofKit
set_option linter.all false
namespace Go.Am
open Go.RowKit Go.ChangeShapes
def aA9 (P:Program)(f:TypeId->Option Ty):Nat->List Field->Option (List Ty×Nat)
 |off,[]=>some ([],off)|off,x::l=>match f x.type with
  |some u=>match Nat.beq x.offset off&&Nat.beq (P.cellsOf x.type) u.n with
   |true=>match aA9 P f (off+u.n) l with
    |some (us,a)=>some (u::us,a)|none=>none
   |false=>none
  |none=>none
def afW (P:Program):Nat->TypeId->Option Ty
 |0,_=>none|n+1,t=>match P.underlying t with
  |some (.int k)=>some (.int k)|some .bool=>some .bool|some .string=>some .str|some (.slice e)=>match afW P n e with
   |some u=>match Nat.beq (P.cellsOf e) u.n&& !Nat.beq u.n 0 with|true=>some (.sl e u)|false=>none
   |none=>none
  |some (.struct a)=>match aA9 P (afW P n) 0 a.toList with
   |some (us,b)=>match Nat.beq b (P.cellsOf t) with|true=>some (ati us)|false=>none
   |none=>none
  |_=>none
def Wf:(t:Ty)->t.D->Prop
 |.int k,x=>(Lit.int k x).wf=true|.bool,_=>True|.str,s=>s.size<=maxLen|.unit,_=>True|.pair a b,x=>Wf a x.1/\Wf b x.2|.sl _ t,xs=>xs.length<=maxLen/\∀x∈xs,Wf t x
section
variable {H:Type} {enc:TypeId×Value->H} {P:Program} {w:World} {aBa:Nat} {aBb:Nat->Bool} {aEk:Bool}
def azD {a:Addr}{v:Value}(h:w.cell? a=some v):a.spot=none:=by
 unfold World.cell? at h;split at h
 .split at h
  .cases h
  .rename_i b;cases c:a.spot with
   |none=>rfl|some x=>rw[c]at b;simp at b
 .cases h
def aDV {m:Nat}{f:TypeId->Option Ty}(d:∀t u,f t=some u->∀cs y,DataW.trod enc P w aBa aBb aEk m t cs=some y->∃x:u.D,Rd w (fun _=>True) u x cs/\Wf u x)(cs:List Value) :
  ∀(l:List Field) (a:Nat) (us:List Ty) (o:Nat),aA9 P f a l=some (us,o)->(∀x∈l,∃y,DataW.trod enc P w aBa aBb aEk m x.type ((cs.drop x.offset).take (P.cellsOf x.type))=some y) ->
   a<=o/\∃x:(ati us).D,Rd w (fun _=>True) (ati us) x ((cs.drop a).take (o-a))/\Wf (ati us) x
 |[],a,us,o,h,_=>by simp only[aA9]at h;cases h;exact⟨bP _,(),by simp[Rd,ati],trivial⟩
 |x::l,a,us,o,h,e=>by
  simp only[aA9]at h;split at h
  .rename_i u n;split at h
   .rename_i b;rw[aD]at b;have p:=aI b.1;have q:=aI b.2;split at h
    .rename_i g E r;cases h;obtain⟨y,s⟩:=e x (by simp);obtain⟨v,c,i⟩:=d _ _ n _ _ s;rw[p,q]at c;obtain⟨F,z,j,A⟩:=aDV d cs l (a+u.n) g o r fun B C=>e B (by simp[C])
     refine⟨by omega,?_⟩;have k:(cs.drop a).take (o-a)=(cs.drop a).take u.n++(cs.drop (a+u.n)).take (o-(a+u.n)):=by
      have:o-a=u.n+(o-(a+u.n)):=by omega
      rw[this,List.take_add,List.drop_drop]
     cases g with
     |nil =>
      have D:(cs.drop (a+u.n)).take (o-(a+u.n))=[]:=j;rw[k,D,fS];exact⟨v,c,i⟩
     |cons G I =>
      rw[k];exact⟨(v,z),⟨_,_,rfl,c,j⟩,i,A⟩
    .cases h
   .cases h
  .cases h
def Y6:∀(n:Nat) (t:TypeId) (u:Ty),afW P n t=some u->∀(S:Nat) (cs:List Value) (y:DataW H×List MemPlace),DataW.trod enc P w aBa aBb aEk S t cs=some y->∃x:u.D,Rd w (fun _=>True) u x cs/\Wf u x
 |0,_,_,h=>by cases h
 |n+1,t,u,h=>by
  intro S cs y l;simp only[afW]at h;split at h
  .rename_i k j;cases h;obtain⟨x,rfl,_,p⟩:=DataW.trod_int j l;exact⟨x,rfl,p⟩
  .rename_i j;cases h;obtain⟨x,rfl,_⟩:=DataW.trod_bool j l;exact⟨x,rfl,trivial⟩
  .rename_i j;cases h;obtain⟨x,rfl,_,p⟩:=DataW.trod_string j l;exact⟨x,rfl,p⟩
  .rename_i e j;split at h
   .rename_i v T;split at h
    .rename_i A;cases h;rw[aD]at A;have W:=aI A.1;have qi:=bu A.2;rcases DataW.trod_slice j l with ⟨rfl,_⟩|⟨a,len,cap,aGr,rest,m,rfl,rfl,_,_,X,qj,qk,B,_⟩
     .exact⟨[],⟨none,0,rfl,bP _,by simp,fun z=>by simp at z⟩,by simp,fun x C=>by simp at C⟩
     .have ql:maxLen=9223372036854775807:=rfl;have aGd:∀i,∃x:v.D,i<len->∃c,Rd w (fun _=>True) v x c/\Wf v x/\∀d q,c[d]?=some q->w.cell? ((a.add (i*v.n)).add d)=some q:=by
       intro i;by_cases o:i<len
       .have N:=B i o;rw[lS (by omega)]at N;obtain⟨c,r,Y⟩:=Option.bind_eq_some_iff.1 N;obtain⟨x,Z,qa⟩:=Y6 n e v T _ _ _ Y;refine⟨x,fun _=>⟨c,Z,qa,fun d q g=>?_⟩⟩;unfold World.cells? at r;split at r
        .have hlen:=mapM_some_length r;have qb:d<P.cellsOf e:=by have:=(u9.1 g).1;simpa [hlen]using this
         have:=mapM_some_get r d d (by rw[List.getElem?_range qb]);rw[W]at this;rw[this,g]
        .cases r
       .exact⟨v.aq,fun h=>absurd h o⟩
      obtain⟨f,s⟩:=Classical.axiomOfChoice aGd;have hlen:((List.range len).map f).length=len:=by simp
      have O:∀d x,((List.range len).map f)[d]?=some x->d<len/\x=f d:=by intro d x g;have hlt:=(u9.1 g).1;rw[hlen]at hlt;rw[List.getElem?_map,List.getElem?_range hlt]at g;exact⟨hlt,(eO g).symm⟩
      refine⟨(List.range len).map f,⟨some a,cap,by rw[hlen],by rw[hlen];exact X,by rw[hlen];omega,fun z=>?_⟩,by rw[hlen];omega,fun x C=>?_⟩
      .rw[hlen]at z;obtain⟨c,D,_,E⟩:=s 0 z;have qm:=D.len;obtain⟨q,qd⟩:∃q,c[0]?=some q:=⟨c[0],lS (by omega)⟩;have F:=E 0 q qd;have qe:(a.add (0*v.n)).add 0=a:=by simp[Addr.add]
       rw[qe]at F;have G:=azD F;obtain⟨b,I,sp⟩:=a;have G:sp=none:=G;subst G;refine⟨b,I,rfl,World.block_lt_of_cell? _ _ F,trivial,fun d x g=>?_⟩;obtain⟨K,rfl⟩:=O d x g;obtain⟨c,D,_,E⟩:=s d K;refine⟨c,D,fun i q o=>?_⟩;have:=E i q o;rw[S3,S3,SP]at this;exact this
      .obtain⟨d,g⟩:=List.getElem?_of_mem C;obtain⟨K,rfl⟩:=O d x g;obtain⟨c,_,p,_⟩:=s d K;exact p
    .cases h
   .cases h
  .rename_i L j;split at h
   .rename_i us I qf;split at h
    .rename_i M;cases h;have M:=aI M;obtain⟨xs,m,rfl,_,hlen,qn,B⟩:=DataW.trod_struct j l;obtain⟨_,x,Q,qg⟩:=aDV (f:=afW P n) (fun t u qh cs y l=>Y6 n t u qh m cs y l) cs L.toList 0 us I qf fun f s=>by
      obtain⟨i,o⟩:=List.getElem?_of_mem s;have R:L[i]?=some f:=by simpa using o
      have:=B i f R;have hlt:i<L.size:=(vQ.1 R).1;rw[lS (by omega)]at this;exact⟨_,this⟩
     refine⟨x,?_,qg⟩;rw[aam,SR,M,<-hlen,mH]at Q;exact Q
    .cases h
   .cases h
  .cases h
end
end Go.Am
