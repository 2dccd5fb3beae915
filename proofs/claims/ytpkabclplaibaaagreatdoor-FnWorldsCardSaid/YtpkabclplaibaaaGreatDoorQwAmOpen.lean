/- No condition. -/
import Derived.Test.YtpkabclplaibaaaGreatDoorQwAmUse
import Derived.ProofKit
set_option linter.all false
namespace Go.Am
open Go.RowKit Go.ChangeShapes
def aBU (P:Program)(f:TypeId->Option Ty):Nat->List Field->Option (List Ty×Nat)
 |off,[]=>some ([],off)|off,x::l=>match f x.type with
  |some u=>match Nat.beq x.offset off&&Nat.beq (P.cellsOf x.type) u.n with
   |true=>match aBU P f (off+u.n) l with
    |some (us,a)=>some (u::us,a)|none=>none
   |false=>none
  |none=>none
def agv (P:Program):Nat->TypeId->Option Ty
 |0,_=>none|n+1,t=>match P.underlying t with
  |some (.int k)=>some (.int k)|some .bool=>some .bool|some .string=>some .str|some (.slice e)=>match agv P n e with
   |some u=>match Nat.beq (P.cellsOf e) u.n&& !Nat.beq u.n 0&& !big u with|true=>some (.sl e u)|false=>none
   |none=>none
  |some (.struct a)=>match aBU P (agv P n) 0 a.toList with
   |some (us,b)=>match Nat.beq b (P.cellsOf t) with|true=>some (atf us)|false=>none
   |none=>none
  |_=>none
def Wf:(t:Ty)->t.D->Prop
 |.int k,x=>(Lit.int k x).wf=true|.bool,_=>True|.str,s=>s.size<=maxLen|.unit,_=>True|.pair a b,x=>Wf a x.1/\Wf b x.2|.sl _ t,xs=>xs.length<=maxLen/\∀x∈xs,Wf t x
section
variable [ei] {H:Type} {enc:TypeId×Value->H} {P:Program} {w:World} {aBV:Nat} {aBW:Nat->Bool} {aFQ:Bool}
def az7 {a:Addr}{v:Value}(h:w.cell? a=some v):a.spot=none:=by
 unfold World.cell? at h;split at h
 .split at h
  .cases h
  .rename_i b;cases c:a.spot with
   |none=>rfl|some x=>rw[c]at b;simp at b
 .cases h
def aFe {m:Nat}{f:TypeId->Option Ty}(d:∀t u,f t=some u->∀cs y,DataW.trod enc P w aBV aBW aFQ m t cs=some y->∃x:u.D,Rd w (fun _=>True) u x cs/\Wf u x)(cs:List Value) :
  ∀(l:List Field) (a:Nat) (us:List Ty) (o:Nat),aBU P f a l=some (us,o)->(∀x∈l,∃y,DataW.trod enc P w aBV aBW aFQ m x.type ((cs.drop x.offset).take (P.cellsOf x.type))=some y) ->
   a<=o/\∃x:(atf us).D,Rd w (fun _=>True) (atf us) x ((cs.drop a).take (o-a))/\Wf (atf us) x
 |[],a,us,o,h,_=>by simp only[aBU]at h;cases h;exact⟨bh _,(),by simp[Rd,atf],trivial⟩
 |x::l,a,us,o,h,e=>by
  simp only[aBU]at h;split at h
  .rename_i u n;split at h
   .rename_i b;rw[aE]at b;have p:=aK b.1;have q:=aK b.2;split at h
    .rename_i g E r;cases h;obtain⟨y,s⟩:=e x (by simp);obtain⟨v,c,i⟩:=d _ _ n _ _ s;rw[p,q]at c;obtain⟨F,z,j,A⟩:=aFe d cs l (a+u.n) g o r fun B C=>e B (by simp[C])
     refine⟨by omega,?_⟩;have k:(cs.drop a).take (o-a)=(cs.drop a).take u.n++(cs.drop (a+u.n)).take (o-(a+u.n)):=by
      have:o-a=u.n+(o-(a+u.n)):=by omega
      rw[this,List.take_add,List.drop_drop]
     cases g with
     |nil =>
      have D:(cs.drop (a+u.n)).take (o-(a+u.n))=[]:=j;rw[k,D,fD];exact⟨v,c,i⟩
     |cons G I =>
      rw[k];exact⟨(v,z),⟨_,_,rfl,c,j⟩,i,A⟩
    .cases h
   .cases h
  .cases h
def ZS (B:w.heap.size<=ei.n):∀(n:Nat) (t:TypeId) (u:Ty),agv P n t=some u->∀(X:Nat) (cs:List Value) (y:DataW H×List MemPlace),DataW.trod enc P w aBV aBW aFQ X t cs=some y->∃x:u.D,Rd w (fun _=>True) u x cs/\Wf u x
 |0,_,_,h=>by cases h
 |n+1,t,u,h=>by
  intro X cs y l;simp only[agv]at h;split at h
  .rename_i k j;cases h;obtain⟨x,rfl,_,r⟩:=DataW.trod_int j l;exact⟨x,rfl,r⟩
  .rename_i j;cases h;obtain⟨x,rfl,_⟩:=DataW.trod_bool j l;exact⟨x,rfl,trivial⟩
  .rename_i j;cases h;obtain⟨x,rfl,_,r⟩:=DataW.trod_string j l;exact⟨x,rfl,r⟩
  .rename_i e j;split at h
   .rename_i v Y;split at h
    .rename_i A;cases h;rw[aE,aE]at A;have Z:=aK A.1.1;have qn:=bu A.1.2;have O:big v=false:=by simpa using A.2
     rcases DataW.trod_slice j l with ⟨rfl,_⟩|⟨a,len,cap,aIo,rest,m,rfl,rfl,_,_,qd,qo,qp,C,_⟩
     .exact⟨[],⟨none,0,rfl,bh _,by simp,fun o=>Lv.nil o⟩,by simp,fun x D=>by simp at D⟩
     .have qq:maxLen=9223372036854775807:=rfl;have aH3:∀i,∃x:v.D,i<len->∃c,Rd w (fun _=>True) v x c/\Wf v x/\∀d q,c[d]?=some q->w.cell? ((a.add (i*v.n)).add d)=some q:=by
       intro i;by_cases p:i<len
       .have Q:=C i p;rw[nu (by omega)]at Q;obtain⟨c,s,qe⟩:=Option.bind_eq_some_iff.1 Q;obtain⟨x,qf,qg⟩:=ZS B n e v Y _ _ _ qe;refine⟨x,fun _=>⟨c,qf,qg,fun d q g=>?_⟩⟩;unfold World.cells? at s;split at s
        .have hlen:=mapM_some_length s;have qh:d<P.cellsOf e:=by have:=(oC.1 g).1;simpa [hlen]using this
         have:=mapM_some_get s d d (by rw[List.getElem?_range qh]);rw[Z]at this;rw[this,g]
        .cases s
       .exact⟨v.az,fun h=>absurd h p⟩
      obtain⟨f,z⟩:=Classical.axiomOfChoice aH3;have hlen:((List.range len).map f).length=len:=by simp
      have R:∀d x,((List.range len).map f)[d]?=some x->d<len/\x=f d:=by intro d x g;have hlt:=(oC.1 g).1;rw[hlen]at hlt;rw[List.getElem?_map,List.getElem?_range hlt]at g;exact⟨hlt,(eh g).symm⟩
      refine⟨(List.range len).map f,⟨some a,cap,by rw[hlen],by rw[hlen];exact qd,by rw[hlen];omega,fun o=>?_⟩,by rw[hlen];omega,fun x D=>?_⟩
      .rw[hlen]at o;have o:0<len:=o.elim (fun h=>h) fun h=>by rw[O]at h;cases h.1
       obtain⟨c,E,_,F⟩:=z 0 o;have qt:=E.len;obtain⟨q,qi⟩:∃q,c[0]?=some q:=⟨c[0],nu (by omega)⟩;have G:=F 0 q qi;have qj:(a.add (0*v.n)).add 0=a:=by simp[Addr.add]
       rw[qj]at G;have I:=az7 G;obtain⟨b,K,sp⟩:=a;have I:sp=none:=I;subst I;have S:=World.block_lt_of_cell? _ _ G;refine⟨b,K,rfl,S,trivial,fun hk=>?_,fun d x g=>?_⟩
       .rcases hk with hk|hk
        .exact absurd S (Nat.not_lt.2 (aU B hk))
        .rw[O]at hk;cases hk
       obtain⟨L,rfl⟩:=R d x g;obtain⟨c,E,_,F⟩:=z d L;refine⟨c,E,fun i q p=>?_⟩;have:=F i q p;rw[TK,TK,Tp]at this;exact this
      .obtain⟨d,g⟩:=List.getElem?_of_mem D;obtain⟨L,rfl⟩:=R d x g;obtain⟨c,_,r,_⟩:=z d L;exact r
    .cases h
   .cases h
  .rename_i M j;split at h
   .rename_i us K qk;split at h
    .rename_i N;cases h;have N:=aK N;obtain⟨xs,m,rfl,_,hlen,qu,C⟩:=DataW.trod_struct j l;obtain⟨_,x,T,ql⟩:=aFe (f:=agv P n) (fun t u qm cs y l=>ZS B n t u qm m cs y l) cs M.toList 0 us K qk fun f z=>by
      obtain⟨i,p⟩:=List.getElem?_of_mem z;have W:M[i]?=some f:=by simpa using p
      have:=C i f W;have hlt:i<M.size:=(sC.1 W).1;rw[nu (by omega)]at this;exact⟨_,this⟩
     refine⟨x,?_,ql⟩;rw[abe,Tu,N,<-hlen,l3]at T;exact T
    .cases h
   .cases h
  .cases h
end
end Go.Am
