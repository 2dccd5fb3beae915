/- No condition. -/
import Derived.Test.YtfapcfpkbahneaaGreatDoorQpAmUse
import Derived.ProofKit
set_option linter.all false
namespace Go.Am
open Go.RowKit Go.ChangeShapes
def aHF (P:Program)(f:TypeId->Option Ty):Nat->List Field->Option (List Ty×Nat)
 |off,[]=>some ([],off)|off,x::l=>match f x.type with
  |some u=>match Nat.beq x.offset off&&Nat.beq (P.cellsOf x.type) u.n with
   |true=>match aHF P f (off+u.n) l with
    |some (us,o)=>some (u::us,o)|none=>none
   |false=>none
  |none=>none
def aiS (P:Program):Nat->TypeId->Option Ty
 |0,_=>none|n+1,t=>match P.underlying t with
  |some (.int k)=>some (.int k)|some .bool=>some .bool|some .string=>some .str|some (.slice e)=>match aiS P n e with
   |some u=>match Nat.beq (P.cellsOf e) u.n&& !Nat.beq u.n 0 with|true=>some (.sl e u)|false=>none
   |none=>none
  |some (.struct fs)=>match aHF P (aiS P n) 0 fs.toList with
   |some (us,o)=>match Nat.beq o (P.cellsOf t) with|true=>some (axR us)|false=>none
   |none=>none
  |_=>none
def Wf:(t:Ty)->t.D->Prop
 |.int k,x=>(Lit.int k x).wf=true|.bool,_=>True|.str,s=>s.size<=maxLen|.unit,_=>True|.pair a b,x=>Wf a x.1/\Wf b x.2|.sl _ t,xs=>xs.length<=maxLen/\∀x∈xs,Wf t x
section
variable {H:Type} {enc:TypeId×Value->H} {P:Program} {w:World} {LJ:Nat} {aHG:Nat->Bool} {avN:Bool}
def aFp {a:Addr}{v:Value}(h:w.cell? a=some v):a.spot=none:=by
 unfold World.cell? at h;split at h
 .split at h
  .cases h
  .rename_i hs;cases Vr:a.spot with
   |none=>rfl|some x=>rw[Vr]at hs;simp at hs
 .cases h
def aLw {akh:Nat}{f:TypeId->Option Ty}(ih:∀t u,f t=some u->∀cs y,DataW.trod enc P w LJ aHG avN akh t cs=some y->∃x:u.D,Rd w (fun _=>True) u x cs/\Wf u x)(cs:List Value) :
  ∀(l:List Field) (off:Nat) (us:List Ty) (o:Nat),aHF P f off l=some (us,o)->(∀x∈l,∃y,DataW.trod enc P w LJ aHG avN akh x.type ((cs.drop x.offset).take (P.cellsOf x.type))=some y) ->
   off<=o/\∃x:(axR us).D,Rd w (fun _=>True) (axR us) x ((cs.drop off).take (o-off))/\Wf (axR us) x
 |[],off,us,o,h,_=>by simp only[aHF]at h;cases h;exact⟨bZ _,(),by simp[Rd,axR],trivial⟩
 |x::l,off,us,o,h,hy=>by
  simp only[aHF]at h;split at h
  .rename_i u hu;split at h
   .rename_i hc;rw[aI]at hc;have h1:=aP hc.1;have h2:=aP hc.2;split at h
    .rename_i us' o' hl;cases h;obtain⟨y,hy1⟩:=hy x (by simp);obtain⟨v,hv1,hv2⟩:=ih _ _ hu _ _ hy1;rw[h1,h2]at hv1;obtain⟨hle,z,hz1,hz2⟩:=aLw ih cs l (off+u.n) us' o hl fun x' hx'=>hy x' (by simp[hx'])
     refine⟨by omega,?_⟩;have aOv:(cs.drop off).take (o-off)=(cs.drop off).take u.n++(cs.drop (off+u.n)).take (o-(off+u.n)):=by
      have:o-off=u.n+(o-(off+u.n)):=by omega
      rw[this,List.take_add,amN]
     cases us' with
     |nil =>
      have hz:(cs.drop (off+u.n)).take (o-(off+u.n))=[]:=hz1;rw[aOv,hz,iz];exact⟨v,hv1,hv2⟩
     |cons u' aS1 =>
      rw[aOv];exact⟨(v,z),⟨_,_,rfl,hv1,hz1⟩,hv2,hz2⟩
    .cases h
   .cases h
  .cases h
def abo:∀(n:Nat) (t:TypeId) (u:Ty),aiS P n t=some u->∀(akh:Nat) (cs:List Value) (y:DataW H×List MemPlace),DataW.trod enc P w LJ aHG avN akh t cs=some y->∃x:u.D,Rd w (fun _=>True) u x cs/\Wf u x
 |0,_,_,h=>by cases h
 |n+1,t,u,h=>by
  intro akh cs y hy;simp only[aiS]at h;split at h
  .rename_i k hu;cases h;obtain⟨x,rfl,_,hw⟩:=DataW.trod_int hu hy;exact⟨x,rfl,hw⟩
  .rename_i hu;cases h;obtain⟨x,rfl,_⟩:=DataW.trod_bool hu hy;exact⟨x,rfl,trivial⟩
  .rename_i hu;cases h;obtain⟨x,rfl,_,hw⟩:=DataW.trod_string hu hy;exact⟨x,rfl,hw⟩
  .rename_i e hu;split at h
   .rename_i v hv;split at h
    .rename_i hc;cases h;rw[aI]at hc;have hn:=aP hc.1;have hp:=bO hc.2;rcases DataW.trod_slice hu hy with ⟨rfl,_⟩|⟨a,len,cap,aRL,rest,m,rfl,rfl,_,_,OO,hcap,hel,ax1,_⟩
     .exact⟨[],⟨none,0,rfl,bZ _,by simp,fun h0=>by simp at h0⟩,by simp,fun x hx=>by simp at hx⟩
     .have hmax:maxLen=9223372036854775807:=rfl;have aQC:∀i,∃x:v.D,i<len->∃c,Rd w (fun _=>True) v x c/\Wf v x/\∀j q,c[j]?=some q->w.cell? ((a.add (i*v.n)).add j)=some q:=by
       intro i;by_cases hi:i<len
       .have hg:=ax1 i hi;rw[pc (by omega)]at hg;obtain⟨c,hc1,hc2⟩:=Option.bind_eq_some_iff.1 hg;obtain⟨x,hx1,hx2⟩:=abo n e v hv _ _ _ hc2;refine⟨x,fun _=>⟨c,hx1,hx2,fun j q hj=>?_⟩⟩;unfold World.cells? at hc1;split at hc1
        .have hlen:=mapM_some_length hc1;have hj':j<P.cellsOf e:=by have:=(xJ.1 hj).1;simpa [hlen]using this
         have:=mapM_some_get hc1 j j (by rw[List.getElem?_range hj']);rw[hn]at this;rw[this,hj]
        .cases hc1
       .exact⟨v.aG,fun h=>absurd h hi⟩
      obtain⟨f,hf⟩:=Classical.axiomOfChoice aQC;have hlen:((List.range len).map f).length=len:=by simp
      have ati:∀j x,((List.range len).map f)[j]?=some x->j<len/\x=f j:=by intro j x hj;have hlt:=(xJ.1 hj).1;rw[hlen]at hlt;rw[auU,List.getElem?_range hlt]at hj;exact⟨hlt,(fJ hj).symm⟩
      refine⟨(List.range len).map f,⟨some a,cap,by rw[hlen],by rw[hlen];exact OO,by rw[hlen];omega,fun h0=>?_⟩,by rw[hlen];omega,fun x hx=>?_⟩
      .rw[hlen]at h0;obtain⟨c,hr,_,hcell⟩:=hf 0 h0;have hcl:=hr.len;obtain⟨q,hq⟩:∃q,c[0]?=some q:=⟨c[0],pc (by omega)⟩;have h00:=hcell 0 q hq;have ha0:(a.add (0*v.n)).add 0=a:=by simp[Addr.add]
       rw[ha0]at h00;have Vr:=aFp h00;obtain⟨b,o,sp⟩:=a;have Vr:sp=none:=Vr;subst Vr;refine⟨b,o,rfl,World.block_lt_of_cell? _ _ h00,trivial,fun j x hj=>?_⟩;obtain⟨hjl,rfl⟩:=ati j x hj;obtain⟨c,hr,_,hcell⟩:=hf j hjl;refine⟨c,hr,fun i q hi=>?_⟩;have:=hcell i q hi;rw[Ve,Ve,UX]at this;exact this
      .obtain⟨j,hj⟩:=List.getElem?_of_mem hx;obtain⟨hjl,rfl⟩:=ati j x hj;obtain⟨c,_,hw,_⟩:=hf j hjl;exact hw
    .cases h
   .cases h
  .rename_i fs hu;split at h
   .rename_i us o Vf;split at h
    .rename_i ho;cases h;have ho:=aP ho;obtain⟨xs,m,rfl,_,hlen,hxl,ax1⟩:=DataW.trod_struct hu hy;obtain⟨_,x,h1,h2⟩:=aLw (f:=aiS P n) (fun t u htu cs y hy=>abo n t u htu m cs y hy) cs fs.toList 0 us o Vf fun f hf=>by
      obtain⟨i,hi⟩:=List.getElem?_of_mem hf;have hi':fs[i]?=some f:=by simpa using hi
      have:=ax1 i f hi';have hlt:i<fs.size:=(Bj.1 hi').1;rw[pc (by omega)]at this;exact⟨_,this⟩
     refine⟨x,?_,h2⟩;rw[acN,U1,ho,<-hlen,mB]at h1;exact h1
    .cases h
   .cases h
  .cases h
end
end Go.Am
