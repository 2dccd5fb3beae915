/- No condition. -/
import Derived.Test.YtfapcfpkbahneaaGreatDoorQpVJL6
set_option linter.all false
namespace Go.Am.Tryz
open Go.Am
def aC3 {a s:Nm}(hs:bu s=true)(ha:bu a=true):Anc a s->dS s<=dS a->a=s:=by
 intro h;generalize hn:s.length=n
 induction n using Nat.strongRecOn generalizing s with
 |_ n ih =>
  subst hn;intro hle;by_cases he:a=s
  .exact he
  .exfalso;have h0:s≠[]:=fun e=>by
    subst e;rcases h with h|⟨r,h⟩
    .exact he h.symm
    .simp at h
   obtain⟨x,ex,_⟩:=QZ hs h0;have hu:dS (fQ s)<dS s:=by unfold dS;rw[ai hs,ai (xF hs),ex,aL,dM];omega
   have hl:a.length<=(fQ s).length:=by
    rcases h with h|⟨r,h⟩
    .exact absurd h.symm he
    .rcases LO (fQ s).length a.length with hlt|hge
     .exfalso;obtain⟨t,ht,e⟩:=QY hs h0;have h2:s[a.length]?=some 47:=by rw[h];simp
      rw[e,as9 (by omega)]at h2;have h3:(47::t)[a.length-(fQ s).length]?=t[a.length-(fQ s).length-1]?:=by obtain⟨k,hk⟩:∃k,a.length-(fQ s).length=k+1:=⟨a.length-(fQ s).length-1,by omega⟩;rw[hk];simp
      rw[h3]at h2;exact ht (ata h2)
     .exact hge
   have h4:=afG h (Sz hs) hl;have h5:=ih (fQ s).length (aCi hs h0) (xF hs) h4 rfl (by omega);rw[h5]at hle;omega
def aEO {w:an}:∀(l:List Int) (out:ByteArray),(∀x∈l,dS (mh w x).data.toList<=dS (l.foldl (fun out x=>ux (mh w x) out) out).data.toList)/\dS out.data.toList<=dS (l.foldl (fun out x=>ux (mh w x) out) out).data.toList /\
  (l.foldl (fun out x=>ux (mh w x) out) out=out\/∃x∈l,l.foldl (fun out x=>ux (mh w x) out) out=mh w x)
 |[],out=>⟨fun _ h=>(by cases h),UY _,.inl rfl⟩
 |x::l,out=>by
  obtain⟨a,b,d⟩:=aEO l (ux (mh w x) out);have h1:dS (mh w x).data.toList<=dS (ux (mh w x) out).data.toList/\dS out.data.toList<=dS (ux (mh w x) out).data.toList:=by unfold ux;split<;>constructor<;>omega
  rw[amL];refine⟨fun y hy=>?_,amT h1.2 b,?_⟩
  .rcases dE.1 hy with e|hy
   .rw[e];exact amT h1.1 b
   .exact a y hy
  .rcases d with d|⟨y,hy,d⟩
   .rw[d];unfold ux;split
    .exact .inr ⟨x,qU,rfl⟩
    .exact .inl rfl
   .exact .inr ⟨y,ka x hy,d⟩
section
variable {w:an} {hs:Nat->Bc}
def axG (G:aM w){k:Nat}(hk:k<w.2.2.1.length):bu (w.2.2.1[k]).2.2.2.1.2.2.2.data.toList=true:=(dX (G.g _ (cX hk)).f.s).2.2.2
def aEP {j:Nat}(hj:j<w.2.2.1.length):mh w (j:Int)=(w.2.2.1[j]).2.2.2.1.2.2.2:=by unfold mh;rw[jw,bm hj]
def aEQ (G:aM w)(W:WI w hs){i:Nat}(hi:i<(bU w).length){j:Nat}(e:(bU w)[i]=(j:Int))(hj:j<w.2.2.1.length):asQ (Uv w) (w.2.2.1[j]).2.2.2.1.2.2.2=true/\bu (Uv w).data.toList=true:=by
 obtain⟨a,_,d⟩:=aEO (w:=w) (bU w) al;have ht:Uv w=ajN w (bU w):=ai G.ok;have ha:dS (w.2.2.1[j]).2.2.2.1.2.2.2.data.toList<=dS (Uv w).data.toList:=by have:=a _ (cX hi);rw[e,aEP hj]at this;rw[ht];exact this
 have hd:Uv w=al\/∃k:Nat,∃hk:k<w.2.2.1.length,Uv w=(w.2.2.1[k]).2.2.2.1.2.2.2:=by
  rw[ht];rcases d with d|⟨x,hx,d⟩
  .exact .inl d
  .have hr:=fI hx;refine .inr ⟨x.toNat,by omega,?_⟩;rw[show ajN w (bU w)=mh w x from d,<-aEP (show x.toNat<w.2.2.1.length by omega),LM hr.1]
 have nj:=axG G hj;have key:bu (Uv w).data.toList=true/\Anc (w.2.2.1[j]).2.2.2.1.2.2.2.data.toList (Uv w).data.toList:=by
  rcases hd with hd|⟨k,hk,hd⟩
  .refine⟨by rw[hd];exact ab7,?_⟩;have hz:dS (w.2.2.1[j]).2.2.2.1.2.2.2.data.toList<=0:=by rw[hd]at ha;exact ha
   have:(w.2.2.1[j]).2.2.2.1.2.2.2.data.toList=[]:=by
    by_cases h0:(w.2.2.1[j]).2.2.2.1.2.2.2.data.toList=[]
    .exact h0
    .exfalso;obtain⟨x,ex,_⟩:=QZ nj h0;unfold dS at hz;rw[ai nj,ex,aL,dM]at hz;omega
   rw[this,hd];exact .inl rfl
  .have nk:=axG G hk;refine⟨by rw[hd];exact nk,?_⟩;rw[hd]at ha ⊢;rcases W.meet G hj hk with h|h
   .exact h
   .rw[aC3 nj nk h ha];exact .inl rfl
 exact⟨aKS key.1 nj key.2,key.1⟩
def aAD (G:aM w):0<(bU w).length:=by
 have hc:=cF G.c;have hq:∃m,0<=m/\m<w.1.1/\m ∉ w.2.1:=by
  have avE:jA w.1.1 ((List.range w.1.1.toNat).map fun i:Nat=>(i:Int))=true:=by
   unfold jA;rw[iU];intro k hk;have hk:=kb.1 hk;rw[qV,SD]at hk;have g:∀j,j<w.1.1.toNat->((List.range w.1.1.toNat).map fun i:Nat=>(i:Int)).getD j 0=(j:Int):=fun j hj=>by rw[Gr,auU,List.getElem?_range hj];rfl
   rw[g k hk,g (k-1) (by omega)];simp only[aI,kE,cA];refine⟨by omega,by omega,?_⟩;rcases amD k with h|h
   .exact .inl h
   .exact .inr (by omega)
  obtain⟨m,hm,hn⟩:=aKT G.c G.lf avE (by rw[qV,SD];unfold uw;rw[ai G.c];have:0<=Int.tdiv (w.1.1-1) 3:=Int.tdiv_nonneg (by omega) (by omega);omega)
  have:=CE avE m hm;exact⟨m,this.1,this.2,hn⟩
 obtain⟨m,m0,m1,m2⟩:=hq;have hin:∀k:Nat,m.toNat<k->m∈lU w.2.1 k:=by
  intro k
  induction k with
  |zero=>intro h;omega
  |succ k ih =>
   intro h;unfold lU;rcases LO m.toNat k with h1|h1
   .exact List.mem_append_left _ (ih h1)
   .have:(k:Int)=m:=by omega
    rw[this,ah m2];exact aAW _ (hU.2 rfl)
 have hn:=G.n;exact List.length_pos_of_mem (hin w.2.2.1.length (by omega))
end
def aJk {g:an}{hs:Nat->Bc}(h:aM g)(W:WI g hs):A2 F0 (A3 F0) F0.n (rS (Uv g) 0 g.1.1 g.1.2 g.2.1 g.2.2.1 g.2.2.2.1 g.2.2.2.2 (bU g))=some (true,()):=by
 have hlen:=yk g;have h7:=h.le7;have h0:=aAD h;obtain⟨j0,e0,hj0⟩:=ahX h0;have hnm:=(aEQ h W h0 e0 hj0).2;have hsz:=kY hnm;refine dp (fun n k (z:Unit)=>A2 F0 (A3 F0) n (rS (Uv g) k g.1.1 g.1.2 g.2.1 g.2.2.1 g.2.2.2.1 g.2.2.2.2 (bU g))) (bU g).length (fun _ _=>True) _ (fun n k z hkk hI=>.inr ⟨(),?_,trivial⟩) (fun n z hI=>?_) F0.n 0 () (aT _) trivial (by rw[cl];omega)
 .obtain⟨j,e,hj⟩:=ahX hkk;have hdz:=kY (axG h hj);rw[NS,aX hkk,af,av hkk,ae,bF hkk,e,av hj,ae,bF hj,afe (by omega) (by omega),aj,(aEQ h W hkk e hj).1];dsimp only;rw[aO,aa,ao (by omega)]
 .rw[NS,aK,aa,ahI,xD (by omega),aj,hnm]
def aC4 (code:List Int):R6 F0 code=some (true,()):=by
 rw[asL,ayD,aj];by_cases h:(code.length:Int)>1048576
 .rw[aN h,af]
 .rw[aR h,aa];obtain⟨⟨w,list,u⟩,e1,hn,hl,hd⟩:=aGo (code:=code) (by omega);obtain⟨c,liars,rfl,hg⟩:=hn;dsimp only at hl hd;obtain⟨Uz,hA⟩:=aGn hg (list:=list) (by omega) hd;have hG:=aAi (list:=list) hg;obtain⟨hs,hW⟩:=auN list hg (aK2 c liars);rw[e1,aj];have n1:uT F0 (UN c liars).1 (UN c liars).2.1=some (UN c liars,true,()):=as8 hg;have n2:l9 F0 (UN c liars).1 (UN c liars).2.1=some (UN c liars,true,()):=Sy hg;rw[n1,aj,n2,aj];dsimp only;rw[Zc,aO,aa,aa,hA,aj,aIo hG.w.l,aj,Fq hG.w.l,aj];exact aJk hG hW
end Go.Am.Tryz
