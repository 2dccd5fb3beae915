/- Lemmas for the claim. No condition. -/
import Derived.Test.YtfapcfpkbahneaaGreatDoorQtVJL5
set_option linter.all false
namespace Go.Am.Tryz
open Go.Am
theorem Yb {l:iE}:Bh l=true↔l.1.length=4/\l.2.length=4/\(∀x∈l.1,0<=x/\x<=400)/\∀x∈l.2,0<=x/\x<=100:=by
 constructor
 ·exact abF
 ·rintro⟨h1,h2,h3,h4⟩;simp only[Bh,inB,aJ,cD,iJ];exact⟨h1,h2,h3,h4⟩
theorem awn:∀(l:List Int) (i:Nat) (h:i<l.length) (v:Int),(l.set i v).sum=l.sum-l[i]+v
 |x::l,0,_,v=>by simp only[List.set_cons_zero,Ur,azs];omega
 |x::l,i+1,h,v=>by have:=awn l i (by simpa using h) v;simp only[List.set_cons_succ,Ur,List.getElem_cons_succ];omega
theorem aa1 {l:List Int}{i:Int}(h0:0<=i)(h:i.toNat<l.length):aN l i 0=l[i.toNat]:=bc h 0
structure aKQ (l:iE) (x:eO):Prop where
 lo:Bh l=true
 xo:gQ x=true
 n:x.2.2.2=aN l.2 x.1 0
 r:(eU l x).1.2=l.2.set x.1.toNat (x.2.2.2+1)
 k:Bh (eU l x).1=true
 s:(eU l x).1.1.sum=l.1.sum
theorem Yc {l:iE}{x:eO}(h:QM (eU l x).2=true):aKQ l x:=by
 by_cases h1:Bh l=true/\gQ x=true
 ·obtain⟨hl,hx⟩:=h1;obtain⟨⟨f0,f1⟩,⟨t0,t1⟩,⟨m0,m1⟩,⟨n0,n1⟩⟩:=nA hx;obtain⟨l1,l2,l3,l4⟩:=Yb.1 hl;have hf1:x.1.toNat<l.1.length:=by omega
  have hf2:x.1.toNat<l.2.length:=by omega
  by_cases h2:x.2.2.2<aN l.2 x.1 0
  ·have e:eU l x=(l,2):=by unfold eU;rw[ak ⟨hl,hx⟩,ak h2]
   rw[e]at h;cases h
  ·by_cases h3:x.2.2.2>aN l.2 x.1 0
   ·have e:eU l x=(l,3):=by unfold eU;rw[ak ⟨hl,hx⟩,ah h2,ak h3]
    rw[e]at h;cases h
   ·have hn:x.2.2.2=aN l.2 x.1 0:=by omega
    by_cases h4:x.2.2.1>aN l.1 x.1 0
    ·have e:eU l x=((l.1,l.2.set x.1.toNat (x.2.2.2+1)),4):=by unfold eU;rw[ak ⟨hl,hx⟩,ah h2,ah h3,ak h4]
     refine⟨hl,hx,hn,by rw[e],?_,by rw[e]⟩;rw[e];refine Yb.2 ⟨l1,by dsimp only;rw[Ls];exact l2,l3,?_⟩;exact avy (lo:=0) (hi:=100) l4 (by omega)
    ·by_cases h5:Bh ((l.1.set x.1.toNat (aN l.1 x.1 0-x.2.2.1)).set x.2.1.toNat (aN (l.1.set x.1.toNat (aN l.1 x.1 0-x.2.2.1)) x.2.1 0+x.2.2.1),l.2.set x.1.toNat (x.2.2.2+1))=true
     ·have e:eU l x=(((l.1.set x.1.toNat (aN l.1 x.1 0-x.2.2.1)).set x.2.1.toNat (aN (l.1.set x.1.toNat (aN l.1 x.1 0-x.2.2.1)) x.2.1 0+x.2.2.1),l.2.set x.1.toNat (x.2.2.2+1)),0):=by unfold eU;rw[ak ⟨hl,hx⟩,ah h2,ah h3,ah h4,ak h5]
      have ht:x.2.1.toNat<(l.1.set x.1.toNat (aN l.1 x.1 0-x.2.2.1)).length:=by rw[Ls];omega
      refine⟨hl,hx,hn,by rw[e],by rw[e];exact h5,?_⟩;rw[e];dsimp only;rw[awn _ _ ht,aa1 t0 ht,awn _ _ hf1];have e3:=aa1 f0 hf1;omega
     ·have e:eU l x=(l,1):=by unfold eU;rw[ak ⟨hl,hx⟩,ah h2,ah h3,ah h4,ah h5]
      rw[e]at h;cases h
 ·have e:eU l x=(l,1):=by unfold eU;rw[ah h1]
  rw[e]at h;cases h
def aql (l:iE):Prop:=Bh l=true/\l.1.sum=400
theorem aI1 {l:iE}(h:aql l)(x:eO):aql (eU l x).1:=by
 cases hp:QM (eU l x).2 with
 |false=>rw[ahE hp];exact h
 |true =>
  have hc:=Yc hp;exact⟨hc.k,by rw[hc.s];exact h.2⟩
theorem aDf:∀(xs:List eO) {l:iE},aql l->aql (fA l xs)
 |[],_,h=>h
 |x::xs,l,h=>aDf xs (aI1 h x)
theorem aOV:aql RI:=⟨by decide,by decide⟩
theorem ajz:∀{l:List Int} {n:Int},(∀x∈l,0<=x/\x<=400)->0<=n->n+400*l.length<=1000000->T1 l n=n+l.sum
 |[],n,_,_,_=>by simp[T1]
 |x::l,n,h,h0,h1=>by have hx:=h x OD;rw[bg]at h1;rw[T1,aI (by omega) (by omega),ajz (fun y hy=>h y (tI _ hy)) (by omega) (by omega),Ur];omega
theorem aDg {l:iE}(h:aql l):T1 l.1 0=400:=by obtain⟨h1,h2,h3,h4⟩:=Yb.1 h.1;rw[ajz h3 (Sd _) (by omega),h.2];rfl
theorem aEO {l:iE}{x:eO}(i:Int)(hi:0<=i)(h2:l.2.length=4)(hi4:i<=3):aN l.2 i 0<=aN (eU l x).1.2 i 0:=by
 cases hp:QM (eU l x).2 with
 |false=>rw[ahE hp];exact Sd _
 |true =>
  have hc:=Yc hp;obtain⟨⟨f0,f1⟩,_⟩:=nA hc.xo;rw[hc.r];by_cases e:x.1=i
  ·subst e;have hk:x.1.toNat<(l.2.set x.1.toNat (x.2.2.2+1)).length:=by rw[Ls];omega
   rw[aa1 hi hk,List.getElem_set_self,hc.n];omega
  ·have hk:i.toNat<(l.2.set x.1.toNat (x.2.2.2+1)).length:=by rw[Ls];omega
   have hk2:i.toNat<l.2.length:=by omega
   rw[aa1 hi hk,aa1 hi hk2,List.getElem_set_ne (by omega)];exact Sd _
theorem azc:∀(xs:List eO) {l:iE} (i:Int),0<=i->i<=3->Ui l->aN l.2 i 0<=aN (fA l xs).2 i 0
 |[],_,_,_,_,_=>Sd _
 |x::xs,l,i,h0,h3,h4=>Int.le_trans (aEO i h0 h4.2 h3) (azc xs i h0 h3 (aGy h4 x))
theorem aqm {xs:List eO}{l:iE}{j:Nat}(h:j<xs.length):(iF l xs).getD j 0=(eU (fA l (xs.take j)) xs[j]).2:=by rw[Un,aeA xs l j h];rfl
theorem aqn:∀(a b:List eO) (l:iE),fA l (a++b)=fA (fA l a) b
 |[],_,_=>rfl
 |x::a,b,l=>aqn a b _
theorem aEP (xs:List eO){i k:Nat}(hk:k<i)(hi:i<xs.length):okP xs (iF RI xs) i k=true:=by
 have hk':k<xs.length:=by omega
 unfold okP;rw[aqm hi,aqm hk',bc hi,bc hk'];cases h1:QM (eU (fA RI (xs.take i)) xs[i]).2 with
 |false=>rfl
 |true =>
  cases h2:QM (eU (fA RI (xs.take k)) xs[k]).2 with
  |false=>rfl
  |true =>
   have c1:=Yc h1;have c2:=Yc h2;by_cases e1:xs[i].1=xs[k].1
   ·by_cases e2:xs[i].2.2.2=xs[k].2.2.2
    ·exfalso;obtain⟨⟨f0,f1⟩,_⟩:=nA c2.xo;have hs:xs.take i=xs.take (k+1)++(xs.take i).drop (k+1):=by have:=awy (k+1) (xs.take i);rw[List.take_take,ahV (by omega)]at this;exact this.symm
     have h4:Ui (fA RI (xs.take (k+1))):=Ix Lg;have hm:=azc ((xs.take i).drop (k+1)) (l:=fA RI (xs.take (k+1))) xs[k].1 f0 f1 h4;rw[<-aqn,<-hs]at hm;have ht:xs.take (k+1)=xs.take k++[xs[k]]:=gj hk';rw[ht,Ny,c2.r]at hm;have h4k:Ui (fA RI (xs.take k)):=Ix Lg;have hlen:(xs[k].1).toNat<((fA RI (xs.take k)).2.set xs[k].1.toNat (xs[k].2.2.2+1)).length:=by rw[Ls];have:=h4k.2;omega
     rw[aa1 f0 hlen,List.getElem_set_self]at hm;have:=c1.n;rw[e1]at this;omega
    ·simp[e2]
   ·simp[e1]
theorem aBC (b:ByteArray):ayg b=true:=by unfold ayg;rw[iJ];intro i hi;rw[iJ];intro k hk;exact aEP (Uk b) (jC.1 hk) (jC.1 hi)
theorem atw {c:Int×Int}{r:aD}(h:ba c r):aql (jB c r):=by unfold jB;rw[ak h.ok];exact aDf _ aOV
theorem aO.rp {w:an}(h:aO w){i:Nat}(hi:i<(cM w).length):ba w.1 (rp w i):=by obtain⟨j,e,hj⟩:=aht hi;rw[aJF hi e hj];exact h.g _ (di hj)
theorem aO.aOW {w:an}(h:aO w):avR w=true:=by unfold avR;rw[h.ok,ji,iJ];intro i hi;have hi:=jC.1 hi;unfold avQ;rw[aDg (atw (h.rp hi)),aBC];rfl
theorem aBD {g:an}(h:aO g):jm F0 (kv F0) F0.n (gD 0 g.1.1 g.1.2 g.2.1 g.2.2.1 g.2.2.2.1 g.2.2.2.2 (cM g))=some (true,()):=by
 have hlen:=xN g;have h7:=h.le7;refine df (fun n k (z:Unit)=>jm F0 (kv F0) n (gD k g.1.1 g.1.2 g.2.1 g.2.2.1 g.2.2.2.1 g.2.2.2.2 (cM g))) (cM g).length (fun _ _=>True) _ (fun n k z hk hI=>.inr ⟨(),?_,trivial⟩) (fun n z hI=>?_) F0.n 0 () (aX _) trivial (by rw[bT];omega)
 ·obtain⟨j,e,hj⟩:=aht hk;have hg:=h.g _ (di hj);have ht:=atw hg;have hl:=Yb.1 ht.1;rw[uL,aS hk,af,av hk,ae,bp hk,e,av hj,ae,bp hj,show((g.1.1,g.1.2):Int×Int)=g.1 from rfl,abR hg.l,ai,Ot (by dsimp only;omega) (by dsimp only;omega),ai];dsimp only;rw[ht.1,aL,aa,apB (by omega),ai];dsimp only;rw[aDg ht,show((400:Int) != 400)=false from rfl,aa,ao (by omega)]
 ·rw[uL,aH,aa,QD,show(((g.1.1,g.1.2),g.2.1,g.2.2.1,g.2.2.2.1,g.2.2.2.2):an)=g from rfl,apC h.w.l,ai,h.aOW]
theorem aff (code:List Int):qI F0 code=some (true,()):=by
 rw[WO,axn,ai];by_cases h:(code.length:Int)>1048576
 ·rw[aM h,af]
 ·rw[aQ h,aa];obtain⟨⟨w,list,u⟩,e1,hn,hl,hd⟩:=aEN (code:=code) (by omega);obtain⟨c,liars,rfl,hg⟩:=hn;dsimp only at hl hd;obtain⟨T4,hA⟩:=aEM hg (list:=list) (by omega) hd;have hG:=ay2 (list:=list) hg;rw[e1,ai];have n1:uB F0 (acb c liars).1 (acb c liars).2.1=some (acb c liars,true,()):=ar0 hg;have n2:lP F0 (acb c liars).1 (acb c liars).2.1=some (acb c liars,true,()):=R9 hg;rw[n1,ai,n2,ai];dsimp only;rw[ack,aL,aa,aa,hA,ai,E5 hG.w.l,ai];exact aBD hG
end Go.Am.Tryz
