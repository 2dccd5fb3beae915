/- No condition. -/
import Derived.Test.YtaheoongenkdbaaGreatDoorQeXJL6
set_option linter.all false
namespace Go.Am.Tryz
open Go.Am
def ayr (w:ah){d:cC}(b:eF 1 10 d.1=true):(doI w d).1=kX w d:=by
 unfold kX;split
 .rfl
 .rename_i a;unfold doI at a ⊢;rw[ag b]at a ⊢;split
  .rename_i c;rw[ag c]at a;unfold apq at a ⊢;split
   .rename_i e;rw[ag e]at a;split
    .rename_i f;rw[ag f]at a;exact absurd rfl a
    .rfl
   .rfl
  .rfl
def aHw {v:ah}{hs:Nat->Bd}(G:aK v){d:cC}(e:eF 1 10 d.1=true){list:List cC}{i:Nat}(f:i<list.length)(j:list[i]=d)(n:Nat) :
  h8 F0 (jB F0 (cH F0) n) F0.n (fC list (i:Int) 0 v.1.1 v.1.2 v.2.1 v.2.2.1 v.2.2.2.1 v.2.2.2.2 (kX v d).1.1 (kX v d).1.2 (kX v d).2.1 (kX v d).2.2.1 (kX v d).2.2.2.1 (kX v d).2.2.2.2) =
   dY F0 (cH F0) n (dq list (aj ((i:Int)+1)) (kX v d).1.1 (kX v d).1.2 (kX v d).2.1 (kX v d).2.2.1 (kX v d).2.2.2.1 (kX v d).2.2.2.2):=by
 have q:=G.le7;have o:=aB3 G d;refine cz (fun m k (z:Unit)=>h8 F0 (jB F0 (cH F0) n) m (fC list (i:Int) k v.1.1 v.1.2 v.2.1 v.2.2.1 v.2.2.2.1 v.2.2.2.2 (kX v d).1.1 (kX v d).1.2 (kX v d).2.1 (kX v d).2.2.1 (kX v d).2.2.2.1 (kX v d).2.2.2.2)) v.2.2.1.length (fun _ _=>True) _ (fun m k z a p=>?_) (fun m z p=>?_) F0.n 0 () (aO _) trivial (by rw[bH];omega)
 .rw[tH,aP a,ae,ao f,ad,a8 f,j];by_cases b:d.1=8
  .refine .inl ?_;rw[show(d.1 != 8)=false by simp[b],aa,wP]
  .have c:=aID v e b;rw[ayr v e]at c;have hk':k<(kX v d).2.2.1.length:=by rw[c.n];exact a
   have l:=c.r k a hk';have g:=(cB (G.g _ (b2 a)).f.s).2.2.2;have h:=(cB (o.g _ (b2 hk')).f.s).2.2.2;have r:=j1 g;have s:=j1 h;have t:=l.v;have u:=l.l;have w:=l.h;refine .inr ⟨(),?_,trivial⟩;rw[show(d.1 != 8)=true by simp[b],ae,ao a,ad,ao hk',ad,a8 hk',a8 a,aL (by omega),aa,aL (by omega),aa,aL (by omega),aa,IB (by omega) (by omega),ai];dsimp only;rw[avI h g l.d,aH,aa,al (by omega)]
 .rw[tH,aE,aa,wP]
def asR {list:List cC}(o:list.length<=500)(j:∀d∈list,aeB d){w:ah}{hs:Nat->Bd}(G:aK w)(W:WI w hs)(K:oE w) :
  dY F0 (cH F0) F0.n (dq list 0 w.1.1 w.1.2 w.2.1 w.2.2.1 w.2.2.2.1 w.2.2.2.2)=some (true,()):=by
 refine cz (fun n k (z:ah)=>dY F0 (cH F0) n (dq list k z.1.1 z.1.2 z.2.1 z.2.2.1 z.2.2.2.1 z.2.2.2.2)) list.length (fun _ z=>aK z/\(∃hs,WI z hs)/\oE z) _ (fun n k z b f=>?_) (fun n z f=>?_) F0.n 0 w (aO _) ⟨G,⟨hs,W⟩,K⟩ (by rw[bH];omega)
 .obtain⟨a,⟨h,e⟩,g⟩:=f;have c:=j _ (b2 b);have i:=aIq a c.1;have l:=aFS z c.2;have m:=aFT z c.2;rw[ayr z c.2]at i l;refine .inr ⟨kX z list[k],?_,aB3 a _,aFL a e _,aHf g _⟩;rw[tI,aP b,ae,ao b,ad,a8 b,show(((z.1.1,z.1.2),z.2.1,z.2.2.1,z.2.2.2.1,z.2.2.2.2):ah)=z from rfl,i,ai];dsimp only;rw[bQ.2 m,aa,aL (by omega),aa];rw[aHw (hs:=h) a c.2 b rfl n,al (by omega)]
 .obtain⟨a,⟨h,e⟩,g⟩:=f;rw[tI,aE,aa,Qf,show(((z.1.1,z.1.2),z.2.1,z.2.2.1,z.2.2.2.1,z.2.2.2.2):ah)=z from rfl,aq1 a.w.l,ai,aIB a e,ae,aoK a.w.l a.w.b,ai,aHo a e g]
def aeG (code:List Int):pq F0 code=some (true,()):=by
 rw[Wk,awx,ai];by_cases h:(code.length:Int)>1048576
 .rw[aI h,ae]
 .rw[aL h,aa];obtain⟨⟨w,list,u⟩,f,g,i,b⟩:=aAs (code:=code) (by omega);obtain⟨c,liars,rfl,a⟩:=g;dsimp only at i b;rw[f,ai];have j:tp F0 (RQ c liars).1 (RQ c liars).2.1=some (RQ c liars,true,()):=arj a;have n2:kM F0 (RQ c liars).1 (RQ c liars).2.1=some (RQ c liars,true,()):=RR a;rw[j,ai,n2,ai];dsimp only;rw[Ye,aH,aa,aa];by_cases e:(list.length:Int)>60
  .rw[aI e,ae,agM (by omega) (by omega) (by omega),ad,show((0:Int).toNat)=0 from rfl,T0];exact asR (by rw[bC];omega) (fun d k=>b d (TY k)) a (aCd c liars) (aFv c liars)
  .rw[aL e,aa];exact asR (by omega) b a (aCd c liars) (aFv c liars)
end Go.Am.Tryz
