/- Lemmas for the claim. No condition. -/
import Derived.Test.YtfapcfpkbahneaaGreatDoorQlVJL4
set_option linter.all false
namespace Go.Am.Tryz
open Go.Am
theorem xI (w:an):(dP w).length<=w.2.2.1.length:=Ro _ _
theorem Xy {α ζ γ:Type}(X:Nat->Int->ζ->Option γ)(a:List α)(f:ζ->α->ζ)(I:ζ->Prop)(R:Option γ)(z0:ζ)(h0:I z0)(hI:∀z x,x∈a->I z->I (f z x))
  (hs:∀n k z (h:k<a.length),I z->X (n+1) (k:Int) z=X n ((k+1:Nat):Int) (f z a[k])) (he:∀n,X (n+1) (a.length:Int) (a.foldl f z0)=R) (n:Nat) (hn:a.length<n):X n 0 z0=R:=by
 refine dp X a.length (fun k z=>z=(a.take k).foldl f z0/\I z) R (fun n k z hk h=>.inr ⟨_,hs n k z hk h.2,?_,hI _ _ (dr hk) h.2⟩) (fun n z h=>?_) n 0 z0 (aV _) ⟨rfl,h0⟩ (by omega)
 ·rw[jA hk,List.foldl_append,h.1];rfl
 ·rw[h.1,nF];exact he n
def isSaid (view:Int)(name:ByteArray)(dm:Int)(y:eK):Bool:=(y.1==view)&&((y.2.1.toList==name.toList)&&(y.2.2==dm))
def kh (l:List eK)(view:Int)(name:ByteArray)(dm:Int):Bool:=l.any (isSaid view name dm)
theorem ayf {α:Type}{p:α->Bool}{l:List α}{k:Nat}(hk:k<l.length):(l.drop k).any p=(p l[k] || (l.drop (k+1)).any p):=by rw[X8 hk,List.any_cons]
theorem apD {l:List eK}(h:l.length<=1048576)(view:Int)(name:ByteArray)(dm:Int):Em F0 l view name dm=some (kh l view name dm,()):=by
 rw[ank];refine dp (fun n k (z:Unit)=>pF F0 (vA F0) n (ky l view name dm k)) l.length (fun k _=>kh l view name dm=(l.drop k).any (isSaid view name dm)) _ (fun n k z hk hI=>?_) (fun n z hI=>?_) F0.n 0 () (aV _) rfl (by rw[ch];omega)
 ·rw[ayf hk]at hI;rw[JK,aW hk,af,av hk,ae,ae,ae,bC hk,afM,ao (by omega),hI];unfold isSaid;cases h1:(l[k].1==view) with
  |false=>exact .inr ⟨(),aa _ _,rfl⟩
  |true =>
   cases h2:(l[k].2.1.toList==name.toList) with
   |false=>exact .inr ⟨(),by rw[af,aa],rfl⟩
   |true =>
    cases h3:(l[k].2.2==dm) with
    |false=>exact .inr ⟨(),by rw[af,af,aa],rfl⟩
    |true=>exact .inl rfl
 ·rw[TR]at hI;rw[JK,aI,aa,acZ,hI];rfl
theorem aIw {l:List eK}(h:l.length<=1048576)(x:eK):∃r,Xa F0 l x=some (r,())/\decide (r>=0)=kh l x.1 x.2.1 x.2.2:=by
 rw[auC];have key:∀(j k n:Nat),k+j=l.length->j<n->∃r,My F0 (Dq F0) n (Dp l (l.length:Int) (k:Int) x.1 x.2.1 x.2.2)=some (r,())/\decide (r>=0)=(l.drop k).any (isSaid x.1 x.2.1 x.2.2):=by
  intro j
  induction j with
  |zero =>
   intro k n hk hn;obtain⟨n,rfl⟩:∃m,n=m+1:=⟨n-1,by omega⟩;obtain rfl:k=l.length:=by omega
   rw[Pz,aI,aa,akw,TR];exact⟨-1,rfl,rfl⟩
  |succ j ih =>
   intro k n hk hn;obtain⟨n,rfl⟩:∃m,n=m+1:=⟨n-1,by omega⟩;have hk':k<l.length:=by omega
   have e:((x.1==l[k].1)&&((x.2.1.toList==l[k].2.1.toList)&&((x.2.2==l[k].2.2)&&true)))=isSaid x.1 x.2.1 x.2.2 l[k]:=by unfold isSaid;rw[Bool.and_true,show(x.1==l[k].1)=(l[k].1==x.1) from FU,show(x.2.1.toList==l[k].2.1.toList)=(l[k].2.1.toList==x.2.1.toList) from FU,show(x.2.2==l[k].2.2)=(l[k].2.2==x.2.2) from FU]
   rw[Pz,aW hk',af,av hk',ae,bC hk',e,an3,ao (by omega),ayf hk'];cases hs:isSaid x.1 x.2.1 x.2.2 l[k]with
   |true=>exact⟨(k:Int),af _ _,by rw[aL (show(k:Int)>=0 by omega)];rfl⟩
   |false =>
    rw[aa,IM];exact ih (k+1) n (by omega) (by omega)
 exact key l.length 0 F0.n (by omega) (by rw[ch];omega)
theorem Ce {l:List eK}(h:l.length<=1048576)(x:eK):dK F0 l x=some (kh l x.1 x.2.1 x.2.2,()):=by obtain⟨r,h1,h2⟩:=aIw h x;rw[FH,h1,ai,h2]
def WL (liars:List Int)(l:List eK)(view:Int)(name:ByteArray)(i:Int):Bool:=decide (i∈liars) || kh l view name i
def signed (liars:List Int)(l:List eK)(view:Int)(name:ByteArray)(dm:List Int):Bool:=dm.all (WL liars l view name)
theorem abr {liars:List Int}(h1:liars.length<=1048576){l:List eK}(h2:l.length<=1048576)(view:Int)(name:ByteArray){dm:List Int}(h3:dm.length<=1048576):xu F0 liars l view name dm=some (signed liars l view name dm,()):=by
 rw[anl,lW (fun m k=>uj F0 (vB F0) m (o4 liars l view name dm k)) dm.length (fun k=>WL liars l view name (dm.getD k 0)) (some (true,())) (some (false,())) (fun m k hk=>?_) (fun m=>?_) _ (by rw[ch];omega),Ky,Qb]
 ·rfl
 ·rw[JL,aW hk,af,av hk,ae,ae,bC hk,gk (by omega),ai,apD h2,ai,afN,ao (by omega),bp hk];unfold WL;cases decide (dm[k]∈liars)<;>cases kh l view name dm[k]<;>rfl
 ·rw[JL,aI,aa,ac0]
theorem WM {liars:List Int}(h1:liars.length<=1048576){l:List eK}(h2:l.length<=1048576)(view:Int)(name:ByteArray){dm:List Int}(h3:dm.length<=1048576):xC F0 liars l view name dm=some (signed liars l view name dm,()):=by
 rw[aoj,lW (fun m k=>uD F0 (we F0) m (pf liars l view name dm (dm.length:Int) k)) dm.length (fun k=>WL liars l view name (dm.getD k 0)) (some (true,())) (some (false,())) (fun m k hk=>?_) (fun m=>?_) _ (by rw[ch];omega),Ky,Qb]
 ·rfl
 ·rw[Kr,aW hk,af,av hk,ae,bC hk,fI (by omega),ai,Ce h2,ai,agv,ao (by omega),bp hk];unfold WL;cases decide (dm[k]∈liars)<;>cases kh l view name dm[k]<;>rfl
 ·rw[Kr,aI,aa,adM]
def No (liars:List Int)(l:List eK)(q:di):Bool:=signed liars l q.1 q.2.1 q.2.2
def NZ (c:Int×Int)(liars:List Int)(l:List eK)(m:cX):Bool :=
 en c m&&(if m.1=1 then decide (cG c (bu m.2.2.1.1.data.toList)∈liars)&&No liars l m.2.2.1.2 else if m.1=2 then No liars l m.2.2.2.1 else if m.1=3 then decide (m.2.2.2.2.2.1∈liars)&&No liars l m.2.2.2.2.1 else true)
theorem aAI {c:Int×Int}{liars:List Int}(h1:liars.length<=1048576){l:List eK}(h2:l.length<=1048576){m:cX}(hm:gz m):LW F0 c liars l m=some (NZ c liars l m,()):=by
 rw[ann,II hm,ai,pM hm.1,ai,KB,ai,gk (by omega),ai,abr h1 h2 _ _ hm.2.1.2,ai,abr h1 h2 _ _ hm.2.2.1.2,ai,gk (by omega),ai,abr h1 h2 _ _ hm.2.2.2.2,ai];unfold NZ;cases en c m with
 |false=>rfl
 |true =>
  rw[aK,aa,jB];by_cases k1:m.1=1
  ·rw[bB.2 k1,af,ak k1];dsimp only;cases decide (cG c (bu m.2.2.1.1.data.toList)∈liars)<;>rfl
  ·rw[cp.2 k1,aa,ah k1];by_cases k2:m.1=2
   ·rw[bB.2 k2,af,ak k2];rfl
   ·rw[cp.2 k2,aa,ah k2];by_cases k3:m.1=3
    ·rw[bB.2 k3,af,ak k3];dsimp only;cases decide (m.2.2.2.2.2.1∈liars)<;>rfl
    ·rw[cp.2 k3,aa,ah k3]
theorem avJ:sK F0=some (cP,()):=by rw[SQ];rfl
theorem aeB {liars:List Int}{l:List eK}{q:di}{α:Type}(f:Bool->α):br (gS q cP) (some (f true)) (some (f (No liars l q)))=some (f (No liars l q)):=by
 cases h:gS q cP with
 |false=>rfl
 |true =>
  have:=Xn h;subst this;rfl
theorem ayg {c:Int×Int}{liars:List Int}(h1:liars.length<=1048576){l:List eK}(h2:l.length<=1048576){m:cX}(hm:gz m):MW F0 c liars l m=some (NZ c liars l m,()):=by
 rw[aol,KE hm,ai,rN hm.1,ai,IF,ai,fI (by omega),ai,avJ,ai,KD hm.2.1,ai,WM h1 h2 _ _ hm.2.1.2,ai,WM h1 h2 _ _ hm.2.2.1.2,ai,fI (by omega),ai,ai,KD hm.2.2.2,ai,WM h1 h2 _ _ hm.2.2.2.2,ai];dsimp only;have f1:=aeB (liars:=liars) (l:=l) (q:=m.2.2.1.2) (fun b=>(b,()));have f2:=aeB (liars:=liars) (l:=l) (q:=m.2.2.2.2.1) (fun b=>(b,()));unfold No at f1 f2;rw[f1,f2];unfold NZ;cases dS:en c m with
 |false=>rfl
 |true =>
  rw[aK,aa,jB];rcases(aeA dS).k with k|k|k|k
  ·rw[cp.2 (show m.1≠4 by omega),aa,cp.2 (show m.1≠2 by omega),aa,bB.2 k,af,ak k];unfold No;cases decide (cG c (bu m.2.2.1.1.data.toList)∈liars)<;>rfl
  ·rw[cp.2 (show m.1≠4 by omega),aa,bB.2 k,af,ah (by omega),ak k];rfl
  ·rw[cp.2 (show m.1≠4 by omega),aa,cp.2 (show m.1≠2 by omega),aa,cp.2 (show m.1≠1 by omega),aa,ah (by omega),ah (by omega),ak k];unfold No;cases decide (m.2.2.2.2.2.1∈liars)<;>rfl
  ·rw[bB.2 k,af,ah (by omega),ah (by omega),ah (by omega)]
def ZZ (id:Int)(q:di):List eK:=if ed q.2.1=true then [] else if id∈q.2.2 then [(q.1,q.2.1,id)] else []
def dR (id:Int)(m:cX):List eK:=if m.1=4 then [] else if m.1=2 then ZZ id m.2.2.2.1 else if m.1=1 then ZZ id m.2.2.1.2 else ZZ id m.2.2.2.2.1
theorem Ql (id:Int)(q:di):br (q.2.1.toList==al.toList) (some (([]:List eK),())) (br (!decide (id∈q.2.2)) (some ([],())) (some ([(q.1,q.2.1,id)],())))=some (ZZ id q,()):=by
 unfold ZZ ed;cases (q.2.1.toList==al.toList) with
 |true=>rfl
 |false =>
  by_cases h:id∈q.2.2
  ·rw[aL h,ah (by decide),ak h];rfl
  ·rw[aR h,ah (by decide),ah h];rfl
theorem aAJ {m:cX}(hm:gz m)(id:Int):L5 F0 id m=some (dR id m,()):=by
 rw[anu,gk (cT hm.2.2.1.2 (by omega)),ai,gk (cT hm.2.1.2 (by omega)),ai,gk (cT hm.2.2.2.2 (by omega)),ai];dsimp only;rw[Ql id m.2.2.2.1,Ql id m.2.2.1.2,Ql id m.2.2.2.2.1];unfold dR;by_cases k4:m.1=4
 ·rw[ak k4,cp.2 (show m.1≠2 by omega),aa,cp.2 (show m.1≠1 by omega),aa,bB.2 k4,af]
 ·rw[ah k4,cp.2 k4,aa,aa,aa];by_cases k2:m.1=2
  ·rw[ak k2,bB.2 k2,af]
  ·rw[ah k2,cp.2 k2,aa];by_cases k1:m.1=1
   ·rw[ak k1,bB.2 k1,af]
   ·rw[ah k1,cp.2 k1,aa]
theorem aiR {m:cX}(hm:gz m)(id:Int):EB F0 id m=some (dR id m,()):=by
 rw[an2,fI (cT hm.2.2.1.2 (by omega)),ai,fI (cT hm.2.1.2 (by omega)),ai,fI (cT hm.2.2.2.2 (by omega)),ai];dsimp only;rw[Ql id m.2.2.2.1,Ql id m.2.2.1.2,Ql id m.2.2.2.2.1];unfold dR;by_cases k4:m.1=4
 ·rw[ak k4,bB.2 k4,af]
 ·rw[ah k4,cp.2 k4,aa];by_cases k2:m.1=2
  ·rw[ak k2,bB.2 k2,af]
  ·rw[ah k2,cp.2 k2,aa];by_cases k1:m.1=1
   ·rw[ak k1,bB.2 k1,af]
   ·rw[ah k1,cp.2 k1,aa]
theorem abt (id:Int)(m:cX):(dR id m).length<=1:=by
 have h1:∀q:di,(ZZ id q).length<=1:=fun q=>by
  unfold ZZ;split
  ·exact aV _
  ·split
   ·exact b9 _
   ·exact aV _
 unfold dR;split
 ·exact aV _
 ·split
  ·exact h1 _
  ·split
   ·exact h1 _
   ·exact h1 _
def KO (l:List eK)(x:eK):List eK:=if l.length<300/\kh l x.1 x.2.1 x.2.2=false then l++[x] else l
def aAK (id:Int)(l:List eK)(p:km):List eK:=(dR id p.2).foldl KO l
def avK (id:Int)(list:List km)(l:List eK):List eK:=list.foldl (aAK id) l
def qI (w:an)(id:Int)(list:List km):an:=if id∈dP w then (w.1,w.2.1,w.2.2.1,w.2.2.2.1,avK id list w.2.2.2.2) else w
theorem abu {l:List eK}(h:l.length<=300)(x:eK):(KO l x).length<=300:=by
 unfold KO;split
 ·rename_i hh;rw[aM,dU];omega
 ·exact h
theorem aeC:∀{xs:List eK} {l:List eK},l.length<=300->(xs.foldl KO l).length<=300
 |[],_,h=>h
 |x::xs,l,h=>aeC (xs:=xs) (abu h x)
theorem aiS (id:Int):∀{list:List km} {l:List eK},l.length<=300->(avK id list l).length<=300
 |[],_,h=>h
 |p::list,l,h=>aiS id (list:=list) (aeC h)
theorem aEm {w:an}(h:NX w)(hs:w.2.2.2.2.length<=300)(id:Int){list:List km}(hl:list.length<=1048576)(hm:∀p∈list,gz p.2):JR F0 w id list=some (qI w id list,()):=by
 rw[aqF,aiL h,ai,aoZ h.l,ai,gk (by have:=xI w;have:=h.l.r;dsimp only;omega),ai];unfold qI;by_cases hi:id∈dP w
 ·rw[aL hi,ak hi,aK,aa];refine Xy (fun n k z=>HA F0 (zn F0) n (zm id list k 0 0 w.1.1 w.1.2 [] [] [] [] w.2.1 w.2.2.1 w.2.2.2.1 z)) list (aAK id) (fun z=>z.length<=300) _ w.2.2.2.2 hs (fun z p hp hz=>aeC hz) (fun n k z hk hz=>?_) (fun n=>?_) _ (by rw[ch];omega)
  ·rw[L7,aW hk,af,av hk,ae,bC hk,aAJ (hm _ (dr hk)),ai];have hsl:=abt id list[k].2;refine Xy (fun m j (y:List eK)=>sH F0 (JQ F0 (zn F0) n) m (mR id list (k:Int) j 0 0 w.1.1 w.1.2 (dR id list[k].2) [] [] [] [] w.2.1 w.2.2.1 w.2.2.2.1 y)) (dR id list[k].2) KO (fun y=>y.length<=300) _ z hz (fun y x hx hy=>abu hy x) (fun m j y hj hy=>?_) (fun m=>?_) _ (by rw[ch];omega)
   ·rw[L6,aW hj,af,av hj,ae,bC hj,apD (by omega),ai,az (by omega) (by omega) (by first|omega|(simp only[aM,ba,bA];omega)|(rw[bo,bQ];omega)),ae,ao (by omega)];unfold KO;by_cases h3:y.length<300
    ·rw[aL (show(y.length:Int)<300 by omega),af];cases kh y (dR id list[k].2)[j].1 (dR id list[k].2)[j].2.1 (dR id list[k].2)[j].2.2 with
     |true=>rw[ah (fun hh=>by cases hh.2)];rfl
     |false=>rw[ak ⟨h3,rfl⟩];rfl
    ·rw[aR (show ¬(y.length:Int)<300 by omega),aa,ah (fun hh=>h3 hh.1)]
   ·rw[L6,aI,aa,afQ,ao (by omega)];rfl
  ·rw[L7,aI,aa,afR];rfl
 ·rw[aR hi,ah hi];rfl
theorem aAL {w:an}(h:NX w)(hs:w.2.2.2.2.length<=300)(id:Int){list:List km}(hl:list.length<=1048576)(hm:∀p∈list,gz p.2):Q2 F0 w id list=some (qI w id list,()):=by
 rw[aqT,lX h,ai,Na h.l,ai,fI (by have:=xI w;have:=h.l.r;dsimp only;omega),ai];unfold qI;by_cases hi:id∈dP w
 ·rw[aL hi,ak hi,aK,aa];refine Xy (fun n k z=>HR F0 (zV F0) n (zU id list (list.length:Int) k 0 0 w.1.1 w.1.2 [] [] [] [] w.2.1 w.2.2.1 w.2.2.2.1 z)) list (aAK id) (fun z=>z.length<=300) _ w.2.2.2.2 hs (fun z p hp hz=>aeC hz) (fun n k z hk hz=>?_) (fun n=>?_) _ (by rw[ch];omega)
  ·rw[MA,aW hk,af,av hk,ae,bC hk,aiR (hm _ (dr hk)),ai];have hsl:=abt id list[k].2;refine Xy (fun m j (y:List eK)=>s0 F0 (Ka F0 (zV F0) n) m (nn id list (list.length:Int) (k:Int) ((dR id list[k].2).length:Int) j 0 0 w.1.1 w.1.2 (dR id list[k].2) [] [] [] [] w.2.1 w.2.2.1 w.2.2.2.1 y)) (dR id list[k].2) KO (fun y=>y.length<=300) _ z hz (fun y x hx hy=>abu hy x) (fun m j y hj hy=>?_) (fun m=>?_) _ (by rw[ch];omega)
   ·rw[Mz,aW hj,af,av hj,ae,bC hj,Ce (by omega),ai,az (by omega) (by omega) (by first|omega|(simp only[aM,ba,bA];omega)|(rw[bo,bQ];omega)),ae,ao (by omega)];unfold KO;by_cases h3:y.length<300
    ·rw[aL (show(y.length:Int)<300 by omega),af];cases kh y (dR id list[k].2)[j].1 (dR id list[k].2)[j].2.1 (dR id list[k].2)[j].2.2 with
     |true=>rw[ah (fun hh=>by cases hh.2)];rfl
     |false=>rw[ak ⟨h3,rfl⟩];rfl
    ·rw[aR (show ¬(y.length:Int)<300 by omega),aa,ah (fun hh=>h3 hh.1)];cases kh y (dR id list[k].2)[j].1 (dR id list[k].2)[j].2.1 (dR id list[k].2)[j].2.2<;>rfl
   ·rw[Mz,aI,aa,agb,ao (by omega)];rfl
  ·rw[MA,aI,aa,agc];rfl
 ·rw[aR hi,ah hi];rfl
def aiT (c:Int×Int)(net:List ph)(p:km):List ph:=if net.length<60/\en c p.2=true/\iH 0 (aj (c.1-1)) p.1=true then net++[(p.1,Ij p.2)] else net
def aAM (c:Int×Int)(list:List km)(net:List ph):List ph:=list.foldl (aiT c) net
def aeD (w:an)(list:List km):an:=(w.1,w.2.1,w.2.2.1,aAM w.1 list w.2.2.2.1,w.2.2.2.2)
theorem ag8 {c:Int×Int}{net:List ph}(h:net.length<=60)(p:km):(aiT c net p).length<=60:=by
 unfold aiT;split
 ·rename_i hh;rw[aM,dU];omega
 ·exact h
theorem asQ (c:Int×Int)(m:cX):decide (((aem c m).length:Int)>0)=en c m:=by
 unfold aem;cases h:en c m with
 |false=>rfl
 |true =>
  have:=(apd h).2.2;rw[ak rfl];exact aL (by omega)
theorem aiU {w:an}(hn:w.2.2.2.1.length<=60){list:List km}(hl:list.length<=1048576)(hm:∀p∈list,gz p.2):zi F0 w list=some ((aeD w list,()),()):=by
 rw[aj2];refine Xy (fun n k z=>j5 F0 (BD F0) n (gN list k w.1.1 w.1.2 0 0 w.2.1 w.2.2.1 z w.2.2.2.2 [] [] [] [])) list (aiT w.1) (fun z=>z.length<=60) _ w.2.2.2.1 hn (fun z p hp hz=>ag8 hz p) (fun n k z hk hz=>?_) (fun n=>?_) _ (by rw[ch];omega)
 ·rw[Gk,aW hk,af,av hk,ae,bC hk,show((w.1.1,w.1.2):Int×Int)=w.1 from rfl,avp (hm _ (dr hk)),ai,ae,dz,ai,ae,az (by omega) (by omega) (by first|omega|(simp only[aM,ba,bA];omega)|(rw[bo,bQ];omega)),ae,ao (by omega)];dsimp only;rw[asQ];unfold aiT;by_cases h3:z.length<60
  ·rw[aL (show(z.length:Int)<60 by omega),af];cases h4:en w.1 list[k].2 with
   |false=>rw[ah (fun hh=>by cases hh.2.1)];rfl
   |true =>
    cases h5:iH 0 (aj (w.1.1-1)) list[k].1 with
    |false=>rw[ah (fun hh=>by cases hh.2.2)];rfl
    |true=>rw[ak ⟨h3,rfl,rfl⟩,af,af,show aem w.1 list[k].2=Ij list[k].2 from ak h4]
  ·rw[aR (show ¬(z.length:Int)<60 by omega),aa,ah (fun hh=>h3 hh.1)]
 ·rw[Gk,aI,aa,aaH];rfl
theorem aEn {w:an}(h:NX w)(hn:w.2.2.2.1.length<=60){list:List km}(hl:list.length<=1048576)(hm:∀p∈list,gz p.2):PC F0 w list=some (if qF w=true then aeD w list else w,()):=by
 rw[auE,lX h,ai,Aw h.l,ai];cases dS:qF w with
 |false=>rfl
 |true =>
  rw[aK,aa,ak rfl];refine Xy (fun n k z=>rE F0 (NJ F0) n (lU list (list.length:Int) k w.1.1 w.1.2 w.2.1 w.2.2.1 w.2.2.2.1 w.2.2.2.2 0 0 w.1.1 w.1.2 [] [] [] [] w.2.1 w.2.2.1 z w.2.2.2.2)) list (aiT w.1) (fun z=>z.length<=60) _ w.2.2.2.1 hn (fun z p hp hz=>ag8 hz p) (fun n k z hk hz=>?_) (fun n=>?_) _ (by rw[ch];omega)
  ·rw[PB,aW hk,af,av hk,ae,bC hk,show((w.1.1,w.1.2):Int×Int)=w.1 from rfl,ZT (hm _ (dr hk)),ai,cg,ai,az (by omega) (by omega) (by first|omega|(simp only[aM,ba,bA];omega)|(rw[bo,bQ];omega)),ae,ao (by omega)];dsimp only;rw[asQ];unfold aiT;cases h4:en w.1 list[k].2 with
   |false=>rw[ah (fun hh=>by cases hh.2.1)];rfl
   |true =>
    cases h5:iH 0 (aj (w.1.1-1)) list[k].1 with
    |false=>rw[ah (fun hh=>by cases hh.2.2)];rfl
    |true =>
     by_cases h3:z.length<60
     ·rw[aL (show(z.length:Int)<60 by omega),ak ⟨h3,rfl,rfl⟩,show aem w.1 list[k].2=Ij list[k].2 from ak h4];rfl
     ·rw[aR (show ¬(z.length:Int)<60 by omega),ah (fun hh=>h3 hh.1)];rfl
  ·rw[PB,aI,aa,akA];rfl
theorem alp {c:Int×Int}{r:aD}{tX:Int}{m:cX}:(nE c r tX m).1.1=r.1:=by unfold nE;split<;>rfl
theorem aGK {c:Int×Int}{r:aD}{q:di}:(tL c r q).1.1=r.1:=by
 have h:(written c r q).1.1=r.1:=aet;unfold tL;split
 ·split
  ·exact h
  ·split
   ·exact h
   ·rw[alp];exact h
 ·rfl
theorem apE {c:Int×Int}{r:aD}{view:Int}{name:ByteArray}{push:Bool}:(gG c r view name push).1.1=r.1:=by
 unfold gG;split
 ·rfl
 ·split
  ·split
   ·exact aGK
   ·rfl
  ·split
   ·rfl
   ·exact alp
theorem aKx {c:Int×Int}{r:aD}{name:ByteArray}:(own c r name).1.1=r.1:=by
 unfold own;split
 ·rw[apE];rfl
 ·rfl
theorem aGL {r:aD}{b:dk}:(nB r b).1=r.1:=by unfold nB;split<;>rfl
theorem aeE {c:Int×Int}{r:aD}{b:dk}:(gT c r b).1.1=r.1:=by
 have h:(lF c (nB r b) (Cd c r b)).1.1=r.1:=by rw[aet,aGL]
 unfold gT EW;split
 ·split
  ·split
   ·rw[aKx];exact h
   ·rfl
  ·exact h
 ·rfl
theorem ayh {c:Int×Int}{r:aD}{p:di}:(lH c r p).1.1=r.1:=by
 unfold lH;split
 ·rw[apE];rfl
 ·rfl
theorem ayi {imp:Bool}{c:Int×Int}{r:aD}{view:Int}{q:di}{dm:Int}:(lI imp c r view q dm).1.1=r.1:=by
 have h:(written c r q).1.1=r.1:=aet;have h2:∀(l:Bool) (o:aD),(Qj l o view q).1=o.1:=fun l o=>by unfold Qj;split<;>rfl
 unfold lI tU;split
 ·split
  ·split
   ·rw[h2];exact h
   ·rfl
  ·rw[h2];exact h
 ·rfl
theorem aGM {imp:Bool}{c:Int×Int}{r:aD}{m:cX}:(AD imp c r m).1.1=r.1:=by
 unfold AD;split
 ·exact aeE
 ·split
  ·exact ayh
  ·split
   ·exact ayi
   ·rfl
theorem avL {imp:Bool}{c:Int×Int}{r:aD}{m:cX}:(KN imp c r m).1.1=r.1:=by
 unfold KN;split
 ·exact aGM (imp:=imp)
 ·rfl
theorem aGN {c:Int×Int}{r:aD}:(GN c r).1.1=r.1:=by
 unfold GN;split
 ·rfl
 ·split
  ·split
   ·rfl
   ·rfl
  ·split
   ·rw[alp];rfl
   ·rfl
theorem ag9 {c:Int×Int}{r:aD}{m:cX}:∀(j k:Nat) (o:aD),o.1=r.1->(w7 c r m j k o).1.1=r.1
 |0,_,_,h=>h
 |j+1,k,o,h=>by
  unfold w7;split
  ·exact ag9 j (k+1) o h
  ·split
   ·exact ag9 j (k+1) _ (by rw[alp];exact h)
   ·rfl
def KP (r:aD):aD:=(r.1,r.2.1,r.2.1,r.2.2.2)
theorem bc.KP {c:Int×Int}{r:aD}(h:bc c r):bc c (KP r):=by have hv:=h.view;exact⟨⟨h.f.cf,h.f.i,h.f.v,by show iH 0 60 r.2.1=true;simp only[iH,aJ,cH];omega,h.f.s,h.f.p,h.f.t,h.f.d,h.f.n,h.f.h⟩,h.b⟩
def akZ (c:Int×Int)(r:aD):aD×Bool:=RB c (KP r) (ax3 (ask c r).1)
def abv (c:Int×Int)(r:aD):aD×Int :=
 if (ask c r).2=true then (if (akZ c r).2=true/\(gT c (akZ c r).1 (ask c r).1).2=true then ((gT c (akZ c r).1 (ask c r).1).1,0) else (r,4)) else (r,3)
theorem aAN {c:Int×Int}{r:aD}(h:bc c r):bc c (akZ c r).1:=h.KP.aIs _
theorem bc.abv {c:Int×Int}{r:aD}(h:bc c r):bc c (abv c r).1:=by
 unfold Tryz.abv;split
 ·split
  ·exact(aAN h).apA _
  ·exact h
 ·exact h
theorem aIx {c:Int×Int}{r:aD}:(abv c r).1.1=r.1:=by
 unfold abv;split
 ·split
  ·rw[aeE];exact ag9 _ _ _ rfl
  ·rfl
 ·rfl
theorem ayj {c:Int×Int}{r:aD}(h:bc c r):H9 F0 c r=some ((abv c r).1,(abv c r).2,()):=by
 rw[akT,aGF h,ai,eP h.bt,ai];unfold abv;cases h1:(ask c r).2 with
 |false=>rfl
 |true =>
  obtain⟨_,hb,_,_⟩:=aGG h1;obtain⟨hb1,hb2⟩:=IJ hb;have hT:Aq F0 c (r.1,r.2.1,r.2.1,r.2.2.2) (1,0,(ask c r).1,(0,al,[]),(0,al,[]),0,0,0,0,0)=some ((akZ c r).1,(akZ c r).2,()):=avF h.KP (abo hb1 hb2);dsimp only;rw[hT,ai,WJ (aAN h) hb,ai,aK,aa,ak rfl];cases (akZ c r).2 with
  |false=>rw[ah (fun hh=>by cases hh.1)];rfl
  |true =>
   cases (gT c (akZ c r).1 (ask c r).1).2 with
   |false=>rw[ah (fun hh=>by cases hh.2)];rfl
   |true=>rw[ak ⟨rfl,rfl⟩];rfl
def AE (c:Int×Int)(r:aD):Nat->aD×Int
 |0=>(r,3)
 |k+1=>if ed (r.2.2.2.2.2.1.getD k cP).2.1=true then AE c r k
  else if (gG c r (r.2.2.2.2.2.1.getD k cP).1 (r.2.2.2.2.2.1.getD k cP).2.1 true).2=true then ((gG c r (r.2.2.2.2.2.1.getD k cP).1 (r.2.2.2.2.2.1.getD k cP).2.1 true).1,0) else (r,3)
def asR (c:Int×Int)(r:aD):aD×Int:=AE c r r.2.2.2.2.2.1.length
theorem ayk {c:Int×Int}{r:aD}(h:bc c r):∀k,bc c (AE c r k).1
 |0=>h
 |k+1=>by
  unfold AE;split
  ·exact ayk h k
  ·split
   ·exact h.avC _ _ _
   ·exact h
theorem asS {c:Int×Int}{r:aD}:∀k,(AE c r k).1.1=r.1
 |0=>rfl
 |k+1=>by
  unfold AE;split
  ·exact asS k
  ·split
   ·exact apE
   ·rfl
theorem asT {c:Int×Int}{r:aD}(h:bc c r):∀(k n:Nat),k<=r.2.2.2.2.2.1.length->k<n ->
  wq F0 (qC F0) n (qB ((k:Int)-1) c.1 c.2 r.1 r.2.1 r.2.2.1 r.2.2.2.1.1 r.2.2.2.1.2.1 r.2.2.2.1.2.2.1.1 r.2.2.2.1.2.2.1.2.1 r.2.2.2.1.2.2.1.2.2 r.2.2.2.1.2.2.2 r.2.2.2.2.1 r.2.2.2.2.2.1 r.2.2.2.2.2.2.1.1 r.2.2.2.2.2.2.1.2 r.2.2.2.2.2.2.2 0 0 0 0 0 0 al al 0 [] [] [] [] [])
   = some ((AE c r k).1,(AE c r k).2,())
 |0,n+1,hk,hn=>by rw[EL,aR (show ¬((0:Nat):Int)-1>=0 by omega),aa,X2];rfl
 |k+1,n+1,hk,hn=>by
  have hk':k<r.2.2.2.2.2.1.length:=by omega
  have ht:=h.f.l.t;have hC:=abp h (r.2.2.2.2.2.1[k]).1 (h.l.tq _ (dr hk')).1 true;rw[EL,show((k+1:Nat):Int)-1=(k:Int) by omega,aL (show(k:Int)>=0 by omega),af,av hk',ae,bC hk',Ku];unfold AE;rw[bp hk',show((r.2.2.2.2.2.1[k]).2.1.toList==al.toList)=ed (r.2.2.2.2.2.1[k]).2.1 from rfl];cases hnn:ed (r.2.2.2.2.2.1[k]).2.1 with
  |true =>
   rw[ak rfl,aK,aa,aH (by omega) (by omega)];exact asT h k n (by omega) (by omega)
  |false =>
   rw[ah (by decide),eZ,af];refine A5 (AJ (fun x=>Option.bind x _) hC) ?_;rw[ai];cases (gG c r (r.2.2.2.2.2.1[k]).1 (r.2.2.2.2.2.1[k]).2.1 true).2 with
   |false=>rfl
   |true=>rw[Ku];rfl
theorem avM {c:Int×Int}{r:aD}(h:bc c r):DH F0 c r=some ((asR c r).1,(asR c r).2,()):=by have ht:=h.f.l.t;rw[agB,aH (by omega) (by omega)];exact asT h r.2.2.2.2.2.1.length F0.n (b9 _) (by rw[ch];omega)
def aIy (r:aD)(d:pj):aD:=(r.1,r.2.1,r.2.2.1,r.2.2.2.1,r.2.2.2.2.1,r.2.2.2.2.2.1,d,r.2.2.2.2.2.2.2)
def WN (r:aD)(keep:Int):aD:=aIy r (gF r.2.2.2.2.2.2.1 keep)
def aiV (c:Int×Int)(r:aD)(keep:Int):aD:=aGz c (WN r keep)
theorem bc.WN {c:Int×Int}{r:aD}(h:bc c r)(keep:Int):bc c (WN r keep):=by
 have hk:=aeo h.f.d keep;have hd:=ef.1 h.f.d;have e:gF r.2.2.2.2.2.2.1 keep=(r.2.2.2.2.2.2.1.1.take (KM r.2.2.2.2.2.2.1 keep).toNat,KM r.2.2.2.2.2.2.1 keep):=ak h.f.d;refine⟨⟨h.f.cf,h.f.i,h.f.v,h.f.a,h.f.s,h.f.p,h.f.t,?_,h.f.n,h.f.h⟩,?_⟩
 ·show gm (gF r.2.2.2.2.2.2.1 keep)=true;rw[e];refine ef.2 ⟨?_,?_,?_⟩
  ·dsimp only;rw[bQ];omega
  ·dsimp only;omega
  ·dsimp only;rw[bQ];omega
 ·show ∀x∈(gF r.2.2.2.2.2.2.1 keep).1,_;rw[e];exact fun x hx=>h.b x (abG hx)
theorem abw {c:Int×Int}(hc:bO c=true):bS c mc=true:=by unfold bS fN X4 mc;simp only[hc,iH];rfl
theorem aEo {c:Int×Int}{b:List Int}(hc:bO c=true):bS c (oJ c b).1=true:=by
 unfold oJ;split
 ·rename_i h;exact h.2.2
 ·exact abw hc
theorem ayl {c:Int×Int}{b:List Int}(hc:bO c=true):∀(f:Nat) (s:bH) (a:Nat),bS c s=true->bS c (ET c b f s a).1=true
 |0,_,_,h=>h
 |f+1,s,a,h=>by
  cases hn:GM c b a with
  |none=>rw[ji hn];exact h
  |some z =>
   obtain⟨s',a'⟩:=z;rw[Ca hn];refine ayl hc f s' a' ?_;cases hg:rO b a with
   |none=>rw[B9 hg]at hn;cases hn
   |some y =>
    obtain⟨v,a0⟩:=y;rw[B8 hg]at hn;split at hn
    ·cases hn
    ·split at hn
     ·cases hn
     ·split at hn
      ·have e1:=AJ Prod.fst (fR hn);dsimp only at e1;rw[<-e1];exact aEo hc
      ·cases hn
theorem aym {c:Int×Int}(hc:bO c=true)(b:List Int):bS c (fx c b).1=true:=ayl hc _ _ _ (abw hc)
theorem bc.aMD {c:Int×Int}{r:aD}(h:bc c r):bc c (aGz c r):=by
 have hs:=aym h.f.cf r.2.2.2.2.2.2.1.1;have hle:=WG c h.bt.d;have hd:=ef.1 h.f.d;obtain⟨h1,h2,h3,h4⟩:=fD hs;refine⟨⟨h.f.cf,h.f.i,?_,rfl,hs,rfl,rfl,?_,aV _,fun x hx=>by cases hx⟩,fun x hx=>h.b x (abG hx)⟩
 ·show iH 1 60 (apk (fx c r.2.2.2.2.2.2.1.1).1)=true;simp only[iH,aJ,cH];unfold apk FQ xP
  repeat' split
  all_goals omega
 ·show gm (r.2.2.2.2.2.2.1.1.take (fx c r.2.2.2.2.2.2.1.1).2,((fx c r.2.2.2.2.2.2.1.1).2:Int))=true;refine ef.2 ⟨?_,?_,?_⟩
  ·dsimp only;rw[bQ];omega
  ·dsimp only;omega
  ·dsimp only;rw[bQ];omega
theorem bc.aiV {c:Int×Int}{r:aD}(h:bc c r)(keep:Int):bc c (aiV c r keep):=(h.WN keep).aMD
abbrev eu:=Int×Int×Int×cX
def aAO (imp:Bool)(c:Int×Int)(r:aD)(m:cX):aD×Int:=if (KN imp c r m).2=true/\m.1=4 then ((KN imp c r m).1,0) else (r,3)
def aeF (imp:Bool)(c:Int×Int)(r:aD)(d:eu):aD×Int :=
 if d.1=1 then abv c r else if d.1=6 then asR c r else if d.1=7 then (if (GN c r).2=true then ((GN c r).1,0) else (r,3)) else if d.1=8 then (aiV c r d.2.2.1,0) else aAO imp c r d.2.2.2
theorem bc.aeF {c:Int×Int}{r:aD}(h:bc c r)(imp:Bool)(d:eu):bc c (aeF imp c r d).1:=by
 unfold Tryz.aeF;split
 ·exact h.abv
 ·split
  ·exact ayk h _
  ·split
   ·split
    ·exact h.aMC
    ·exact h
   ·split
    ·exact h.aiV _
    ·unfold aAO;split
     ·exact h.heard _ _
     ·exact h
theorem aIz {imp:Bool}{c:Int×Int}{r:aD}{d:eu}:(aeF imp c r d).1.1=r.1:=by
 unfold aeF;split
 ·exact aIx
 ·split
  ·exact asS _
  ·split
   ·split
    ·exact aGN
    ·rfl
   ·split
    ·rfl
    ·unfold aAO;split
     ·exact avL
     ·rfl
theorem ayn {c:Int×Int}{r:aD}(h:bc c r){d:eu}(hd:gz d.2.2.2):Ia F0 c r d=some ((aeF true c r d).1,(aeF true c r d).2,()):=by
 have hR:P2 F0 c (r.1,r.2.1,r.2.2.1,r.2.2.2.1,r.2.2.2.2.1,r.2.2.2.2.2.1,gF r.2.2.2.2.2.2.1 d.2.2.1,r.2.2.2.2.2.2.2)=some (aiV c r d.2.2.1,()):=aEb (h.WN d.2.2.1).bt (h.WN d.2.2.1).ok;rw[akX,eP h.bt,ai,ayj h,ai,avM h,ai,aEi h,ai,aiO h.bt.d.1,ai,asP h hd,ai];dsimp only;rw[hR,ai];unfold aeF;by_cases k1:d.1=1
 ·rw[bB.2 k1,af,ak k1]
 ·rw[cp.2 k1,aa,ah k1];by_cases k6:d.1=6
  ·rw[bB.2 k6,af,ak k6]
  ·rw[cp.2 k6,aa,ah k6];by_cases k7:d.1=7
   ·rw[bB.2 k7,af,ak k7];cases (GN c r).2<;>rfl
   ·rw[cp.2 k7,aa,ah k7];by_cases k8:d.1=8
    ·rw[bB.2 k8,af,ak k8]
    ·rw[cp.2 k8,aa,ah k8];unfold aAO;cases (KN true c r d.2.2.2).2 with
     |false=>rw[ah (fun hh=>by cases hh.1)];rfl
     |true =>
      by_cases k4:d.2.2.2.1=4
      ·rw[ak ⟨rfl,k4⟩,bB.2 k4];rfl
      ·rw[ah (fun hh=>k4 hh.2),cp.2 k4];rfl
def DL:an:=((0,0),[],[],[],[])
def asU (c:Int×Int)(x:ph):Prop:=dC x.2/\(tK c x.2).2=true/\iH 0 (aj (c.1-1)) x.1=true
def ayo (c:Int×Int)(x:eK):Prop:=iH 0 (aj (c.1-1)) x.2.2=true/\cr x.2.1.data.toList=true/\bu x.2.1.data.toList=x.1
structure aQ (w:an):Prop where
 c:bO w.1=true
 l:nx w.1.1 w.2.1=true
 lf:(w.2.1.length:Int)<=FP w.1
 n:(w.2.2.1.length:Int)=w.1.1
 g:∀r∈w.2.2.1,bc w.1 r
 id:∀(k:Nat) (h:k<w.2.2.1.length),(w.2.2.1[k]).1=(k:Int)
 nl:w.2.2.2.1.length<=60
 nb:∀x∈w.2.2.2.1,asU w.1 x
 sl:w.2.2.2.2.length<=300
 sb:∀x∈w.2.2.2.2,ayo w.1 x
theorem aQ.le7 {w:an}(h:aQ w):4<=w.2.2.1.length/\w.2.2.1.length<=7:=by have:=cO h.c;have:=h.n;omega
theorem aQ.liars {w:an}(h:aQ w):w.2.1.length<=7:=by have h1:=cO h.c;have:=agY h.l;omega
theorem aAP {c:Int×Int}{x:eK}(h:ayo c x):x.2.1.size<=1048576:=cT (pO h.2.1) (by omega)
theorem aQ.w {w:an}(h:aQ w):NX w :=
 ⟨⟨by have:=h.liars;omega,by have:=h.le7;omega,fun x hx=>(h.g x hx).l,by have:=h.nl;omega,fun x hx=>(h.nb x hx).1,by have:=h.sl;omega,fun x hx=>aAP (h.sb x hx)⟩,fun r hr=>(h.g r hr).bt.d⟩
theorem IK {α:Type}{l:List α}{k:Nat}(h:k<l.length)(d:α):l.getD k d=l[k]:=bp h d
theorem aQ.ok {w:an}(h:aQ w):qF w=true:=by
 unfold qF aoY Ih tB;simp only[aJ,arz,as0,RG,kj,kJ];refine⟨h.c,h.l,by have:=h.lf;omega,h.n,by have:=h.nl;omega,by have:=h.sl;omega,fun k hk=>?_,fun k hk=>?_,fun k hk=>?_⟩
 ·unfold aoX;rw[IK hk,aJ,bB];exact⟨(h.g _ (dr hk)).ok,h.id k hk⟩
 ·unfold abc;rw[IK hk,aJ];exact(h.nb _ (dr hk)).2
 ·unfold abd;rw[IK hk,aJ,aJ,bB];exact h.sb _ (dr hk)
theorem aQ.of {w:an}(h:qF w=true)(hn:∀x∈w.2.2.2.1,dC x.2)(hb:∀r∈w.2.2.1,∀x∈r.2.2.2.2.2.2.1.1,0<=x/\x<=255):aQ w:=by
 unfold qF aoY Ih tB at h;simp only[aJ,arz,as0,RG,kj,kJ]at h;obtain⟨h1,h2,h3,h4,h5,h6,h7,h8,h9⟩:=h;have hr:∀k (hk:k<w.2.2.1.length),nz w.1 w.2.2.1[k]=true/\(w.2.2.1[k]).1=(k:Int):=fun k hk=>by have:=h7 k hk;unfold aoX at this;rw[IK hk,aJ,bB]at this;exact this
 refine⟨h1,h2,by omega,h4,fun r hm=>?_,fun k hk=>(hr k hk).2,by omega,fun x hx=>?_,by omega,fun x hx=>?_⟩
 ·obtain⟨k,hk,rfl⟩:=ahh hm;exact⟨Cc.1 (hr k hk).1,hb _ hm⟩
 ·obtain⟨k,hk,rfl⟩:=ahh hx;have:=h8 k hk;unfold abc at this;rw[IK hk,aJ]at this;exact⟨hn _ hx,this⟩
 ·obtain⟨k,hk,rfl⟩:=ahh hx;have:=h9 k hk;unfold abd at this;rw[IK hk,aJ,aJ,bB]at this;exact this
def cM (w:an)(a:Int):aD:=w.2.2.1.getD a.toNat aoW
def lY (w:an)(a:Int)(r:aD):an:=(w.1,w.2.1,w.2.2.1.set a.toNat r,w.2.2.2)
theorem aAQ {w:an}{a:Int}(h0:0<=a)(h1:a<w.2.2.1.length):cM w a∈w.2.2.1:=by unfold cM;rw[bp (show a.toNat<w.2.2.1.length by omega)];exact dr _
theorem aQ.rep {w:an}(h:aQ w){a:Int}(h0:0<=a)(h1:a<w.2.2.1.length):bc w.1 (cM w a)/\(cM w a).1=a:=by refine⟨h.g _ (aAQ h0 h1),?_⟩;unfold cM;rw[bp (show a.toNat<w.2.2.1.length by omega),h.id _ (show a.toNat<w.2.2.1.length by omega)];omega
theorem aQ.lY {w:an}(h:aQ w){a:Int}(h0:0<=a){r:aD}(hr:bc w.1 r)(hi:r.1=a):aQ (lY w a r):=by
 refine⟨h.c,h.l,h.lf,by show((w.2.2.1.set a.toNat r).length:Int)=_;rw[abK];exact h.n,fun x hx=>?_,fun k hk=>?_,h.nl,h.nb,h.sl,h.sb⟩
 ·rcases ayT hx with hx|rfl
  ·exact h.g x hx
  ·exact hr
 ·have hk':k<(w.2.2.1.set a.toNat r).length:=hk;have hs:((w.2.2.1.set a.toNat r)[k]'hk').1=(k:Int):=by
   rw[List.getElem_set];split
   ·rename_i e;rw[hi];omega
   ·exact h.id k (by rw[abK]at hk';exact hk')
  exact hs
theorem aCN {c:Int×Int}{q:di}(hq:cr q.2.1.data.toList=true)(hv:q.2.1.data.toList≠[]->bu q.2.1.data.toList=q.1){id:Int}(hi:iH 0 (aj (c.1-1)) id=true):∀x∈ZZ id q,ayo c x:=by
 intro x hx;unfold ZZ at hx;cases hn:ed q.2.1 with
 |true=>rw[hn,ak rfl]at hx;cases hx
 |false =>
  rw[hn,ah (by decide)]at hx;split at hx
  ·rw[lZ.1 hx];refine⟨hi,hq,hv fun h0=>?_⟩;rw[(KJ _).2 h0]at hn;cases hn
  ·cases hx
theorem aGP {c:Int×Int}{m:cX}(hm:en c m=true){id:Int}(hi:iH 0 (aj (c.1-1)) id=true):∀x∈dR id m,ayo c x:=by
 have hf:=aeA hm;have q1:∀q:di,fN c q=true->∀x∈ZZ id q,ayo c x:=fun q hq=>by obtain⟨_,h2,h3,_⟩:=abi hq;exact aCN h2 (fun _=>h3) hi
 rcases hf.k with k|k|k|k
 ·have hb:=hf.b k;simp only[gD,aJ]at hb;unfold dR;rw[ah (by omega),ah (by omega),ak k];exact q1 _ hb.1
 ·obtain⟨_,_,_,_,_,h6,h7⟩:=aeh (hf.p k).1;unfold dR;rw[ah (by omega),ak k];exact aCN h6 h7 hi
 ·unfold dR;rw[ah (by omega),ah (by omega),ah (by omega)];exact q1 _ (hf.v k).2.1
 ·unfold dR;rw[ak k];exact fun x hx=>by cases hx
theorem aAR {l:List eK}{y x:eK}(h:x∈KO l y):x∈l\/x=y:=by
 unfold KO at h;split at h
 ·rcases kI.1 h with h|h
  ·exact .inl h
  ·exact .inr (lZ.1 h)
 ·exact .inl h
theorem apF:∀{ys l:List eK} {x:eK},x∈ys.foldl KO l->x∈l\/x∈ys
 |[],_,_,h=>.inl h
 |y::ys,l,x,h=>by
  rcases apF (ys:=ys) h with h|h
  ·rcases aAR h with h|rfl
   ·exact .inl h
   ·exact .inr IL
  ·exact .inr (pW _ h)
theorem aiW {id:Int}:∀{ps:List km} {l:List eK} {x:eK},x∈avK id ps l->x∈l\/∃p∈ps,x∈dR id p.2
 |[],_,_,h=>.inl h
 |p::ps,l,x,h=>by
  rcases aiW (ps:=ps) h with h|⟨q,hq,h⟩
  ·rcases apF h with h|h
   ·exact .inl h
   ·exact .inr ⟨p,IL,h⟩
  ·exact .inr ⟨q,pW _ hq,h⟩
theorem lJ {w:an}{id:Int}(h:id∈dP w):0<=id/\id<w.2.2.1.length:=by have:=agT w.2.1 w.2.2.1.length id h;exact this
theorem aQ.iH {w:an}(h:aQ w){a:Int}(h0:0<=a)(h1:a<w.2.2.1.length):iH 0 (aj (w.1.1-1)) a=true:=by have hc:=cO h.c;have hn:=h.n;rw[Wq hc.1 hc.2.1];simp only[Tryz.iH,aJ,cH];omega
theorem aQ.aAS {w:an}(h:aQ w){a:Int}(ha:Tryz.iH 0 (aj (w.1.1-1)) a=true):0<=a/\a<w.2.2.1.length:=by have hc:=cO h.c;have hn:=h.n;rw[Wq hc.1 hc.2.1]at ha;simp only[Tryz.iH,aJ,cH]at ha;omega
theorem aQ.qI {w:an}(h:aQ w)(id:Int){list:List km}(hm:∀p∈list,en w.1 p.2=true):aQ (qI w id list):=by
 unfold Tryz.qI;by_cases hi:id∈dP w
 ·rw[ak hi];have hr:=lJ hi;refine⟨h.c,h.l,h.lf,h.n,h.g,h.id,h.nl,h.nb,aiS id h.sl,fun x hx=>?_⟩;rcases aiW hx with hx|⟨p,hp,hx⟩
  ·exact h.sb x hx
  ·exact aGP (hm p hp) (h.iH hr.1 hr.2) x hx
 ·rw[ah hi];exact h
theorem asV {c:Int×Int}{m:cX}(h:en c m=true){a:Int}(ha:iH 0 (aj (c.1-1)) a=true):asU c (a,Ij m):=by have hb:=apd h;exact⟨⟨by dsimp only;omega,hb.2.1⟩,by rw[aD2 h],ha⟩
theorem apG {c:Int×Int}:∀{ps:List km} {l:List ph} {x:ph},x∈aAM c ps l->x∈l\/asU c x
 |[],_,_,h=>.inl h
 |p::ps,l,x,h=>by
  rcases apG (ps:=ps) h with h|h
  ·unfold aiT at h;split at h
   ·rename_i hh;rcases kI.1 h with h|h
    ·exact .inl h
    ·rw[lZ.1 h];exact .inr (asV hh.2.1 hh.2.2)
   ·exact .inl h
  ·exact .inr h
theorem apH {c:Int×Int}:∀{ps:List km} {l:List ph},l.length<=60->(aAM c ps l).length<=60
 |[],_,h=>h
 |p::ps,l,h=>apH (ps:=ps) (ag8 h p)
theorem aQ.send {w:an}(h:aQ w)(list:List km):aQ (aeD w list) :=
 ⟨h.c,h.l,h.lf,h.n,h.g,h.id,apH h.nl,fun x hx=>(apG hx).elim (h.nb x) (fun h=>h),h.sl,h.sb⟩
theorem aQ.abx {w:an}(h:aQ w){net:List ph}(hl:net.length<=60)(hn:∀x∈net,asU w.1 x):aQ (w.1,w.2.1,w.2.2.1,net,w.2.2.2.2) :=
 ⟨h.c,h.l,h.lf,h.n,h.g,h.id,hl,hn,h.sl,h.sb⟩
theorem bc.aAT {c:Int×Int}{r:aD}(h:bc c r):∀p∈r.2.2.2.2.2.2.2,en c p.2=true:=fun p hp=>ax2 (h.f.h p hp)
theorem bc.aJu {c:Int×Int}{r:aD}(h:bc c r):∀p∈r.2.2.2.2.2.2.2,gz p.2:=fun p hp=>avz (h.aAT p hp)
def Good (w:an):Prop:=NX w/\(qF w=true->aQ w)
theorem aQ.aAU {w:an}(h:aQ w):Good w:=⟨h.w,fun _=>h⟩
theorem aQ.aJv {w:an}(h:aQ w){net:List ph}(hl:net.length<=61)(hn:∀x∈net,asU w.1 x):Good (w.1,w.2.1,w.2.2.1,net,w.2.2.2.2) :=
 ⟨⟨⟨h.w.l.l,h.w.l.r,h.w.l.rl,by show net.length<=_;omega,fun x hx=>(hn x hx).1,h.w.l.s,h.w.l.st⟩,h.w.b⟩,fun ho=>aQ.of ho (fun x hx=>(hn x hx).1) fun r hr=>(h.g r hr).b⟩
theorem Ip {w:an}{a:Int}(h0:0<=a)(h1:a<w.2.2.1.length)(d:aD):aP w.2.2.1 a d=cM w a:=by
 have hk:a.toNat<w.2.2.1.length:=by omega
 unfold cM;rw[bp hk];exact bp hk d
def aCO (l:List eK)(id:Int)(list:List km):Bool:=list.all fun p=>(dR id p.2).all fun x=>kh l x.1 x.2.1 x.2.2
def bY (w:an)(a:Int):List km:=(cM w a).2.2.2.2.2.2.2
def Qm (w:an)(a:Int):an:=lY (qI w a (bY w a)) a (ZX (cM w a))
def aiX (w:an)(a:Int):an×Int :=
 if aCO (qI w a (bY w a)).2.2.2.2 a (bY w a)=true then (if w.2.2.2.1.length+(bY w a).length<=60 then (aeD (Qm w a) (bY w a),0) else (w,4)) else (w,4)
theorem apI (w:an)(id:Int)(list:List km):(qI w id list).1=w.1/\(qI w id list).2.2.1=w.2.2.1/\(qI w id list).2.2.2.1=w.2.2.2.1:=by unfold qI;split<;>exact⟨rfl,rfl,rfl⟩
theorem aQ.Qm {w:an}(h:aQ w){a:Int}(h0:0<=a)(h1:a<w.2.2.1.length):aQ (Qm w a):=by obtain⟨hg,hi⟩:=h.rep h0 h1;have hl:=h.qI a (list:=bY w a) hg.aAT;have e:=(apI w a (bY w a)).1;exact hl.lY h0 (by rw[e];exact hg.ZX) hi
theorem avN {w:an}(h:aQ w){a:Int}(h0:0<=a)(h1:a<w.2.2.1.length):Ds F0 w a=some ((aiX w a).1,(aiX w a).2,()):=by
 obtain⟨hg,hi⟩:=h.rep h0 h1;have hm:=hg.aJu;have hln:(bY w a).length<=30:=hg.f.n;have hO:=h.qI a (list:=bY w a) hg.aAT;have hS:=avD hg;have hL:=aAL h.w h.sl a (list:=bY w a) (by omega) hm;have e3:=(apI w a (bY w a)).2.1;have hsw:=h.Qm h0 h1;rw[age,mb h0 (by omega),ae,Ip h0 h1,hS,ai];refine A5 (AJ (fun x=>Option.bind x _) hL) ?_;rw[ai];dsimp only;generalize hS':ZX (cM w a)=S;generalize hO':qI w a (bY w a)=O at hO e3 hsw;have azT:∀n,gi F0 (.exit 0) (wS a w.1.1 w.1.2 w.2.1 w.2.2.1 w.2.2.2.1 w.2.2.2.2 0 0 S.1 S.2.1 S.2.2.1 S.2.2.2.1.1 S.2.2.2.1.2.1 S.2.2.2.1.2.2.1.1 S.2.2.2.1.2.2.1.2.1 S.2.2.2.1.2.2.2 S.2.2.2.2.2.2.1.2 O.1.1 O.1.2 (bY w a) [] [] [] [] S.2.2.2.1.2.2.1.2.2 S.2.2.2.2.1 S.2.2.2.2.2.1 S.2.2.2.2.2.2.1.1 S.2.2.2.2.2.2.2 O.2.1 O.2.2.1 O.2.2.2.1 O.2.2.2.2)=(fun _:Nat=>some (if w.2.2.2.1.length+(bY w a).length<=60 then (aeD (Qm w a) (bY w a),(0:Int),()) else (w,4,()))) n:=fun n=>by
  have hw':lY O a S=Qm w a:=by unfold Qm;rw[hO',hS']
  rw[<-hw']at hsw;have hSd:PC F0 ((O.1.1,O.1.2),O.2.1,O.2.2.1.set a.toNat (S.1,S.2.1,S.2.2.1,(S.2.2.2.1.1,S.2.2.2.1.2.1,(S.2.2.2.1.2.2.1.1,S.2.2.2.1.2.2.1.2.1,S.2.2.2.1.2.2.1.2.2),S.2.2.2.1.2.2.2),S.2.2.2.2.1,S.2.2.2.2.2.1,(S.2.2.2.2.2.2.1.1,S.2.2.2.2.2.2.1.2),S.2.2.2.2.2.2.2),O.2.2.2.1,O.2.2.2.2) (bY w a)=some (aeD (lY O a S) (bY w a),()):=by have:=aEn hsw.w hsw.nl (list:=bY w a) (by omega) hm;rw[hsw.ok,ak rfl]at this;exact this
  have hnl:=h.nl;rw[XX,aH (by omega) (by omega),mb h0 (by rw[e3];omega),ae,hSd,ai];by_cases hh:w.2.2.2.1.length+(bY w a).length<=60
  ·rw[aR (show ¬(w.2.2.2.1.length:Int)+(bY w a).length>60 by omega),aa];dsimp only;rw[ak hh,hw']
  ·rw[aL (show(w.2.2.2.1.length:Int)+(bY w a).length>60 by omega),af];dsimp only;rw[ah hh]
 have nQ:=lW (fun n k=>pa F0 (gi F0) n (lv a ((bY w a).length:Int) k w.1.1 w.1.2 w.2.1 w.2.2.1 w.2.2.2.1 w.2.2.2.2 0 0 S.1 S.2.1 S.2.2.1 S.2.2.2.1.1 S.2.2.2.1.2.1 S.2.2.2.1.2.2.1.1 S.2.2.2.1.2.2.1.2.1 S.2.2.2.1.2.2.2 S.2.2.2.2.2.2.1.2 O.1.1 O.1.2 (bY w a) [] [] [] [] S.2.2.2.1.2.2.1.2.2 S.2.2.2.2.1 S.2.2.2.2.2.1 S.2.2.2.2.2.2.1.1 S.2.2.2.2.2.2.2 O.2.1 O.2.2.1 O.2.2.2.1 O.2.2.2.2)) (bY w a).length
  (fun k=>(dR a ((bY w a).getD k avf).2).all fun x=>kh O.2.2.2.2 x.1 x.2.1 x.2.2) (some (if w.2.2.2.1.length+(bY w a).length<=60 then (aeD (Qm w a) (bY w a),(0:Int),()) else (w,4,()))) (some (w,4,()))
  (fun n k hk=>?_) (fun n=>?_) F0.n (by rw[ch];omega)
 ·refine A5 nQ ?_;rw[Ky (bY w a) (fun p=>(dR a p.2).all fun x=>kh O.2.2.2.2 x.1 x.2.1 x.2.2) avf];unfold aiX aCO;rw[hO'];cases ((bY w a).all fun p=>(dR a p.2).all fun x=>kh O.2.2.2.2 x.1 x.2.1 x.2.2) with
  |false=>rfl
  |true =>
   rw[ak rfl,ak rfl];split<;>rfl
 ·have hsl:=abt a ((bY w a)[k]).2;rw[ED,aW hk,af,av hk,ae,bC hk,aiR (hm _ (dr hk)),ai,bp hk];have hin:=lW (fun m j=>vV F0 (qw F0 (gi F0) n) m (qv a ((bY w a).length:Int) (k:Int) ((dR a ((bY w a)[k]).2).length:Int) j w.1.1 w.1.2 w.2.1 w.2.2.1 w.2.2.2.1 w.2.2.2.2 0 0 S.1 S.2.1 S.2.2.1 S.2.2.2.1.1 S.2.2.2.1.2.1 S.2.2.2.1.2.2.1.1 S.2.2.2.1.2.2.1.2.1 S.2.2.2.1.2.2.2 S.2.2.2.2.2.2.1.2 O.1.1 O.1.2 (bY w a) (dR a ((bY w a)[k]).2) [] [] [] [] S.2.2.2.1.2.2.1.2.2 S.2.2.2.2.1 S.2.2.2.2.2.1 S.2.2.2.2.2.2.1.1 S.2.2.2.2.2.2.2 O.2.1 O.2.2.1 O.2.2.2.1 O.2.2.2.2)) (dR a ((bY w a)[k]).2).length
   (fun j=>(fun x:eK=>kh O.2.2.2.2 x.1 x.2.1 x.2.2) ((dR a ((bY w a)[k]).2).getD j abb)) (pa F0 (gi F0) n (lv a ((bY w a).length:Int) ((k+1:Nat):Int) w.1.1 w.1.2 w.2.1 w.2.2.1 w.2.2.2.1 w.2.2.2.2 0 0 S.1 S.2.1 S.2.2.1 S.2.2.2.1.1 S.2.2.2.1.2.1 S.2.2.2.1.2.2.1.1 S.2.2.2.1.2.2.1.2.1 S.2.2.2.1.2.2.2 S.2.2.2.2.2.2.1.2 O.1.1 O.1.2 (bY w a) [] [] [] [] S.2.2.2.1.2.2.1.2.2 S.2.2.2.2.1 S.2.2.2.2.2.1 S.2.2.2.2.2.2.1.1 S.2.2.2.2.2.2.2 O.2.1 O.2.2.1 O.2.2.2.1 O.2.2.2.2)) (some (w,4,()))
   (fun m j hj=>?_) (fun m=>?_) F0.n (by rw[ch];omega)
  ·refine A5 hin ?_;rw[Ky (dR a ((bY w a)[k]).2) (fun x:eK=>kh O.2.2.2.2 x.1 x.2.1 x.2.2) abb]
  ·have hos:=hO.sl;rw[EC,aW hj,af,av hj,ae,bC hj,Ce (by omega),ai,aaU,aaV,ao (by omega),bp hj];rcases Bool.eq_false_or_eq_true (kh O.2.2.2.2 (dR a ((bY w a)[k]).2)[j].1 (dR a ((bY w a)[k]).2)[j].2.1 (dR a ((bY w a)[k]).2)[j].2.2) with hs|hs
   ·simp only[hs,aK,aa,ik]
   ·simp only[hs,eZ,af];rfl
  ·rw[EC,aI,aa,XW,ao (by omega)]
 ·rw[ED,aI,aa];exact azT n
def aby (net:List ph)(k:Nat):List ph:=net.take k++net.drop (k+1)
def eW (w:an)(a:Int):ph:=w.2.2.2.1.getD a.toNat az9
def abx (w:an)(net:List ph):an:=(w.1,w.2.1,w.2.2.1,net,w.2.2.2.2)
def Qn (w:an)(a:Int):an:=abx w (aby w.2.2.2.1 a.toNat)
def apJ (imp:Bool)(w:an)(x:ph):aD:=(KN imp w.1 (cM w x.1) (tK w.1 x.2).1).1
def apK (imp:Bool)(w:an)(a:Int):an:=if (eW w a).1∈dP w then lY (Qn w a) (eW w a).1 (apJ imp w (eW w a)) else Qn w a
def avO (w:an)(d:eu):an×Int :=
 if d.1=3 then (apK true w d.2.1,0) else if d.1=4 then (Qn w d.2.1,0) else if d.1=5 then (abx w (w.2.2.2.1++[eW w d.2.1]),0)
 else if NZ w.1 w.2.1 w.2.2.2.2 d.2.2.2=true then (abx w (w.2.2.2.1++[(d.2.1,Ij d.2.2.2)]),0) else (w,5)
theorem aAV {net:List ph}{k:Nat}{x:ph}(h:x∈aby net k):x∈net:=by
 rcases kI.1 h with h|h
 ·exact abG h
 ·exact ayX h
theorem aAW (net:List ph)(k:Nat):(aby net k).length<=net.length:=by
 unfold aby
 rw[aM,bQ,bo];omega
theorem aQ.Qn {w:an}(h:aQ w)(a:Int):aQ (Qn w a):=h.abx (cT (aAW _ _) h.nl) fun x hx=>h.nb x (aAV hx)
theorem aQ.apK {w:an}(h:aQ w)(imp:Bool)(a:Int):aQ (apK imp w a):=by
 unfold Tryz.apK;split
 ·rename_i hi;have hr:=lJ hi;obtain⟨hg,hid⟩:=h.rep hr.1 hr.2;exact(h.Qn a).lY hr.1 (hg.heard imp _) (by unfold apJ;rw[avL];exact hid)
 ·exact h.Qn a
theorem aQ.aIA {w:an}(h:aQ w){a:Int}(h0:0<=a)(h1:a<w.2.2.2.1.length):asU w.1 (eW w a):=by refine h.nb _ ?_;unfold eW;rw[bp (show a.toNat<w.2.2.2.1.length by omega)];exact dr _
theorem ayp {c:Int×Int}{b:List Int}(h:(tK c b).2=true):gz (tK c b).1/\en c (tK c b).1=true:=by
 have:en c (tK c b).1=true:=by
  unfold tK fin at h ⊢;split at h
  ·rename_i hh;rw[ak hh];exact hh.2.2
  ·cases h
 exact⟨avz this,this⟩
theorem aiY {w:an}(h:aQ w){d:eu}(hd:gz d.2.2.2)(hr:d.1=3\/d.1=4\/d.1=5->0<=d.2.1/\d.2.1<w.2.2.2.1.length):oG F0 w d=some ((avO w d).1,(avO w d).2,()):=by
 have hnl:=h.nl;have hlen:=xI w;have h7:=h.le7;rw[akN,lX h.w,ai];dsimp only;unfold avO;by_cases k:d.1=3\/d.1=4\/d.1=5
 ·obtain⟨r0,r1⟩:=hr k;have hx:=h.aIA r0 r1;obtain⟨hml,hmo⟩:=ayp hx.2.1;have e1:aj (d.2.1+1)=d.2.1+1:=aH (by omega) (by omega);have et:(d.2.1+1).toNat=d.2.1.toNat+1:=by omega
  have ex:∀aG:ph,aP w.2.2.2.1 d.2.1 aG=eW w d.2.1:=fun aG=>by
   unfold eW;have hk:d.2.1.toNat<w.2.2.2.1.length:=by omega
   rw[bp hk];show w.2.2.2.1.getD d.2.1.toNat aG=_;exact bp hk aG
  obtain⟨t0,t1⟩:=h.aAS hx.2.2;obtain⟨hg,hid⟩:=h.rep t0 t1;have hH:∀aG:aD,IB F0 w.1 (aP w.2.2.1 (eW w d.2.1).1 aG) (tK w.1 (eW w d.2.1).2).1=some ((KN true w.1 (cM w (eW w d.2.1).1) (tK w.1 (eW w d.2.1).2).1).1,(KN true w.1 (cM w (eW w d.2.1).1) (tK w.1 (eW w d.2.1).2).1).2,()):=fun aG=>by
   have hk:(eW w d.2.1).1.toNat<w.2.2.1.length:=by omega
   have:aP w.2.2.1 (eW w d.2.1).1 aG=cM w (eW w d.2.1).1:=by unfold cM;rw[bp hk];exact bp hk aG
   rw[this];exact asP hg hml
  rw[mb r0 r1,ae,e1,ao6 r0 (by omega) (by omega),ae,ae,ae,ex,aoV hx.1,ai,hx.2.1,af,Na h.w.l,ai,fI (by dsimp only;omega),ai,mb t0 t1,ae,hH,ai,ael hx.1.1,ai,az (by omega) (by omega) (by first|omega|(simp only[aM,ba,bA];omega)|(rw[bo,bQ];omega)),ae];dsimp only;rw[ae,et];rcases k with k|k|k
  ·rw[bB.2 k,af,ak k];unfold apK;by_cases hh:(eW w d.2.1).1∈dP w
   ·rw[aL hh,af,ak hh];rfl
   ·rw[aR hh,aa,ah hh];rfl
  ·rw[cp.2 (show d.1≠3 by omega),aa,bB.2 k,af,ah (by omega),ak k];rfl
  ·rw[cp.2 (show d.1≠3 by omega),aa,cp.2 (show d.1≠4 by omega),aa,bB.2 k,af,ah (by omega),ah (by omega),ak k];rfl
 ·have hli:=h.liars;have hsl:=h.sl;rw[cp.2 (show d.1≠3 by omega),aa,cp.2 (show d.1≠4 by omega),aa,cp.2 (show d.1≠5 by omega),aa,ah (by omega),ah (by omega),ah (by omega),ayg (by omega) (by omega) hd,ai,ZT hd,ai,az (by omega) (by omega) (by first|omega|(simp only[aM,ba,bA];omega)|(rw[bo,bQ];omega)),ae];cases hm:NZ w.1 w.2.1 w.2.2.2.2 d.2.2.2 with
  |false=>rfl
  |true =>
   have dS:en w.1 d.2.2.2=true:=by unfold NZ at hm;rw[aJ]at hm;exact hm.1
   dsimp only;rw[show aem w.1 d.2.2.2=Ij d.2.2.2 from ak dS];rfl
def Np (d:eu):Bool:=(d.1==3) || ((d.1==4) || (d.1==5))
theorem jV {d:eu}:Np d=true↔d.1=3\/d.1=4\/d.1=5:=by simp[Np]
def RD (w:an)(d:eu):Bool :=
 if Np d=true then iH 0 (aj ((w.2.2.2.1.length:Int)-1)) d.2.1 else if d.1=10 then iH 0 (aj (w.1.1-1)) d.2.1 else decide (d.2.1∈dP w)
theorem Qo {w:an}{d:eu}(h:Np d=true):RD w d=iH 0 (aj ((w.2.2.2.1.length:Int)-1)) d.2.1:=ak h
theorem aha {w:an}{d:eu}(h:¬Np d=true)(h2:d.1=10):RD w d=iH 0 (aj (w.1.1-1)) d.2.1:=by unfold RD;rw[ah h,ak h2]
theorem Qp {w:an}{d:eu}(h:¬Np d=true)(h2:¬d.1=10):RD w d=decide (d.2.1∈dP w):=by unfold RD;rw[ah h,ah h2]
theorem ayq {w:an}(h:aQ w)(d:eu):HP F0 w d=some (RD w d,()):=by
 have hlen:=xI w;have h7:=h.le7;rw[aks,cg,ai,cg,ai,Na h.w.l,ai,fI (by dsimp only;omega),ai];by_cases k3:d.1=3
 ·rw[bB.2 k3,af,Qo (jV.2 (.inl k3))]
 ·rw[cp.2 k3,aa];by_cases k4:d.1=4
  ·rw[bB.2 k4,af,Qo (jV.2 (.inr (.inl k4)))]
  ·rw[cp.2 k4,aa];by_cases k5:d.1=5
   ·rw[bB.2 k5,af,Qo (jV.2 (.inr (.inr k5)))]
   ·have kn:¬Np d=true:=fun hh=>(jV.1 hh).elim k3 (fun hh=>hh.elim k4 k5)
    rw[cp.2 k5,aa];by_cases k10:d.1=10
    ·rw[bB.2 k10,af,aha kn k10]
    ·rw[cp.2 k10,aa,Qp kn k10]
def arq (imp:Bool)(w:an)(d:eu):an×Int:=(lY w d.2.1 (aeF imp w.1 (cM w d.2.1) d).1,(aeF imp w.1 (cM w d.2.1) d).2)
def ayr (w:an)(d:eu):an×Int:=if d.1=2 then aiX w d.2.1 else if Np d=true\/d.1=10 then avO w d else arq true w d
def aEp (w:an)(x:an×Int):an×Int:=if x.2=0 then (if qF x.1=true then (x.1,0) else (w,4)) else (w,x.2)
def doI (w:an)(d:eu):an×Int:=if iH 1 10 d.1=true then (if RD w d=true then aEp w (ayr w d) else (w,2)) else (DL,1)
theorem Xz {w:an}(h:aQ w){a:Int}(ha:iH 0 (aj ((w.2.2.2.1.length:Int)-1)) a=true):0<=a/\a<w.2.2.2.1.length:=by have hn:=h.nl;rw[aH (by omega) (by omega)]at ha;simp only[iH,aJ,cH]at ha;omega
theorem aQ.arq {w:an}(h:aQ w)(imp:Bool){d:eu}(h0:0<=d.2.1)(h1:d.2.1<w.2.2.1.length):aQ (arq imp w d).1:=by obtain⟨hg,hi⟩:=h.rep h0 h1;exact h.lY h0 (hg.aeF imp d) (by rw[aIz];exact hi)
theorem aCP {w:an}(h:aQ w){a:Int}(h0:0<=a)(h1:a<w.2.2.1.length):aQ (aiX w a).1:=by
 unfold aiX;split
 ·split
  ·exact(h.Qm h0 h1).send _
  ·exact h
 ·exact h
theorem XA {w:an}(h:aQ w){d:eu}(hr:Np d=true->0<=d.2.1/\d.2.1<w.2.2.2.1.length)(ht:¬Np d=true->iH 0 (aj (w.1.1-1)) d.2.1=true):Good (avO w d).1:=by
 have hnl:=h.nl;unfold avO;split
 ·exact(h.apK true _).aAU
 ·split
  ·exact(h.Qn _).aAU
  ·split
   ·rename_i k5;obtain⟨r0,r1⟩:=hr (jV.2 (.inr (.inr k5)));refine h.aJv (by rw[aM,dU];omega) fun x hx=>?_
    rcases kI.1 hx with hx|hx
    ·exact h.nb x hx
    ·rw[lZ.1 hx];exact h.aIA r0 r1
   ·split
    ·rename_i k3 k4 k5 hm;have dS:en w.1 d.2.2.2=true:=by unfold NZ at hm;rw[aJ]at hm;exact hm.1
     refine h.aJv (by rw[aM,dU];omega) fun x hx=>?_
     rcases kI.1 hx with hx|hx
     ·exact h.nb x hx
     ·rw[lZ.1 hx];exact asV dS (ht fun hh=>(jV.1 hh).elim k3 (fun hh=>hh.elim k4 k5))
    ·exact h.aAU
theorem aGQ {w:an}(hw:NX w){x:an×Int}(hx:Good x.1) :
  br (x.2==0) ((dN F0 x.1).bind fun r72=>br (!r72.1) (br ((4:Int) != 0) ((aS F0 w).bind fun Iz=>some (Iz.1,(4:Int),())) (some (x.1,0,()))) (br (x.2 != 0) ((aS F0 w).bind fun Iz=>some (Iz.1,x.2,())) (some (x.1,0,())))) (br (x.2 != 0) ((aS F0 w).bind fun Iz=>some (Iz.1,x.2,())) (some (x.1,0,())))=some ((aEp w x).1,(aEp w x).2,()):=by
 rw[Aw hx.1.l,ai,lX hw,ai,ai];unfold aEp;by_cases h0:x.2=0
 ·rw[bB.2 h0,af,ak h0,show(x.2 != 0)=false by simp[h0]];cases qF x.1<;>rfl
 ·rw[cp.2 h0,aa,ah h0,show(x.2 != 0)=true by simp[h0]];rfl
theorem aKA {w:an}(h:aQ w){d:eu}(hd:gz d.2.2.2):alc F0 w d=some ((doI w d).1,(doI w d).2,()):=by
 have h7:=h.le7;rw[azN,Aw h.w.l,ai,h.ok,aK,aa,cg,ai,ayq h,ai,lX h.w];unfold doI;cases hk:iH 1 10 d.1 with
 |false=>rfl
 |true =>
  rw[ak rfl,aK,aa];cases ht:RD w d with
  |false=>rfl
  |true =>
   rw[ak rfl,aK,aa];simp only[ai];have tail:∀x:an×Int,Good x.1->_:=fun x hx=>aGQ h.w hx
   rw[lX h.w]at tail;simp only[ai]at tail;unfold ayr;by_cases k2:d.1=2
   ·have hh:d.2.1∈dP w:=by rw[Qp (fun hh=>by have:=jV.1 hh;omega) (by omega)]at ht;exact tY ht
    obtain⟨r0,r1⟩:=lJ hh;rw[bB.2 k2,af,ak k2,avN h r0 r1,ai];exact tail _ (aCP h r0 r1).aAU
   ·rw[cp.2 k2,aa,ah k2];by_cases kn:Np d=true
    ·have hr:iH 0 (aj ((w.2.2.2.1.length:Int)-1)) d.2.1=true:=by rw[Qo kn]at ht;exact ht
     have hnr:=Xz h hr;have hN:=aiY h hd (fun _=>hnr);have hG:Good (avO w d).1:=XA h (fun _=>hnr) (fun hh=>absurd kn hh);rw[ak (.inl kn),hN,ai];have fin:=tail _ hG;by_cases k3:d.1=3
     ·rw[bB.2 k3,af];exact fin
     ·rw[cp.2 k3,aa];by_cases k4:d.1=4
      ·rw[bB.2 k4,af];exact fin
      ·have k5:d.1=5:=by have:=jV.1 kn;omega
       rw[cp.2 k4,aa,bB.2 k5,af];exact fin
    ·have kn':¬(d.1=3\/d.1=4\/d.1=5):=fun hh=>kn (jV.2 hh)
     rw[cp.2 (show d.1≠3 by omega),aa,cp.2 (show d.1≠4 by omega),aa,cp.2 (show d.1≠5 by omega),aa];by_cases k10:d.1=10
     ·have hr:iH 0 (aj (w.1.1-1)) d.2.1=true:=by rw[aha kn k10]at ht;exact ht
      have hN:=aiY h hd (fun hh=>absurd (jV.2 hh) kn);rw[bB.2 k10,af,ak (.inr k10),hN,ai];exact tail _ (XA h (fun hh=>absurd hh kn) (fun _=>hr))
     ·have hh:d.2.1∈dP w:=by rw[Qp kn k10]at ht;exact tY ht
      obtain⟨r0,r1⟩:=lJ hh;obtain⟨hg,hi⟩:=h.rep r0 r1;rw[cp.2 k10,aa,ah (fun hh=>hh.elim kn k10),mb r0 (by omega),ae,Ip r0 r1,ayn hg hd,ai,ae];exact tail (arq true w d) (h.arq true r0 r1).aAU
def aiZ (w:an)(d:eu):an:=if (doI w d).2=0 then (doI w d).1 else w
def ahb (w:an)(list:List eu):an:=list.foldl aiZ w
theorem aCQ {w:an}(h:aQ w)(d:eu):aQ (aiZ w d):=by
 unfold aiZ;split
 ·rename_i h0;unfold doI at h0 ⊢;cases hk:iH 1 10 d.1 with
  |false=>rw[hk,ah (by decide)]at h0;exact absurd (show(1:Int)=0 from h0) (by decide)
  |true =>
   rw[hk,ak rfl]at h0;rw[ak rfl];cases ht:RD w d with
   |false=>rw[ht,ah (by decide)]at h0;exact absurd (show(2:Int)=0 from h0) (by decide)
   |true =>
    rw[ht,ak rfl]at h0;rw[ak rfl];have hG:Good (ayr w d).1:=by
     unfold ayr;by_cases k2:d.1=2
     ·have hh:d.2.1∈dP w:=by rw[Qp (fun hh=>by have:=jV.1 hh;omega) (by omega)]at ht;exact tY ht
      obtain⟨r0,r1⟩:=lJ hh;rw[ak k2];exact(aCP h r0 r1).aAU
     ·rw[ah k2];by_cases kn:Np d=true
      ·have hr:iH 0 (aj ((w.2.2.2.1.length:Int)-1)) d.2.1=true:=by rw[Qo kn]at ht;exact ht
       rw[ak (.inl kn)];exact XA h (fun _=>Xz h hr) (fun hh=>absurd kn hh)
      ·by_cases k10:d.1=10
       ·have hr:iH 0 (aj (w.1.1-1)) d.2.1=true:=by rw[aha kn k10]at ht;exact ht
        rw[ak (.inr k10)];exact XA h (fun hh=>absurd hh kn) (fun _=>hr)
       ·have hh:d.2.1∈dP w:=by rw[Qp kn k10]at ht;exact tY ht
        obtain⟨r0,r1⟩:=lJ hh;rw[ah (fun hh=>hh.elim kn k10)];exact(h.arq true r0 r1).aAU
    unfold aEp at h0 ⊢;by_cases hx:(ayr w d).2=0
    ·rw[ak hx]at h0 ⊢;cases ho:qF (ayr w d).1 with
     |false=>rw[ho,ah (by decide)]at h0;exact absurd (show(4:Int)=0 from h0) (by decide)
     |true=>rw[ak rfl];exact hG.2 ho
    ·rw[ah hx]at h0;exact absurd h0 hx
 ·exact h
theorem ays:∀{list:List eu} {w:an},aQ w->aQ (ahb w list)
 |[],_,h=>h
 |d::list,w,h=>ays (list:=list) (aCQ h d)
theorem aEq {w:an}(h:aQ w){list:List eu}(hl:list.length<=500)(hd:∀d∈list,gz d.2.2.2):∃Tx:List Int,Tx.length=list.length/\Kx F0 w list=some (ahb w list,Tx,()):=by
 rw[aq4,lX h.w,ai,Aw h.w.l,ai,h.ok,aK,aa,aR (show ¬(list.length:Int)>500 by omega),aa];have key:∀(j k:Nat) (z:an) (xs:List Int) (n:Nat),k+j=list.length->aQ z->xs.length=k->j<n->∃Tx:List Int,Tx.length=list.length /\
   As F0 (Kw F0) n (rJ list (list.length:Int) (k:Int) 0 0 z.1.1 z.1.2 z.2.1 z.2.2.1 z.2.2.2.1 z.2.2.2.2 xs [] [] [] [])=some (ahb z (list.drop k),Tx,()):=by
  intro j
  induction j with
  |zero =>
   intro k z xs n hk hz hx hn;obtain⟨n,rfl⟩:∃m,n=m+1:=⟨n-1,by omega⟩;obtain rfl:k=list.length:=by omega
   rw[M4,aI,aa,agE,TR];exact⟨xs,hx,rfl⟩
  |succ j ih =>
   intro k z xs n hk hz hx hn;obtain⟨n,rfl⟩:∃m,n=m+1:=⟨n-1,by omega⟩;have hk':k<list.length:=by omega
   have hD:=aKA hz (hd _ (dr hk'));rw[M4,aW hk',af,av hk',ae,bC hk',show(((z.1.1,z.1.2),z.2.1,z.2.2.1,z.2.2.2.1,z.2.2.2.2):an)=z from rfl,hD,ai,az (by omega) (by omega) (by first|omega|(simp only[aM,ba,bA];omega)|(rw[bo,bQ];omega)),ae,ae,ao (by omega),X8 hk'];have hst:=aCQ hz list[k];show ∃Tx:List Int,_/\_=some (ahb (aiZ z list[k]) (list.drop (k+1)),Tx,());by_cases h0:(doI z list[k]).2=0
   ·have e:aiZ z list[k]=(doI z list[k]).1:=ak h0;rw[e]at hst ⊢;rw[bB.2 h0,af];exact ih (k+1) _ _ n (by omega) hst (by rw[aM,dU];omega) (by omega)
   ·have e:aiZ z list[k]=z:=ah h0;rw[e];rw[cp.2 h0,aa];exact ih (k+1) _ _ n (by omega) hz (by rw[aM,dU];omega) (by omega)
 exact key list.length 0 w [] F0.n (by omega) h rfl (by rw[ch];omega)
theorem aEr {w:an}(h:aQ w){list:List eu}(hl:list.length<=500)(hd:∀d∈list,gz d.2.2.2):∃Tx,Kx F0 w list=some (ahb w list,Tx,()):=by obtain⟨Tx,_,h⟩:=aEq h hl hd;exact⟨Tx,h⟩
def aeG (w:an)(x:an×Int):an×Int×an:=if x.2=0 then (x.1,0,DL) else (DL,x.2,w)
theorem xJ (w x:an):aeG w (x,0)=(x,0,DL):=ak rfl
theorem EX (w y:an){k:Int}(h:k≠0):aeG w (y,k)=(DL,k,w):=ah h
def aKB (w:an)(a:Int):an×Int:=(lY w a (abv w.1 (cM w a)).1,(abv w.1 (cM w a)).2)
theorem aAX {w:an}(h:aQ w){a:Int}(h0:0<=a)(h1:a<w.2.2.1.length):L4 F0 w a=some (aeG w (aKB w a)):=by
 obtain⟨hg,hi⟩:=h.rep h0 h1;rw[ans,mb h0 (by omega),ae,Ip h0 h1,aCL hg,ai,ae,eO hg.bt,ai];unfold aKB abv;cases hk:(ask w.1 (cM w a)).2 with
 |false=>rfl
 |true =>
  obtain⟨_,hb,_,_⟩:=aGG hk;obtain⟨hb1,hb2⟩:=IJ hb;have hT:zl F0 w.1 ((cM w a).1,(cM w a).2.1,(cM w a).2.1,(cM w a).2.2.2) (1,0,(ask w.1 (cM w a)).1,(0,al,[]),(0,al,[]),0,0,0,0,0)=some ((akZ w.1 (cM w a)).1,(akZ w.1 (cM w a)).2,()):=ax8 hg.KP (abo hb1 hb2);dsimp only;rw[hT,ai,ZY (aAN hg) hb,ai,aK,aa,ak rfl];cases (akZ w.1 (cM w a)).2 with
  |false=>rw[ah (fun hh=>by cases hh.1)];rfl
  |true =>
   cases (gT w.1 (akZ w.1 (cM w a)).1 (ask w.1 (cM w a)).1).2 with
   |false=>rw[ah (fun hh=>by cases hh.2)];rfl
   |true =>
    rw[ak ⟨rfl,rfl⟩,aK,aa,aa,ae];rfl
def aGR (w:an)(a:Int):an×Int:=(lY w a (asR w.1 (cM w a)).1,(asR w.1 (cM w a)).2)
theorem ayt {w:an}(h:aQ w){a:Int}(h0:0<=a)(h1:a<w.2.2.1.length):HC F0 w a=some (aeG w (aGR w a)):=by
 obtain⟨hg,hi⟩:=h.rep h0 h1;have ht:=hg.f.l.t;rw[aj9,mb h0 (by omega),ae,Ip h0 h1,aH (by omega) (by omega)];unfold aGR asR;generalize hr:cM w a=r at hg ht;have key:∀(k n:Nat),k<=r.2.2.2.2.2.1.length->k<n ->
   zq F0 (sJ F0) n (sI a ((k:Int)-1) w.1.1 w.1.2 w.1.1 w.1.2 0 0 r.1 r.2.1 r.2.2.1 r.2.2.2.1.1 r.2.2.2.1.2.1 r.2.2.2.1.2.2.1.1 r.2.2.2.1.2.2.1.2.1 r.2.2.2.1.2.2.1.2.2 r.2.2.2.1.2.2.2 r.2.2.2.2.1 r.2.2.2.2.2.1 r.2.2.2.2.2.2.1.1 r.2.2.2.2.2.2.1.2 r.2.2.2.2.2.2.2 w.2.1 w.2.2.1 w.2.2.2.1 w.2.2.2.2 [] [] [] [])
    = some (aeG w (lY w a (AE w.1 r k).1,(AE w.1 r k).2)):=by
  intro k
  induction k with
  |zero =>
   intro n hk hn;obtain⟨n,rfl⟩:∃m,n=m+1:=⟨n-1,by omega⟩;rw[Gm,aR (show ¬((0:Nat):Int)-1>=0 by omega),aa,aaJ];rfl
  |succ k ih =>
   intro n hk hn;obtain⟨n,rfl⟩:∃m,n=m+1:=⟨n-1,by omega⟩;have hk':k<r.2.2.2.2.2.1.length:=by omega
   have hC:=aEh hg (r.2.2.2.2.2.1[k]).1 (hg.l.tq _ (dr hk')).1 true;rw[Gm,show((k+1:Nat):Int)-1=(k:Int) by omega,aL (show(k:Int)>=0 by omega),af,av hk',ae,ae,ae,bC hk',L9,mb h0 (by omega)];unfold AE;rw[bp hk',show((r.2.2.2.2.2.1[k]).2.1.toList==al.toList)=ed (r.2.2.2.2.2.1[k]).2.1 from rfl];cases hnn:ed (r.2.2.2.2.2.1[k]).2.1 with
   |true =>
    rw[ak rfl,af,aH (by omega) (by omega)];exact ih n (by omega) (by omega)
   |false =>
    rw[ah (by decide),aa];refine A5 (AJ (fun x=>Option.bind x _) hC) ?_;rw[ai];cases (gG w.1 r (r.2.2.2.2.2.1[k]).1 (r.2.2.2.2.2.1[k]).2.1 true).2 with
    |false=>rfl
    |true =>
     rw[ak rfl,ak rfl];dsimp only;rw[aK,aa,ae,L9];rfl
 exact key r.2.2.2.2.2.1.length F0.n (b9 _) (by rw[ch];omega)
theorem aGS {w:an}{a:Int}(r:aD)(list:List km):qI (lY w a r) a list=lY (qI w a list) a r:=by
 have e:dP (lY w a r)=dP w:=by unfold dP lY;dsimp only;rw[abK]
 unfold qI;rw[e];split<;>rfl
def ayu (w:an)(a:Int):an×Int:=if w.2.2.2.1.length+(bY w a).length<=60/\w.2.2.2.2.length+(bY w a).length<=300 then (aeD (Qm w a) (bY w a),0) else (w,4)
theorem ayv {w:an}(h:aQ w){a:Int}(h0:0<=a)(h1:a<w.2.2.1.length):HB F0 w a=some (aeG w (ayu w a)):=by
 obtain⟨hg,hi⟩:=h.rep h0 h1;have hln:(bY w a).length<=30:=hg.f.n;have hm:∀p∈bY w a,gz p.2:=hg.aJu;have hnl:=h.nl;have hsl:=h.sl;have hS:=ax6 hg;have aDp:=h.lY h0 hg.ZX hi;have hL:JR F0 (w.1,w.2.1,w.2.2.1.set a.toNat (ZX (cM w a)),w.2.2.2) a (bY w a)=some (Qm w a,()):=by have:=aEm aDp.w aDp.sl a (list:=bY w a) (by omega) hm;rw[aGS]at this;exact this
 have hsw:=h.Qm h0 h1;rw[aj7,mb h0 (by omega),ae,Ip h0 h1,hS,ai];dsimp only;rw[show(cM w a).2.2.2.2.2.2.2=bY w a from rfl,aH (n:=(w.2.2.2.1.length:Int)+(bY w a).length) (by omega) (by omega),aH (n:=(w.2.2.2.2.length:Int)+(bY w a).length) (by omega) (by omega),ae,hL,ai,aiU hsw.nl (by omega) hm,ai];unfold ayu;by_cases g1:w.2.2.2.1.length+(bY w a).length<=60
 ·rw[aR (show ¬(w.2.2.2.1.length:Int)+(bY w a).length>60 by omega),aa];by_cases g2:w.2.2.2.2.length+(bY w a).length<=300
  ·rw[aR (show ¬(w.2.2.2.2.length:Int)+(bY w a).length>300 by omega),aa,ak ⟨g1,g2⟩,xJ];rfl
  ·rw[aL (show(w.2.2.2.2.length:Int)+(bY w a).length>300 by omega),af,ah (fun hh=>g2 hh.2),EX _ _ (by decide)];rfl
 ·rw[aL (show(w.2.2.2.1.length:Int)+(bY w a).length>60 by omega),af,ah (fun hh=>g1 hh.1),EX _ _ (by decide)];rfl
def aGT (w:an)(d:eu):an×Int :=
 if iH 0 (aj ((w.2.2.2.1.length:Int)-1)) d.2.1=true then
  if d.1=5 then (if w.2.2.2.1.length<60 then (abx w (w.2.2.2.1++[eW w d.2.1]),0) else (w,4))
  else if d.1=3/\(eW w d.2.1).1 ∉ w.2.1 then (lY (Qn w d.2.1) (eW w d.2.1).1 (apJ false w (eW w d.2.1)),0) else (Qn w d.2.1,0)
 else (w,2)
theorem aIC {imp:Bool}{c:Int×Int}{r:aD}{m:cX}(h:(KN imp c r m).2=false):(KN imp c r m).1=r:=by
 unfold KN at h ⊢;split
 ·rename_i hh;rw[ak hh]at h;cases h
 ·rfl
theorem aGU {w:an}{a:Int}(h0:0<=a)(h1:a<w.2.2.1.length):w.2.2.1.set a.toNat (cM w a)=w.2.2.1:=by unfold cM;rw[bp (show a.toNat<w.2.2.1.length by omega)];exact ayW _
theorem aID {w:an}{a:Int}(h0:0<=a)(h1:a<w.2.2.2.1.length)(d:ph):aP w.2.2.2.1 a d=eW w a:=by
 have hk:a.toNat<w.2.2.2.1.length:=by omega
 unfold eW;rw[bp hk];exact bp hk d
theorem aAY {w:an}(h:aQ w)(d:eu):xr F0 w d=some (aeG w (aGT w d)):=by
 have hnl:=h.nl;have hli:=h.liars;have h7:=h.le7;rw[ani,dz,ai];unfold aGT;cases hr:iH 0 (aj ((w.2.2.2.1.length:Int)-1)) d.2.1 with
 |false=>rw[ah (by decide),EX _ _ (by decide)];rfl
 |true =>
  obtain⟨r0,r1⟩:=Xz h hr;have hx:=h.aIA r0 r1;obtain⟨hml,hmo⟩:=ayp hx.2.1;obtain⟨t0,t1⟩:=h.aAS hx.2.2;obtain⟨hg,hid⟩:=h.rep t0 t1;have e1:aj (d.2.1+1)=d.2.1+1:=aH (by omega) (by omega);have et:(d.2.1+1).toNat=d.2.1.toNat+1:=by omega
  have aOJ:([]++w.2.2.2.1.take d.2.1.toNat)++(w.2.2.2.1.take (w.2.2.2.1.length:Int).toNat).drop (d.2.1+1).toNat=aby w.2.2.2.1 d.2.1.toNat:=by rw[kH,nF,et];rfl
  have hl1:(w.2.2.2.1.take d.2.1.toNat).length<=60:=by rw[bQ];omega
  have hl2:((w.2.2.2.1.take (w.2.2.2.1.length:Int).toNat).drop (d.2.1+1).toNat).length<=60:=by rw[bo,bQ];omega
  have aOK:okT d.2.1 (w.2.2.2.1.length:Int)=true:=by simp[okT];omega
  rw[ak rfl,aK,aa,mb r0 r1,ae,aID r0 r1,az (a:=0) (by omega) (by omega) (by have:=hx.1.1;omega),ae,az (by omega) (by omega) (by first|omega|(simp only[aM,ba,bA];omega)|(rw[bo,bQ];omega)),ae,aOK,ae,e1,ao6 (by omega) (by omega) (by omega),ae,az (a:=0) (by omega) (by omega) (by omega),ae,az (by omega) (by omega) (by rw[AI];omega),ae,
   aOJ,gk (by omega),ai,asB hx.1,ai,mb t0 t1,ae]
  dsimp only;rw[Ip t0 t1,aye hg hml,ai,ae];by_cases k5:d.1=5
  ·rw[bB.2 k5,af,ak k5];by_cases g:w.2.2.2.1.length<60
   ·rw[aR (show ¬(w.2.2.2.1.length:Int)>=60 by omega),aa,ak g,xJ];rfl
   ·rw[aL (show(w.2.2.2.1.length:Int)>=60 by omega),af,ah g,EX _ _ (by decide)];rfl
  ·rw[cp.2 k5,aa,ah k5];by_cases k3:d.1=3
   ·rw[bB.2 k3,af];by_cases hm:(eW w d.2.1).1∈w.2.1
    ·rw[aL hm,aK,aa,ah (fun hh=>hh.2 hm),xJ];rfl
    ·rw[aR hm,eZ,af,ak ⟨k3,hm⟩,xJ];unfold apJ;cases h9:(KN false w.1 (cM w (eW w d.2.1).1) (tK w.1 (eW w d.2.1).2).1).2 with
     |true=>rfl
     |false =>
      rw[aIC h9];have:=aGU t0 t1;show some (((w.1,w.2.1,w.2.2.1,aby w.2.2.2.1 d.2.1.toNat,w.2.2.2.2):an),(0:Int),_)=some ((w.1,w.2.1,w.2.2.1.set _ _,aby w.2.2.2.1 d.2.1.toNat,w.2.2.2.2),0,DL);rw[this];rfl
   ·rw[cp.2 k3,aa,ah (fun hh=>k3 hh.1),xJ];rfl
def aGV (w:an)(d:eu):an×Int :=
 if iH 0 (aj (w.1.1-1)) d.2.1=true then (if NZ w.1 w.2.1 w.2.2.2.2 d.2.2.2=true then (if w.2.2.2.1.length<60 then (aeD w [(d.2.1,d.2.2.2)],0) else (w,4)) else (w,5)) else (w,2)
theorem aAZ {w:an}(h:aQ w){d:eu}(hd:gz d.2.2.2):L0 F0 w d=some (aeG w (aGV w d)):=by
 have hnl:=h.nl;have hli:=h.liars;have hsl:=h.sl;rw[anp,dz,ai,aAI (by omega) (by omega) hd,ai,aiU hnl (by simp) (fun p hp=>by rw[lZ.1 hp];exact hd),ai];unfold aGV;cases iH 0 (aj (w.1.1-1)) d.2.1 with
 |false=>rfl
 |true =>
  cases NZ w.1 w.2.1 w.2.2.2.2 d.2.2.2 with
  |false=>rfl
  |true =>
   by_cases g:w.2.2.2.1.length<60
   ·rw[aR (show ¬(w.2.2.2.1.length:Int)>=60 by omega),ak g];rfl
   ·rw[aL (show(w.2.2.2.1.length:Int)>=60 by omega),ah g];rfl
def aGW (w:an)(d:eu):an×Int:=if d.1=2 then ayu w d.2.1 else arq false w d
theorem asW {w:an}{x:an×Int}:((some (aeG w x):Option (an×Int×an)).bind fun r=>br (r.2.1==0) (some (r.1,(0:Int),DL)) (br (r.2.1==0) none (some (DL,r.2.1,w.1,r.2.2.2))))=some (aeG w x):=by
 rw[ai];unfold aeG;by_cases h:x.2=0
 ·rw[ak h];rfl
 ·rw[ah h];dsimp only;rw[cp.2 h,aa,aa]
theorem aA0 {w:an}(h:aQ w){d:eu}(hd:gz d.2.2.2)(h0:0<=d.2.1)(h1:d.2.1<w.2.2.1.length):Md F0 w d=some (aeG w (aGW w d)):=by
 obtain⟨hg,hi⟩:=h.rep h0 h1;have hR:Pg F0 w.1 ((cM w d.2.1).1,(cM w d.2.1).2.1,(cM w d.2.1).2.2.1,(cM w d.2.1).2.2.2.1,(cM w d.2.1).2.2.2.2.1,(cM w d.2.1).2.2.2.2.2.1,gF (cM w d.2.1).2.2.2.2.2.2.1 d.2.2.1,(cM w d.2.1).2.2.2.2.2.2.2)=some (aiV w.1 (cM w d.2.1) d.2.2.1,()):=aGA (hg.WN d.2.2.1).bt (hg.WN d.2.2.1).ok;have pd:=fun x:an×Int=>asW (w:=w) (x:=x)
 unfold DL at pd;rw[anF,mb h0 (by omega),ae,aAX h h0 h1,ayv h h0 h1,ayt h h0 h1,Ip h0 h1,eO hg.bt,aAt hg.bt.d.1,aGH hg,aye hg hd];have p1:=pd (aKB w d.2.1);have p2:=pd (ayu w d.2.1);have p3:=pd (aGR w d.2.1);unfold aGW arq aeF;by_cases k1:d.1=1
 ·rw[bB.2 k1,af,ah (by omega),ak k1];exact p1
 ·rw[cp.2 k1,aa,ah k1];by_cases k2:d.1=2
  ·rw[bB.2 k2,af,ak k2];exact p2
  ·rw[cp.2 k2,aa,ah k2];by_cases k6:d.1=6
   ·rw[bB.2 k6,af,ak k6];exact p3
   ·rw[cp.2 k6,aa,ah k6];by_cases k8:d.1=8
    ·rw[bB.2 k8,af,ah (by omega),ak k8,xJ];simp only[ai,hR,ae];rfl
    ·rw[cp.2 k8,aa];by_cases k7:d.1=7
     ·rw[bB.2 k7,af,ak k7,ai];cases (GN w.1 (cM w d.2.1)).2 with
      |false=>rw[ah (by decide),EX _ _ (k:=3) (show(3:Int)≠0 by decide)];rfl
      |true=>rw[ak rfl,xJ,ae];rfl
     ·rw[cp.2 k7,aa,ah k7,ah k8,ai];unfold aAO;cases (KN false w.1 (cM w d.2.1) d.2.2.2).2 with
      |false=>rw[ah (fun hh=>by cases hh.1),EX _ _ (k:=3) (show(3:Int)≠0 by decide)];rfl
      |true =>
       by_cases k4:d.2.2.2.1=4
       ·rw[ak ⟨rfl,k4⟩,xJ,aK,aa,show(d.2.2.2.1 != 4)=false by simp[k4],aa,ae];rfl
       ·rw[ah (fun hh=>k4 hh.2),EX _ _ (k:=3) (show(3:Int)≠0 by decide),aK,aa,show(d.2.2.2.1 != 4)=true by simp[k4],af];rfl
def aA1 (w:an)(d:eu):an×Int:=if Np d=true then aGT w d else if d.1=10 then aGV w d else if d.2.1∈dP w then aGW w d else (w,2)
theorem aA2 {w:an}(h:aQ w){d:eu}(hd:gz d.2.2.2):Me F0 w d=some (aeG w (aA1 w d)):=by
 have hlen:=xI w;have h7:=h.le7;have pd:=fun x:an×Int=>asW (w:=w) (x:=x)
 unfold DL at pd;have p1:=pd (aGT w d);have p2:=pd (aGV w d);have p3:=pd (aGW w d);rw[anH,aAY h,aAZ h hd,aoZ h.w.l];unfold aA1;by_cases kn:Np d=true
 ·rw[ak kn];by_cases k3:d.1=3
  ·rw[bB.2 k3,af];exact p1
  ·rw[cp.2 k3,aa];by_cases k4:d.1=4
   ·rw[bB.2 k4,af];exact p1
   ·have k5:d.1=5:=by have:=jV.1 kn;omega
    rw[cp.2 k4,aa,bB.2 k5,af];exact p1
 ·have kn':¬(d.1=3\/d.1=4\/d.1=5):=fun hh=>kn (jV.2 hh)
  rw[ah kn,cp.2 (show d.1≠3 by omega),aa,cp.2 (show d.1≠4 by omega),aa,cp.2 (show d.1≠5 by omega),aa];by_cases k10:d.1=10
  ·rw[bB.2 k10,af,ak k10];exact p2
  ·rw[cp.2 k10,aa,ah k10,ai,gk (by dsimp only;omega),ai];by_cases hh:d.2.1∈dP w
   ·obtain⟨r0,r1⟩:=lJ hh;rw[aL hh,aK,aa,ak hh,aA0 h hd r0 r1];exact p3
   ·rw[aR hh,eZ,af,ah hh,EX _ _ (by decide)];rfl
def ayw (w:an)(d:eu):an:=if (aA1 w d).2=0 then (aA1 w d).1 else w
theorem ayx {w:an}(h:aQ w){d:eu}(hd:gz d.2.2.2):HD F0 w d=some ((ayw w d,()),()):=by
 rw[akd,aA2 h hd,ai];unfold ayw aeG;by_cases h0:(aA1 w d).2=0
 ·rw[ak h0,ak h0];rfl
 ·rw[ah h0,ah h0];dsimp only;rw[cp.2 h0,aa,show((aA1 w d).2 != 0)=true by simp[h0],af]
theorem aQ.aOL {w:an}(h:aQ w)(d:eu):aQ (ayw w d):=by
 unfold ayw;split
 ·rename_i h0;clear h0;unfold aA1;split
  ·unfold aGT;split
   ·rename_i hr;obtain⟨r0,r1⟩:=Xz h hr;have hx:=h.aIA r0 r1;split
    ·split
     ·rename_i g;refine h.abx (by rw[aM,dU];omega) fun x hx'=>?_
      rcases kI.1 hx' with hx'|hx'
      ·exact h.nb x hx'
      ·rw[lZ.1 hx'];exact hx
     ·exact h
    ·split
     ·obtain⟨t0,t1⟩:=h.aAS hx.2.2;obtain⟨hg,hid⟩:=h.rep t0 t1;exact(h.Qn d.2.1).lY t0 (hg.heard false _) (by unfold apJ;rw[avL];exact hid)
     ·exact h.Qn _
   ·exact h
  ·split
   ·unfold aGV;split
    ·split
     ·split
      ·exact h.send _
      ·exact h
     ·exact h
    ·exact h
   ·split
    ·rename_i hh;obtain⟨r0,r1⟩:=lJ hh;unfold aGW;split
     ·unfold ayu;split
      ·exact(h.Qm r0 r1).send _
      ·exact h
     ·exact h.arq false r0 r1
    ·exact h
 ·exact h
def KQ (i:Int):aD:=(i,1,0,mc,[],[],([],0),[])
def X5 (c:Int×Int)(liars:List Int):an:=(c,liars,(List.range c.1.toNat).map fun i:Nat=>KQ (i:Int),[],[])
theorem apL {c:Int×Int}(hc:bO c=true){i:Int}(h0:0<=i)(h1:i<c.1):bc c (KQ i):=by have hn:=cO hc;refine⟨⟨hc,?_,rfl,rfl,abw hc,rfl,rfl,rfl,aV _,fun x hx=>by cases hx⟩,fun x hx=>by cases hx⟩;show iH 0 (aj (c.1-1)) i=true;rw[Wq hn.1 hn.2.1];simp only[iH,aJ,cH];omega
theorem aGX {c:Int×Int}(hc:bO c=true){liars:List Int}(hl:nx c.1 liars=true)(hf:(liars.length:Int)<=FP c):aQ (X5 c liars):=by
 have hn:=cO hc;refine⟨hc,hl,hf,?_,fun r hr=>?_,fun k hk=>?_,aV _,(fun x hx=>by cases hx),aV _,(fun x hx=>by cases hx)⟩
 ·show(((List.range c.1.toNat).map fun i:Nat=>KQ (i:Int)).length:Int)=c.1;rw[tZ,abH];omega
 ·obtain⟨i,hi,rfl⟩:=IN.1 hr;have:=kJ.1 hi;exact apL hc (by omega) (by omega)
 ·have hk':k<((List.range c.1.toNat).map fun i:Nat=>KQ (i:Int)).length:=hk;have hs:(((List.range c.1.toNat).map fun i:Nat=>KQ (i:Int))[k]'hk').1=(k:Int):=by rw[List.getElem_map,List.getElem_range];rfl
  exact hs
theorem aA3 {c:Int×Int}(hc:bO c=true){i:Int}(h0:0<=i)(h1:i<c.1):Lp F0 c i=some (KQ i,true,()):=by
 have hg:=apL hc h0 h1;have hR:ec F0 c (i,1,0,(0,0,(0,al,[]),al),[],[],([],0),[])=some (true,()):=by have:=iT hg.l c;rw[hg.ok]at this;exact this
 rw[amC,hR];rfl
theorem ayy {c:Int×Int}(hc:bO c=true){i:Int}(h0:0<=i)(h1:i<c.1):Mo F0 c i=some (KQ i,true,()):=by
 have hg:=apL hc h0 h1;have hR:c8 F0 c (i,1,0,(0,0,(0,al,[]),al),[],[],([],0),[])=some (true,()):=by have:=eL hg.l c;rw[hg.ok]at this;exact this
 rw[anW,hR];rfl
theorem RE {c:Int×Int}{liars:List Int}(h:aQ (X5 c liars)):lQ F0 c liars=some (X5 c liars,true,()):=by
 have hn:=cO h.c;have hc:bO c=true:=h.c;have hli:liars.length<=7:=h.liars;have hN:(c.1.toNat:Int)=c.1:=aru (by have:4<=c.1:=hn.1;omega);have hN7:c.1.toNat<=7:=by have:c.1<=7:=hn.2.1;omega
 rw[afl,az (a:=0) (by omega) (by omega) (by omega),ae];refine aAo (fun n k xs=>uZ F0 (yC F0) n (pZ k c.1 c.2 0 0 c.1 c.2 [] [] [] [] ([]++liars) xs [] [])) (List.range c.1.toNat) (fun i:Nat=>KQ (i:Int)) _ (fun n k xs hk hx=>?_) (fun n=>?_) _ (by rw[ch,abH];omega)
 ·have hk':k<c.1.toNat:=by rw[abH]at hk;exact hk
  rw[Ea,aL (show(k:Int)<c.1 by omega),af,show((c.1,c.2):Int×Int)=c from rfl,jg,ai,hc,af,aA3 hc (by omega) (by omega),ai,az (by omega) (by omega) (by first|omega|(simp only[aM,ba,bA];omega)|(rw[bo,bQ];omega)),ae,ao (by omega),List.getElem_range]
 ·have dS:yB F0 ((c.1,c.2),[]++liars,((List.range c.1.toNat).map fun i:Nat=>KQ (i:Int),([],[])))=some (true,()):=by have:=axB h.w.l;rw[h.ok]at this;exact this
  rw[Ea,abH,aR (show ¬(c.1.toNat:Int)<c.1 by omega),aa,XI,dS];rfl
theorem ars {c:Int×Int}{liars:List Int}(h:aQ (X5 c liars)):ur F0 c liars=some (X5 c liars,true,()):=by
 have hn:=cO h.c;have hc:bO c=true:=h.c;have hli:liars.length<=7:=h.liars;have hN:(c.1.toNat:Int)=c.1:=aru (by have:4<=c.1:=hn.1;omega);have hN7:c.1.toNat<=7:=by have:c.1<=7:=hn.2.1;omega
 rw[af5,oI (by omega),ai];refine aAo (fun n k xs=>vT F0 (zO F0) n (qp k c.1 c.2 0 0 c.1 c.2 [] [] [] [] liars xs [] [])) (List.range c.1.toNat) (fun i:Nat=>KQ (i:Int)) _ (fun n k xs hk hx=>?_) (fun n=>?_) _ (by rw[ch,abH];omega)
 ·have hk':k<c.1.toNat:=by rw[abH]at hk;exact hk
  rw[EA,show((c.1,c.2):Int×Int)=c from rfl,gx,ai,hc,af,aL (show(k:Int)<c.1 by omega),af,ayy hc (by omega) (by omega),ai,az (by omega) (by omega) (by first|omega|(simp only[aM,ba,bA];omega)|(rw[bo,bQ];omega)),ae,ao (by omega),List.getElem_range]
 ·have dS:dN F0 ((c.1,c.2),liars,((List.range c.1.toNat).map fun i:Nat=>KQ (i:Int),([],[])))=some (true,()):=by have:=Aw h.w.l;rw[h.ok]at this;exact this
  rw[EA,show((c.1,c.2):Int×Int)=c from rfl,gx,ai,hc,af,abH,aR (show ¬(c.1.toNat:Int)<c.1 by omega),aa,XV,dS];rfl
def New (w:an):Prop:=∃c liars,w=X5 c liars/\aQ (X5 c liars)
theorem New.g {w:an}(h:New w):aQ w:=by obtain⟨c,l,rfl,hg⟩:=h;exact hg
theorem aOM (n:Int):nx n []=true:=rfl
theorem aON {n x:Int}(h0:0<=x)(h1:x<n):nx n [x]=true:=by simp[nx,h0,h1]
theorem aA4 {c:Int×Int}(h:bO c=true):1<=FP c:=by have hn:=cO h;unfold FP;rw[ak h];exact(axh hn.1 hn.2.1).1
theorem aGY {c:xO}(h:Rp c):Dr (α:=an) (p4 F0 c) New:=by
 unfold Dr;rw[UR];refine Dr.bind (abg h (l:=[4,4,4,5,7]) (by decide) (by decide)) fun x hx cx=>Dr.bind (iJ cx (n:=3) (by omega) (by omega)) fun y hy cy=>Dr.bind (alk cy (n:=3) (by omega) (by omega)) fun z hz cz=>?_
 have hx':x.1.1=4\/x.1.1=5\/x.1.1=7:=by simp only[gU,as9,or_false]at hx;omega
 have y0:=hy.1;have y1:=hy.2;have hc:bO (x.1.1,aj (1+y.1.1))=true:=by rw[aH (by omega) (by omega)];simp only[bO,iH,aJ,cH];omega
 have hf:=aA4 hc;refine Gd.br (fun _=>?_) fun _=>?_
 ·refine Dr.bind (iJ cz (n:=x.1.1) (by omega) (by omega)) fun v hv cv=>?_
  have hg:aQ (X5 (x.1.1,aj (1+y.1.1)) [v.1.1]):=aGX hc (aON hv.1 hv.2) (by simpa using hf);exact Gd.let (RE hg) (Gd.ret ⟨⟨_,_,rfl,hg⟩,cv⟩)
 ·have hg:aQ (X5 (x.1.1,aj (1+y.1.1)) []):=aGX hc (aOM _) (by simp;omega);exact Gd.let (RE hg) (Gd.ret ⟨⟨_,_,rfl,hg⟩,cz⟩)
theorem aA5 {a b:Int}{β:Type}{f:Int×Unit->Option β}{P:β->Prop}(h:Gd (f (FQ a b,())) P):Gd ((bV F0 a b).bind f) P:=Gd.let (Xr a b) h
theorem aGZ {a b:Int}{β:Type}{f:Int×Unit->Option β}{P:β->Prop}(h:Gd (f (xP a b,())) P):Gd ((eD F0 a b).bind f) P:=Gd.let (Cb a b) h
theorem asX {up:ByteArray}(hu:up.size<=6000){view:Int}(hv:I64 view){l:List fy}(hl:l.length<=10){β:Type}{f:ByteArray×Unit->Option β}{P:β->Prop}(h:∀b:ByteArray,b.size<=7000->Gd (f (b,())) P):Gd ((kW F0 up view l).bind f) P:=by have hN:=ao5 (up:=up.data.toList) (by show up.size<=_;omega) hv (l:=l) (by omega);have hle:=asH (up:=up.data.toList) hv l;refine Gd.let hN (h _ ?_);rw[bP];have:up.data.toList.length=up.size:=rfl;omega
theorem abz {w:an}(h:aQ w)(view:Int)(name:ByteArray)(hn:name.size<=1048576){c:xO}(hc:Rp c) :
  Gd (dv F0 (fi F0) F0.n (c9 view name 0 c.1 c.2.1 c.2.2 w.1.1 w.1.2 w.2.1 w.2.2.1 w.2.2.2.1 w.2.2.2.2 0 0 al 0 al 0 al 0 al 0 0 0 0 0 ([]++w.2.1) [] [] [])) fun z:DrT cX=>(∃q:di,z.1.1=AB q/\uG q)/\Rp z.2.1:=by
 have hsl:=h.sl;have hli:=h.liars;refine ali (fun n i (z:List Int)=>dv F0 (fi F0) n (c9 view name i c.1 c.2.1 c.2.2 w.1.1 w.1.2 w.2.1 w.2.2.1 w.2.2.2.1 w.2.2.2.2 0 0 al 0 al 0 al 0 al 0 0 0 0 0 z [] [] [])) w.2.2.2.2.length (fun k z=>z.length<=7+k) _ (fun n k z hk hI ih=>?_) (fun n z hI=>?_) F0.n 0 ([]++w.2.1) (aV _) (by show w.2.1.length<=_;omega) (by rw[ch];omega)
 ·rw[ui,aW hk,af,av hk,ae,ae,ae,ao (by omega)];refine Gd.br (fun _=>Gd.br (fun _=>Gd.let (aa5 (by omega) _) ?_) fun _=>?_) fun _=>?_
  ·exact ih _ (by have:=aoI z (aP w.2.2.2.2 (k:Int) abb).2.2;exact cT (aoI _ _) (by omega))
  ·exact ih _ (by omega)
  ·exact ih _ (by omega)
 ·rw[ui,aI,aa,OM];exact Gd.ret ⟨⟨(view,name,z),rfl,hn,by show z.length<=_;omega⟩,hc⟩
theorem aG0 {c:xO}(hc:Rp c){w:an}(h:aQ w):Dr (α:=cX) (qd F0 c w) fun m=>∃q:di,m=AB q/\uG q:=by
 have hsl:=h.sl;have hli:=h.liars;unfold Dr;rw[U4];refine Dr.bind (iJ hc (n:=4) (by omega) (by omega)) fun x hx cx=>?_
 have x0:=hx.1;have x1:=hx.2;refine asX (aV _) (by rw[aH (by omega) (by omega)];exact⟨by omega,by omega⟩) (aV _) fun b hb=>?_
 refine Gd.ck (az (a:=0) (by omega) (by omega) (by omega)) (Gd.br (fun hlen=>?_) fun _=>abz h _ _ (by show b.size<=_;omega) cx);have ap7:0<w.2.2.2.2.length:=by have:=tY hlen;omega
 refine aA5 ?_;have m0:0<FQ (w.2.2.2.2.length:Int) 8:=by unfold FQ;split<;>omega
 have m1:FQ (w.2.2.2.2.length:Int) 8<=w.2.2.2.2.length:=by unfold FQ;split<;>omega
 refine Dr.bind (iJ cx (n:=FQ (w.2.2.2.2.length:Int) 8) m0 (by omega)) fun y hy cy=>?_
 have y0:=hy.1;have y1:=hy.2;have e1:aj (aj ((w.2.2.2.2.length:Int)-1)-y.1.1)=((w.2.2.2.2.length-1-y.1.1.toNat:Nat):Int):=by rw[aH (n:=(w.2.2.2.2.length:Int)-1) (by omega) (by omega),aH (by omega) (by omega)];omega
 have hk:w.2.2.2.2.length-1-y.1.1.toNat<w.2.2.2.2.length:=by omega
 have hs:=h.sb _ (dr hk);have hsz:=pO hs.2.1;have hv:=P8 (w.2.2.2.2[w.2.2.2.2.length-1-y.1.1.toNat]).2.1.data.toList;have hv2:=hs.2.2;rw[e1];refine Gd.ck (av hk) (Dr.bind (alk cy (n:=3) (by omega) (by omega)) fun z hz cz=>?_);rw[bC hk];refine Gd.br (fun _=>Gd.let (ad5 (cT hsz (by omega))) ?_) fun _=>abz h _ _ (by omega) cz
 refine asX (up:=upB (w.2.2.2.2[w.2.2.2.2.length-1-y.1.1.toNat]).2.1) (cT (KL _) (by omega)) (by rw[<-hv2];exact⟨by omega,by omega⟩) (by simp) fun b hb=>abz h _ _ (by show b.size<=_;omega) cz
theorem apM {c:Int×Int}{q:di}{view:Int}{l:List fy}:(ka c q view l).1.1.size<=1048576/\uG (ka c q view l).1.2:=by
 unfold ka;split
 ·rename_i hh;exact IJ hh.1
 ·exact⟨aV _,gp⟩
theorem aG1 {w:an}(h:aQ w){q:di}(hq:fN w.1 q=true)(dm:Int){view:Int}(v0:0<=view)(v1:view<=61){c:xO}(hc:Rp c) :
  Gd (bW F0 (bE F0) F0.n (bD dm view 0 c.1 c.2.1 c.2.2 w.1.1 w.1.2 w.2.1 w.2.2.1 w.2.2.2.1 w.2.2.2.2 0 0 al 0 al 0 al 0 al 0 0 0 0 0 q.1 q.2.1 [] [] [] q.2.2)) fun z:DrT cX=>gz z.1.1/\Rp z.2.1:=by
 have out:∀v:Int,0<=v->v<=61->Gd (bE F0 (.exit 1) (iz v c.1 c.2.1 c.2.2 w.1.1 w.1.2 w.2.1 w.2.2.1 w.2.2.2.1 w.2.2.2.2 0 0 al 0 al 0 al 0 al 0 0 0 0 0 q.1 q.2.1 [] [] [] q.2.2)) fun z:DrT cX=>gz z.1.1/\Rp z.2.1:=fun v h0 h1=>by
  rw[TG];refine Dr.bind (asG hc) fun x hx cx=>?_
  have hB:=aex (c:=w.1) hq (view:=v) ⟨by omega,by omega⟩ (l:=[x.1.1]) (by simp);exact Gd.let hB (Gd.ret ⟨abo apM.1 apM.2,cx⟩)
 refine ali (fun n k (v:Int)=>bW F0 (bE F0) n (bD dm v k c.1 c.2.1 c.2.2 w.1.1 w.1.2 w.2.1 w.2.2.1 w.2.2.2.1 w.2.2.2.2 0 0 al 0 al 0 al 0 al 0 0 0 0 0 q.1 q.2.1 [] [] [] q.2.2)) 7 (fun k v=>0<=v/\v<=61) _ (fun n k v hk hI ih=>?_) (fun n v hI=>?_) F0.n 0 view (aV _) ⟨v0,v1⟩ (by rw[ch];omega)
 ·have i0:=hI.1;have i1:=hI.2;rw[yT,aL (show(k:Int)<7 by omega),af];refine Gd.br (fun hv=>Gd.let (KB _ _) (Gd.br (fun _=>?_) fun _=>out v i0 i1)) fun _=>out v i0 i1
  have hv':=tY hv;rw[aH (n:=v+1) (by omega) (by omega),ao (by omega)];exact ih (v+1) ⟨by omega,by omega⟩
 ·rw[yT,aR (show ¬((7:Nat):Int)<7 by omega),aa];exact out v hI.1 hI.2
theorem ayz {w:an}(h:aQ w){q:di}(hq:fN w.1 q=true)(dm:Int){m:cX}(hm:gz m){c:xO}(hc:Rp c) :
  Gd ((ax F0 c 4).bind fun eY=>br (eY.1.1==0) (some ((m,()),eY.2.1,())) (br (eY.1.1==1) ((ax F0 eY.2.1 2).bind fun Lu=>(bV F0 (aj ((aj (q.1+1))+Lu.1.1)) 60).bind fun r77=>some (((3,r77.1,(al,0,al,[]),(0,al,[]),q,dm,0,0,0,0),()),Lu.2.1,())) (bW F0 (bE F0) F0.n (bD dm (aj (q.1+1)) 0 eY.2.1.1 eY.2.1.2.1 eY.2.1.2.2 w.1.1 w.1.2 w.2.1 w.2.2.1 w.2.2.2.1 w.2.2.2.2 0 0 al 0 al 0 al 0 al 0 0 0 0 0 q.1 q.2.1 [] [] [] q.2.2)))) fun z:DrT cX=>gz z.1.1/\Rp z.2.1:=by
 obtain⟨_,_,h3,_⟩:=abi hq;have hv:=P8 q.2.1.data.toList;have e:aj (q.1+1)=q.1+1:=aH (by omega) (by omega);refine Dr.bind (iJ hc (n:=4) (by omega) (by omega)) fun x hx cx=>Gd.br (fun _=>Gd.ret ⟨hm,cx⟩) fun _=>Gd.br (fun _=>?_) fun _=>?_
 ·exact Dr.bind (iJ cx (n:=2) (by omega) (by omega)) fun y hy cy=>aA5 (Gd.ret ⟨Qg (NY hq) dm,cy⟩)
 ·rw[e];exact aG1 h hq dm (by omega) (by omega) cx
theorem ayA {c:Int×Int}(hc:bO c=true):fN c cP=true:=by unfold fN X4;simp only[hc];rfl
theorem ayB:Hn F0=some (cP,()):=by rw[ajH];rfl
theorem aKC {c:xO}(hc:Rp c){w:an}(h:aQ w):Dr (α:=cX) (iY F0 c w) gz:=by
 have h7:=h.le7;have hli:=h.liars;unfold Dr;rw[aaz];refine Dr.bind (aG0 hc h) fun x hx cx=>?_
 obtain⟨q,e,hq⟩:=hx;obtain⟨⟨m,u⟩,⟨c',u'⟩⟩:=x;dsimp only at e cx ⊢;subst e;have hm:=ag5 hq;have dm:∀(Q:di),fN w.1 Q=true->∀c'':xO,Rp c''->Gd (br (decide ((w.2.1.length:Int)>0)) ((ax F0 c'' (w.2.1.length:Int)).bind fun Ix=>ck (cl Ix.1.1 (w.2.1.length:Int)) ((ax F0 Ix.2.1 4).bind fun eY=>br (eY.1.1==0) (some ((AB q,()),eY.2.1,())) (br (eY.1.1==1) ((ax F0 eY.2.1 2).bind fun Lu=>(bV F0 (aj ((aj (Q.1+1))+Lu.1.1)) 60).bind fun r77=>some (((3,r77.1,(al,0,al,[]),(0,al,[]),Q,aP w.2.1 Ix.1.1 0,0,0,0,0),()),Lu.2.1,())) (bW F0 (bE F0) F0.n (bD (aP w.2.1 Ix.1.1 0) (aj (Q.1+1)) 0 eY.2.1.1 eY.2.1.2.1 eY.2.1.2.2 w.1.1 w.1.2 w.2.1 w.2.2.1 w.2.2.2.1 w.2.2.2.2 0 0 al 0 al 0 al 0 al 0 0 0 0 0 Q.1 Q.2.1 [] [] [] Q.2.2))))) ((ax F0 c'' 4).bind fun eY=>br (eY.1.1==0) (some ((AB q,()),eY.2.1,())) (br (eY.1.1==1) ((ax F0 eY.2.1 2).bind fun Lu=>(bV F0 (aj ((aj (Q.1+1))+Lu.1.1)) 60).bind fun r77=>some (((3,r77.1,(al,0,al,[]),(0,al,[]),Q,0,0,0,0,0),()),Lu.2.1,())) (bW F0 (bE F0) F0.n (bD 0 (aj (Q.1+1)) 0 eY.2.1.1 eY.2.1.2.1 eY.2.1.2.2 w.1.1 w.1.2 w.2.1 w.2.2.1 w.2.2.2.1 w.2.2.2.2 0 0 al 0 al 0 al 0 al 0 0 0 0 0 Q.1 Q.2.1 [] [] [] Q.2.2))))) fun z:DrT cX=>gz z.1.1/\Rp z.2.1:=fun Q hQ c'' aMF=>by
  refine Gd.br (fun hl=>?_) fun _=>ayz h hQ 0 hm aMF
  have:=tY hl;refine Dr.bind (iJ aMF (n:=(w.2.1.length:Int)) (by omega) (by omega)) fun y hy cy=>Gd.ck (mb hy.1 hy.2) (ayz h hQ _ hm cy)
 refine Gd.let (Rk (q:=q) hq w.1) (Gd.br (fun _=>Gd.let ayB (Gd.br (fun _=>?_) fun _=>dm cP (ayA h.c) _ cx)) fun dS=>dm q (by simpa using dS) _ cx);refine Dr.bind (alk cx (n:=2) (by omega) (by omega)) fun y hy cy=>Gd.br (fun _=>?_) fun _=>dm cP (ayA h.c) _ cy
 refine Dr.bind (iJ cy (n:=(w.2.2.1.length:Int)) (by omega) (by omega)) fun z hz cz=>Gd.ck (mb hz.1 hz.2) ?_
 have hg:=(h.rep hz.1 hz.2).1;rw[Ip hz.1 hz.2];exact Gd.let (w6 hg.l.s.1.2) (dm _ (fD hg.f.s).2.2.1 _ cz)
def aMG:cX:=(0,0,(al,cP),cP,cP,0,qJ)
theorem Iq:gz aMG:=⟨aV _,gp,gp,gp⟩
def ai0 (d:eu):Prop:=gz d.2.2.2
theorem ahc {w:an}(h:aQ w)(a:Int){c:xO}(hc:Rp c) :
  Gd (br ((w.2.2.2.1.length:Int)==0) (some (((2,a,0,0,0,(al,0,al,[]),(0,al,[]),(0,al,[]),0,0,0,0,0),()),c,())) ((bV F0 (w.2.2.2.1.length:Int) 4).bind fun afx=>(ax F0 c afx.1).bind fun OO=>some (((3,OO.1.1,0,0,0,(al,0,al,[]),(0,al,[]),(0,al,[]),0,0,0,0,0),()),OO.2.1,()))) fun z:DrT eu=>ai0 z.1.1/\Rp z.2.1:=by
 refine Gd.br (fun _=>Gd.ret ⟨Iq,hc⟩) fun hne=>aA5 ?_
 have h0:(w.2.2.2.1.length:Int)≠0:=by simpa using hne
 have m0:0<FQ (w.2.2.2.1.length:Int) 4:=by unfold FQ;split<;>omega
 have m1:FQ (w.2.2.2.1.length:Int) 4<=4:=by unfold FQ;split<;>omega
 exact Dr.bind (iJ hc (n:=FQ (w.2.2.2.1.length:Int) 4) m0 (by omega)) fun y hy cy=>Gd.ret ⟨Iq,cy⟩
theorem aG2 {a:Int}{n k:Nat}(a0:0<=a)(a1:a<n)(hk:k<n)(hn:n<=7):0<=Int.tmod (aj (a+(k:Int))) (n:Int)/\Int.tmod (aj (a+(k:Int))) (n:Int)<n:=by rw[aH (by omega) (by omega),alq (by omega)];exact⟨ahk _ (by omega),alr _ (by omega)⟩
theorem nz0 {n:Nat}(h:0<n):(!((n:Int)==0))=true:=by simp;omega
theorem apN {w:an}(h:aQ w){a:Int}(a0:0<=a)(a1:a<w.2.2.1.length){c:xO}(hc:Rp c) :
  Gd (eG F0 (eH F0) F0.n (dJ (w.2.2.1.length:Int) a 0 c.1 c.2.1 c.2.2 w.1.1 w.1.2 w.2.1 w.2.2.1 w.2.2.2.1 w.2.2.2.2 0 0 0 0 0 al 0 al 0 al 0 al 0 0 0 0 0 [] [] [])) fun z:DrT eu=>ai0 z.1.1/\Rp z.2.1:=by
 have h7:=h.le7;have hli:=h.liars;refine ali (fun n k (z:Unit)=>eG F0 (eH F0) n (dJ (w.2.2.1.length:Int) a k c.1 c.2.1 c.2.2 w.1.1 w.1.2 w.2.1 w.2.2.1 w.2.2.2.1 w.2.2.2.2 0 0 0 0 0 al 0 al 0 al 0 al 0 0 0 0 0 [] [] [])) w.2.2.1.length (fun _ _=>True) _ (fun n k z hk hI ih=>?_) (fun n z hI=>?_) F0.n 0 () (aV _) trivial (by rw[ch];omega)
 ·obtain⟨r0,r1⟩:=aG2 a0 a1 hk h7.2;have hg:=(h.rep r0 r1).1;rw[xq,aW hk,af,nz0 (by omega),ae,mb r0 (by omega),ae,Ip r0 r1,ae,ae,TI,ao (by omega)];refine Gd.let (aCL hg) (Gd.br (fun _=>?_) fun _=>ih () trivial);refine Gd.let (gk (by omega) _) (Gd.br (fun _=>?_) fun _=>ih () trivial);exact Gd.ret ⟨Iq,hc⟩
 ·rw[xq,aI,aa,QR];exact Gd.ret ⟨Iq,hc⟩
theorem XB {w:an}(h:aQ w){a:Int}(a0:0<=a)(a1:a<w.2.2.1.length){c:xO}(hc:Rp c) :
  Gd (eF F0 (dI F0) F0.n (dH (w.2.2.1.length:Int) a 0 c.1 c.2.1 c.2.2 w.1.1 w.1.2 w.2.1 w.2.2.1 w.2.2.2.1 w.2.2.2.2 0 0 0 0 0 al 0 al 0 al 0 al 0 0 0 0 0 [] [] [])) fun z:DrT eu=>ai0 z.1.1/\Rp z.2.1:=by
 have h7:=h.le7;refine ali (fun n k (z:Unit)=>eF F0 (dI F0) n (dH (w.2.2.1.length:Int) a k c.1 c.2.1 c.2.2 w.1.1 w.1.2 w.2.1 w.2.2.1 w.2.2.2.1 w.2.2.2.2 0 0 0 0 0 al 0 al 0 al 0 al 0 0 0 0 0 [] [] [])) w.2.2.1.length (fun _ _=>True) _ (fun n k z hk hI ih=>?_) (fun n z hI=>?_) F0.n 0 () (aV _) trivial (by rw[ch];omega)
 ·obtain⟨r0,r1⟩:=aG2 a0 a1 hk h7.2;rw[xp,aW hk,af,nz0 (by omega),ae,mb r0 (by omega),ae,ae,TH,ao (by omega)];refine Gd.br (fun _=>?_) fun _=>ih () trivial
  exact Gd.ret ⟨Iq,hc⟩
 ·rw[xp,aI,aa,QQ];exact ahc h a hc
theorem apO {w:an}(h:aQ w)(a:Int){c:xO}(hc:Rp c) :
  Gd (br (decide ((w.2.1.length:Int)>0)) ((iY F0 c w).bind fun amY=>some (((10,a,0,amY.1.1),()),amY.2.1,())) (br ((w.2.2.2.1.length:Int)==0) (some (((2,a,0,0,0,(al,0,al,[]),(0,al,[]),(0,al,[]),0,0,0,0,0),()),c,())) ((bV F0 (w.2.2.2.1.length:Int) 4).bind fun afx=>(ax F0 c afx.1).bind fun OO=>some (((3,OO.1.1,0,0,0,(al,0,al,[]),(0,al,[]),(0,al,[]),0,0,0,0,0),()),OO.2.1,())))) fun z:DrT eu=>ai0 z.1.1/\Rp z.2.1 :=
 Gd.br (fun _=>Dr.bind (aKC hc h) fun x hx cx=>Gd.ret ⟨hx,cx⟩) fun _=>ahc h a hc
theorem aIE {c:xO}(hc:Rp c){w:an}(h:aQ w):Dr (α:=eu) (so F0 c w) ai0:=by
 have h7:=h.le7;have hnl:=h.nl;unfold Dr;rw[XO];refine aGZ ?_;have m:xP (w.2.2.1.length:Int) 1=w.2.2.1.length:=by unfold xP;rw[ah (by omega)]
 dsimp only;rw[m];refine Dr.bind (iJ hc (n:=(w.2.2.1.length:Int)) (by omega) (by omega)) fun x hx cx=>?_
 obtain⟨a0,a1⟩:=hx;refine Dr.bind (iJ cx (n:=20) (by omega) (by omega)) fun y hy cy=>?_
 refine Gd.br (fun _=>apN h a0 a1 cy) fun _=>Gd.br (fun _=>apN h a0 a1 cy) fun _=>Gd.br (fun _=>apN h a0 a1 cy) fun _=>Gd.br (fun _=>XB h a0 a1 cy) fun _=>Gd.br (fun _=>XB h a0 a1 cy) fun _=>Gd.br (fun _=>XB h a0 a1 cy) fun _=>Gd.br (fun _=>XB h a0 a1 cy) fun _=>Gd.br (fun _=>Gd.ret ⟨Iq,cy⟩) fun _=>Gd.br (fun _=>Gd.ret ⟨Iq,cy⟩) fun _=>Gd.br (fun _=>?_) fun _=>Gd.br (fun _=>?_) fun _=>Gd.br (fun _=>apO h _ cy) fun _=>Gd.br (fun _=>apO h _ cy) fun _=>Gd.br (fun _=>apO h _ cy) fun _=>ahc h _ cy
 ·refine Dr.bind (alk cy (n:=2) (by omega) (by omega)) fun z hz cz=>Gd.br (fun _=>?_) fun _=>?_
  ·exact Dr.bind (abg cz (l:=[0,0,5,40,9999]) (by decide) (by decide)) fun v hv cv=>Gd.ret ⟨Iq,cv⟩
  ·refine Dr.bind (iJ cz (n:=2) (by omega) (by omega)) fun v hv cv=>aGZ ?_
   have m0:0<xP (w.2.2.2.1.length:Int) 1:=by unfold xP;split<;>omega
   have m1:xP (w.2.2.2.1.length:Int) 1<=60:=by unfold xP;split<;>omega
   exact Dr.bind (iJ cv (n:=xP (w.2.2.2.1.length:Int) 1) m0 (by omega)) fun u hu cu=>Gd.ret ⟨Iq,cu⟩
 ·exact Dr.bind (asG cy) fun v hv cv=>Gd.ret ⟨⟨aV _,gp,gp,gp⟩,cv⟩
theorem aG3 {code:List Int}(h:code.length<=1048576):∃v:Int,Ly F0 code 70 140=some (v,())/\70<=v/\v<=140:=by
 have hd:Int.tdiv (code.length:Int) 4=(code.length:Int)/4:=art (by omega);rw[amO,hd,aH (n:=(code.length:Int)/4) (by omega) (by omega),aH (by omega) (by omega)];by_cases g:70+(code.length:Int)/4>140
 ·rw[aL g];exact⟨140,rfl,by omega,by omega⟩
 ·rw[aR g];exact⟨70+(code.length:Int)/4,rfl,by omega,by omega⟩
theorem aEs {code:List Int}(h:code.length<=1048576):Gd (vG F0 code) fun z=>New z.1/\z.2.1.length<=140/\∀d∈z.2.1,ai0 d:=by
 rw[aaK];refine Gd.bind (aKp h) fun z0 hz0=>Dr.bind (aGY hz0) fun s hs cs=>?_
 have hg:=hs.g;refine Gd.let (aiL hg.w) ?_;obtain⟨v,hv,v0,v1⟩:=aG3 h;refine Gd.let hv (Dr.bind (iJ cs (n:=v) (by omega) (by omega)) fun n1 hn cn=>?_);obtain⟨n0,n1'⟩:=hn;have key:∀(j k:Nat) (z:xO×(an×List eu)) (n:Nat),(k:Int)+j=n1.1.1->Rp z.1->aQ z.2.1->z.2.2.length<=k->(∀d∈z.2.2,ai0 d)->j<n->k<=140 ->
   Gd (qm F0 (tQ F0) n (ma n1.1.1 (k:Int) 0 0 z.1.1 z.1.2.1 z.1.2.2 s.1.1.1.1 s.1.1.1.2 z.2.1.1.1 z.2.1.1.2 z.2.2 [] [] [] [] s.1.1.2.1 s.1.1.2.2.1 s.1.1.2.2.2.1 s.1.1.2.2.2.2 z.2.1.2.1 z.2.1.2.2.1 z.2.1.2.2.2.1 z.2.1.2.2.2.2)) fun z=>New z.1/\z.2.1.length<=140/\∀d∈z.2.1,ai0 d:=by
  intro j
  induction j with
  |zero =>
   intro k z n hk hc hw hl hd hn hk1;obtain⟨n,rfl⟩:∃m,n=m+1:=⟨n-1,by omega⟩;rw[zt,aR (show ¬(k:Int)<n1.1.1 by omega),aa,TJ];exact Gd.ret ⟨hs,cT hl hk1,hd⟩
  |succ j ih =>
   intro k z n hk hc hw hl hd hn hk1;obtain⟨n,rfl⟩:∃m,n=m+1:=⟨n-1,by omega⟩;rw[zt,aL (show(k:Int)<n1.1.1 by omega),af];refine Dr.bind (aIE hc hw) fun d hdd cd=>Gd.ck (az (by omega) (by omega) (by simp only[ba,bA];omega)) (Gd.let (ayx hw hdd) ?_)
   rw[ao (by omega)];exact ih (k+1) (d.2.1,ayw z.2.1 d.1.1,z.2.2++[d.1.1]) n (by omega) cd (hw.aOL _) (by rw[aM,dU];omega) (fun x hx=>(kI.1 hx).elim (hd x) fun hx=>by rw[lZ.1 hx];exact hdd) (by omega) (by omega)
 exact key n1.1.1.toNat 0 (n1.2.1,s.1.1,[]) F0.n (by omega) cn hg (b9 _) (fun d hd=>by cases hd) (by rw[ch];omega) (by omega)
def cJ (c:Int×Int)(r:aD):Prop:=∃l:List bH,(∀x∈l,bS c x=true)/\r.2.2.2.2.2.2.1.1=dQ l/\r.2.2.2.1=l.getLastD mc
section
variable {c:Int×Int} {r:aD}
theorem cJ.same {r':aD}(h:cJ c r)(h1:r'.2.2.2.1=r.2.2.2.1)(h2:r'.2.2.2.2.2.2.1.1=r.2.2.2.2.2.2.1.1):cJ c r':=by obtain⟨l,a,b,d⟩:=h;exact⟨l,a,h2.trans b,h1.trans d⟩
theorem cJ.put (h:cJ c r){s:bH}(hs:bS c s=true):cJ c (put r s):=by
 obtain⟨l,a,b,d⟩:=h;refine⟨l++[s],fun x hx=>?_,?_,?_⟩
 ·rcases kI.1 hx with h|h
  ·exact a x h
  ·rw[lZ.1 h];exact hs
 ·show r.2.2.2.2.2.2.1.1++eN s=_;rw[b,dQ,dQ,List.flatMap_append];simp
 ·show s=_;simp
theorem avP (h:cJ c r)(s:bH):cJ c (lF c r s).1:=by
 unfold lF;split
 ·exact h
 ·split
  ·rename_i h2;exact h.put h2.1
  ·exact h
theorem avQ (h:cJ c r)(t:Int)(m:cX):cJ c (nE c r t m).1:=by
 unfold nE;split
 ·exact h.same rfl rfl
 ·exact h
theorem aeH (h:cJ c r)(v:Int):cJ c (A3 r v):=h.same rfl rfl
theorem WO (h:cJ c r)(t:List di):cJ c (gC r t):=h.same rfl rfl
theorem ahd (h:cJ c r)(v:Int):cJ c (lG r v):=h.same rfl rfl
theorem asY (h:cJ c r)(p:List fy):cJ c (RC r p):=h.same rfl rfl
theorem aA6 (h:cJ c r):cJ c (KP r):=h.same rfl rfl
theorem Qq (h:cJ c r)(q:di):cJ c (written c r q).1:=avP h _
theorem aIF (h:cJ c r)(q:di):cJ c (tL c r q).1:=by
 unfold tL;split
 ·split
  ·exact Qq h q
  ·split
   ·exact aeH (Qq h q) _
   ·exact avQ (aeH (Qq h q) _) _ _
 ·exact h
theorem avR (h:cJ c r)(v:Int)(n:ByteArray)(p:Bool):cJ c (gG c r v n p).1:=by
 unfold gG;split
 ·exact h
 ·split
  ·split
   ·exact aIF h _
   ·exact h
  ·split
   ·exact h
   ·exact avQ h _ _
theorem aMH (h:cJ c r)(n:ByteArray):cJ c (own c r n).1:=by
 unfold own;split
 ·exact avR (WO h _) _ _ _
 ·exact h
theorem aCR (h:cJ c r)(b:dk):cJ c (nB r b):=by
 unfold nB;split
 ·exact ahd h _
 ·exact h
theorem ai1 (h:cJ c r)(b:dk):cJ c (gT c r b).1:=by
 unfold gT EW;split
 ·split
  ·split
   ·exact aMH (avP (aCR h b) _) _
   ·exact h
  ·exact avP (aCR h b) _
 ·exact h
theorem aA7 (h:cJ c r)(p:di):cJ c (lH c r p).1:=by
 unfold lH;split
 ·exact avR (WO h _) _ _ _
 ·exact h
theorem aCS (h:cJ c r)(l:Bool)(v:Int)(q:di):cJ c (Qj l r v q):=by
 unfold Qj;split
 ·exact aeH (aeH h _) _
 ·exact aeH h _
theorem aA8 (h:cJ c r)(imp:Bool)(v:Int)(q:di)(dm:Int):cJ c (lI imp c r v q dm).1:=by
 unfold lI;split
 ·unfold tU;split
  ·split
   ·exact aCS (WO (Qq h q) _) _ _ _
   ·exact h
  ·exact aCS (Qq h q) _ _ _
 ·exact h
theorem aIG (h:cJ c r)(imp:Bool)(m:cX):cJ c (AD imp c r m).1:=by
 unfold AD;split
 ·exact ai1 h _
 ·split
  ·exact aA7 h _
  ·split
   ·exact aA8 h imp _ _ _
   ·exact asY h _
theorem aG4 (h:cJ c r)(imp:Bool)(m:cX):cJ c (KN imp c r m).1:=by
 unfold KN;split
 ·exact asY (WO (aIG h imp m) _) _
 ·exact h
theorem aA9 (d:pj):(po d).1=d.1:=by unfold po;split<;>rfl
theorem aIH (h:cJ c r):cJ c (ZX r):=h.same rfl (aA9 _)
theorem aII (h:cJ c r):cJ c (GN c r).1:=by
 unfold GN;split
 ·exact h
 ·split
  ·split
   ·exact WO (ahd h _) _
   ·exact h
  ·split
   ·exact avQ (ahd h _) _ _
   ·exact h
theorem apP (h:cJ c r)(m:cX):∀(j k:Nat) {o:aD},cJ c o->cJ c (w7 c r m j k o).1
 |0,_,o,ho=>ho
 |j+1,k,o,ho=>by
  unfold w7;split
  ·exact apP h m j (k+1) ho
  ·split
   ·exact apP h m j (k+1) (avQ ho _ _)
   ·exact h
theorem aEt (h:cJ c r)(m:cX):cJ c (RB c r m).1:=apP h m _ _ h
theorem aKD (h:cJ c r):cJ c (abv c r).1:=by
 unfold abv;split
 ·split
  ·exact ai1 (aEt (aA6 h) _) _
  ·exact h
 ·exact h
theorem ayC (h:cJ c r):∀k,cJ c (AE c r k).1
 |0=>h
 |k+1=>by
  unfold AE;split
  ·exact ayC h k
  ·split
   ·exact avR h _ _ _
   ·exact h
theorem aG5 {l:List bH}{k:Nat}(hl:∀x∈l,bS c x=true)(hb:r.2.2.2.2.2.2.1.1=(dQ l).take k):cJ c (aGz c r):=by
 obtain⟨i,t,hi,ht,e,_⟩:=apf k hl;have hl':∀x∈l.take i,bS c x=true:=fun x hx=>hl x (abG hx)
 have hn:=KK ht hl';refine⟨l.take i,hl',?_,?_⟩
 ·show r.2.2.2.2.2.2.1.1.take (fx c r.2.2.2.2.2.2.1.1).2=_;rw[hb,e,hn];exact List.take_left
 ·show(fx c r.2.2.2.2.2.2.1.1).1=_;rw[hb,e,hn]
theorem aIJ (h:cJ c r)(keep:Int):cJ c (aiV c r keep):=by
 obtain⟨l,a,b,d⟩:=h;unfold aiV;by_cases hd:gm r.2.2.2.2.2.2.1=true
 ·refine aG5 (l:=l) (k:=(KM r.2.2.2.2.2.2.1 keep).toNat) a ?_;show(gF r.2.2.2.2.2.2.1 keep).1=_;unfold gF;rw[ak hd,b]
 ·refine aG5 (l:=l) (k:=(dQ l).length) a ?_;show(gF r.2.2.2.2.2.2.1 keep).1=_;unfold gF;rw[ah hd,b,nF]
theorem aKE (h:cJ c r)(imp:Bool)(m:cX):cJ c (aAO imp c r m).1:=by
 unfold aAO;split
 ·exact aG4 h imp m
 ·exact h
theorem aKF (h:cJ c r)(imp:Bool)(d:eu):cJ c (aeF imp c r d).1:=by
 unfold aeF;split
 ·exact aKD h
 ·split
  ·exact ayC h _
  ·split
   ·split
    ·exact aII h
    ·exact h
   ·split
    ·exact aIJ h _
    ·exact aKE h imp _
theorem cJ.ok (h:cJ c r)(hr:nz c r=true):aCE c r=true:=by obtain⟨l,a,b,d⟩:=h;have hn:=KK (c:=c) (t:=[]) (.inl rfl) a;rw[gE]at hn;unfold aCE;rw[hr,b,hn,d];simp[ZQ]
end
def pV (w:an):Prop:=∀r∈w.2.2.1,cJ w.1 r
theorem avS {w:an}(h:pV w)(a:Int):cJ w.1 (cM w a):=by
 unfold cM;rw[RF];cases e:w.2.2.1[a.toNat]? with
 |none=>exact⟨[],fun _ hx=>absurd hx as9,rfl,rfl⟩
 |some r=>exact h r (av3 e)
theorem apQ {w:an}(h:pV w)(a:Int){r:aD}(hr:cJ w.1 r):pV (lY w a r):=fun x hx=>by
 rcases ayT hx with h1|h1
 ·exact h x h1
 ·rw[h1];exact hr
theorem aIK {w:an}(h:pV w)(i:Int)(l:List km):pV (qI w i l):=by
 unfold qI;split
 ·exact h
 ·exact h
theorem aBa (w:an)(i:Int)(l:List km):(qI w i l).1=w.1:=by unfold qI;split<;>rfl
theorem aIL {w:an}(h:pV w)(a:Int):pV (aiX w a).1:=by
 unfold aiX;split
 ·split
  ·exact apQ (w:=qI w a (bY w a)) (aIK h _ _) a (by rw[aBa];exact aIH (avS h a))
  ·exact h
 ·exact h
theorem aKG {w:an}(h:pV w)(d:eu):pV (avO w d).1:=by
 unfold avO;split
 ·unfold apK;split
  ·exact apQ (w:=Qn w d.2.1) h _ (aG4 (avS h _) true _)
  ·exact h
 ·split
  ·exact h
  ·split
   ·exact h
   ·split
    ·exact h
    ·exact h
theorem aKH {w:an}(h:pV w)(imp:Bool)(d:eu):pV (arq imp w d).1:=apQ h _ (aKF (avS h _) imp d)
theorem aIM {w:an}(h:pV w)(d:eu):pV (aiZ w d):=by
 unfold aiZ;split
 ·rename_i h0;unfold doI at h0 ⊢;split at h0
  ·rename_i h1;rw[ak h1];split at h0
   ·rename_i h2;rw[ak h2];have hk:pV (ayr w d).1:=by
     unfold ayr;split
     ·exact aIL h _
     ·split
      ·exact aKG h d
      ·exact aKH h true d
    unfold aEp;split
    ·split
     ·exact hk
     ·exact h
    ·exact h
   ·cases h0
  ·cases h0
 ·exact h
theorem ayD:∀(list:List eu) {w:an},pV w->pV (ahb w list)
 |[],_,h=>h
 |d::list,w,h=>ayD list (aIM h d)
theorem aKI (c:Int×Int)(liars:List Int):pV (X5 c liars):=fun r hr=>by obtain⟨i,_,rfl⟩:=IN.1 hr;exact⟨[],fun _ hx=>absurd hx as9,rfl,rfl⟩
end Go.Am.Tryz
