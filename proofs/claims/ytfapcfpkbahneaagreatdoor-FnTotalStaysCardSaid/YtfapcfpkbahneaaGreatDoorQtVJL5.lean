/- Lemmas for the claim. No condition. -/
import Derived.Test.YtfapcfpkbahneaaGreatDoorQtVJL4
set_option linter.all false
namespace Go.Am.Tryz
open Go.Am
theorem xN (w:an):(cM w).length<=w.2.2.1.length:=Le _ _
theorem X7 {α ζ γ:Type}(X:Nat->Int->ζ->Option γ)(a:List α)(f:ζ->α->ζ)(I:ζ->Prop)(R:Option γ)(z0:ζ)(h0:I z0)(hI:∀z x,x∈a->I z->I (f z x))
  (hs:∀n k z (h:k<a.length),I z->X (n+1) (k:Int) z=X n ((k+1:Nat):Int) (f z a[k])) (he:∀n,X (n+1) (a.length:Int) (a.foldl f z0)=R) (n:Nat) (hn:a.length<n):X n 0 z0=R:=by
 refine df X a.length (fun k z=>z=(a.take k).foldl f z0/\I z) R (fun n k z hk h=>.inr ⟨_,hs n k z hk h.2,?_,hI _ _ (di hk) h.2⟩) (fun n z h=>?_) n 0 z0 (aX _) ⟨rfl,h0⟩ (by omega)
 ·rw[gj hk,List.foldl_append,h.1];rfl
 ·rw[h.1,nN];exact he n
def isSaid (view:Int)(name:ByteArray)(dk:Int)(y:eG):Bool:=(y.1==view)&&((y.2.1.toList==name.toList)&&(y.2.2==dk))
def ky (l:List eG)(view:Int)(name:ByteArray)(dk:Int):Bool:=l.any (isSaid view name dk)
theorem ayQ {α:Type}{p:α->Bool}{l:List α}{k:Nat}(hk:k<l.length):(l.drop k).any p=(p l[k] || (l.drop (k+1)).any p):=by rw[YM hk,List.any_cons]
theorem ap9 {l:List eG}(h:l.length<=1048576)(view:Int)(name:ByteArray)(dk:Int):EC F0 l view name dk=some (ky l view name dk,()):=by
 rw[anU];refine df (fun n k (z:Unit)=>pP F0 (vJ F0) n (kH l view name dk k)) l.length (fun k _=>ky l view name dk=(l.drop k).any (isSaid view name dk)) _ (fun n k z hk hI=>?_) (fun n z hI=>?_) F0.n 0 () (aX _) rfl (by rw[bT];omega)
 ·rw[ayQ hk]at hI;rw[J2,aS hk,af,av hk,ae,ae,ae,bp hk,agl,ao (by omega),hI];unfold isSaid;cases h1:(l[k].1==view) with
  |false=>exact .inr ⟨(),aa _ _,rfl⟩
  |true =>
   cases h2:(l[k].2.1.toList==name.toList) with
   |false=>exact .inr ⟨(),by rw[af,aa],rfl⟩
   |true =>
    cases h3:(l[k].2.2==dk) with
    |false=>exact .inr ⟨(),by rw[af,af,aa],rfl⟩
    |true=>exact .inl rfl
 ·rw[YN]at hI;rw[J2,aH,aa,adB,hI];rfl
theorem aIT {l:List eG}(h:l.length<=1048576)(x:eG):∃r,XI F0 l x=some (r,())/\decide (r>=0)=ky l x.1 x.2.1 x.2.2:=by
 rw[au8];have key:∀(j k n:Nat),k+j=l.length->j<n->∃r,MX F0 (DC F0) n (DB l (l.length:Int) (k:Int) x.1 x.2.1 x.2.2)=some (r,())/\decide (r>=0)=(l.drop k).any (isSaid x.1 x.2.1 x.2.2):=by
  intro j
  induction j with
  |zero =>
   intro k n hk hn;obtain⟨n,rfl⟩:∃m,n=m+1:=⟨n-1,by omega⟩;obtain rfl:k=l.length:=by omega
   rw[P8,aH,aa,ak3,YN];exact⟨-1,rfl,rfl⟩
  |succ j ih =>
   intro k n hk hn;obtain⟨n,rfl⟩:∃m,n=m+1:=⟨n-1,by omega⟩;have hk':k<l.length:=by omega
   have e:((x.1==l[k].1)&&((x.2.1.toList==l[k].2.1.toList)&&((x.2.2==l[k].2.2)&&true)))=isSaid x.1 x.2.1 x.2.2 l[k]:=by unfold isSaid;rw[Bool.and_true,show(x.1==l[k].1)=(l[k].1==x.1) from F7,show(x.2.1.toList==l[k].2.1.toList)=(l[k].2.1.toList==x.2.1.toList) from F7,show(x.2.2==l[k].2.2)=(l[k].2.2==x.2.2) from F7]
   rw[P8,aS hk',af,av hk',ae,bp hk',e,aoC,ao (by omega),ayQ hk'];cases hs:isSaid x.1 x.2.1 x.2.2 l[k]with
   |true=>exact⟨(k:Int),af _ _,by rw[aM (show(k:Int)>=0 by omega)];rfl⟩
   |false =>
    rw[aa,I6];exact ih (k+1) n (by omega) (by omega)
 exact key l.length 0 F0.n (by omega) (by rw[bT];omega)
theorem Cp {l:List eG}(h:l.length<=1048576)(x:eG):dJ F0 l x=some (ky l x.1 x.2.1 x.2.2,()):=by obtain⟨r,h1,h2⟩:=aIT h x;rw[FT,h1,ai,h2]
def Xm (liars:List Int)(l:List eG)(view:Int)(name:ByteArray)(i:Int):Bool:=decide (i∈liars) || ky l view name i
def signed (liars:List Int)(l:List eG)(view:Int)(name:ByteArray)(dk:List Int):Bool:=dk.all (Xm liars l view name)
theorem ab5 {liars:List Int}(h1:liars.length<=1048576){l:List eG}(h2:l.length<=1048576)(view:Int)(name:ByteArray){dk:List Int}(h3:dk.length<=1048576):xC F0 liars l view name dk=some (signed liars l view name dk,()):=by
 rw[anV,jA (fun m k=>uw F0 (vK F0) m (pf liars l view name dk k)) dk.length (fun k=>Xm liars l view name (dk.getD k 0)) (some (true,())) (some (false,())) (fun m k hk=>?_) (fun m=>?_) _ (by rw[bT];omega),KW,Ld]
 ·rfl
 ·rw[J3,aS hk,af,av hk,ae,ae,bp hk,gi (by omega),ai,ap9 h2,ai,agm,ao (by omega),bc hk];unfold Xm;cases decide (dk[k]∈liars)<;>cases ky l view name dk[k]<;>rfl
 ·rw[J3,aH,aa,adC]
theorem Xn {liars:List Int}(h1:liars.length<=1048576){l:List eG}(h2:l.length<=1048576)(view:Int)(name:ByteArray){dk:List Int}(h3:dk.length<=1048576):xI F0 liars l view name dk=some (signed liars l view name dk,()):=by
 rw[aoS,jA (fun m k=>uJ F0 (wv F0) m (pz liars l view name dk (dk.length:Int) k)) dk.length (fun k=>Xm liars l view name (dk.getD k 0)) (some (true,())) (some (false,())) (fun m k hk=>?_) (fun m=>?_) _ (by rw[bT];omega),KW,Ld]
 ·rfl
 ·rw[KJ,aS hk,af,av hk,ae,bp hk,fH (by omega),ai,Cp h2,ai,ag3,ao (by omega),bc hk];unfold Xm;cases decide (dk[k]∈liars)<;>cases ky l view name dk[k]<;>rfl
 ·rw[KJ,aH,aa,aem]
def NT (liars:List Int)(l:List eG)(q:dp):Bool:=signed liars l q.1 q.2.1 q.2.2
def Oy (c:Int×Int)(liars:List Int)(l:List eG)(m:da):Bool :=
 eh c m&&(if m.1=1 then decide (cF c (bA m.2.2.1.1.data.toList)∈liars)&&NT liars l m.2.2.1.2 else if m.1=2 then NT liars l m.2.2.2.1 else if m.1=3 then decide (m.2.2.2.2.2.1∈liars)&&NT liars l m.2.2.2.2.1 else true)
theorem aBe {c:Int×Int}{liars:List Int}(h1:liars.length<=1048576){l:List eG}(h2:l.length<=1048576){m:da}(hm:gy m):Mn F0 c liars l m=some (Oy c liars l m,()):=by
 rw[anX,I2 hm,ai,pV hm.1,ai,KZ,ai,gi (by omega),ai,ab5 h1 h2 _ _ hm.2.1.2,ai,ab5 h1 h2 _ _ hm.2.2.1.2,ai,gi (by omega),ai,ab5 h1 h2 _ _ hm.2.2.2.2,ai];unfold Oy;cases eh c m with
 |false=>rfl
 |true =>
  rw[aL,aa,ji];by_cases k1:m.1=1
  ·rw[bC.2 k1,af,ak k1];dsimp only;cases decide (cF c (bA m.2.2.1.1.data.toList)∈liars)<;>rfl
  ·rw[cj.2 k1,aa,ah k1];by_cases k2:m.1=2
   ·rw[bC.2 k2,af,ak k2];rfl
   ·rw[cj.2 k2,aa,ah k2];by_cases k3:m.1=3
    ·rw[bC.2 k3,af,ak k3];dsimp only;cases decide (m.2.2.2.2.2.1∈liars)<;>rfl
    ·rw[cj.2 k3,aa,ah k3]
theorem awh:sN F0=some (cQ,()):=by rw[Tj];rfl
theorem afa {liars:List Int}{l:List eG}{q:dp}{α:Type}(f:Bool->α):br (jh q cQ) (some (f true)) (some (f (NT liars l q)))=some (f (NT liars l q)):=by
 cases h:jh q cQ with
 |false=>rfl
 |true =>
  have:=XU h;subst this;rfl
theorem ayR {c:Int×Int}{liars:List Int}(h1:liars.length<=1048576){l:List eG}(h2:l.length<=1048576){m:da}(hm:gy m):Nn F0 c liars l m=some (Oy c liars l m,()):=by
 rw[aoU,Lb hm,ai,rQ hm.1,ai,IZ,ai,fH (by omega),ai,awh,ai,La hm.2.1,ai,Xn h1 h2 _ _ hm.2.1.2,ai,Xn h1 h2 _ _ hm.2.2.1.2,ai,fH (by omega),ai,ai,La hm.2.2.2,ai,Xn h1 h2 _ _ hm.2.2.2.2,ai];dsimp only;have f1:=afa (liars:=liars) (l:=l) (q:=m.2.2.1.2) (fun b=>(b,()));have f2:=afa (liars:=liars) (l:=l) (q:=m.2.2.2.2.1) (fun b=>(b,()));unfold NT at f1 f2;rw[f1,f2];unfold Oy;cases dO:eh c m with
 |false=>rfl
 |true =>
  rw[aL,aa,ji];rcases(ae9 dO).k with k|k|k|k
  ·rw[cj.2 (show m.1≠4 by omega),aa,cj.2 (show m.1≠2 by omega),aa,bC.2 k,af,ak k];unfold NT;cases decide (cF c (bA m.2.2.1.1.data.toList)∈liars)<;>rfl
  ·rw[cj.2 (show m.1≠4 by omega),aa,bC.2 k,af,ah (by omega),ak k];rfl
  ·rw[cj.2 (show m.1≠4 by omega),aa,cj.2 (show m.1≠2 by omega),aa,cj.2 (show m.1≠1 by omega),aa,ah (by omega),ah (by omega),ak k];unfold NT;cases decide (m.2.2.2.2.2.1∈liars)<;>rfl
  ·rw[bC.2 k,af,ah (by omega),ah (by omega),ah (by omega)]
def aaA (id:Int)(q:dp):List eG:=if ec q.2.1=true then [] else if id∈q.2.2 then [(q.1,q.2.1,id)] else []
def dN (id:Int)(m:da):List eG:=if m.1=4 then [] else if m.1=2 then aaA id m.2.2.2.1 else if m.1=1 then aaA id m.2.2.1.2 else aaA id m.2.2.2.2.1
theorem QR (id:Int)(q:dp):br (q.2.1.toList==al.toList) (some (([]:List eG),())) (br (!decide (id∈q.2.2)) (some ([],())) (some ([(q.1,q.2.1,id)],())))=some (aaA id q,()):=by
 unfold aaA ec;cases (q.2.1.toList==al.toList) with
 |true=>rfl
 |false =>
  by_cases h:id∈q.2.2
  ·rw[aM h,ah (by decide),ak h];rfl
  ·rw[aQ h,ah (by decide),ah h];rfl
theorem aBf {m:da}(hm:gy m)(id:Int):Mu F0 id m=some (dN id m,()):=by
 rw[an4,gi (cN hm.2.2.1.2 (by omega)),ai,gi (cN hm.2.1.2 (by omega)),ai,gi (cN hm.2.2.2.2 (by omega)),ai];dsimp only;rw[QR id m.2.2.2.1,QR id m.2.2.1.2,QR id m.2.2.2.2.1];unfold dN;by_cases k4:m.1=4
 ·rw[ak k4,cj.2 (show m.1≠2 by omega),aa,cj.2 (show m.1≠1 by omega),aa,bC.2 k4,af]
 ·rw[ah k4,cj.2 k4,aa,aa,aa];by_cases k2:m.1=2
  ·rw[ak k2,bC.2 k2,af]
  ·rw[ah k2,cj.2 k2,aa];by_cases k1:m.1=1
   ·rw[ak k1,bC.2 k1,af]
   ·rw[ah k1,cj.2 k1,aa]
theorem ajs {m:da}(hm:gy m)(id:Int):EO F0 id m=some (dN id m,()):=by
 rw[aoB,fH (cN hm.2.2.1.2 (by omega)),ai,fH (cN hm.2.1.2 (by omega)),ai,fH (cN hm.2.2.2.2 (by omega)),ai];dsimp only;rw[QR id m.2.2.2.1,QR id m.2.2.1.2,QR id m.2.2.2.2.1];unfold dN;by_cases k4:m.1=4
 ·rw[ak k4,bC.2 k4,af]
 ·rw[ah k4,cj.2 k4,aa];by_cases k2:m.1=2
  ·rw[ak k2,bC.2 k2,af]
  ·rw[ah k2,cj.2 k2,aa];by_cases k1:m.1=1
   ·rw[ak k1,bC.2 k1,af]
   ·rw[ah k1,cj.2 k1,aa]
theorem ab6 (id:Int)(m:da):(dN id m).length<=1:=by
 have h1:∀q:dp,(aaA id q).length<=1:=fun q=>by
  unfold aaA;split
  ·exact aX _
  ·split
   ·exact cp _
   ·exact aX _
 unfold dN;split
 ·exact aX _
 ·split
  ·exact h1 _
  ·split
   ·exact h1 _
   ·exact h1 _
def Lk (l:List eG)(x:eG):List eG:=if l.length<300/\ky l x.1 x.2.1 x.2.2=false then l++[x] else l
def aBg (id:Int)(l:List eG)(p:l6):List eG:=(dN id p.2).foldl Lk l
def awi (id:Int)(list:List l6)(l:List eG):List eG:=list.foldl (aBg id) l
def AO (w:an)(id:Int)(list:List l6):an:=if id∈cM w then (w.1,w.2.1,w.2.2.1,w.2.2.2.1,awi id list w.2.2.2.2) else w
theorem ab7 {l:List eG}(h:l.length<=300)(x:eG):(Lk l x).length<=300:=by
 unfold Lk;split
 ·rename_i hh;rw[aT,ew];omega
 ·exact h
theorem afb:∀{xs:List eG} {l:List eG},l.length<=300->(xs.foldl Lk l).length<=300
 |[],_,h=>h
 |x::xs,l,h=>afb (xs:=xs) (ab7 h x)
theorem ajt (id:Int):∀{list:List l6} {l:List eG},l.length<=300->(awi id list l).length<=300
 |[],_,h=>h
 |p::list,l,h=>ajt id (list:=list) (afb h)
theorem aEH {w:an}(h:Ov w)(hs:w.2.2.2.2.length<=300)(id:Int){list:List l6}(hl:list.length<=1048576)(hm:∀p∈list,gy p.2):J9 F0 w id list=some (AO w id list,()):=by
 rw[arb,ajn h,ai,apx h.l,ai,gi (by have:=xN w;have:=h.l.r;dsimp only;omega),ai];unfold AO;by_cases hi:id∈cM w
 ·rw[aM hi,ak hi,aL,aa];refine X7 (fun n k z=>HP F0 (zt F0) n (zr id list k 0 0 w.1.1 w.1.2 [] [] [] [] w.2.1 w.2.2.1 w.2.2.2.1 z)) list (aBg id) (fun z=>z.length<=300) _ w.2.2.2.2 hs (fun z p hp hz=>afb hz) (fun n k z hk hz=>?_) (fun n=>?_) _ (by rw[bT];omega)
  ·rw[Mw,aS hk,af,av hk,ae,bp hk,aBf (hm _ (di hk)),ai];have hsl:=ab6 id list[k].2;refine X7 (fun m j (y:List eG)=>sK F0 (J8 F0 (zt F0) n) m (mV id list (k:Int) j 0 0 w.1.1 w.1.2 (dN id list[k].2) [] [] [] [] w.2.1 w.2.2.1 w.2.2.2.1 y)) (dN id list[k].2) Lk (fun y=>y.length<=300) _ z hz (fun y x hx hy=>ab7 hy x) (fun m j y hj hy=>?_) (fun m=>?_) _ (by rw[bT];omega)
   ·rw[Mv,aS hj,af,av hj,ae,bp hj,ap9 (by omega),ai,az (by omega) (by omega) (by first|omega|(simp only[aT,bg,bB];omega)|(rw[bz,bQ];omega)),ae,ao (by omega)];unfold Lk;by_cases h3:y.length<300
    ·rw[aM (show(y.length:Int)<300 by omega),af];cases ky y (dN id list[k].2)[j].1 (dN id list[k].2)[j].2.1 (dN id list[k].2)[j].2.2 with
     |true=>rw[ah (fun hh=>by cases hh.2)];rfl
     |false=>rw[ak ⟨h3,rfl⟩];rfl
    ·rw[aQ (show ¬(y.length:Int)<300 by omega),aa,ah (fun hh=>h3 hh.1)]
   ·rw[Mv,aH,aa,agp,ao (by omega)];rfl
  ·rw[Mw,aH,aa,agq];rfl
 ·rw[aQ hi,ah hi];rfl
theorem aBh {w:an}(h:Ov w)(hs:w.2.2.2.2.length<=300)(id:Int){list:List l6}(hl:list.length<=1048576)(hm:∀p∈list,gy p.2):Rx F0 w id list=some (AO w id list,()):=by
 rw[ars,lW h,ai,E5 h.l,ai,fH (by have:=xN w;have:=h.l.r;dsimp only;omega),ai];unfold AO;by_cases hi:id∈cM w
 ·rw[aM hi,ak hi,aL,aa];refine X7 (fun n k z=>H7 F0 (zZ F0) n (zY id list (list.length:Int) k 0 0 w.1.1 w.1.2 [] [] [] [] w.2.1 w.2.2.1 w.2.2.2.1 z)) list (aBg id) (fun z=>z.length<=300) _ w.2.2.2.2 hs (fun z p hp hz=>afb hz) (fun n k z hk hz=>?_) (fun n=>?_) _ (by rw[bT];omega)
  ·rw[MZ,aS hk,af,av hk,ae,bp hk,ajs (hm _ (di hk)),ai];have hsl:=ab6 id list[k].2;refine X7 (fun m j (y:List eG)=>s7 F0 (Ks F0 (zZ F0) n) m (nr id list (list.length:Int) (k:Int) ((dN id list[k].2).length:Int) j 0 0 w.1.1 w.1.2 (dN id list[k].2) [] [] [] [] w.2.1 w.2.2.1 w.2.2.2.1 y)) (dN id list[k].2) Lk (fun y=>y.length<=300) _ z hz (fun y x hx hy=>ab7 hy x) (fun m j y hj hy=>?_) (fun m=>?_) _ (by rw[bT];omega)
   ·rw[MY,aS hj,af,av hj,ae,bp hj,Cp (by omega),ai,az (by omega) (by omega) (by first|omega|(simp only[aT,bg,bB];omega)|(rw[bz,bQ];omega)),ae,ao (by omega)];unfold Lk;by_cases h3:y.length<300
    ·rw[aM (show(y.length:Int)<300 by omega),af];cases ky y (dN id list[k].2)[j].1 (dN id list[k].2)[j].2.1 (dN id list[k].2)[j].2.2 with
     |true=>rw[ah (fun hh=>by cases hh.2)];rfl
     |false=>rw[ak ⟨h3,rfl⟩];rfl
    ·rw[aQ (show ¬(y.length:Int)<300 by omega),aa,ah (fun hh=>h3 hh.1)];cases ky y (dN id list[k].2)[j].1 (dN id list[k].2)[j].2.1 (dN id list[k].2)[j].2.2<;>rfl
   ·rw[MY,aH,aa,agK,ao (by omega)];rfl
  ·rw[MZ,aH,aa,agL];rfl
 ·rw[aQ hi,ah hi];rfl
def aju (c:Int×Int)(net:List pB)(p:l6):List pB:=if net.length<60/\eh c p.2=true/\iG 0 (aj (c.1-1)) p.1=true then net++[(p.1,ID p.2)] else net
def aBi (c:Int×Int)(list:List l6)(net:List pB):List pB:=list.foldl (aju c) net
def afc (w:an)(list:List l6):an:=(w.1,w.2.1,w.2.2.1,aBi w.1 list w.2.2.2.1,w.2.2.2.2)
theorem ahK {c:Int×Int}{net:List pB}(h:net.length<=60)(p:l6):(aju c net p).length<=60:=by
 unfold aju;split
 ·rename_i hh;rw[aT,ew];omega
 ·exact h
theorem atk (c:Int×Int)(m:da):decide (((aeV c m).length:Int)>0)=eh c m:=by
 unfold aeV;cases h:eh c m with
 |false=>rfl
 |true =>
  have:=(apL h).2.2;rw[ak rfl];exact aM (by omega)
theorem ajv {w:an}(hn:w.2.2.2.1.length<=60){list:List l6}(hl:list.length<=1048576)(hm:∀p∈list,gy p.2):zn F0 w list=some ((afc w list,()),()):=by
 rw[akz];refine X7 (fun n k z=>ka F0 (BS F0) n (gK list k w.1.1 w.1.2 0 0 w.2.1 w.2.2.1 z w.2.2.2.2 [] [] [] [])) list (aju w.1) (fun z=>z.length<=60) _ w.2.2.2.1 hn (fun z p hp hz=>ahK hz p) (fun n k z hk hz=>?_) (fun n=>?_) _ (by rw[bT];omega)
 ·rw[Gx,aS hk,af,av hk,ae,bp hk,show((w.1.1,w.1.2):Int×Int)=w.1 from rfl,avX (hm _ (di hk)),ai,ae,dB,ai,ae,az (by omega) (by omega) (by first|omega|(simp only[aT,bg,bB];omega)|(rw[bz,bQ];omega)),ae,ao (by omega)];dsimp only;rw[atk];unfold aju;by_cases h3:z.length<60
  ·rw[aM (show(z.length:Int)<60 by omega),af];cases h4:eh w.1 list[k].2 with
   |false=>rw[ah (fun hh=>by cases hh.2.1)];rfl
   |true =>
    cases h5:iG 0 (aj (w.1.1-1)) list[k].1 with
    |false=>rw[ah (fun hh=>by cases hh.2.2)];rfl
    |true=>rw[ak ⟨h3,rfl,rfl⟩,af,af,show aeV w.1 list[k].2=ID list[k].2 from ak h4]
  ·rw[aQ (show ¬(z.length:Int)<60 by omega),aa,ah (fun hh=>h3 hh.1)]
 ·rw[Gx,aH,aa,abi];rfl
theorem aEI {w:an}(h:Ov w)(hn:w.2.2.2.1.length<=60){list:List l6}(hl:list.length<=1048576)(hm:∀p∈list,gy p.2):Qb F0 w list=some (if mf w=true then afc w list else w,()):=by
 rw[ava,lW h,ai,tF h.l,ai];cases dO:mf w with
 |false=>rfl
 |true =>
  rw[aL,aa,ak rfl];refine X7 (fun n k z=>rH F0 (Of F0) n (lT list (list.length:Int) k w.1.1 w.1.2 w.2.1 w.2.2.1 w.2.2.2.1 w.2.2.2.2 0 0 w.1.1 w.1.2 [] [] [] [] w.2.1 w.2.2.1 z w.2.2.2.2)) list (aju w.1) (fun z=>z.length<=60) _ w.2.2.2.1 hn (fun z p hp hz=>ahK hz p) (fun n k z hk hz=>?_) (fun n=>?_) _ (by rw[bT];omega)
  ·rw[Qa,aS hk,af,av hk,ae,bp hk,show((w.1.1,w.1.2):Int×Int)=w.1 from rfl,aav (hm _ (di hk)),ai,b9,ai,az (by omega) (by omega) (by first|omega|(simp only[aT,bg,bB];omega)|(rw[bz,bQ];omega)),ae,ao (by omega)];dsimp only;rw[atk];unfold aju;cases h4:eh w.1 list[k].2 with
   |false=>rw[ah (fun hh=>by cases hh.2.1)];rfl
   |true =>
    cases h5:iG 0 (aj (w.1.1-1)) list[k].1 with
    |false=>rw[ah (fun hh=>by cases hh.2.2)];rfl
    |true =>
     by_cases h3:z.length<60
     ·rw[aM (show(z.length:Int)<60 by omega),ak ⟨h3,rfl,rfl⟩,show aeV w.1 list[k].2=ID list[k].2 from ak h4];rfl
     ·rw[aQ (show ¬(z.length:Int)<60 by omega),ah (fun hh=>h3 hh.1)];rfl
  ·rw[Qa,aH,aa,ak7];rfl
theorem alZ {c:Int×Int}{r:aD}{ue:Int}{m:da}:(pC c r ue m).1.1=r.1:=by unfold pC;split<;>rfl
theorem aG6 {c:Int×Int}{r:aD}{q:dp}:(xM c r q).1.1=r.1:=by
 have h:(written c r q).1.1=r.1:=ae1;unfold xM;split
 ·split
  ·exact h
  ·split
   ·exact h
   ·rw[alZ];exact h
 ·rfl
theorem aqa {c:Int×Int}{r:aD}{view:Int}{name:ByteArray}{push:Bool}:(iI c r view name push).1.1=r.1:=by
 unfold iI;split
 ·rfl
 ·split
  ·split
   ·exact aG6
   ·rfl
  ·split
   ·rfl
   ·exact alZ
theorem aKK {c:Int×Int}{r:aD}{name:ByteArray}:(own c r name).1.1=r.1:=by
 unfold own;split
 ·rw[aqa];rfl
 ·rfl
theorem aG7 {r:aD}{b:dr}:(pD r b).1=r.1:=by unfold pD;split<;>rfl
theorem afd {c:Int×Int}{r:aD}{b:dr}:(jX c r b).1.1=r.1:=by
 have h:(nI c (pD r b) (Co c r b)).1.1=r.1:=by rw[ae1,aG7]
 unfold jX G7;split
 ·split
  ·split
   ·rw[aKK];exact h
   ·rfl
  ·exact h
 ·rfl
theorem ayS {c:Int×Int}{r:aD}{p:dp}:(pE c r p).1.1=r.1:=by
 unfold pE;split
 ·rw[aqa];rfl
 ·rfl
theorem ayT {imp:Bool}{c:Int×Int}{r:aD}{view:Int}{q:dp}{dk:Int}:(pF imp c r view q dk).1.1=r.1:=by
 have h:(written c r q).1.1=r.1:=ae1;have h2:∀(l:Bool) (o:aD),(Xk l o view q).1=o.1:=fun l o=>by unfold Xk;split<;>rfl
 unfold pF xe;split
 ·split
  ·split
   ·rw[h2];exact h
   ·rfl
  ·rw[h2];exact h
 ·rfl
theorem aG8 {imp:Bool}{c:Int×Int}{r:aD}{m:da}:(E9 imp c r m).1.1=r.1:=by
 unfold E9;split
 ·exact afd
 ·split
  ·exact ayS
  ·split
   ·exact ayT
   ·rfl
theorem awj {imp:Bool}{c:Int×Int}{r:aD}{m:da}:(Ox imp c r m).1.1=r.1:=by
 unfold Ox;split
 ·exact aG8 (imp:=imp)
 ·rfl
theorem aG9 {c:Int×Int}{r:aD}:(NS c r).1.1=r.1:=by
 unfold NS;split
 ·rfl
 ·split
  ·split
   ·rfl
   ·rfl
  ·split
   ·rw[alZ];rfl
   ·rfl
theorem ahL {c:Int×Int}{r:aD}{m:da}:∀(j k:Nat) (o:aD),o.1=r.1->(Cn c r m j k o).1.1=r.1
 |0,_,_,h=>h
 |j+1,k,o,h=>by
  unfold Cn;split
  ·exact ahL j (k+1) o h
  ·split
   ·exact ahL j (k+1) _ (by rw[alZ];exact h)
   ·rfl
def QS (r:aD):aD:=(r.1,r.2.1,r.2.1,r.2.2.2)
theorem ba.QS {c:Int×Int}{r:aD}(h:ba c r):ba c (QS r):=by have hv:=h.view;exact⟨⟨h.f.cf,h.f.i,h.f.v,by show iG 0 60 r.2.1=true;simp only[iG,aJ,cD];omega,h.f.s,h.f.p,h.f.t,h.f.d,h.f.n,h.f.h⟩,h.b⟩
def alz (c:Int×Int)(r:aD):aD×Bool:=X3 c (QS r) (ayE (ask c r).1)
def ahM (c:Int×Int)(r:aD):aD×Int :=
 if (ask c r).2=true then (if (alz c r).2=true/\(jX c (alz c r).1 (ask c r).1).2=true then ((jX c (alz c r).1 (ask c r).1).1,0) else (r,4)) else (r,3)
theorem aBj {c:Int×Int}{r:aD}(h:ba c r):ba c (alz c r).1:=h.QS.aIP _
theorem ba.ahM {c:Int×Int}{r:aD}(h:ba c r):ba c (ahM c r).1:=by
 unfold Tryz.ahM;split
 ·split
  ·exact(aBj h).ap6 _
  ·exact h
 ·exact h
theorem aIU {c:Int×Int}{r:aD}:(ahM c r).1.1=r.1:=by
 unfold ahM;split
 ·split
  ·rw[afd];exact ahL _ _ _ rfl
  ·rfl
 ·rfl
theorem ayU {c:Int×Int}{r:aD}(h:ba c r):Ir F0 c r=some ((ahM c r).1,(ahM c r).2,()):=by
 rw[alr,aG1 h,ai,eK h.bt,ai];unfold ahM;cases h1:(ask c r).2 with
 |false=>rfl
 |true =>
  obtain⟨_,hb,_,_⟩:=aG2 h1;obtain⟨hb1,hb2⟩:=I3 hb;have hT:Az F0 c (r.1,r.2.1,r.2.1,r.2.2.2) (1,0,(ask c r).1,(0,al,[]),(0,al,[]),0,0,0,0,0)=some ((alz c r).1,(alz c r).2,()):=awd h.QS (ab2 hb1 hb2);dsimp only;rw[hT,ai,Xj (aBj h) hb,ai,aL,aa,ak rfl];cases (alz c r).2 with
  |false=>rw[ah (fun hh=>by cases hh.1)];rfl
  |true =>
   cases (jX c (alz c r).1 (ask c r).1).2 with
   |false=>rw[ah (fun hh=>by cases hh.2)];rfl
   |true=>rw[ak ⟨rfl,rfl⟩];rfl
def F3 (c:Int×Int)(r:aD):Nat->aD×Int
 |0=>(r,3)
 |k+1=>if ec (r.2.2.2.2.2.1.getD k cQ).2.1=true then F3 c r k
  else if (iI c r (r.2.2.2.2.2.1.getD k cQ).1 (r.2.2.2.2.2.1.getD k cQ).2.1 true).2=true then ((iI c r (r.2.2.2.2.2.1.getD k cQ).1 (r.2.2.2.2.2.1.getD k cQ).2.1 true).1,0) else (r,3)
def atl (c:Int×Int)(r:aD):aD×Int:=F3 c r r.2.2.2.2.2.1.length
theorem ayV {c:Int×Int}{r:aD}(h:ba c r):∀k,ba c (F3 c r k).1
 |0=>h
 |k+1=>by
  unfold F3;split
  ·exact ayV h k
  ·split
   ·exact h.awa _ _ _
   ·exact h
theorem atm {c:Int×Int}{r:aD}:∀k,(F3 c r k).1.1=r.1
 |0=>rfl
 |k+1=>by
  unfold F3;split
  ·exact atm k
  ·split
   ·exact aqa
   ·rfl
theorem atn {c:Int×Int}{r:aD}(h:ba c r):∀(k n:Nat),k<=r.2.2.2.2.2.1.length->k<n ->
  wD F0 (qG F0) n (qF ((k:Int)-1) c.1 c.2 r.1 r.2.1 r.2.2.1 r.2.2.2.1.1 r.2.2.2.1.2.1 r.2.2.2.1.2.2.1.1 r.2.2.2.1.2.2.1.2.1 r.2.2.2.1.2.2.1.2.2 r.2.2.2.1.2.2.2 r.2.2.2.2.1 r.2.2.2.2.2.1 r.2.2.2.2.2.2.1.1 r.2.2.2.2.2.2.1.2 r.2.2.2.2.2.2.2 0 0 0 0 0 0 al al 0 [] [] [] [] [])
   = some ((F3 c r k).1,(F3 c r k).2,())
 |0,n+1,hk,hn=>by rw[EZ,aQ (show ¬((0:Nat):Int)-1>=0 by omega),aa,YD];rfl
 |k+1,n+1,hk,hn=>by
  have hk':k<r.2.2.2.2.2.1.length:=by omega
  have ht:=h.f.l.t;have hC:=ab3 h (r.2.2.2.2.2.1[k]).1 (h.l.tq _ (di hk')).1 true;rw[EZ,show((k+1:Nat):Int)-1=(k:Int) by omega,aM (show(k:Int)>=0 by omega),af,av hk',ae,bp hk',KM];unfold F3;rw[bc hk',show((r.2.2.2.2.2.1[k]).2.1.toList==al.toList)=ec (r.2.2.2.2.2.1[k]).2.1 from rfl];cases hnn:ec (r.2.2.2.2.2.1[k]).2.1 with
  |true =>
   rw[ak rfl,aL,aa,aI (by omega) (by omega)];exact atn h k n (by omega) (by omega)
  |false =>
   rw[ah (by decide),eX,af];refine Bl (AT (fun x=>Option.bind x _) hC) ?_;rw[ai];cases (iI c r (r.2.2.2.2.2.1[k]).1 (r.2.2.2.2.2.1[k]).2.1 true).2 with
   |false=>rfl
   |true=>rw[KM];rfl
theorem awk {c:Int×Int}{r:aD}(h:ba c r):DT F0 c r=some ((atl c r).1,(atl c r).2,()):=by have ht:=h.f.l.t;rw[ag9,aI (by omega) (by omega)];exact atn h r.2.2.2.2.2.1.length F0.n (cp _) (by rw[bT];omega)
def aIV (r:aD)(d:tQ):aD:=(r.1,r.2.1,r.2.2.1,r.2.2.2.1,r.2.2.2.2.1,r.2.2.2.2.2.1,d,r.2.2.2.2.2.2.2)
def Xo (r:aD)(keep:Int):aD:=aIV r (uQ r.2.2.2.2.2.2.1 keep)
def ato (c:Int×Int)(r:aD)(keep:Int):aD:=aIL c (Xo r keep)
theorem ba.Xo {c:Int×Int}{r:aD}(h:ba c r)(keep:Int):ba c (Xo r keep):=by
 have hk:=apQ h.f.d keep;have hd:=ee.1 h.f.d;have e:uQ r.2.2.2.2.2.2.1 keep=(r.2.2.2.2.2.2.1.1.take (NN r.2.2.2.2.2.2.1 keep).toNat,NN r.2.2.2.2.2.2.1 keep):=ak h.f.d;refine⟨⟨h.f.cf,h.f.i,h.f.v,h.f.a,h.f.s,h.f.p,h.f.t,?_,h.f.n,h.f.h⟩,?_⟩
 ·show gx (uQ r.2.2.2.2.2.2.1 keep)=true;rw[e];refine ee.2 ⟨?_,?_,?_⟩
  ·dsimp only;rw[bQ];omega
  ·dsimp only;omega
  ·dsimp only;rw[bQ];omega
 ·show ∀x∈(uQ r.2.2.2.2.2.2.1 keep).1,_;rw[e];exact fun x hx=>h.b x (al1 hx)
theorem ab8 {c:Int×Int}(hc:bO c=true):cW c tG=true:=by unfold cW fM YI tG;simp only[hc,iG];rfl
theorem aEJ {c:Int×Int}{b:List Int}(hc:bO c=true):cW c (rR c b).1=true:=by
 unfold rR;split
 ·rename_i h;exact h.2.2
 ·exact ab8 hc
theorem ayW {c:Int×Int}{b:List Int}(hc:bO c=true):∀(f:Nat) (s:ct) (a:Nat),cW c s=true->cW c (Lf c b f s a).1=true
 |0,_,_,h=>h
 |f+1,s,a,h=>by
  cases hn:W6 c b a with
  |none=>rw[lV hn];exact h
  |some z =>
   obtain⟨s',a'⟩:=z;rw[RV hn];refine ayW hc f s' a' ?_;cases hg:tY b a with
   |none=>rw[RU hg]at hn;cases hn
   |some y =>
    obtain⟨v,a0⟩:=y;rw[RT hg]at hn;split at hn
    ·cases hn
    ·split at hn
     ·cases hn
     ·split at hn
      ·have e1:=AT Prod.fst (fQ hn);dsimp only at e1;rw[<-e1];exact aEJ hc
      ·cases hn
theorem ayX {c:Int×Int}(hc:bO c=true)(b:List Int):cW c (nF c b).1=true:=ayW hc _ _ _ (ab8 hc)
theorem ba.aMJ {c:Int×Int}{r:aD}(h:ba c r):ba c (aIL c r):=by
 have hs:=ayX h.f.cf r.2.2.2.2.2.2.1.1;have hle:=Xg c h.bt.d;have hd:=ee.1 h.f.d;obtain⟨h1,h2,h3,h4⟩:=gm hs;refine⟨⟨h.f.cf,h.f.i,?_,rfl,hs,rfl,rfl,?_,aX _,fun x hx=>by cases hx⟩,fun x hx=>h.b x (al1 hx)⟩
 ·show iG 1 60 (apR (nF c r.2.2.2.2.2.2.1.1).1)=true;simp only[iG,aJ,cD];unfold apR F2 xU
  repeat' split
  all_goals omega
 ·show gx (r.2.2.2.2.2.2.1.1.take (nF c r.2.2.2.2.2.2.1.1).2,((nF c r.2.2.2.2.2.2.1.1).2:Int))=true;refine ee.2 ⟨?_,?_,?_⟩
  ·dsimp only;rw[bQ];omega
  ·dsimp only;omega
  ·dsimp only;rw[bQ];omega
theorem ba.ato {c:Int×Int}{r:aD}(h:ba c r)(keep:Int):ba c (ato c r keep):=(h.Xo keep).aMJ
abbrev fu:=Int×Int×Int×da
def aHa (imp:Bool)(c:Int×Int)(r:aD)(m:da):aD×Int:=if (Ox imp c r m).2=true/\m.1=4 then ((Ox imp c r m).1,0) else (r,3)
def alA (imp:Bool)(c:Int×Int)(r:aD)(d:fu):aD×Int :=
 if d.1=1 then ahM c r else if d.1=6 then atl c r else if d.1=7 then (if (NS c r).2=true then ((NS c r).1,0) else (r,3)) else if d.1=8 then (ato c r d.2.2.1,0) else aHa imp c r d.2.2.2
theorem ba.alA {c:Int×Int}{r:aD}(h:ba c r)(imp:Bool)(d:fu):ba c (alA imp c r d).1:=by
 unfold Tryz.alA;split
 ·exact h.ahM
 ·split
  ·exact ayV h _
  ·split
   ·split
    ·exact h.aMI
    ·exact h
   ·split
    ·exact h.ato _
    ·unfold aHa;split
     ·exact h.heard _ _
     ·exact h
theorem aIW {imp:Bool}{c:Int×Int}{r:aD}{d:fu}:(alA imp c r d).1.1=r.1:=by
 unfold alA;split
 ·exact aIU
 ·split
  ·exact atm _
  ·split
   ·split
    ·exact aG9
    ·rfl
   ·split
    ·rfl
    ·unfold aHa;split
     ·exact awj
     ·rfl
theorem ayY {c:Int×Int}{r:aD}(h:ba c r){d:fu}(hd:gy d.2.2.2):Is F0 c r d=some ((alA true c r d).1,(alA true c r d).2,()):=by
 have hR:QA F0 c (r.1,r.2.1,r.2.2.1,r.2.2.2.1,r.2.2.2.2.1,r.2.2.2.2.2.1,uQ r.2.2.2.2.2.2.1 d.2.2.1,r.2.2.2.2.2.2.2)=some (ato c r d.2.2.1,()):=aEx (h.Xo d.2.2.1).bt (h.Xo d.2.2.1).ok;rw[alw,eK h.bt,ai,ayU h,ai,awk h,ai,aED h,ai,ayx h.bt.d.1,ai,atj h hd,ai];dsimp only;rw[hR,ai];unfold alA;by_cases k1:d.1=1
 ·rw[bC.2 k1,af,ak k1]
 ·rw[cj.2 k1,aa,ah k1];by_cases k6:d.1=6
  ·rw[bC.2 k6,af,ak k6]
  ·rw[cj.2 k6,aa,ah k6];by_cases k7:d.1=7
   ·rw[bC.2 k7,af,ak k7];cases (NS c r).2<;>rfl
   ·rw[cj.2 k7,aa,ah k7];by_cases k8:d.1=8
    ·rw[bC.2 k8,af,ak k8]
    ·rw[cj.2 k8,aa,ah k8];unfold aHa;cases (Ox true c r d.2.2.2).2 with
     |false=>rw[ah (fun hh=>by cases hh.1)];rfl
     |true =>
      by_cases k4:d.2.2.2.1=4
      ·rw[ak ⟨rfl,k4⟩,bC.2 k4];rfl
      ·rw[ah (fun hh=>k4 hh.2),cj.2 k4];rfl
def DY:an:=((0,0),[],[],[],[])
def atp (c:Int×Int)(x:pB):Prop:=eH x.2/\(tP c x.2).2=true/\iG 0 (aj (c.1-1)) x.1=true
def ayZ (c:Int×Int)(x:eG):Prop:=iG 0 (aj (c.1-1)) x.2.2=true/\cq x.2.1.data.toList=true/\bA x.2.1.data.toList=x.1
structure aO (w:an):Prop where
 c:bO w.1=true
 l:nB w.1.1 w.2.1=true
 lf:(w.2.1.length:Int)<=FZ w.1
 n:(w.2.2.1.length:Int)=w.1.1
 g:∀r∈w.2.2.1,ba w.1 r
 id:∀(k:Nat) (h:k<w.2.2.1.length),(w.2.2.1[k]).1=(k:Int)
 nl:w.2.2.2.1.length<=60
 nb:∀x∈w.2.2.2.1,atp w.1 x
 sl:w.2.2.2.2.length<=300
 sb:∀x∈w.2.2.2.2,ayZ w.1 x
theorem aO.le7 {w:an}(h:aO w):4<=w.2.2.1.length/\w.2.2.1.length<=7:=by have:=cP h.c;have:=h.n;omega
theorem aO.liars {w:an}(h:aO w):w.2.1.length<=7:=by have h1:=cP h.c;have:=ahz h.l;omega
theorem aBk {c:Int×Int}{x:eG}(h:ayZ c x):x.2.1.size<=1048576:=cN (tH h.2.1) (by omega)
theorem aO.w {w:an}(h:aO w):Ov w :=
 ⟨⟨by have:=h.liars;omega,by have:=h.le7;omega,fun x hx=>(h.g x hx).l,by have:=h.nl;omega,fun x hx=>(h.nb x hx).1,by have:=h.sl;omega,fun x hx=>aBk (h.sb x hx)⟩,fun r hr=>(h.g r hr).bt.d⟩
theorem I4 {α:Type}{l:List α}{k:Nat}(h:k<l.length)(d:α):l.getD k d=l[k]:=bc h d
theorem aO.ok {w:an}(h:aO w):mf w=true:=by
 unfold mf apw IB tE;simp only[aJ,afl,aty,Sa,iJ,jC];refine⟨h.c,h.l,by have:=h.lf;omega,h.n,by have:=h.nl;omega,by have:=h.sl;omega,fun k hk=>?_,fun k hk=>?_,fun k hk=>?_⟩
 ·unfold apv;rw[I4 hk,aJ,bC];exact⟨(h.g _ (di hk)).ok,h.id k hk⟩
 ·unfold abO;rw[I4 hk,aJ];exact(h.nb _ (di hk)).2
 ·unfold abP;rw[I4 hk,aJ,aJ,bC];exact h.sb _ (di hk)
theorem aO.of {w:an}(h:mf w=true)(hn:∀x∈w.2.2.2.1,eH x.2)(hb:∀r∈w.2.2.1,∀x∈r.2.2.2.2.2.2.1.1,0<=x/\x<=255):aO w:=by
 unfold mf apw IB tE at h;simp only[aJ,afl,aty,Sa,iJ,jC]at h;obtain⟨h1,h2,h3,h4,h5,h6,h7,h8,h9⟩:=h;have hr:∀k (hk:k<w.2.2.1.length),qJ w.1 w.2.2.1[k]=true/\(w.2.2.1[k]).1=(k:Int):=fun k hk=>by have:=h7 k hk;unfold apv at this;rw[I4 hk,aJ,bC]at this;exact this
 refine⟨h1,h2,by omega,h4,fun r hm=>?_,fun k hk=>(hr k hk).2,by omega,fun x hx=>?_,by omega,fun x hx=>?_⟩
 ·obtain⟨k,hk,rfl⟩:=ahS hm;exact⟨Cm.1 (hr k hk).1,hb _ hm⟩
 ·obtain⟨k,hk,rfl⟩:=ahS hx;have:=h8 k hk;unfold abO at this;rw[I4 hk,aJ]at this;exact⟨hn _ hx,this⟩
 ·obtain⟨k,hk,rfl⟩:=ahS hx;have:=h9 k hk;unfold abP at this;rw[I4 hk,aJ,aJ,bC]at this;exact this
def cU (w:an)(a:Int):aD:=w.2.2.1.getD a.toNat ajh
def nJ (w:an)(a:Int)(r:aD):an:=(w.1,w.2.1,w.2.2.1.set a.toNat r,w.2.2.2)
theorem aBl {w:an}{a:Int}(h0:0<=a)(h1:a<w.2.2.1.length):cU w a∈w.2.2.1:=by unfold cU;rw[bc (show a.toNat<w.2.2.1.length by omega)];exact di _
theorem aO.rep {w:an}(h:aO w){a:Int}(h0:0<=a)(h1:a<w.2.2.1.length):ba w.1 (cU w a)/\(cU w a).1=a:=by refine⟨h.g _ (aBl h0 h1),?_⟩;unfold cU;rw[bc (show a.toNat<w.2.2.1.length by omega),h.id _ (show a.toNat<w.2.2.1.length by omega)];omega
theorem aO.nJ {w:an}(h:aO w){a:Int}(h0:0<=a){r:aD}(hr:ba w.1 r)(hi:r.1=a):aO (nJ w a r):=by
 refine⟨h.c,h.l,h.lf,by show((w.2.2.1.set a.toNat r).length:Int)=_;rw[Ls];exact h.n,fun x hx=>?_,fun k hk=>?_,h.nl,h.nb,h.sl,h.sb⟩
 ·rcases List.mem_or_eq_of_mem_set hx with hx|rfl
  ·exact h.g x hx
  ·exact hr
 ·have hk':k<(w.2.2.1.set a.toNat r).length:=hk;have hs:((w.2.2.1.set a.toNat r)[k]'hk').1=(k:Int):=by
   rw[List.getElem_set];split
   ·rename_i e;rw[hi];omega
   ·exact h.id k (by rw[Ls]at hk';exact hk')
  exact hs
theorem aDb {c:Int×Int}{q:dp}(hq:cq q.2.1.data.toList=true)(hv:q.2.1.data.toList≠[]->bA q.2.1.data.toList=q.1){id:Int}(hi:iG 0 (aj (c.1-1)) id=true):∀x∈aaA id q,ayZ c x:=by
 intro x hx;unfold aaA at hx;cases hn:ec q.2.1 with
 |true=>rw[hn,ak rfl]at hx;cases hx
 |false =>
  rw[hn,ah (by decide)]at hx;split at hx
  ·rw[ml.1 hx];refine⟨hi,hq,hv fun h0=>?_⟩;rw[(Li _).2 h0]at hn;cases hn
  ·cases hx
theorem aHc {c:Int×Int}{m:da}(hm:eh c m=true){id:Int}(hi:iG 0 (aj (c.1-1)) id=true):∀x∈dN id m,ayZ c x:=by
 have hf:=ae9 hm;have q1:∀q:dp,fM c q=true->∀x∈aaA id q,ayZ c x:=fun q hq=>by obtain⟨_,h2,h3,_⟩:=abW hq;exact aDb h2 (fun _=>h3) hi
 rcases hf.k with k|k|k|k
 ·have hb:=hf.b k;simp only[gC,aJ]at hb;unfold dN;rw[ah (by omega),ah (by omega),ak k];exact q1 _ hb.1
 ·obtain⟨_,_,_,_,_,h6,h7⟩:=aeR (hf.p k).1;unfold dN;rw[ah (by omega),ak k];exact aDb h6 h7 hi
 ·unfold dN;rw[ah (by omega),ah (by omega),ah (by omega)];exact q1 _ (hf.v k).2.1
 ·unfold dN;rw[ak k];exact fun x hx=>by cases hx
theorem aBm {l:List eG}{y x:eG}(h:x∈Lk l y):x∈l\/x=y:=by
 unfold Lk at h;split at h
 ·rcases lX.1 h with h|h
  ·exact .inl h
  ·exact .inr (ml.1 h)
 ·exact .inl h
theorem aqb:∀{ys l:List eG} {x:eG},x∈ys.foldl Lk l->x∈l\/x∈ys
 |[],_,_,h=>.inl h
 |y::ys,l,x,h=>by
  rcases aqb (ys:=ys) h with h|h
  ·rcases aBm h with h|rfl
   ·exact .inl h
   ·exact .inr OD
  ·exact .inr (tI _ h)
theorem ajw {id:Int}:∀{ps:List l6} {l:List eG} {x:eG},x∈awi id ps l->x∈l\/∃p∈ps,x∈dN id p.2
 |[],_,_,h=>.inl h
 |p::ps,l,x,h=>by
  rcases ajw (ps:=ps) h with h|⟨q,hq,h⟩
  ·rcases aqb h with h|h
   ·exact .inl h
   ·exact .inr ⟨p,OD,h⟩
  ·exact .inr ⟨q,tI _ hq,h⟩
theorem lH {w:an}{id:Int}(h:id∈cM w):0<=id/\id<w.2.2.1.length:=by have:=ahs w.2.1 w.2.2.1.length id h;exact this
theorem aO.iG {w:an}(h:aO w){a:Int}(h0:0<=a)(h1:a<w.2.2.1.length):iG 0 (aj (w.1.1-1)) a=true:=by have hc:=cP h.c;have hn:=h.n;rw[WY hc.1 hc.2.1];simp only[Tryz.iG,aJ,cD];omega
theorem aO.aBn {w:an}(h:aO w){a:Int}(ha:Tryz.iG 0 (aj (w.1.1-1)) a=true):0<=a/\a<w.2.2.1.length:=by have hc:=cP h.c;have hn:=h.n;rw[WY hc.1 hc.2.1]at ha;simp only[Tryz.iG,aJ,cD]at ha;omega
theorem aO.AO {w:an}(h:aO w)(id:Int){list:List l6}(hm:∀p∈list,eh w.1 p.2=true):aO (AO w id list):=by
 unfold Tryz.AO;by_cases hi:id∈cM w
 ·rw[ak hi];have hr:=lH hi;refine⟨h.c,h.l,h.lf,h.n,h.g,h.id,h.nl,h.nb,ajt id h.sl,fun x hx=>?_⟩;rcases ajw hx with hx|⟨p,hp,hx⟩
  ·exact h.sb x hx
  ·exact aHc (hm p hp) (h.iG hr.1 hr.2) x hx
 ·rw[ah hi];exact h
theorem atq {c:Int×Int}{m:da}(h:eh c m=true){a:Int}(ha:iG 0 (aj (c.1-1)) a=true):atp c (a,ID m):=by have hb:=apL h;exact⟨⟨by dsimp only;omega,hb.2.1⟩,by rw[aEq h],ha⟩
theorem aqc {c:Int×Int}:∀{ps:List l6} {l:List pB} {x:pB},x∈aBi c ps l->x∈l\/atp c x
 |[],_,_,h=>.inl h
 |p::ps,l,x,h=>by
  rcases aqc (ps:=ps) h with h|h
  ·unfold aju at h;split at h
   ·rename_i hh;rcases lX.1 h with h|h
    ·exact .inl h
    ·rw[ml.1 h];exact .inr (atq hh.2.1 hh.2.2)
   ·exact .inl h
  ·exact .inr h
theorem aqd {c:Int×Int}:∀{ps:List l6} {l:List pB},l.length<=60->(aBi c ps l).length<=60
 |[],_,h=>h
 |p::ps,l,h=>aqd (ps:=ps) (ahK h p)
theorem aO.send {w:an}(h:aO w)(list:List l6):aO (afc w list) :=
 ⟨h.c,h.l,h.lf,h.n,h.g,h.id,aqd h.nl,fun x hx=>(aqc hx).elim (h.nb x) (fun h=>h),h.sl,h.sb⟩
theorem aO.ab9 {w:an}(h:aO w){net:List pB}(hl:net.length<=60)(hn:∀x∈net,atp w.1 x):aO (w.1,w.2.1,w.2.2.1,net,w.2.2.2.2) :=
 ⟨h.c,h.l,h.lf,h.n,h.g,h.id,hl,hn,h.sl,h.sb⟩
theorem ba.aBo {c:Int×Int}{r:aD}(h:ba c r):∀p∈r.2.2.2.2.2.2.2,eh c p.2=true:=fun p hp=>ayD (h.f.h p hp)
theorem ba.aJH {c:Int×Int}{r:aD}(h:ba c r):∀p∈r.2.2.2.2.2.2.2,gy p.2:=fun p hp=>av7 (h.aBo p hp)
def Good (w:an):Prop:=Ov w/\(mf w=true->aO w)
theorem aO.aBp {w:an}(h:aO w):Good w:=⟨h.w,fun _=>h⟩
theorem aO.aJI {w:an}(h:aO w){net:List pB}(hl:net.length<=61)(hn:∀x∈net,atp w.1 x):Good (w.1,w.2.1,w.2.2.1,net,w.2.2.2.2) :=
 ⟨⟨⟨h.w.l.l,h.w.l.r,h.w.l.rl,by show net.length<=_;omega,fun x hx=>(hn x hx).1,h.w.l.s,h.w.l.st⟩,h.w.b⟩,fun ho=>aO.of ho (fun x hx=>(hn x hx).1) fun r hr=>(h.g r hr).b⟩
theorem II {w:an}{a:Int}(h0:0<=a)(h1:a<w.2.2.1.length)(d:aD):aN w.2.2.1 a d=cU w a:=by
 have hk:a.toNat<w.2.2.1.length:=by omega
 unfold cU;rw[bc hk];exact bc hk d
def aDc (l:List eG)(id:Int)(list:List l6):Bool:=list.all fun p=>(dN id p.2).all fun x=>ky l x.1 x.2.1 x.2.2
def bZ (w:an)(a:Int):List l6:=(cU w a).2.2.2.2.2.2.2
def QT (w:an)(a:Int):an:=nJ (AO w a (bZ w a)) a (ae6 (cU w a))
def atr (w:an)(a:Int):an×Int :=
 if aDc (AO w a (bZ w a)).2.2.2.2 a (bZ w a)=true then (if w.2.2.2.1.length+(bZ w a).length<=60 then (afc (QT w a) (bZ w a),0) else (w,4)) else (w,4)
theorem aqe (w:an)(id:Int)(list:List l6):(AO w id list).1=w.1/\(AO w id list).2.2.1=w.2.2.1/\(AO w id list).2.2.2.1=w.2.2.2.1:=by unfold AO;split<;>exact⟨rfl,rfl,rfl⟩
theorem aO.QT {w:an}(h:aO w){a:Int}(h0:0<=a)(h1:a<w.2.2.1.length):aO (QT w a):=by obtain⟨hg,hi⟩:=h.rep h0 h1;have hl:=h.AO a (list:=bZ w a) hg.aBo;have e:=(aqe w a (bZ w a)).1;exact hl.nJ h0 (by rw[e];exact hg.ae6) hi
theorem awl {w:an}(h:aO w){a:Int}(h0:0<=a)(h1:a<w.2.2.1.length):DD F0 w a=some ((atr w a).1,(atr w a).2,()):=by
 obtain⟨hg,hi⟩:=h.rep h0 h1;have hm:=hg.aJH;have hln:(bZ w a).length<=30:=hg.f.n;have hO:=h.AO a (list:=bZ w a) hg.aBo;have hS:=awb hg;have hL:=aBh h.w h.sl a (list:=bZ w a) (by omega) hm;have e3:=(aqe w a (bZ w a)).2.1;have hsw:=h.QT h0 h1;rw[agN,me h0 (by omega),ae,II h0 h1,hS,ai];refine Bl (AT (fun x=>Option.bind x _) hL) ?_;rw[ai];dsimp only;generalize hS':ae6 (cU w a)=S;generalize hO':AO w a (bZ w a)=O at hO e3 hsw;have aAr:∀n,gf F0 (.exit 0) (w7 a w.1.1 w.1.2 w.2.1 w.2.2.1 w.2.2.2.1 w.2.2.2.2 0 0 S.1 S.2.1 S.2.2.1 S.2.2.2.1.1 S.2.2.2.1.2.1 S.2.2.2.1.2.2.1.1 S.2.2.2.1.2.2.1.2.1 S.2.2.2.1.2.2.2 S.2.2.2.2.2.2.1.2 O.1.1 O.1.2 (bZ w a) [] [] [] [] S.2.2.2.1.2.2.1.2.2 S.2.2.2.2.1 S.2.2.2.2.2.1 S.2.2.2.2.2.2.1.1 S.2.2.2.2.2.2.2 O.2.1 O.2.2.1 O.2.2.2.1 O.2.2.2.2)=(fun _:Nat=>some (if w.2.2.2.1.length+(bZ w a).length<=60 then (afc (QT w a) (bZ w a),(0:Int),()) else (w,4,()))) n:=fun n=>by
  have hw':nJ O a S=QT w a:=by unfold QT;rw[hO',hS']
  rw[<-hw']at hsw;have hSd:Qb F0 ((O.1.1,O.1.2),O.2.1,O.2.2.1.set a.toNat (S.1,S.2.1,S.2.2.1,(S.2.2.2.1.1,S.2.2.2.1.2.1,(S.2.2.2.1.2.2.1.1,S.2.2.2.1.2.2.1.2.1,S.2.2.2.1.2.2.1.2.2),S.2.2.2.1.2.2.2),S.2.2.2.2.1,S.2.2.2.2.2.1,(S.2.2.2.2.2.2.1.1,S.2.2.2.2.2.2.1.2),S.2.2.2.2.2.2.2),O.2.2.2.1,O.2.2.2.2) (bZ w a)=some (afc (nJ O a S) (bZ w a),()):=by have:=aEI hsw.w hsw.nl (list:=bZ w a) (by omega) hm;rw[hsw.ok,ak rfl]at this;exact this
  have hnl:=h.nl;rw[Yy,aI (by omega) (by omega),me h0 (by rw[e3];omega),ae,hSd,ai];by_cases hh:w.2.2.2.1.length+(bZ w a).length<=60
  ·rw[aQ (show ¬(w.2.2.2.1.length:Int)+(bZ w a).length>60 by omega),aa];dsimp only;rw[ak hh,hw']
  ·rw[aM (show(w.2.2.2.1.length:Int)+(bZ w a).length>60 by omega),af];dsimp only;rw[ah hh]
 have nZ:=jA (fun n k=>pr F0 (gf F0) n (lB a ((bZ w a).length:Int) k w.1.1 w.1.2 w.2.1 w.2.2.1 w.2.2.2.1 w.2.2.2.2 0 0 S.1 S.2.1 S.2.2.1 S.2.2.2.1.1 S.2.2.2.1.2.1 S.2.2.2.1.2.2.1.1 S.2.2.2.1.2.2.1.2.1 S.2.2.2.1.2.2.2 S.2.2.2.2.2.2.1.2 O.1.1 O.1.2 (bZ w a) [] [] [] [] S.2.2.2.1.2.2.1.2.2 S.2.2.2.2.1 S.2.2.2.2.2.1 S.2.2.2.2.2.2.1.1 S.2.2.2.2.2.2.2 O.2.1 O.2.2.1 O.2.2.2.1 O.2.2.2.2)) (bZ w a).length
  (fun k=>(dN a ((bZ w a).getD k avL).2).all fun x=>ky O.2.2.2.2 x.1 x.2.1 x.2.2) (some (if w.2.2.2.1.length+(bZ w a).length<=60 then (afc (QT w a) (bZ w a),(0:Int),()) else (w,4,()))) (some (w,4,()))
  (fun n k hk=>?_) (fun n=>?_) F0.n (by rw[bT];omega)
 ·refine Bl nZ ?_;rw[KW (bZ w a) (fun p=>(dN a p.2).all fun x=>ky O.2.2.2.2 x.1 x.2.1 x.2.2) avL];unfold atr aDc;rw[hO'];cases ((bZ w a).all fun p=>(dN a p.2).all fun x=>ky O.2.2.2.2 x.1 x.2.1 x.2.2) with
  |false=>rfl
  |true =>
   rw[ak rfl,ak rfl];split<;>rfl
 ·have hsl:=ab6 a ((bZ w a)[k]).2;rw[ER,aS hk,af,av hk,ae,bp hk,ajs (hm _ (di hk)),ai,bc hk];have hin:=jA (fun m j=>wb F0 (qB F0 (gf F0) n) m (qA a ((bZ w a).length:Int) (k:Int) ((dN a ((bZ w a)[k]).2).length:Int) j w.1.1 w.1.2 w.2.1 w.2.2.1 w.2.2.2.1 w.2.2.2.2 0 0 S.1 S.2.1 S.2.2.1 S.2.2.2.1.1 S.2.2.2.1.2.1 S.2.2.2.1.2.2.1.1 S.2.2.2.1.2.2.1.2.1 S.2.2.2.1.2.2.2 S.2.2.2.2.2.2.1.2 O.1.1 O.1.2 (bZ w a) (dN a ((bZ w a)[k]).2) [] [] [] [] S.2.2.2.1.2.2.1.2.2 S.2.2.2.2.1 S.2.2.2.2.2.1 S.2.2.2.2.2.2.1.1 S.2.2.2.2.2.2.2 O.2.1 O.2.2.1 O.2.2.2.1 O.2.2.2.2)) (dN a ((bZ w a)[k]).2).length
   (fun j=>(fun x:eG=>ky O.2.2.2.2 x.1 x.2.1 x.2.2) ((dN a ((bZ w a)[k]).2).getD j abN)) (pr F0 (gf F0) n (lB a ((bZ w a).length:Int) ((k+1:Nat):Int) w.1.1 w.1.2 w.2.1 w.2.2.1 w.2.2.2.1 w.2.2.2.2 0 0 S.1 S.2.1 S.2.2.1 S.2.2.2.1.1 S.2.2.2.1.2.1 S.2.2.2.1.2.2.1.1 S.2.2.2.1.2.2.1.2.1 S.2.2.2.1.2.2.2 S.2.2.2.2.2.2.1.2 O.1.1 O.1.2 (bZ w a) [] [] [] [] S.2.2.2.1.2.2.1.2.2 S.2.2.2.2.1 S.2.2.2.2.2.1 S.2.2.2.2.2.2.1.1 S.2.2.2.2.2.2.2 O.2.1 O.2.2.1 O.2.2.2.1 O.2.2.2.2)) (some (w,4,()))
   (fun m j hj=>?_) (fun m=>?_) F0.n (by rw[bT];omega)
  ·refine Bl hin ?_;rw[KW (dN a ((bZ w a)[k]).2) (fun x:eG=>ky O.2.2.2.2 x.1 x.2.1 x.2.2) abN]
  ·have hos:=hO.sl;rw[EP,aS hj,af,av hj,ae,bp hj,Cp (by omega),ai,abw,abx,ao (by omega),bc hj];rcases Bool.eq_false_or_eq_true (ky O.2.2.2.2 (dN a ((bZ w a)[k]).2)[j].1 (dN a ((bZ w a)[k]).2)[j].2.1 (dN a ((bZ w a)[k]).2)[j].2.2) with hs|hs
   ·simp only[hs,aL,aa,ig]
   ·simp only[hs,eX,af];rfl
  ·rw[EP,aH,aa,Yx,ao (by omega)]
 ·rw[ER,aH,aa];exact aAr n
def aca (net:List pB)(k:Nat):List pB:=net.take k++net.drop (k+1)
def eS (w:an)(a:Int):pB:=w.2.2.2.1.getD a.toNat aAH
def ab9 (w:an)(net:List pB):an:=(w.1,w.2.1,w.2.2.1,net,w.2.2.2.2)
def T3 (w:an)(a:Int):an:=ab9 w (aca w.2.2.2.1 a.toNat)
def aqf (imp:Bool)(w:an)(x:pB):aD:=(Ox imp w.1 (cU w x.1) (tP w.1 x.2).1).1
def ats (imp:Bool)(w:an)(a:Int):an:=if (eS w a).1∈cM w then nJ (T3 w a) (eS w a).1 (aqf imp w (eS w a)) else T3 w a
def aBq (w:an)(d:fu):an×Int :=
 if d.1=3 then (ats true w d.2.1,0) else if d.1=4 then (T3 w d.2.1,0) else if d.1=5 then (ab9 w (w.2.2.2.1++[eS w d.2.1]),0)
 else if Oy w.1 w.2.1 w.2.2.2.2 d.2.2.2=true then (ab9 w (w.2.2.2.1++[(d.2.1,ID d.2.2.2)]),0) else (w,5)
theorem aBr {net:List pB}{k:Nat}{x:pB}(h:x∈aca net k):x∈net:=by
 rcases lX.1 h with h|h
 ·exact al1 h
 ·exact azv h
theorem aBs (net:List pB)(k:Nat):(aca net k).length<=net.length:=by unfold aca;rw[aT,bQ,bz];omega
theorem aO.T3 {w:an}(h:aO w)(a:Int):aO (T3 w a):=h.ab9 (cN (aBs _ _) h.nl) fun x hx=>h.nb x (aBr hx)
theorem aO.ats {w:an}(h:aO w)(imp:Bool)(a:Int):aO (ats imp w a):=by
 unfold Tryz.ats;split
 ·rename_i hi;have hr:=lH hi;obtain⟨hg,hid⟩:=h.rep hr.1 hr.2;exact(h.T3 a).nJ hr.1 (hg.heard imp _) (by unfold aqf;rw[awj];exact hid)
 ·exact h.T3 a
theorem aO.aIX {w:an}(h:aO w){a:Int}(h0:0<=a)(h1:a<w.2.2.2.1.length):atp w.1 (eS w a):=by refine h.nb _ ?_;unfold eS;rw[bc (show a.toNat<w.2.2.2.1.length by omega)];exact di _
theorem ay0 {c:Int×Int}{b:List Int}(h:(tP c b).2=true):gy (tP c b).1/\eh c (tP c b).1=true:=by
 have:eh c (tP c b).1=true:=by
  unfold tP fin at h ⊢;split at h
  ·rename_i hh;rw[ak hh];exact hh.2.2
  ·cases h
 exact⟨av7 this,this⟩
theorem ajx {w:an}(h:aO w){d:fu}(hd:gy d.2.2.2)(hr:d.1=3\/d.1=4\/d.1=5->0<=d.2.1/\d.2.1<w.2.2.2.1.length):oP F0 w d=some ((aBq w d).1,(aBq w d).2,()):=by
 have hnl:=h.nl;have hlen:=xN w;have h7:=h.le7;rw[alk,lW h.w,ai];dsimp only;unfold aBq;by_cases k:d.1=3\/d.1=4\/d.1=5
 ·obtain⟨r0,r1⟩:=hr k;have hx:=h.aIX r0 r1;obtain⟨hml,hmo⟩:=ay0 hx.2.1;have e1:aj (d.2.1+1)=d.2.1+1:=aI (by omega) (by omega);have et:(d.2.1+1).toNat=d.2.1.toNat+1:=by omega
  have ex:∀aF:pB,aN w.2.2.2.1 d.2.1 aF=eS w d.2.1:=fun aF=>by
   unfold eS;have hk:d.2.1.toNat<w.2.2.2.1.length:=by omega
   rw[bc hk];show w.2.2.2.1.getD d.2.1.toNat aF=_;exact bc hk aF
  obtain⟨t0,t1⟩:=h.aBn hx.2.2;obtain⟨hg,hid⟩:=h.rep t0 t1;have hH:∀aF:aD,IW F0 w.1 (aN w.2.2.1 (eS w d.2.1).1 aF) (tP w.1 (eS w d.2.1).2).1=some ((Ox true w.1 (cU w (eS w d.2.1).1) (tP w.1 (eS w d.2.1).2).1).1,(Ox true w.1 (cU w (eS w d.2.1).1) (tP w.1 (eS w d.2.1).2).1).2,()):=fun aF=>by
   have hk:(eS w d.2.1).1.toNat<w.2.2.1.length:=by omega
   have:aN w.2.2.1 (eS w d.2.1).1 aF=cU w (eS w d.2.1).1:=by unfold cU;rw[bc hk];exact bc hk aF
   rw[this];exact atj hg hml
  rw[me r0 r1,ae,e1,apF r0 (by omega) (by omega),ae,ae,ae,ex,apu hx.1,ai,hx.2.1,af,E5 h.w.l,ai,fH (by dsimp only;omega),ai,me t0 t1,ae,hH,ai,aeU hx.1.1,ai,az (by omega) (by omega) (by first|omega|(simp only[aT,bg,bB];omega)|(rw[bz,bQ];omega)),ae];dsimp only;rw[ae,et];rcases k with k|k|k
  ·rw[bC.2 k,af,ak k];unfold ats;by_cases hh:(eS w d.2.1).1∈cM w
   ·rw[aM hh,af,ak hh];rfl
   ·rw[aQ hh,aa,ah hh];rfl
  ·rw[cj.2 (show d.1≠3 by omega),aa,bC.2 k,af,ah (by omega),ak k];rfl
  ·rw[cj.2 (show d.1≠3 by omega),aa,cj.2 (show d.1≠4 by omega),aa,bC.2 k,af,ah (by omega),ah (by omega),ak k];rfl
 ·have hli:=h.liars;have hsl:=h.sl;rw[cj.2 (show d.1≠3 by omega),aa,cj.2 (show d.1≠4 by omega),aa,cj.2 (show d.1≠5 by omega),aa,ah (by omega),ah (by omega),ah (by omega),ayR (by omega) (by omega) hd,ai,aav hd,ai,az (by omega) (by omega) (by first|omega|(simp only[aT,bg,bB];omega)|(rw[bz,bQ];omega)),ae];cases hm:Oy w.1 w.2.1 w.2.2.2.2 d.2.2.2 with
  |false=>rfl
  |true =>
   have dO:eh w.1 d.2.2.2=true:=by unfold Oy at hm;rw[aJ]at hm;exact hm.1
   dsimp only;rw[show aeV w.1 d.2.2.2=ID d.2.2.2 from ak dO];rfl
def NU (d:fu):Bool:=(d.1==3) || ((d.1==4) || (d.1==5))
theorem jY {d:fu}:NU d=true↔d.1=3\/d.1=4\/d.1=5:=by simp[NU]
def R8 (w:an)(d:fu):Bool :=
 if NU d=true then iG 0 (aj ((w.2.2.2.1.length:Int)-1)) d.2.1 else if d.1=10 then iG 0 (aj (w.1.1-1)) d.2.1 else decide (d.2.1∈cM w)
theorem QU {w:an}{d:fu}(h:NU d=true):R8 w d=iG 0 (aj ((w.2.2.2.1.length:Int)-1)) d.2.1:=ak h
theorem ahN {w:an}{d:fu}(h:¬NU d=true)(h2:d.1=10):R8 w d=iG 0 (aj (w.1.1-1)) d.2.1:=by unfold R8;rw[ah h,ak h2]
theorem QV {w:an}{d:fu}(h:¬NU d=true)(h2:¬d.1=10):R8 w d=decide (d.2.1∈cM w):=by unfold R8;rw[ah h,ah h2]
theorem ay1 {w:an}(h:aO w)(d:fu):H5 F0 w d=some (R8 w d,()):=by
 have hlen:=xN w;have h7:=h.le7;rw[akZ,b9,ai,b9,ai,E5 h.w.l,ai,fH (by dsimp only;omega),ai];by_cases k3:d.1=3
 ·rw[bC.2 k3,af,QU (jY.2 (.inl k3))]
 ·rw[cj.2 k3,aa];by_cases k4:d.1=4
  ·rw[bC.2 k4,af,QU (jY.2 (.inr (.inl k4)))]
  ·rw[cj.2 k4,aa];by_cases k5:d.1=5
   ·rw[bC.2 k5,af,QU (jY.2 (.inr (.inr k5)))]
   ·have kn:¬NU d=true:=fun hh=>(jY.1 hh).elim k3 (fun hh=>hh.elim k4 k5)
    rw[cj.2 k5,aa];by_cases k10:d.1=10
    ·rw[bC.2 k10,af,ahN kn k10]
    ·rw[cj.2 k10,aa,QV kn k10]
def awm (imp:Bool)(w:an)(d:fu):an×Int:=(nJ w d.2.1 (alA imp w.1 (cU w d.2.1) d).1,(alA imp w.1 (cU w d.2.1) d).2)
def aEK (w:an)(d:fu):an×Int:=if d.1=2 then atr w d.2.1 else if NU d=true\/d.1=10 then aBq w d else awm true w d
def aHd (w:an)(x:an×Int):an×Int:=if x.2=0 then (if mf x.1=true then (x.1,0) else (w,4)) else (w,x.2)
def doI (w:an)(d:fu):an×Int:=if iG 1 10 d.1=true then (if R8 w d=true then aHd w (aEK w d) else (w,2)) else (DY,1)
theorem X8 {w:an}(h:aO w){a:Int}(ha:iG 0 (aj ((w.2.2.2.1.length:Int)-1)) a=true):0<=a/\a<w.2.2.2.1.length:=by have hn:=h.nl;rw[aI (by omega) (by omega)]at ha;simp only[iG,aJ,cD]at ha;omega
theorem aO.awm {w:an}(h:aO w)(imp:Bool){d:fu}(h0:0<=d.2.1)(h1:d.2.1<w.2.2.1.length):aO (awm imp w d).1:=by obtain⟨hg,hi⟩:=h.rep h0 h1;exact h.nJ h0 (hg.alA imp d) (by rw[aIW];exact hi)
theorem aDd {w:an}(h:aO w){a:Int}(h0:0<=a)(h1:a<w.2.2.1.length):aO (atr w a).1:=by
 unfold atr;split
 ·split
  ·exact(h.QT h0 h1).send _
  ·exact h
 ·exact h
theorem X9 {w:an}(h:aO w){d:fu}(hr:NU d=true->0<=d.2.1/\d.2.1<w.2.2.2.1.length)(ht:¬NU d=true->iG 0 (aj (w.1.1-1)) d.2.1=true):Good (aBq w d).1:=by
 have hnl:=h.nl;unfold aBq;split
 ·exact(h.ats true _).aBp
 ·split
  ·exact(h.T3 _).aBp
  ·split
   ·rename_i k5;obtain⟨r0,r1⟩:=hr (jY.2 (.inr (.inr k5)));refine h.aJI (by rw[aT,ew];omega) fun x hx=>?_
    rcases lX.1 hx with hx|hx
    ·exact h.nb x hx
    ·rw[ml.1 hx];exact h.aIX r0 r1
   ·split
    ·rename_i k3 k4 k5 hm;have dO:eh w.1 d.2.2.2=true:=by unfold Oy at hm;rw[aJ]at hm;exact hm.1
     refine h.aJI (by rw[aT,ew];omega) fun x hx=>?_
     rcases lX.1 hx with hx|hx
     ·exact h.nb x hx
     ·rw[ml.1 hx];exact atq dO (ht fun hh=>(jY.1 hh).elim k3 (fun hh=>hh.elim k4 k5))
    ·exact h.aBp
theorem aHe {w:an}(hw:Ov w){x:an×Int}(hx:Good x.1) :
  br (x.2==0) ((dx F0 x.1).bind fun Zt=>br (!Zt.1) (br ((4:Int) != 0) ((aR F0 w).bind fun IU=>some (IU.1,(4:Int),())) (some (x.1,0,()))) (br (x.2 != 0) ((aR F0 w).bind fun IU=>some (IU.1,x.2,())) (some (x.1,0,())))) (br (x.2 != 0) ((aR F0 w).bind fun IU=>some (IU.1,x.2,())) (some (x.1,0,())))=some ((aHd w x).1,(aHd w x).2,()):=by
 rw[tF hx.1.l,ai,lW hw,ai,ai];unfold aHd;by_cases h0:x.2=0
 ·rw[bC.2 h0,af,ak h0,show(x.2 != 0)=false by simp[h0]];cases mf x.1<;>rfl
 ·rw[cj.2 h0,aa,ah h0,show(x.2 != 0)=true by simp[h0]];rfl
theorem aKN {w:an}(h:aO w){d:fu}(hd:gy d.2.2.2):alM F0 w d=some ((doI w d).1,(doI w d).2,()):=by
 have h7:=h.le7;rw[aAn,tF h.w.l,ai,h.ok,aL,aa,b9,ai,ay1 h,ai,lW h.w];unfold doI;cases hk:iG 1 10 d.1 with
 |false=>rfl
 |true =>
  rw[ak rfl,aL,aa];cases ht:R8 w d with
  |false=>rfl
  |true =>
   rw[ak rfl,aL,aa];simp only[ai];have tail:∀x:an×Int,Good x.1->_:=fun x hx=>aHe h.w hx
   rw[lW h.w]at tail;simp only[ai]at tail;unfold aEK;by_cases k2:d.1=2
   ·have hh:d.2.1∈cM w:=by rw[QV (fun hh=>by have:=jY.1 hh;omega) (by omega)]at ht;exact uf ht
    obtain⟨r0,r1⟩:=lH hh;rw[bC.2 k2,af,ak k2,awl h r0 r1,ai];exact tail _ (aDd h r0 r1).aBp
   ·rw[cj.2 k2,aa,ah k2];by_cases kn:NU d=true
    ·have hr:iG 0 (aj ((w.2.2.2.1.length:Int)-1)) d.2.1=true:=by rw[QU kn]at ht;exact ht
     have hnr:=X8 h hr;have hN:=ajx h hd (fun _=>hnr);have hG:Good (aBq w d).1:=X9 h (fun _=>hnr) (fun hh=>absurd kn hh);rw[ak (.inl kn),hN,ai];have fin:=tail _ hG;by_cases k3:d.1=3
     ·rw[bC.2 k3,af];exact fin
     ·rw[cj.2 k3,aa];by_cases k4:d.1=4
      ·rw[bC.2 k4,af];exact fin
      ·have k5:d.1=5:=by have:=jY.1 kn;omega
       rw[cj.2 k4,aa,bC.2 k5,af];exact fin
    ·have kn':¬(d.1=3\/d.1=4\/d.1=5):=fun hh=>kn (jY.2 hh)
     rw[cj.2 (show d.1≠3 by omega),aa,cj.2 (show d.1≠4 by omega),aa,cj.2 (show d.1≠5 by omega),aa];by_cases k10:d.1=10
     ·have hr:iG 0 (aj (w.1.1-1)) d.2.1=true:=by rw[ahN kn k10]at ht;exact ht
      have hN:=ajx h hd (fun hh=>absurd (jY.2 hh) kn);rw[bC.2 k10,af,ak (.inr k10),hN,ai];exact tail _ (X9 h (fun hh=>absurd hh kn) (fun _=>hr))
     ·have hh:d.2.1∈cM w:=by rw[QV kn k10]at ht;exact uf ht
      obtain⟨r0,r1⟩:=lH hh;obtain⟨hg,hi⟩:=h.rep r0 r1;rw[cj.2 k10,aa,ah (fun hh=>hh.elim kn k10),me r0 (by omega),ae,II r0 r1,ayY hg hd,ai,ae];exact tail (awm true w d) (h.awm true r0 r1).aBp
def att (w:an)(d:fu):an:=if (doI w d).2=0 then (doI w d).1 else w
def aqg (w:an)(list:List fu):an:=list.foldl att w
theorem aDe {w:an}(h:aO w)(d:fu):aO (att w d):=by
 unfold att;split
 ·rename_i h0;unfold doI at h0 ⊢;cases hk:iG 1 10 d.1 with
  |false=>rw[hk,ah (by decide)]at h0;exact absurd (show(1:Int)=0 from h0) (by decide)
  |true =>
   rw[hk,ak rfl]at h0;rw[ak rfl];cases ht:R8 w d with
   |false=>rw[ht,ah (by decide)]at h0;exact absurd (show(2:Int)=0 from h0) (by decide)
   |true =>
    rw[ht,ak rfl]at h0;rw[ak rfl];have hG:Good (aEK w d).1:=by
     unfold aEK;by_cases k2:d.1=2
     ·have hh:d.2.1∈cM w:=by rw[QV (fun hh=>by have:=jY.1 hh;omega) (by omega)]at ht;exact uf ht
      obtain⟨r0,r1⟩:=lH hh;rw[ak k2];exact(aDd h r0 r1).aBp
     ·rw[ah k2];by_cases kn:NU d=true
      ·have hr:iG 0 (aj ((w.2.2.2.1.length:Int)-1)) d.2.1=true:=by rw[QU kn]at ht;exact ht
       rw[ak (.inl kn)];exact X9 h (fun _=>X8 h hr) (fun hh=>absurd kn hh)
      ·by_cases k10:d.1=10
       ·have hr:iG 0 (aj (w.1.1-1)) d.2.1=true:=by rw[ahN kn k10]at ht;exact ht
        rw[ak (.inr k10)];exact X9 h (fun hh=>absurd hh kn) (fun _=>hr)
       ·have hh:d.2.1∈cM w:=by rw[QV kn k10]at ht;exact uf ht
        obtain⟨r0,r1⟩:=lH hh;rw[ah (fun hh=>hh.elim kn k10)];exact(h.awm true r0 r1).aBp
    unfold aHd at h0 ⊢;by_cases hx:(aEK w d).2=0
    ·rw[ak hx]at h0 ⊢;cases ho:mf (aEK w d).1 with
     |false=>rw[ho,ah (by decide)]at h0;exact absurd (show(4:Int)=0 from h0) (by decide)
     |true=>rw[ak rfl];exact hG.2 ho
    ·rw[ah hx]at h0;exact absurd h0 hx
 ·exact h
theorem ay2:∀{list:List fu} {w:an},aO w->aO (aqg w list)
 |[],_,h=>h
 |d::list,w,h=>ay2 (list:=list) (aDe h d)
theorem aEL {w:an}(h:aO w){list:List fu}(hl:list.length<=500)(hd:∀d∈list,gy d.2.2.2):∃T4:List Int,T4.length=list.length/\KP F0 w list=some (aqg w list,T4,()):=by
 rw[arC,lW h.w,ai,tF h.w.l,ai,h.ok,aL,aa,aQ (show ¬(list.length:Int)>500 by omega),aa];have key:∀(j k:Nat) (z:an) (xs:List Int) (n:Nat),k+j=list.length->aO z->xs.length=k->j<n->∃T4:List Int,T4.length=list.length /\
   AB F0 (KO F0) n (rO list (list.length:Int) (k:Int) 0 0 z.1.1 z.1.2 z.2.1 z.2.2.1 z.2.2.2.1 z.2.2.2.2 xs [] [] [] [])=some (aqg z (list.drop k),T4,()):=by
  intro j
  induction j with
  |zero =>
   intro k z xs n hk hz hx hn;obtain⟨n,rfl⟩:∃m,n=m+1:=⟨n-1,by omega⟩;obtain rfl:k=list.length:=by omega
   rw[Nw,aH,aa,ahd,YN];exact⟨xs,hx,rfl⟩
  |succ j ih =>
   intro k z xs n hk hz hx hn;obtain⟨n,rfl⟩:∃m,n=m+1:=⟨n-1,by omega⟩;have hk':k<list.length:=by omega
   have hD:=aKN hz (hd _ (di hk'));rw[Nw,aS hk',af,av hk',ae,bp hk',show(((z.1.1,z.1.2),z.2.1,z.2.2.1,z.2.2.2.1,z.2.2.2.2):an)=z from rfl,hD,ai,az (by omega) (by omega) (by first|omega|(simp only[aT,bg,bB];omega)|(rw[bz,bQ];omega)),ae,ae,ao (by omega),YM hk'];have hst:=aDe hz list[k];show ∃T4:List Int,_/\_=some (aqg (att z list[k]) (list.drop (k+1)),T4,());by_cases h0:(doI z list[k]).2=0
   ·have e:att z list[k]=(doI z list[k]).1:=ak h0;rw[e]at hst ⊢;rw[bC.2 h0,af];exact ih (k+1) _ _ n (by omega) hst (by rw[aT,ew];omega) (by omega)
   ·have e:att z list[k]=z:=ah h0;rw[e];rw[cj.2 h0,aa];exact ih (k+1) _ _ n (by omega) hz (by rw[aT,ew];omega) (by omega)
 exact key list.length 0 w [] F0.n (by omega) h rfl (by rw[bT];omega)
theorem aEM {w:an}(h:aO w){list:List fu}(hl:list.length<=500)(hd:∀d∈list,gy d.2.2.2):∃T4,KP F0 w list=some (aqg w list,T4,()):=by obtain⟨T4,_,h⟩:=aEL h hl hd;exact⟨T4,h⟩
def afe (w:an)(x:an×Int):an×Int×an:=if x.2=0 then (x.1,0,DY) else (DY,x.2,w)
theorem xO (w x:an):afe w (x,0)=(x,0,DY):=ak rfl
theorem Fa (w y:an){k:Int}(h:k≠0):afe w (y,k)=(DY,k,w):=ah h
def aKO (w:an)(a:Int):an×Int:=(nJ w a (ahM w.1 (cU w a)).1,(ahM w.1 (cU w a)).2)
theorem aBt {w:an}(h:aO w){a:Int}(h0:0<=a)(h1:a<w.2.2.1.length):Mt F0 w a=some (afe w (aKO w a)):=by
 obtain⟨hg,hi⟩:=h.rep h0 h1;rw[an2,me h0 (by omega),ae,II h0 h1,aC9 hg,ai,ae,eJ hg.bt,ai];unfold aKO ahM;cases hk:(ask w.1 (cU w a)).2 with
 |false=>rfl
 |true =>
  obtain⟨_,hb,_,_⟩:=aG2 hk;obtain⟨hb1,hb2⟩:=I3 hb;have hT:zq F0 w.1 ((cU w a).1,(cU w a).2.1,(cU w a).2.1,(cU w a).2.2.2) (1,0,(ask w.1 (cU w a)).1,(0,al,[]),(0,al,[]),0,0,0,0,0)=some ((alz w.1 (cU w a)).1,(alz w.1 (cU w a)).2,()):=ayJ hg.QS (ab2 hb1 hb2);dsimp only;rw[hT,ai,aaz (aBj hg) hb,ai,aL,aa,ak rfl];cases (alz w.1 (cU w a)).2 with
  |false=>rw[ah (fun hh=>by cases hh.1)];rfl
  |true =>
   cases (jX w.1 (alz w.1 (cU w a)).1 (ask w.1 (cU w a)).1).2 with
   |false=>rw[ah (fun hh=>by cases hh.2)];rfl
   |true =>
    rw[ak ⟨rfl,rfl⟩,aL,aa,aa,ae];rfl
def aHf (w:an)(a:Int):an×Int:=(nJ w a (atl w.1 (cU w a)).1,(atl w.1 (cU w a)).2)
theorem ay3 {w:an}(h:aO w){a:Int}(h0:0<=a)(h1:a<w.2.2.1.length):HR F0 w a=some (afe w (aHf w a)):=by
 obtain⟨hg,hi⟩:=h.rep h0 h1;have ht:=hg.f.l.t;rw[akG,me h0 (by omega),ae,II h0 h1,aI (by omega) (by omega)];unfold aHf atl;generalize hr:cU w a=r at hg ht;have key:∀(k n:Nat),k<=r.2.2.2.2.2.1.length->k<n ->
   zx F0 (sM F0) n (sL a ((k:Int)-1) w.1.1 w.1.2 w.1.1 w.1.2 0 0 r.1 r.2.1 r.2.2.1 r.2.2.2.1.1 r.2.2.2.1.2.1 r.2.2.2.1.2.2.1.1 r.2.2.2.1.2.2.1.2.1 r.2.2.2.1.2.2.1.2.2 r.2.2.2.1.2.2.2 r.2.2.2.2.1 r.2.2.2.2.2.1 r.2.2.2.2.2.2.1.1 r.2.2.2.2.2.2.1.2 r.2.2.2.2.2.2.2 w.2.1 w.2.2.1 w.2.2.2.1 w.2.2.2.2 [] [] [] [])
    = some (afe w (nJ w a (F3 w.1 r k).1,(F3 w.1 r k).2)):=by
  intro k
  induction k with
  |zero =>
   intro n hk hn;obtain⟨n,rfl⟩:∃m,n=m+1:=⟨n-1,by omega⟩;rw[Gz,aQ (show ¬((0:Nat):Int)-1>=0 by omega),aa,abk];rfl
  |succ k ih =>
   intro n hk hn;obtain⟨n,rfl⟩:∃m,n=m+1:=⟨n-1,by omega⟩;have hk':k<r.2.2.2.2.2.1.length:=by omega
   have hC:=aEC hg (r.2.2.2.2.2.1[k]).1 (hg.l.tq _ (di hk')).1 true;rw[Gz,show((k+1:Nat):Int)-1=(k:Int) by omega,aM (show(k:Int)>=0 by omega),af,av hk',ae,ae,ae,bp hk',My,me h0 (by omega)];unfold F3;rw[bc hk',show((r.2.2.2.2.2.1[k]).2.1.toList==al.toList)=ec (r.2.2.2.2.2.1[k]).2.1 from rfl];cases hnn:ec (r.2.2.2.2.2.1[k]).2.1 with
   |true =>
    rw[ak rfl,af,aI (by omega) (by omega)];exact ih n (by omega) (by omega)
   |false =>
    rw[ah (by decide),aa];refine Bl (AT (fun x=>Option.bind x _) hC) ?_;rw[ai];cases (iI w.1 r (r.2.2.2.2.2.1[k]).1 (r.2.2.2.2.2.1[k]).2.1 true).2 with
    |false=>rfl
    |true =>
     rw[ak rfl,ak rfl];dsimp only;rw[aL,aa,ae,My];rfl
 exact key r.2.2.2.2.2.1.length F0.n (cp _) (by rw[bT];omega)
theorem aHg {w:an}{a:Int}(r:aD)(list:List l6):AO (nJ w a r) a list=nJ (AO w a list) a r:=by
 have e:cM (nJ w a r)=cM w:=by unfold cM nJ;dsimp only;rw[Ls]
 unfold AO;rw[e];split<;>rfl
def ay4 (w:an)(a:Int):an×Int:=if w.2.2.2.1.length+(bZ w a).length<=60/\w.2.2.2.2.length+(bZ w a).length<=300 then (afc (QT w a) (bZ w a),0) else (w,4)
theorem ay5 {w:an}(h:aO w){a:Int}(h0:0<=a)(h1:a<w.2.2.1.length):HQ F0 w a=some (afe w (ay4 w a)):=by
 obtain⟨hg,hi⟩:=h.rep h0 h1;have hln:(bZ w a).length<=30:=hg.f.n;have hm:∀p∈bZ w a,gy p.2:=hg.aJH;have hnl:=h.nl;have hsl:=h.sl;have hS:=ayH hg;have aDO:=h.nJ h0 hg.ae6 hi;have hL:J9 F0 (w.1,w.2.1,w.2.2.1.set a.toNat (ae6 (cU w a)),w.2.2.2) a (bZ w a)=some (QT w a,()):=by have:=aEH aDO.w aDO.sl a (list:=bZ w a) (by omega) hm;rw[aHg]at this;exact this
 have hsw:=h.QT h0 h1;rw[akE,me h0 (by omega),ae,II h0 h1,hS,ai];dsimp only;rw[show(cU w a).2.2.2.2.2.2.2=bZ w a from rfl,aI (n:=(w.2.2.2.1.length:Int)+(bZ w a).length) (by omega) (by omega),aI (n:=(w.2.2.2.2.length:Int)+(bZ w a).length) (by omega) (by omega),ae,hL,ai,ajv hsw.nl (by omega) hm,ai];unfold ay4;by_cases g1:w.2.2.2.1.length+(bZ w a).length<=60
 ·rw[aQ (show ¬(w.2.2.2.1.length:Int)+(bZ w a).length>60 by omega),aa];by_cases g2:w.2.2.2.2.length+(bZ w a).length<=300
  ·rw[aQ (show ¬(w.2.2.2.2.length:Int)+(bZ w a).length>300 by omega),aa,ak ⟨g1,g2⟩,xO];rfl
  ·rw[aM (show(w.2.2.2.2.length:Int)+(bZ w a).length>300 by omega),af,ah (fun hh=>g2 hh.2),Fa _ _ (by decide)];rfl
 ·rw[aM (show(w.2.2.2.1.length:Int)+(bZ w a).length>60 by omega),af,ah (fun hh=>g1 hh.1),Fa _ _ (by decide)];rfl
def aHh (w:an)(d:fu):an×Int :=
 if iG 0 (aj ((w.2.2.2.1.length:Int)-1)) d.2.1=true then
  if d.1=5 then (if w.2.2.2.1.length<60 then (ab9 w (w.2.2.2.1++[eS w d.2.1]),0) else (w,4))
  else if d.1=3/\(eS w d.2.1).1 ∉ w.2.1 then (nJ (T3 w d.2.1) (eS w d.2.1).1 (aqf false w (eS w d.2.1)),0) else (T3 w d.2.1,0)
 else (w,2)
theorem aIY {imp:Bool}{c:Int×Int}{r:aD}{m:da}(h:(Ox imp c r m).2=false):(Ox imp c r m).1=r:=by
 unfold Ox at h ⊢;split
 ·rename_i hh;rw[ak hh]at h;cases h
 ·rfl
theorem aHi {w:an}{a:Int}(h0:0<=a)(h1:a<w.2.2.1.length):w.2.2.1.set a.toNat (cU w a)=w.2.2.1:=by unfold cU;rw[bc (show a.toNat<w.2.2.1.length by omega)];exact azu _
theorem aIZ {w:an}{a:Int}(h0:0<=a)(h1:a<w.2.2.2.1.length)(d:pB):aN w.2.2.2.1 a d=eS w a:=by
 have hk:a.toNat<w.2.2.2.1.length:=by omega
 unfold eS;rw[bc hk];exact bc hk d
theorem aBu {w:an}(h:aO w)(d:fu):xB F0 w d=some (afe w (aHh w d)):=by
 have hnl:=h.nl;have hli:=h.liars;have h7:=h.le7;rw[anS,dB,ai];unfold aHh;cases hr:iG 0 (aj ((w.2.2.2.1.length:Int)-1)) d.2.1 with
 |false=>rw[ah (by decide),Fa _ _ (by decide)];rfl
 |true =>
  obtain⟨r0,r1⟩:=X8 h hr;have hx:=h.aIX r0 r1;obtain⟨hml,hmo⟩:=ay0 hx.2.1;obtain⟨t0,t1⟩:=h.aBn hx.2.2;obtain⟨hg,hid⟩:=h.rep t0 t1;have e1:aj (d.2.1+1)=d.2.1+1:=aI (by omega) (by omega);have et:(d.2.1+1).toNat=d.2.1.toNat+1:=by omega
  have aOQ:([]++w.2.2.2.1.take d.2.1.toNat)++(w.2.2.2.1.take (w.2.2.2.1.length:Int).toNat).drop (d.2.1+1).toNat=aca w.2.2.2.1 d.2.1.toNat:=by rw[mm,nN,et];rfl
  have hl1:(w.2.2.2.1.take d.2.1.toNat).length<=60:=by rw[bQ];omega
  have hl2:((w.2.2.2.1.take (w.2.2.2.1.length:Int).toNat).drop (d.2.1+1).toNat).length<=60:=by rw[bz,bQ];omega
  have aOR:okT d.2.1 (w.2.2.2.1.length:Int)=true:=by simp[okT];omega
  rw[ak rfl,aL,aa,me r0 r1,ae,aIZ r0 r1,az (a:=0) (by omega) (by omega) (by have:=hx.1.1;omega),ae,az (by omega) (by omega) (by first|omega|(simp only[aT,bg,bB];omega)|(rw[bz,bQ];omega)),ae,aOR,ae,e1,apF (by omega) (by omega) (by omega),ae,az (a:=0) (by omega) (by omega) (by omega),ae,az (by omega) (by omega) (by rw[F6];omega),ae,
   aOQ,gi (by omega),ai,as8 hx.1,ai,me t0 t1,ae]
  dsimp only;rw[II t0 t1,ayP hg hml,ai,ae];by_cases k5:d.1=5
  ·rw[bC.2 k5,af,ak k5];by_cases g:w.2.2.2.1.length<60
   ·rw[aQ (show ¬(w.2.2.2.1.length:Int)>=60 by omega),aa,ak g,xO];rfl
   ·rw[aM (show(w.2.2.2.1.length:Int)>=60 by omega),af,ah g,Fa _ _ (by decide)];rfl
  ·rw[cj.2 k5,aa,ah k5];by_cases k3:d.1=3
   ·rw[bC.2 k3,af];by_cases hm:(eS w d.2.1).1∈w.2.1
    ·rw[aM hm,aL,aa,ah (fun hh=>hh.2 hm),xO];rfl
    ·rw[aQ hm,eX,af,ak ⟨k3,hm⟩,xO];unfold aqf;cases h9:(Ox false w.1 (cU w (eS w d.2.1).1) (tP w.1 (eS w d.2.1).2).1).2 with
     |true=>rfl
     |false =>
      rw[aIY h9];have:=aHi t0 t1;show some (((w.1,w.2.1,w.2.2.1,aca w.2.2.2.1 d.2.1.toNat,w.2.2.2.2):an),(0:Int),_)=some ((w.1,w.2.1,w.2.2.1.set _ _,aca w.2.2.2.1 d.2.1.toNat,w.2.2.2.2),0,DY);rw[this];rfl
   ·rw[cj.2 k3,aa,ah (fun hh=>k3 hh.1),xO];rfl
def aHj (w:an)(d:fu):an×Int :=
 if iG 0 (aj (w.1.1-1)) d.2.1=true then (if Oy w.1 w.2.1 w.2.2.2.2 d.2.2.2=true then (if w.2.2.2.1.length<60 then (afc w [(d.2.1,d.2.2.2)],0) else (w,4)) else (w,5)) else (w,2)
theorem aBv {w:an}(h:aO w){d:fu}(hd:gy d.2.2.2):Mr F0 w d=some (afe w (aHj w d)):=by
 have hnl:=h.nl;have hli:=h.liars;have hsl:=h.sl;rw[anZ,dB,ai,aBe (by omega) (by omega) hd,ai,ajv hnl (by simp) (fun p hp=>by rw[ml.1 hp];exact hd),ai];unfold aHj;cases iG 0 (aj (w.1.1-1)) d.2.1 with
 |false=>rfl
 |true =>
  cases Oy w.1 w.2.1 w.2.2.2.2 d.2.2.2 with
  |false=>rfl
  |true =>
   by_cases g:w.2.2.2.1.length<60
   ·rw[aQ (show ¬(w.2.2.2.1.length:Int)>=60 by omega),ak g];rfl
   ·rw[aM (show(w.2.2.2.1.length:Int)>=60 by omega),ah g];rfl
def aHk (w:an)(d:fu):an×Int:=if d.1=2 then ay4 w d.2.1 else awm false w d
theorem atu {w:an}{x:an×Int}:((some (afe w x):Option (an×Int×an)).bind fun r=>br (r.2.1==0) (some (r.1,(0:Int),DY)) (br (r.2.1==0) none (some (DY,r.2.1,w.1,r.2.2.2))))=some (afe w x):=by
 rw[ai];unfold afe;by_cases h:x.2=0
 ·rw[ak h];rfl
 ·rw[ah h];dsimp only;rw[cj.2 h,aa,aa]
theorem aBw {w:an}(h:aO w){d:fu}(hd:gy d.2.2.2)(h0:0<=d.2.1)(h1:d.2.1<w.2.2.1.length):MC F0 w d=some (afe w (aHk w d)):=by
 obtain⟨hg,hi⟩:=h.rep h0 h1;have hR:PQ F0 w.1 ((cU w d.2.1).1,(cU w d.2.1).2.1,(cU w d.2.1).2.2.1,(cU w d.2.1).2.2.2.1,(cU w d.2.1).2.2.2.2.1,(cU w d.2.1).2.2.2.2.2.1,uQ (cU w d.2.1).2.2.2.2.2.2.1 d.2.2.1,(cU w d.2.1).2.2.2.2.2.2.2)=some (ato w.1 (cU w d.2.1) d.2.2.1,()):=aGW (hg.Xo d.2.2.1).bt (hg.Xo d.2.2.1).ok;have pd:=fun x:an×Int=>atu (w:=w) (x:=x)
 unfold DY at pd;rw[aoe,me h0 (by omega),ae,aBt h h0 h1,ay5 h h0 h1,ay3 h h0 h1,II h0 h1,eJ hg.bt,aAZ hg.bt.d.1,aG3 hg,ayP hg hd];have p1:=pd (aKO w d.2.1);have p2:=pd (ay4 w d.2.1);have p3:=pd (aHf w d.2.1);unfold aHk awm alA;by_cases k1:d.1=1
 ·rw[bC.2 k1,af,ah (by omega),ak k1];exact p1
 ·rw[cj.2 k1,aa,ah k1];by_cases k2:d.1=2
  ·rw[bC.2 k2,af,ak k2];exact p2
  ·rw[cj.2 k2,aa,ah k2];by_cases k6:d.1=6
   ·rw[bC.2 k6,af,ak k6];exact p3
   ·rw[cj.2 k6,aa,ah k6];by_cases k8:d.1=8
    ·rw[bC.2 k8,af,ah (by omega),ak k8,xO];simp only[ai,hR,ae];rfl
    ·rw[cj.2 k8,aa];by_cases k7:d.1=7
     ·rw[bC.2 k7,af,ak k7,ai];cases (NS w.1 (cU w d.2.1)).2 with
      |false=>rw[ah (by decide),Fa _ _ (k:=3) (show(3:Int)≠0 by decide)];rfl
      |true=>rw[ak rfl,xO,ae];rfl
     ·rw[cj.2 k7,aa,ah k7,ah k8,ai];unfold aHa;cases (Ox false w.1 (cU w d.2.1) d.2.2.2).2 with
      |false=>rw[ah (fun hh=>by cases hh.1),Fa _ _ (k:=3) (show(3:Int)≠0 by decide)];rfl
      |true =>
       by_cases k4:d.2.2.2.1=4
       ·rw[ak ⟨rfl,k4⟩,xO,aL,aa,show(d.2.2.2.1 != 4)=false by simp[k4],aa,ae];rfl
       ·rw[ah (fun hh=>k4 hh.2),Fa _ _ (k:=3) (show(3:Int)≠0 by decide),aL,aa,show(d.2.2.2.1 != 4)=true by simp[k4],af];rfl
def aBx (w:an)(d:fu):an×Int:=if NU d=true then aHh w d else if d.1=10 then aHj w d else if d.2.1∈cM w then aHk w d else (w,2)
theorem aBy {w:an}(h:aO w){d:fu}(hd:gy d.2.2.2):MD F0 w d=some (afe w (aBx w d)):=by
 have hlen:=xN w;have h7:=h.le7;have pd:=fun x:an×Int=>atu (w:=w) (x:=x)
 unfold DY at pd;have p1:=pd (aHh w d);have p2:=pd (aHj w d);have p3:=pd (aHk w d);rw[aog,aBu h,aBv h hd,apx h.w.l];unfold aBx;by_cases kn:NU d=true
 ·rw[ak kn];by_cases k3:d.1=3
  ·rw[bC.2 k3,af];exact p1
  ·rw[cj.2 k3,aa];by_cases k4:d.1=4
   ·rw[bC.2 k4,af];exact p1
   ·have k5:d.1=5:=by have:=jY.1 kn;omega
    rw[cj.2 k4,aa,bC.2 k5,af];exact p1
 ·have kn':¬(d.1=3\/d.1=4\/d.1=5):=fun hh=>kn (jY.2 hh)
  rw[ah kn,cj.2 (show d.1≠3 by omega),aa,cj.2 (show d.1≠4 by omega),aa,cj.2 (show d.1≠5 by omega),aa];by_cases k10:d.1=10
  ·rw[bC.2 k10,af,ak k10];exact p2
  ·rw[cj.2 k10,aa,ah k10,ai,gi (by dsimp only;omega),ai];by_cases hh:d.2.1∈cM w
   ·obtain⟨r0,r1⟩:=lH hh;rw[aM hh,aL,aa,ak hh,aBw h hd r0 r1];exact p3
   ·rw[aQ hh,eX,af,ah hh,Fa _ _ (by decide)];rfl
def ay6 (w:an)(d:fu):an:=if (aBx w d).2=0 then (aBx w d).1 else w
theorem ay7 {w:an}(h:aO w){d:fu}(hd:gy d.2.2.2):HS F0 w d=some ((ay6 w d,()),()):=by
 rw[akK,aBy h hd,ai];unfold ay6 afe;by_cases h0:(aBx w d).2=0
 ·rw[ak h0,ak h0];rfl
 ·rw[ah h0,ah h0];dsimp only;rw[cj.2 h0,aa,show((aBx w d).2 != 0)=true by simp[h0],af]
theorem aO.aOS {w:an}(h:aO w)(d:fu):aO (ay6 w d):=by
 unfold ay6;split
 ·rename_i h0;clear h0;unfold aBx;split
  ·unfold aHh;split
   ·rename_i hr;obtain⟨r0,r1⟩:=X8 h hr;have hx:=h.aIX r0 r1;split
    ·split
     ·rename_i g;refine h.ab9 (by rw[aT,ew];omega) fun x hx'=>?_
      rcases lX.1 hx' with hx'|hx'
      ·exact h.nb x hx'
      ·rw[ml.1 hx'];exact hx
     ·exact h
    ·split
     ·obtain⟨t0,t1⟩:=h.aBn hx.2.2;obtain⟨hg,hid⟩:=h.rep t0 t1;exact(h.T3 d.2.1).nJ t0 (hg.heard false _) (by unfold aqf;rw[awj];exact hid)
     ·exact h.T3 _
   ·exact h
  ·split
   ·unfold aHj;split
    ·split
     ·split
      ·exact h.send _
      ·exact h
     ·exact h
    ·exact h
   ·split
    ·rename_i hh;obtain⟨r0,r1⟩:=lH hh;unfold aHk;split
     ·unfold ay4;split
      ·exact(h.QT r0 r1).send _
      ·exact h
     ·exact h.awm false r0 r1
    ·exact h
 ·exact h
def Ll (i:Int):aD:=(i,1,0,tG,[],[],([],0),[])
def acb (c:Int×Int)(liars:List Int):an:=(c,liars,(List.range c.1.toNat).map fun i:Nat=>Ll (i:Int),[],[])
theorem aqh {c:Int×Int}(hc:bO c=true){i:Int}(h0:0<=i)(h1:i<c.1):ba c (Ll i):=by have hn:=cP hc;refine⟨⟨hc,?_,rfl,rfl,ab8 hc,rfl,rfl,rfl,aX _,fun x hx=>by cases hx⟩,fun x hx=>by cases hx⟩;show iG 0 (aj (c.1-1)) i=true;rw[WY hn.1 hn.2.1];simp only[iG,aJ,cD];omega
theorem aHl {c:Int×Int}(hc:bO c=true){liars:List Int}(hl:nB c.1 liars=true)(hf:(liars.length:Int)<=FZ c):aO (acb c liars):=by
 have hn:=cP hc;refine⟨hc,hl,hf,?_,fun r hr=>?_,fun k hk=>?_,aX _,(fun x hx=>by cases hx),aX _,(fun x hx=>by cases hx)⟩
 ·show(((List.range c.1.toNat).map fun i:Nat=>Ll (i:Int)).length:Int)=c.1;rw[ug,aci];omega
 ·obtain⟨i,hi,rfl⟩:=Lt.1 hr;have:=jC.1 hi;exact aqh hc (by omega) (by omega)
 ·have hk':k<((List.range c.1.toNat).map fun i:Nat=>Ll (i:Int)).length:=hk;have hs:(((List.range c.1.toNat).map fun i:Nat=>Ll (i:Int))[k]'hk').1=(k:Int):=by rw[List.getElem_map,List.getElem_range];rfl
  exact hs
theorem aBz {c:Int×Int}(hc:bO c=true){i:Int}(h0:0<=i)(h1:i<c.1):LQ F0 c i=some (Ll i,true,()):=by
 have hg:=aqh hc h0 h1;have hR:eb F0 c (i,1,0,(0,0,(0,al,[]),al),[],[],([],0),[])=some (true,()):=by have:=iS hg.l c;rw[hg.ok]at this;exact this
 rw[ana,hR];rfl
theorem ay8 {c:Int×Int}(hc:bO c=true){i:Int}(h0:0<=i)(h1:i<c.1):MN F0 c i=some (Ll i,true,()):=by
 have hg:=aqh hc h0 h1;have hR:c9 F0 c (i,1,0,(0,0,(0,al,[]),al),[],[],([],0),[])=some (true,()):=by have:=eW hg.l c;rw[hg.ok]at this;exact this
 rw[aov,hR];rfl
theorem R9 {c:Int×Int}{liars:List Int}(h:aO (acb c liars)):lP F0 c liars=some (acb c liars,true,()):=by
 have hn:=cP h.c;have hc:bO c=true:=h.c;have hli:liars.length<=7:=h.liars;have hN:(c.1.toNat:Int)=c.1:=ar2 (by have:4<=c.1:=hn.1;omega);have hN7:c.1.toNat<=7:=by have:c.1<=7:=hn.2.1;omega
 rw[afU,az (a:=0) (by omega) (by omega) (by omega),ae];refine aAU (fun n k xs=>vd F0 (yH F0) n (p9 k c.1 c.2 0 0 c.1 c.2 [] [] [] [] ([]++liars) xs [] [])) (List.range c.1.toNat) (fun i:Nat=>Ll (i:Int)) _ (fun n k xs hk hx=>?_) (fun n=>?_) _ (by rw[bT,aci];omega)
 ·have hk':k<c.1.toNat:=by rw[aci]at hk;exact hk
  rw[Eo,aM (show(k:Int)<c.1 by omega),af,show((c.1,c.2):Int×Int)=c from rfl,jf,ai,hc,af,aBz hc (by omega) (by omega),ai,az (by omega) (by omega) (by first|omega|(simp only[aT,bg,bB];omega)|(rw[bz,bQ];omega)),ae,ao (by omega),List.getElem_range]
 ·have dO:yG F0 ((c.1,c.2),[]++liars,((List.range c.1.toNat).map fun i:Nat=>Ll (i:Int),([],[])))=some (true,()):=by have:=aya h.w.l;rw[h.ok]at this;exact this
  rw[Eo,aci,aQ (show ¬(c.1.toNat:Int)<c.1 by omega),aa,Yj,dO];rfl
theorem ar0 {c:Int×Int}{liars:List Int}(h:aO (acb c liars)):uB F0 c liars=some (acb c liars,true,()):=by
 have hn:=cP h.c;have hc:bO c=true:=h.c;have hli:liars.length<=7:=h.liars;have hN:(c.1.toNat:Int)=c.1:=ar2 (by have:4<=c.1:=hn.1;omega);have hN7:c.1.toNat<=7:=by have:c.1<=7:=hn.2.1;omega
 rw[agE,oS (by omega),ai];refine aAU (fun n k xs=>v8 F0 (zT F0) n (qw k c.1 c.2 0 0 c.1 c.2 [] [] [] [] liars xs [] [])) (List.range c.1.toNat) (fun i:Nat=>Ll (i:Int)) _ (fun n k xs hk hx=>?_) (fun n=>?_) _ (by rw[bT,aci];omega)
 ·have hk':k<c.1.toNat:=by rw[aci]at hk;exact hk
  rw[EN,show((c.1,c.2):Int×Int)=c from rfl,gv,ai,hc,af,aM (show(k:Int)<c.1 by omega),af,ay8 hc (by omega) (by omega),ai,az (by omega) (by omega) (by first|omega|(simp only[aT,bg,bB];omega)|(rw[bz,bQ];omega)),ae,ao (by omega),List.getElem_range]
 ·have dO:dx F0 ((c.1,c.2),liars,((List.range c.1.toNat).map fun i:Nat=>Ll (i:Int),([],[])))=some (true,()):=by have:=tF h.w.l;rw[h.ok]at this;exact this
  rw[EN,show((c.1,c.2):Int×Int)=c from rfl,gv,ai,hc,af,aci,aQ (show ¬(c.1.toNat:Int)<c.1 by omega),aa,Yw,dO];rfl
def New (w:an):Prop:=∃c liars,w=acb c liars/\aO (acb c liars)
theorem New.g {w:an}(h:New w):aO w:=by obtain⟨c,l,rfl,hg⟩:=h;exact hg
theorem aOT (n:Int):nB n []=true:=rfl
theorem aOU {n x:Int}(h0:0<=x)(h1:x<n):nB n [x]=true:=by simp[nB,h0,h1]
theorem aBA {c:Int×Int}(h:bO c=true):1<=FZ c:=by have hn:=cP h;unfold FZ;rw[ak h];exact(axQ hn.1 hn.2.1).1
theorem aHm {c:xT}(h:RW c):Dr (α:=an) (qa F0 c) New:=by
 unfold Dr;rw[Vp];refine Dr.bind (abT h (l:=[4,4,4,5,7]) (by decide) (by decide)) fun x hx cx=>Dr.bind (iH cx (n:=3) (by omega) (by omega)) fun y hy cy=>Dr.bind (alU cy (n:=3) (by omega) (by omega)) fun z hz cz=>?_
 have hx':x.1.1=4\/x.1.1=5\/x.1.1=7:=by simp only[gS,List.not_mem_nil,or_false]at hx;omega
 have y0:=hy.1;have y1:=hy.2;have hc:bO (x.1.1,aj (1+y.1.1))=true:=by rw[aI (by omega) (by omega)];simp only[bO,iG,aJ,cD];omega
 have hf:=aBA hc;refine Gd.br (fun _=>?_) fun _=>?_
 ·refine Dr.bind (iH cz (n:=x.1.1) (by omega) (by omega)) fun v hv cv=>?_
  have hg:aO (acb (x.1.1,aj (1+y.1.1)) [v.1.1]):=aHl hc (aOU hv.1 hv.2) (by simpa using hf);exact Gd.let (R9 hg) (Gd.ret ⟨⟨_,_,rfl,hg⟩,cv⟩)
 ·have hg:aO (acb (x.1.1,aj (1+y.1.1)) []):=aHl hc (aOT _) (by simp;omega);exact Gd.let (R9 hg) (Gd.ret ⟨⟨_,_,rfl,hg⟩,cz⟩)
theorem aBB {a b:Int}{β:Type}{f:Int×Unit->Option β}{P:β->Prop}(h:Gd (f (F2 a b,())) P):Gd ((bU F0 a b).bind f) P:=Gd.let (XY a b) h
theorem aHn {a b:Int}{β:Type}{f:Int×Unit->Option β}{P:β->Prop}(h:Gd (f (xU a b,())) P):Gd ((ez F0 a b).bind f) P:=Gd.let (Cl a b) h
theorem atv {up:ByteArray}(hu:up.size<=6000){view:Int}(hv:I64 view){l:List eO}(hl:l.length<=10){β:Type}{f:ByteArray×Unit->Option β}{P:β->Prop}(h:∀b:ByteArray,b.size<=7000->Gd (f (b,())) P):Gd ((la F0 up view l).bind f) P:=by have hN:=apE (up:=up.data.toList) (by show up.size<=_;omega) hv (l:=l) (by omega);have hle:=atc (up:=up.data.toList) hv l;refine Gd.let hN (h _ ?_);rw[bP];have:up.data.toList.length=up.size:=rfl;omega
theorem acd {w:an}(h:aO w)(view:Int)(name:ByteArray)(hn:name.size<=1048576){c:xT}(hc:RW c) :
  Gd (dw F0 (ff F0) F0.n (c7 view name 0 c.1 c.2.1 c.2.2 w.1.1 w.1.2 w.2.1 w.2.2.1 w.2.2.2.1 w.2.2.2.2 0 0 al 0 al 0 al 0 al 0 0 0 0 0 ([]++w.2.1) [] [] [])) fun z:DrT da=>(∃q:dp,z.1.1=AN q/\uN q)/\RW z.2.1:=by
 have hsl:=h.sl;have hli:=h.liars;refine alS (fun n i (z:List Int)=>dw F0 (ff F0) n (c7 view name i c.1 c.2.1 c.2.2 w.1.1 w.1.2 w.2.1 w.2.2.1 w.2.2.2.1 w.2.2.2.2 0 0 al 0 al 0 al 0 al 0 0 0 0 0 z [] [] [])) w.2.2.2.2.length (fun k z=>z.length<=7+k) _ (fun n k z hk hI ih=>?_) (fun n z hI=>?_) F0.n 0 ([]++w.2.1) (aX _) (by show w.2.1.length<=_;omega) (by rw[bT];omega)
 ·rw[uv,aS hk,af,av hk,ae,ae,ae,ao (by omega)];refine Gd.br (fun _=>Gd.br (fun _=>Gd.let (abH (by omega) _) ?_) fun _=>?_) fun _=>?_
  ·exact ih _ (by have:=aph z (aN w.2.2.2.2 (k:Int) abN).2.2;exact cN (aph _ _) (by omega))
  ·exact ih _ (by omega)
  ·exact ih _ (by omega)
 ·rw[uv,aH,aa,Pl];exact Gd.ret ⟨⟨(view,name,z),rfl,hn,by show z.length<=_;omega⟩,hc⟩
theorem aHo {c:xT}(hc:RW c){w:an}(h:aO w):Dr (α:=da) (qi F0 c w) fun m=>∃q:dp,m=AN q/\uN q:=by
 have hsl:=h.sl;have hli:=h.liars;unfold Dr;rw[VB];refine Dr.bind (iH hc (n:=4) (by omega) (by omega)) fun x hx cx=>?_
 have x0:=hx.1;have x1:=hx.2;refine atv (aX _) (by rw[aI (by omega) (by omega)];exact⟨by omega,by omega⟩) (aX _) fun b hb=>?_
 refine Gd.ck (az (a:=0) (by omega) (by omega) (by omega)) (Gd.br (fun hlen=>?_) fun _=>acd h _ _ (by show b.size<=_;omega) cx);have aqE:0<w.2.2.2.2.length:=by have:=uf hlen;omega
 refine aBB ?_;have m0:0<F2 (w.2.2.2.2.length:Int) 8:=by unfold F2;split<;>omega
 have m1:F2 (w.2.2.2.2.length:Int) 8<=w.2.2.2.2.length:=by unfold F2;split<;>omega
 refine Dr.bind (iH cx (n:=F2 (w.2.2.2.2.length:Int) 8) m0 (by omega)) fun y hy cy=>?_
 have y0:=hy.1;have y1:=hy.2;have e1:aj (aj ((w.2.2.2.2.length:Int)-1)-y.1.1)=((w.2.2.2.2.length-1-y.1.1.toNat:Nat):Int):=by rw[aI (n:=(w.2.2.2.2.length:Int)-1) (by omega) (by omega),aI (by omega) (by omega)];omega
 have hk:w.2.2.2.2.length-1-y.1.1.toNat<w.2.2.2.2.length:=by omega
 have hs:=h.sb _ (di hk);have hsz:=tH hs.2.1;have hv:=QI (w.2.2.2.2[w.2.2.2.2.length-1-y.1.1.toNat]).2.1.data.toList;have hv2:=hs.2.2;rw[e1];refine Gd.ck (av hk) (Dr.bind (alU cy (n:=3) (by omega) (by omega)) fun z hz cz=>?_);rw[bp hk];refine Gd.br (fun _=>Gd.let (aeH (cN hsz (by omega))) ?_) fun _=>acd h _ _ (by omega) cz
 refine atv (up:=upB (w.2.2.2.2[w.2.2.2.2.length-1-y.1.1.toNat]).2.1) (cN (Lj _) (by omega)) (by rw[<-hv2];exact⟨by omega,by omega⟩) (by simp) fun b hb=>acd h _ _ (by show b.size<=_;omega) cz
theorem aqi {c:Int×Int}{q:dp}{view:Int}{l:List eO}:(kq c q view l).1.1.size<=1048576/\uN (kq c q view l).1.2:=by
 unfold kq;split
 ·rename_i hh;exact I3 hh.1
 ·exact⟨aX _,gn⟩
theorem aHp {w:an}(h:aO w){q:dp}(hq:fM w.1 q=true)(dk:Int){view:Int}(v0:0<=view)(v1:view<=61){c:xT}(hc:RW c) :
  Gd (bV F0 (bG F0) F0.n (bF dk view 0 c.1 c.2.1 c.2.2 w.1.1 w.1.2 w.2.1 w.2.2.1 w.2.2.2.1 w.2.2.2.2 0 0 al 0 al 0 al 0 al 0 0 0 0 0 q.1 q.2.1 [] [] [] q.2.2)) fun z:DrT da=>gy z.1.1/\RW z.2.1:=by
 have out:∀v:Int,0<=v->v<=61->Gd (bG F0 (.exit 1) (ix v c.1 c.2.1 c.2.2 w.1.1 w.1.2 w.2.1 w.2.2.1 w.2.2.2.1 w.2.2.2.2 0 0 al 0 al 0 al 0 al 0 0 0 0 0 q.1 q.2.1 [] [] [] q.2.2)) fun z:DrT da=>gy z.1.1/\RW z.2.1:=fun v h0 h1=>by
  rw[Ub];refine Dr.bind (atb hc) fun x hx cx=>?_
  have hB:=ae5 (c:=w.1) hq (view:=v) ⟨by omega,by omega⟩ (l:=[x.1.1]) (by simp);exact Gd.let hB (Gd.ret ⟨ab2 aqi.1 aqi.2,cx⟩)
 refine alS (fun n k (v:Int)=>bV F0 (bG F0) n (bF dk v k c.1 c.2.1 c.2.2 w.1.1 w.1.2 w.2.1 w.2.2.1 w.2.2.2.1 w.2.2.2.2 0 0 al 0 al 0 al 0 al 0 0 0 0 0 q.1 q.2.1 [] [] [] q.2.2)) 7 (fun k v=>0<=v/\v<=61) _ (fun n k v hk hI ih=>?_) (fun n v hI=>?_) F0.n 0 view (aX _) ⟨v0,v1⟩ (by rw[bT];omega)
 ·have i0:=hI.1;have i1:=hI.2;rw[yY,aM (show(k:Int)<7 by omega),af];refine Gd.br (fun hv=>Gd.let (KZ _ _) (Gd.br (fun _=>?_) fun _=>out v i0 i1)) fun _=>out v i0 i1
  have hv':=uf hv;rw[aI (n:=v+1) (by omega) (by omega),ao (by omega)];exact ih (v+1) ⟨by omega,by omega⟩
 ·rw[yY,aQ (show ¬((7:Nat):Int)<7 by omega),aa];exact out v hI.1 hI.2
theorem ay9 {w:an}(h:aO w){q:dp}(hq:fM w.1 q=true)(dk:Int){m:da}(hm:gy m){c:xT}(hc:RW c) :
  Gd ((ax F0 c 4).bind fun eV=>br (eV.1.1==0) (some ((m,()),eV.2.1,())) (br (eV.1.1==1) ((ax F0 eV.2.1 2).bind fun LW=>(bU F0 (aj ((aj (q.1+1))+LW.1.1)) 60).bind fun r77=>some (((3,r77.1,(al,0,al,[]),(0,al,[]),q,dk,0,0,0,0),()),LW.2.1,())) (bV F0 (bG F0) F0.n (bF dk (aj (q.1+1)) 0 eV.2.1.1 eV.2.1.2.1 eV.2.1.2.2 w.1.1 w.1.2 w.2.1 w.2.2.1 w.2.2.2.1 w.2.2.2.2 0 0 al 0 al 0 al 0 al 0 0 0 0 0 q.1 q.2.1 [] [] [] q.2.2)))) fun z:DrT da=>gy z.1.1/\RW z.2.1:=by
 obtain⟨_,_,h3,_⟩:=abW hq;have hv:=QI q.2.1.data.toList;have e:aj (q.1+1)=q.1+1:=aI (by omega) (by omega);refine Dr.bind (iH hc (n:=4) (by omega) (by omega)) fun x hx cx=>Gd.br (fun _=>Gd.ret ⟨hm,cx⟩) fun _=>Gd.br (fun _=>?_) fun _=>?_
 ·exact Dr.bind (iH cx (n:=2) (by omega) (by omega)) fun y hy cy=>aBB (Gd.ret ⟨QN (Ow hq) dk,cy⟩)
 ·rw[e];exact aHp h hq dk (by omega) (by omega) cx
theorem aza {c:Int×Int}(hc:bO c=true):fM c cQ=true:=by unfold fM YI;simp only[hc];rfl
theorem azb:HD F0=some (cQ,()):=by rw[akf];rfl
theorem aKP {c:xT}(hc:RW c){w:an}(h:aO w):Dr (α:=da) (iX F0 c w) gy:=by
 have h7:=h.le7;have hli:=h.liars;unfold Dr;rw[aba];refine Dr.bind (aHo hc h) fun x hx cx=>?_
 obtain⟨q,e,hq⟩:=hx;obtain⟨⟨m,u⟩,⟨c',u'⟩⟩:=x;dsimp only at e cx ⊢;subst e;have hm:=ahH hq;have dk:∀(Q:dp),fM w.1 Q=true->∀c'':xT,RW c''->Gd (br (decide ((w.2.1.length:Int)>0)) ((ax F0 c'' (w.2.1.length:Int)).bind fun IS=>ck (cc IS.1.1 (w.2.1.length:Int)) ((ax F0 IS.2.1 4).bind fun eV=>br (eV.1.1==0) (some ((AN q,()),eV.2.1,())) (br (eV.1.1==1) ((ax F0 eV.2.1 2).bind fun LW=>(bU F0 (aj ((aj (Q.1+1))+LW.1.1)) 60).bind fun r77=>some (((3,r77.1,(al,0,al,[]),(0,al,[]),Q,aN w.2.1 IS.1.1 0,0,0,0,0),()),LW.2.1,())) (bV F0 (bG F0) F0.n (bF (aN w.2.1 IS.1.1 0) (aj (Q.1+1)) 0 eV.2.1.1 eV.2.1.2.1 eV.2.1.2.2 w.1.1 w.1.2 w.2.1 w.2.2.1 w.2.2.2.1 w.2.2.2.2 0 0 al 0 al 0 al 0 al 0 0 0 0 0 Q.1 Q.2.1 [] [] [] Q.2.2))))) ((ax F0 c'' 4).bind fun eV=>br (eV.1.1==0) (some ((AN q,()),eV.2.1,())) (br (eV.1.1==1) ((ax F0 eV.2.1 2).bind fun LW=>(bU F0 (aj ((aj (Q.1+1))+LW.1.1)) 60).bind fun r77=>some (((3,r77.1,(al,0,al,[]),(0,al,[]),Q,0,0,0,0,0),()),LW.2.1,())) (bV F0 (bG F0) F0.n (bF 0 (aj (Q.1+1)) 0 eV.2.1.1 eV.2.1.2.1 eV.2.1.2.2 w.1.1 w.1.2 w.2.1 w.2.2.1 w.2.2.2.1 w.2.2.2.2 0 0 al 0 al 0 al 0 al 0 0 0 0 0 Q.1 Q.2.1 [] [] [] Q.2.2))))) fun z:DrT da=>gy z.1.1/\RW z.2.1:=fun Q hQ c'' aML=>by
  refine Gd.br (fun hl=>?_) fun _=>ay9 h hQ 0 hm aML
  have:=uf hl;refine Dr.bind (iH aML (n:=(w.2.1.length:Int)) (by omega) (by omega)) fun y hy cy=>Gd.ck (me hy.1 hy.2) (ay9 h hQ _ hm cy)
 refine Gd.let (RN (q:=q) hq w.1) (Gd.br (fun _=>Gd.let azb (Gd.br (fun _=>?_) fun _=>dk cQ (aza h.c) _ cx)) fun dO=>dk q (by simpa using dO) _ cx);refine Dr.bind (alU cx (n:=2) (by omega) (by omega)) fun y hy cy=>Gd.br (fun _=>?_) fun _=>dk cQ (aza h.c) _ cy
 refine Dr.bind (iH cy (n:=(w.2.2.1.length:Int)) (by omega) (by omega)) fun z hz cz=>Gd.ck (me hz.1 hz.2) ?_
 have hg:=(h.rep hz.1 hz.2).1;rw[II hz.1 hz.2];exact Gd.let (xd hg.l.s.1.2) (dk _ (gm hg.f.s).2.2.1 _ cz)
def aMM:da:=(0,0,(al,cQ),cQ,cQ,0,nM)
theorem IJ:gy aMM:=⟨aX _,gn,gn,gn⟩
def ajy (d:fu):Prop:=gy d.2.2.2
theorem ahO {w:an}(h:aO w)(a:Int){c:xT}(hc:RW c) :
  Gd (br ((w.2.2.2.1.length:Int)==0) (some (((2,a,0,0,0,(al,0,al,[]),(0,al,[]),(0,al,[]),0,0,0,0,0),()),c,())) ((bU F0 (w.2.2.2.1.length:Int) 4).bind fun af6=>(ax F0 c af6.1).bind fun Pn=>some (((3,Pn.1.1,0,0,0,(al,0,al,[]),(0,al,[]),(0,al,[]),0,0,0,0,0),()),Pn.2.1,()))) fun z:DrT fu=>ajy z.1.1/\RW z.2.1:=by
 refine Gd.br (fun _=>Gd.ret ⟨IJ,hc⟩) fun hne=>aBB ?_
 have h0:(w.2.2.2.1.length:Int)≠0:=by simpa using hne
 have m0:0<F2 (w.2.2.2.1.length:Int) 4:=by unfold F2;split<;>omega
 have m1:F2 (w.2.2.2.1.length:Int) 4<=4:=by unfold F2;split<;>omega
 exact Dr.bind (iH hc (n:=F2 (w.2.2.2.1.length:Int) 4) m0 (by omega)) fun y hy cy=>Gd.ret ⟨IJ,cy⟩
theorem aHq {a:Int}{n k:Nat}(a0:0<=a)(a1:a<n)(hk:k<n)(hn:n<=7):0<=Int.tmod (aj (a+(k:Int))) (n:Int)/\Int.tmod (aj (a+(k:Int))) (n:Int)<n:=by rw[aI (by omega) (by omega),al0 (by omega)];exact⟨al3 _ (by omega),al2 _ (by omega)⟩
theorem nz0 {n:Nat}(h:0<n):(!((n:Int)==0))=true:=by simp;omega
theorem aqj {w:an}(h:aO w){a:Int}(a0:0<=a)(a1:a<w.2.2.1.length){c:xT}(hc:RW c) :
  Gd (eC F0 (eD F0) F0.n (dI (w.2.2.1.length:Int) a 0 c.1 c.2.1 c.2.2 w.1.1 w.1.2 w.2.1 w.2.2.1 w.2.2.2.1 w.2.2.2.2 0 0 0 0 0 al 0 al 0 al 0 al 0 0 0 0 0 [] [] [])) fun z:DrT fu=>ajy z.1.1/\RW z.2.1:=by
 have h7:=h.le7;have hli:=h.liars;refine alS (fun n k (z:Unit)=>eC F0 (eD F0) n (dI (w.2.2.1.length:Int) a k c.1 c.2.1 c.2.2 w.1.1 w.1.2 w.2.1 w.2.2.1 w.2.2.2.1 w.2.2.2.2 0 0 0 0 0 al 0 al 0 al 0 al 0 0 0 0 0 [] [] [])) w.2.2.1.length (fun _ _=>True) _ (fun n k z hk hI ih=>?_) (fun n z hI=>?_) F0.n 0 () (aX _) trivial (by rw[bT];omega)
 ·obtain⟨r0,r1⟩:=aHq a0 a1 hk h7.2;have hg:=(h.rep r0 r1).1;rw[xA,aS hk,af,nz0 (by omega),ae,me r0 (by omega),ae,II r0 r1,ae,ae,Ud,ao (by omega)];refine Gd.let (aC9 hg) (Gd.br (fun _=>?_) fun _=>ih () trivial);refine Gd.let (gi (by omega) _) (Gd.br (fun _=>?_) fun _=>ih () trivial);exact Gd.ret ⟨IJ,hc⟩
 ·rw[xA,aH,aa,Rl];exact Gd.ret ⟨IJ,hc⟩
theorem Ya {w:an}(h:aO w){a:Int}(a0:0<=a)(a1:a<w.2.2.1.length){c:xT}(hc:RW c) :
  Gd (eB F0 (dH F0) F0.n (dG (w.2.2.1.length:Int) a 0 c.1 c.2.1 c.2.2 w.1.1 w.1.2 w.2.1 w.2.2.1 w.2.2.2.1 w.2.2.2.2 0 0 0 0 0 al 0 al 0 al 0 al 0 0 0 0 0 [] [] [])) fun z:DrT fu=>ajy z.1.1/\RW z.2.1:=by
 have h7:=h.le7;refine alS (fun n k (z:Unit)=>eB F0 (dH F0) n (dG (w.2.2.1.length:Int) a k c.1 c.2.1 c.2.2 w.1.1 w.1.2 w.2.1 w.2.2.1 w.2.2.2.1 w.2.2.2.2 0 0 0 0 0 al 0 al 0 al 0 al 0 0 0 0 0 [] [] [])) w.2.2.1.length (fun _ _=>True) _ (fun n k z hk hI ih=>?_) (fun n z hI=>?_) F0.n 0 () (aX _) trivial (by rw[bT];omega)
 ·obtain⟨r0,r1⟩:=aHq a0 a1 hk h7.2;rw[xz,aS hk,af,nz0 (by omega),ae,me r0 (by omega),ae,ae,Uc,ao (by omega)];refine Gd.br (fun _=>?_) fun _=>ih () trivial
  exact Gd.ret ⟨IJ,hc⟩
 ·rw[xz,aH,aa,Rk];exact ahO h a hc
theorem aqk {w:an}(h:aO w)(a:Int){c:xT}(hc:RW c) :
  Gd (br (decide ((w.2.1.length:Int)>0)) ((iX F0 c w).bind fun anz=>some (((10,a,0,anz.1.1),()),anz.2.1,())) (br ((w.2.2.2.1.length:Int)==0) (some (((2,a,0,0,0,(al,0,al,[]),(0,al,[]),(0,al,[]),0,0,0,0,0),()),c,())) ((bU F0 (w.2.2.2.1.length:Int) 4).bind fun af6=>(ax F0 c af6.1).bind fun Pn=>some (((3,Pn.1.1,0,0,0,(al,0,al,[]),(0,al,[]),(0,al,[]),0,0,0,0,0),()),Pn.2.1,())))) fun z:DrT fu=>ajy z.1.1/\RW z.2.1 :=
 Gd.br (fun _=>Dr.bind (aKP hc h) fun x hx cx=>Gd.ret ⟨hx,cx⟩) fun _=>ahO h a hc
theorem aI0 {c:xT}(hc:RW c){w:an}(h:aO w):Dr (α:=fu) (su F0 c w) ajy:=by
 have h7:=h.le7;have hnl:=h.nl;unfold Dr;rw[Yp];refine aHn ?_;have m:xU (w.2.2.1.length:Int) 1=w.2.2.1.length:=by unfold xU;rw[ah (by omega)]
 dsimp only;rw[m];refine Dr.bind (iH hc (n:=(w.2.2.1.length:Int)) (by omega) (by omega)) fun x hx cx=>?_
 obtain⟨a0,a1⟩:=hx;refine Dr.bind (iH cx (n:=20) (by omega) (by omega)) fun y hy cy=>?_
 refine Gd.br (fun _=>aqj h a0 a1 cy) fun _=>Gd.br (fun _=>aqj h a0 a1 cy) fun _=>Gd.br (fun _=>aqj h a0 a1 cy) fun _=>Gd.br (fun _=>Ya h a0 a1 cy) fun _=>Gd.br (fun _=>Ya h a0 a1 cy) fun _=>Gd.br (fun _=>Ya h a0 a1 cy) fun _=>Gd.br (fun _=>Ya h a0 a1 cy) fun _=>Gd.br (fun _=>Gd.ret ⟨IJ,cy⟩) fun _=>Gd.br (fun _=>Gd.ret ⟨IJ,cy⟩) fun _=>Gd.br (fun _=>?_) fun _=>Gd.br (fun _=>?_) fun _=>Gd.br (fun _=>aqk h _ cy) fun _=>Gd.br (fun _=>aqk h _ cy) fun _=>Gd.br (fun _=>aqk h _ cy) fun _=>ahO h _ cy
 ·refine Dr.bind (alU cy (n:=2) (by omega) (by omega)) fun z hz cz=>Gd.br (fun _=>?_) fun _=>?_
  ·exact Dr.bind (abT cz (l:=[0,0,5,40,9999]) (by decide) (by decide)) fun v hv cv=>Gd.ret ⟨IJ,cv⟩
  ·refine Dr.bind (iH cz (n:=2) (by omega) (by omega)) fun v hv cv=>aHn ?_
   have m0:0<xU (w.2.2.2.1.length:Int) 1:=by unfold xU;split<;>omega
   have m1:xU (w.2.2.2.1.length:Int) 1<=60:=by unfold xU;split<;>omega
   exact Dr.bind (iH cv (n:=xU (w.2.2.2.1.length:Int) 1) m0 (by omega)) fun u hu cu=>Gd.ret ⟨IJ,cu⟩
 ·exact Dr.bind (atb cy) fun v hv cv=>Gd.ret ⟨⟨aX _,gn,gn,gn⟩,cv⟩
theorem aHr {code:List Int}(h:code.length<=1048576):∃v:Int,L0 F0 code 70 140=some (v,())/\70<=v/\v<=140:=by
 have hd:Int.tdiv (code.length:Int) 4=(code.length:Int)/4:=ar1 (by omega);rw[ann,hd,aI (n:=(code.length:Int)/4) (by omega) (by omega),aI (by omega) (by omega)];by_cases g:70+(code.length:Int)/4>140
 ·rw[aM g];exact⟨140,rfl,by omega,by omega⟩
 ·rw[aQ g];exact⟨70+(code.length:Int)/4,rfl,by omega,by omega⟩
theorem aEN {code:List Int}(h:code.length<=1048576):Gd (vP F0 code) fun z=>New z.1/\z.2.1.length<=140/\∀d∈z.2.1,ajy d:=by
 rw[abl];refine Gd.bind (aKD h) fun z0 hz0=>Dr.bind (aHm hz0) fun s hs cs=>?_
 have hg:=hs.g;refine Gd.let (ajn hg.w) ?_;obtain⟨v,hv,v0,v1⟩:=aHr h;refine Gd.let hv (Dr.bind (iH cs (n:=v) (by omega) (by omega)) fun n1 hn cn=>?_);obtain⟨n0,n1'⟩:=hn;have key:∀(j k:Nat) (z:xT×(an×List fu)) (n:Nat),(k:Int)+j=n1.1.1->RW z.1->aO z.2.1->z.2.2.length<=k->(∀d∈z.2.2,ajy d)->j<n->k<=140 ->
   Gd (qt F0 (tV F0) n (ma n1.1.1 (k:Int) 0 0 z.1.1 z.1.2.1 z.1.2.2 s.1.1.1.1 s.1.1.1.2 z.2.1.1.1 z.2.1.1.2 z.2.2 [] [] [] [] s.1.1.2.1 s.1.1.2.2.1 s.1.1.2.2.2.1 s.1.1.2.2.2.2 z.2.1.2.1 z.2.1.2.2.1 z.2.1.2.2.2.1 z.2.1.2.2.2.2)) fun z=>New z.1/\z.2.1.length<=140/\∀d∈z.2.1,ajy d:=by
  intro j
  induction j with
  |zero =>
   intro k z n hk hc hw hl hd hn hk1;obtain⟨n,rfl⟩:∃m,n=m+1:=⟨n-1,by omega⟩;rw[zz,aQ (show ¬(k:Int)<n1.1.1 by omega),aa,Ue];exact Gd.ret ⟨hs,cN hl hk1,hd⟩
  |succ j ih =>
   intro k z n hk hc hw hl hd hn hk1;obtain⟨n,rfl⟩:∃m,n=m+1:=⟨n-1,by omega⟩;rw[zz,aM (show(k:Int)<n1.1.1 by omega),af];refine Dr.bind (aI0 hc hw) fun d hdd cd=>Gd.ck (az (by omega) (by omega) (by simp only[bg,bB];omega)) (Gd.let (ay7 hw hdd) ?_)
   rw[ao (by omega)];exact ih (k+1) (d.2.1,ay6 z.2.1 d.1.1,z.2.2++[d.1.1]) n (by omega) cd (hw.aOS _) (by rw[aT,ew];omega) (fun x hx=>(lX.1 hx).elim (hd x) fun hx=>by rw[ml.1 hx];exact hdd) (by omega) (by omega)
 exact key n1.1.1.toNat 0 (n1.2.1,s.1.1,[]) F0.n (by omega) cn hg (cp _) (fun d hd=>by cases hd) (by rw[bT];omega) (by omega)
end Go.Am.Tryz
