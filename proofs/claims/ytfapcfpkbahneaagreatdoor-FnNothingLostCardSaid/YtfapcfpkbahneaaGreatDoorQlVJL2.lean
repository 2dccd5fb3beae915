/- Lemmas for the claim. No condition. -/
import Derived.Test.YtfapcfpkbahneaaGreatDoorQlVJL1
import Derived.Test.YtfapcfpkbahneaaGreatDoorQlAmWf
set_option linter.all false
namespace Go.Am.Tryz
open Go.Am
theorem aDO {c:Int×Int}{view s:Int}(hc:bO c=true)(hv:0≤view)(h0:0≤s)(h:s≤c.1-1):bX c view (Wp c view s)=s:=by
 have hn:=cO hc
 have hs1:=ahk (view%c.1+s) (show c.1≠0 by omega)
 have hs2:=alr (view%c.1+s) (show 0<c.1 by omega)
 unfold Wp
 rw[ak ⟨hc,hv,h0,h⟩]
 unfold bX
 rw[ak ⟨hc,hv,hs1,by omega⟩]
 obtain⟨n,a⟩:=c
 dsimp only at *
 have hn4:n=4∨n=5∨n=6∨n=7:=by omega
 rcases hn4 with rfl|rfl|rfl|rfl<;>omega
theorem aGi (c:Int×Int)(view:Int):bX c view (-1)=-1:=by
 unfold bX
 rw[ah (fun h=>by omega)]
theorem ava {c:Int×Int}{view i:Int}(h:0≤bX c view i):bO c=true∧0≤view∧bX c view i≤c.1-1:=by
 unfold bX at h ⊢
 by_cases hc:bO c=true∧0≤view∧0≤i∧i≤c.1-1
 ·rw[ak hc]
  have hn:=cO hc.1
  have h2:=alr (i+c.1-view%c.1) (show 0<c.1 by omega)
  exact⟨hc.1,hc.2.1,by omega⟩
 ·rw[ah hc]at h
  omega
theorem aCz {c:Int×Int}{view i:Int}(h:0≤bX c view i):bX c view (P9 c view i)<bX c view i:=by
 have hf:=ava h
 have hn:=cO hf.1
 unfold P9
 by_cases h0:bX c view i≤0
 ·rw[ak h0,aGi]
  omega
 ·have hd1:0≤(bX c view i-1)/c.2:=Int.ediv_nonneg (by omega) (by omega)
  have hd2:(bX c view i-1)/c.2≤bX c view i-1:=Int.ediv_le_self c.2 (by omega)
  rw[ah h0,aDO hf.1 hf.2.1 hd1 (by omega)]
  omega
def DI (c:Int×Int)(view:Int):Nat→Int→List Int
 |0,_=>[]
 |k+1,i=>if 0≤bX c view i then i::DI c view k (P9 c view i) else []
def ad0 (c:Int×Int)(view i:Int):List Int:=DI c view 8 i
theorem aiB (c:Int×Int)(view:Int):∀(k:Nat) (i:Int),(DI c view k i).length≤k
 |0,_=>b9 _
 |k+1,i=>by
  unfold DI
  split
  ·have:=aiB c view k (P9 c view i)
   rw[ba]
   omega
  ·exact aV _
theorem asv (c:Int×Int)(view i:Int):(ad0 c view i).length≤8:=aiB c view 8 i
theorem axm (c:Int×Int)(view:Int){γ:Type}(κ:Ex→St→Option γ):∀(k:Nat) (i:Int) (xs:List Int) (n:Nat),bX c view i<k→xs.length+k≤1000→k<n →
  QV F0 κ n (Ht view i c.1 c.2 xs)=κ (.exit 0) (NC (xs++DI c view k i))
 |0,i,xs,n,hs,hx,hn=>by
  obtain⟨n,rfl⟩:∃m,n=m+1:=⟨n-1,by omega⟩
  rw[Sr,show((c.1,c.2):Int×Int)=c from rfl,Wr,ai]
  dsimp only
  rw[aR (show ¬bX c view i≥0 by omega),aa,DI,gE]
 |k+1,i,xs,n,hs,hx,hn=>by
  obtain⟨n,rfl⟩:∃m,n=m+1:=⟨n-1,by omega⟩
  rw[Sr,show((c.1,c.2):Int×Int)=c from rfl,Wr,ai]
  unfold DI
  dsimp only
  by_cases h:0≤bX c view i
  ·have hu:=aCz h
   rw[aL (show bX c view i≥0 from h),af,ak h,az (by omega) (by omega) (by rw[dU];omega),ae,aGh,ai]
   dsimp only
   rw[axm c view κ k (P9 c view i) (xs++[i]) n (by omega) (by rw[aM,dU];omega) (by omega),iK]
   rfl
  ·rw[aR (show ¬bX c view i≥0 from h),aa,ah h,gE]
theorem axn (c:Int×Int)(view:Int){γ:Type}(κ:Ex→St→Option γ):∀(k:Nat) (i:Int) (xs:List Int) (n:Nat),bX c view i<k→xs.length+k≤1000→k<n →
  Q6 F0 κ n (HZ view i c.1 c.2 xs)=κ (.exit 0) (NO (xs++DI c view k i))
 |0,i,xs,n,hs,hx,hn=>by
  obtain⟨n,rfl⟩:∃m,n=m+1:=⟨n-1,by omega⟩
  rw[Tg,show((c.1,c.2):Int×Int)=c from rfl,IG,ai]
  dsimp only
  rw[aR (show ¬bX c view i≥0 by omega),aa,DI,gE]
 |k+1,i,xs,n,hs,hx,hn=>by
  obtain⟨n,rfl⟩:∃m,n=m+1:=⟨n-1,by omega⟩
  rw[Tg,show((c.1,c.2):Int×Int)=c from rfl,IG,ai]
  unfold DI
  dsimp only
  by_cases h:0≤bX c view i
  ·have hu:=aCz h
   rw[aL (show bX c view i≥0 from h),af,ak h,az (by omega) (by omega) (by rw[dU];omega),ae,aCy,ai]
   dsimp only
   rw[axn c view κ k (P9 c view i) (xs++[i]) n (by omega) (by rw[aM,dU];omega) (by omega),iK]
   rfl
  ·rw[aR (show ¬bX c view i≥0 from h),aa,ah h,gE]
theorem aH6 (c:Int×Int)(view i:Int):acR F0 c view i=some (ad0 c view i,()):=by
 have hs:=Xj c view i
 rw[awZ,axm c view _ 8 i [] _ (by omega) (by rw[bA];omega) (by rw[ch];omega),am9,AI]
 rfl
theorem aGj (c:Int×Int)(view i:Int):ady F0 c view i=some (ad0 c view i,()):=by
 have hs:=Xj c view i
 rw[aw5,axn c view _ 8 i [] _ (by omega) (by rw[bA];omega) (by rw[ch];omega),aoc,AI]
 rfl
def cmn (b a:List Int):Nat:=a.countP fun x=>decide (x∈b)
theorem axo (b a:List Int)(x:Int):cmn b (a++[x])=cmn b a+if x∈b then 1 else 0:=by
 unfold cmn
 rw[List.countP_append,List.countP_singleton]
 by_cases h:x∈b
 ·simp[h]
 ·simp[h]
theorem aGk (b a:List Int):cmn b a≤a.length:=List.countP_le_length
theorem az1 {a b:List Int}(ha:a.length≤1048576)(hb:b.length≤1048576):LP F0 a b=some ((cmn b a:Int),()):=by
 rw[ana]
 refine dp (fun n i (q:Int)=>CW F0 (Ft F0) n (vx a b q i)) a.length (fun k q=>q=(cmn b (a.take k):Int)) _ (fun n k q hk hq=>.inr ⟨(cmn b (a.take (k+1)):Int),?_,rfl⟩) (fun n q hq=>?_) _ 0 0 (aV _) rfl (by rw[ch];omega)
 ·have hc:=aGk b (a.take k)
  rw[bQ]at hc
  rw[JG,aW hk,af,av hk,ae,bC hk,gk (by omega),ai,jA hk,axo,hq,ao (by omega)]
  dsimp only
  rw[aqz]
  by_cases h:a[k]∈b
  ·rw[aL h,af,ai,ak h]
   dsimp only
   rw[ao (by omega)]
  ·rw[aR h,aa,ai,ah h]
   dsimp only
   rw[aH (by omega) (by omega),Int.add_zero]
   rfl
 ·rw[JG,aI,aa,acT,hq,nF]
theorem axp {a b:List Int}(ha:a.length≤1048576)(hb:b.length≤1048576):MM F0 a b=some ((cmn b a:Int),()):=by
 rw[aod]
 refine dp (fun n i (q:Int)=>uB F0 (FL F0) n (pc b q a (a.length:Int) i)) a.length (fun k q=>q=(cmn b (a.take k):Int)) _ (fun n k q hk hq=>.inr ⟨(cmn b (a.take (k+1)):Int),?_,rfl⟩) (fun n q hq=>?_) _ 0 0 (aV _) rfl (by rw[ch];omega)
 ·have hc:=aGk b (a.take k)
  rw[bQ]at hc
  rw[Kh,aW hk,af,av hk,ae,bC hk,fI (by omega),ai,jA hk,axo,hq,ao (show k+1≤9223372036854775807 by omega)]
  dsimp only
  by_cases h:a[k]∈b
  ·rw[aL h,af,ak h,ao (by omega)]
  ·rw[aR h,aa,ah h]
   rfl
 ·rw[Kh,aI,aa,adA,hq,nF]
def Srt (l:List Int):Prop:=l.Pairwise (·< ·)
structure aOD (c:Int×Int) (view:Int) (dm:List Int) (k:Nat) (xs:List (List Int)):Prop where
 len:(xs.length:Int)=c.1
 srt:∀i,0≤i→i<c.1→Srt (aP xs i [])
 mem:∀i x,0≤i→i<c.1→x∈aP xs i []→x∈dm∧0≤x∧x<c.1
 up:∀x,x∈dm→0≤x→x<c.1→(k:Int)≤bX c view x→∃a:Int,0≤a∧a<max k 1∧x∈aP xs (Wp c view a) []
abbrev bH:=Int×Int×di×ByteArray
abbrev dk:=ByteArray×di
abbrev cX:=Int×Int×dk×di×di×Int×fy
abbrev km:=Int×cX
abbrev aD:=Int×Int×Int×bH×List fy×List di×(List Int×Int)×List km
abbrev ph:=Int×List Int
abbrev eK:=Int×ByteArray×Int
abbrev an:=(Int×Int)×List Int×List aD×List ph×List eK
theorem Tv {b:ByteArray}(h:b.size≤1048576):b.data.toList.length≤1073741824:=cT (Nat.le_of_eq (show b.data.toList.length=b.size from rfl)) (by omega)
theorem IH {b:ByteArray}(h:b.size≤1048576):fF F0 b=some (cr b.data.toList,()):=Ri (Tv h)
theorem B6 {b:ByteArray}(h:b.size≤1048576):fG F0 b=some (cr b.data.toList,()):=M5 (Tv h)
theorem pM {b:ByteArray}(h:b.size≤1048576):ea F0 b=some (bu b.data.toList,()):=aoJ (Tv h)
theorem rN {b:ByteArray}(h:b.size≤1048576):fa F0 b=some (bu b.data.toList,()):=aix (Tv h)
def uG (q:di):Prop:=q.2.1.size≤1048576∧q.2.2.length≤1048576
def fN (c:Int×Int)(q:di):Bool:=X4 c (q.1,q.2.1.data.toList,q.2.2)
theorem Rk {q:di}(h:uG q)(c:Int×Int):kv F0 c q=some (fN c q,()):=axi (v:=q.1) (l:=q.2.1.data.toList) (s:=q.2.2) (Tv h.1) (cT h.2 (by omega)) c
theorem Qa {q:di}(h:uG q)(c:Int×Int):mT F0 c q=some (fN c q,()):=ast (v:=q.1) (l:=q.2.1.data.toList) (s:=q.2.2) (Tv h.1) (cT h.2 (by omega)) c
def bS (c:Int×Int)(s:bH):Bool:=iH 0 60 s.1&&(iH 0 60 s.2.1&&(fN c s.2.2.1&&cr s.2.2.2.data.toList))
def ko (s:bH):Prop:=uG s.2.2.1∧s.2.2.2.size≤1048576
theorem B7 {s:bH}(h:ko s)(c:Int×Int):jG F0 c s=some (bS c s,()):=by
 rw[amw,dz,ai,dz,ai,Rk h.1,ai,IH h.2,ai]
 unfold bS
 cases iH 0 60 s.1<;>cases iH 0 60 s.2.1<;>cases fN c s.2.2.1<;>rfl
theorem ES {s:bH}(h:ko s)(c:Int×Int):ld F0 c s=some (bS c s,()):=by
 rw[anS,cg,ai,cg,ai,Qa h.1,ai,B6 h.2,ai]
 unfold bS
 cases iH 0 60 s.1<;>cases iH 0 60 s.2.1<;>cases fN c s.2.2.1<;>rfl
theorem bp {α:Type}{a:List α}{k:Nat}(h:k<a.length)(d:α):a.getD k d=a[k]:=by simp[List.getD,h]
def Ws {α:Type}(d:α)(p:α→Bool)(q:α→α→Bool)(l:List α):Bool:=(List.range l.length).all fun k=>p (l.getD k d)&&(decide (k=0) || q (l.getD (k-1) d) (l.getD k d))
theorem ad1 {β:Type}{k:Nat}(a b:Bool)(x y:β)(y':β)(hy:0<k→y'=br (!b) x y) :
  br (!a) x (br (decide ((k:Int)>0)) y' y)=if (a&&(decide (k=0) || b))=true then y else x:=by
 cases a with
 |false=>rfl
 |true =>
  rw[aK,aa,jB]
  by_cases h:k=0
  ·subst h
   rfl
  ·rw[aL (show(k:Int)>0 by omega),af,aR h,IM,hy (by omega)]
   cases b<;>rfl
def qJ:fy:=(0,0,0,0)
def fO (a b:fy):Bool:=decide (a.1<b.1) || ((a.1==b.1)&&decide (a.2.2.2<b.2.2.2))
theorem ad2 (a b:fy):ud F0 a b=some (fO a b,()):=by
 rw[afh]
 unfold fO
 cases decide (a.1<b.1)<;>cases (a.1==b.1)<;>rfl
theorem avb (a b:fy):Db F0 a b=some (fO a b,()):=by
 rw[afY]
 unfold fO
 cases decide (a.1<b.1)<;>cases (a.1==b.1)<;>rfl
def fL (p:List fy):Bool:=Ws qJ iG fO p&&decide ((p.length:Int)≤12)
theorem aoN {p:List fy}(h:p.length≤1048576):DZ F0 p=some (fL p,()):=by
 rw[amx,lW (fun m k=>ue F0 (uO F0) m (oT p k)) p.length (fun k=>iG (p.getD k qJ)&&(decide (k=0) || fO (p.getD (k-1) qJ) (p.getD k qJ))) (some (decide ((p.length:Int)≤12),())) (some (false,())) (fun m k hk=>?_) (fun m=>?_) _ (by rw[ch];omega)]
 ·unfold fL Ws
  cases (List.range p.length).all _<;>rfl
 ·rw[Jd,aW hk,af,av hk,ae,bC hk,P5,ai,bp hk,afi,ao (by omega),ae]
  refine ad1 _ (fO (p.getD (k-1) qJ) p[k]) _ _ _ fun h0=>?_
  rw[KA h0 (by omega),av (show k-1<p.length by omega),ae,bC (show k-1<p.length by omega),ad2,ai,bp (show k-1<p.length by omega)]
 ·rw[Jd,aI,aa,acq]
theorem Wt {p:List fy}(h:p.length≤1048576):xw F0 p=some (fL p,()):=by
 rw[anT,lW (fun m k=>um F0 (vK F0) m (o5 p p (p.length:Int) k)) p.length (fun k=>iG (p.getD k qJ)&&(decide (k=0) || fO (p.getD (k-1) qJ) (p.getD k qJ))) (some (decide ((p.length:Int)≤12),())) (some (false,())) (fun m k hk=>?_) (fun m=>?_) _ (by rw[ch];omega)]
 ·unfold fL Ws
  cases (List.range p.length).all _<;>rfl
 ·rw[JY,aW hk,af,av hk,ae,bC hk,B4,ai,bp hk,af0,ao (by omega)]
  refine ad1 _ (fO (p.getD (k-1) qJ) p[k]) _ _ _ fun h0=>?_
  rw[KA h0 (by omega),av (show k-1<p.length by omega),ae,bC (show k-1<p.length by omega),avb,ai,bp (show k-1<p.length by omega)]
 ·rw[JY,aI,aa,ac6]
def ed (b:ByteArray):Bool:=b.toList==al.toList
def jh (c:Int×Int)(p:di):Bool :=
 bO c&&(iH 1 60 p.1&&(nx c.1 p.2.2&&(!((p.2.2.length:Int)==0)&&(ed p.2.1 || (cr p.2.1.data.toList&&(bu p.2.1.data.toList==p.1))))))
theorem Rl {p:di}(h:uG p)(c:Int×Int):kS F0 c p=some (jh c p,()):=by
 rw[amy,jg,ai,dz,ai,agN (cT h.2 (by omega)),ai,IH h.1,ai,pM h.1,ai]
 unfold jh ed
 cases bO c<;>cases iH 1 60 p.1<;>cases nx c.1 p.2.2<;>cases ((p.2.2.length:Int)==0)<;>cases (p.2.1.toList==al.toList)<;>cases cr p.2.1.data.toList<;>rfl
theorem aKj (n:Nat):decide ((n:Int)>0)= !((n:Int)==0):=by
 cases n with
 |zero=>rfl
 |succ n =>
  rw[aL (by omega),cp.2 (by omega)]
  rfl
theorem M6 {p:di}(h:uG p)(c:Int×Int):rr F0 c p=some (jh c p,()):=by
 rw[anU,gx,ai,cg,ai,aa7 (cT h.2 (by omega)),ai,B6 h.1,ai,rN h.1,ai,aKj]
 unfold jh ed
 dsimp only
 generalize (bu p.2.1.data.toList==p.1)=b
 cases bO c<;>cases iH 1 60 p.1<;>cases nx c.1 p.2.2<;>cases ((p.2.2.length:Int)==0)<;>cases (p.2.1.toList==al.toList)<;>cases cr p.2.1.data.toList<;>cases b<;>rfl
def cP:di:=(0,al,[])
def gl (a b:di):Bool:=decide (a.1<b.1) || ((a.1==b.1)&&Op.bytesLess a.2.1.toList b.2.1.toList)
theorem ZP (a b:di):qU F0 a b=some (gl a b,()):=by
 rw[acr]
 unfold gl
 cases decide (a.1<b.1)<;>cases (a.1==b.1)<;>rfl
def aH7 (x y:Int):Int:=if x<y then -1 else if x>y then 1 else 0
theorem aiC (x y:Int):vL F0 x y=some (aH7 x y,()):=by
 rw[aaM,Pm,ai,Pm,ai,alw,alw,aa,aa]
 unfold aH7
 by_cases h:x<y
 ·rw[aL h,af,ak h]
 ·rw[aR h,aa,ah h]
  by_cases h2:x>y
  ·rw[aL h2,af,ak h2]
  ·rw[aR h2,aa,ah h2]
def aH8 (x y:ByteArray):Int:=if Op.bytesLess x.toList y.toList=true then -1 else if (x.toList==y.toList)=true then 0 else 1
theorem ad3 (x y:ByteArray):n7 F0 x y=some (aH8 x y,()):=by
 rw[TK,Gq,ai,Gq,ai,ar6,ar6,aa,aa]
 unfold aH8
 cases Op.bytesLess x.toList y.toList<;>cases (x.toList==y.toList)<;>rfl
theorem agP (a b:di):∃r,gh F0 a b=some (r,())∧decide (r≥0)= !gl a b:=by
 rw[Ey,aiC,ai,ad3,ai]
 unfold gl aH7 aH8
 dsimp only
 by_cases h:a.1<b.1
 ·rw[ak h,aL h]
  exact⟨-1,rfl,rfl⟩
 ·rw[ah h,aR h,IM]
  by_cases h2:a.1>b.1
  ·rw[ak h2,cp.2 (show a.1≠b.1 by omega)]
   exact⟨1,rfl,rfl⟩
  ·rw[ah h2,show a.1=b.1 by omega,abJ]
   refine⟨_,rfl,?_⟩
   cases Op.bytesLess a.2.1.toList b.2.1.toList<;>cases (a.2.1.toList==b.2.1.toList)<;>rfl
def fC (c:Int×Int)(l:List di):Bool:=Ws cP (jh c) gl l&&decide ((l.length:Int)≤20)
theorem aiD {l:List di}(h:l.length≤1048576)(hq:∀q∈l,uG q)(c:Int×Int):nT F0 c l=some (fC c l,()):=by
 rw[aji,lW (fun m k=>qV F0 (sa F0) m (mr l k c.1 c.2)) l.length (fun k=>jh c (l.getD k cP)&&(decide (k=0) || gl (l.getD (k-1) cP) (l.getD k cP))) (some (decide ((l.length:Int)≤20),())) (some (false,())) (fun m k hk=>?_) (fun m=>?_) _ (by rw[ch];omega)]
 ·unfold fC Ws
  cases (List.range l.length).all _<;>rfl
 ·rw[FX,aW hk,af,av hk,ae,bC hk,show((c.1,c.2):Int×Int)=c from rfl,Rl (hq _ (dr hk)),ai,bp hk,acs,ao (by omega),ae]
  refine ad1 _ (gl (l.getD (k-1) cP) l[k]) _ _ _ fun h0=>?_
  rw[KA h0 (by omega),av (show k-1<l.length by omega),ae,bC (show k-1<l.length by omega),ZP,ai,bp (show k-1<l.length by omega)]
 ·rw[FX,aI,aa,aaq]
theorem ad4 {l:List di}(h:l.length≤1048576)(hq:∀q∈l,uG q)(c:Int×Int):lg F0 c l=some (fC c l,()):=by
 rw[aki,lW (fun m k=>ru F0 (sM F0) m (mU l l (l.length:Int) k c.1 c.2)) l.length (fun k=>jh c (l.getD k cP)&&(decide (k=0) || gl (l.getD (k-1) cP) (l.getD k cP))) (some (decide ((l.length:Int)≤20),())) (some (false,())) (fun m k hk=>?_) (fun m=>?_) _ (by rw[ch];omega)]
 ·unfold fC Ws
  cases (List.range l.length).all _<;>rfl
 ·rw[Gs,aW hk,af,av hk,ae,bC hk,show((c.1,c.2):Int×Int)=c from rfl,M6 (hq _ (dr hk)),ai,bp hk,ac7,ao (by omega)]
  refine ad1 _ (gl (l.getD (k-1) cP) l[k]) _ _ _ fun h0=>?_
  rw[KA h0 (by omega),av (show k-1<l.length by omega),ae,bC (show k-1<l.length by omega)]
  obtain⟨r,h1,h2⟩:=agP l[k-1] l[k]
  rw[h1,ai,h2,bp (show k-1<l.length by omega)]
 ·rw[Gs,aI,aa,aaO]
def gm (d:List Int×Int):Bool:=decide ((d.1.length:Int)≤100000)&&iH 0 d.1.length d.2
theorem KC (d:List Int×Int):nI F0 d=some (gm d,()):=by
 rw[amz,dz,ai]
 unfold gm
 cases decide ((d.1.length:Int)≤100000)<;>rfl
theorem M7 (d:List Int×Int):rv F0 d=some (gm d,()):=by
 rw[anV,cg,ai]
 unfold gm
 cases decide ((d.1.length:Int)≤100000)<;>rfl
theorem aoO {a b:List Int}(ha:a.length≤1048576)(hb:b.length≤1048576):D0 F0 a b=some (decide (a=b),()):=by
 rw[amA,lW (fun m k=>Cv F0 (uQ F0) m (uP a b k)) (min a.length b.length) (fun k=>a.getD k 0==b.getD k 0) (some ((a.length:Int)==(b.length:Int),())) (some (false,())) (fun m k hk=>?_) (fun m=>?_) _ (by rw[ch];omega)]
 ·by_cases hab:a=b
  ·rw[aL hab,ak (kj.2 fun k _=>by rw[hab];exact abJ (b.getD k 0)),hab,abJ]
  ·rw[aR hab]
   by_cases hl:a.length=b.length
   ·rw[ah]
    intro nQ
    refine hab (List.ext_getElem hl fun k h1 h2=>?_)
    have:=kj.1 nQ k (kJ.2 (by omega))
    simpa [List.getD,h1,h2]using this
   ·rw[cp.2 (show(a.length:Int)≠(b.length:Int) by omega)]
    cases (List.range (min a.length b.length)).all _<;>rfl
 ·rw[Je,aW (show k<a.length by omega),af,aW (show k<b.length by omega),af,av (show k<a.length by omega),ae,av (show k<b.length by omega),ae,mm,mm,afj,ao (by omega),azW]
  by_cases h3:a.getD k 0=b.getD k 0
  ·simp[h3]
  ·simp[h3]
 ·rw[Je,acu]
  rcases abM a.length b.length with h|h
  ·rw[als (by omega),aI,aa]
  ·rw[Nat.min_eq_right h,aI,aa]
   cases decide ((b.length:Int)<(a.length:Int))<;>rfl
def gS (a b:di):Bool:=(a.1==b.1)&&((a.2.1.toList==b.2.1.toList)&&decide (a.2.2=b.2.2))
theorem agQ {a b:di}(ha:uG a)(hb:uG b):xj F0 a b=some (gS a b,()):=by
 rw[amB,aoO ha.2 hb.2,ai]
 unfold gS
 cases (a.1==b.1)<;>cases (a.2.1.toList==b.2.1.toList)<;>rfl
theorem KD {a b:di}(ha:uG a):jJ F0 a b=some (gS a b,()):=by
 rw[Vq,agO (cT ha.2 (by omega)),ai]
 unfold gS
 cases (a.1==b.1)<;>cases (a.2.1.toList==b.2.1.toList)<;>rfl
theorem axq {a b:di}(ha:uG a)(hb:uG b):Hb F0 a b=some (gS a b,()):=by
 rw[ajk,aoO ha.2 hb.2,ai]
 unfold gS
 cases (a.1==b.1)<;>cases (a.2.1.toList==b.2.1.toList)<;>rfl
theorem avc {a b:di}(ha:uG a):Df F0 a b=some (gS a b,()):=by
 rw[af2,agO (cT ha.2 (by omega)),ai]
 unfold gS
 cases (a.1==b.1)<;>cases (a.2.1.toList==b.2.1.toList)<;>rfl
def pN (a b:dk):Bool:=(a.1.toList==b.1.toList)&&gS a.2 b.2
theorem aq7 {a b:dk}(ha:uG a.2)(hb:uG b.2):yv F0 a b=some (pN a b,()):=by
 rw[acv,agQ ha hb,ai]
 unfold pN
 cases (a.1.toList==b.1.toList)<;>rfl
theorem aoP {a b:dk}(ha:uG a.2):zI F0 a b=some (pN a b,()):=by
 rw[ac9,KD ha,ai]
 unfold pN
 cases (a.1.toList==b.1.toList)<;>rfl
def agR (a b:fy):Bool:=(a.1==b.1)&&((a.2.1==b.2.1)&&((a.2.2.1==b.2.2.1)&&((a.2.2.2==b.2.2.2)&&true)))
def tw (a b:cX):Bool:=(a.1==b.1)&&((a.2.1==b.2.1)&&(pN a.2.2.1 b.2.2.1&&(gS a.2.2.2.1 b.2.2.2.1&&(gS a.2.2.2.2.1 b.2.2.2.2.1&&((a.2.2.2.2.2.1==b.2.2.2.2.2.1)&&agR a.2.2.2.2.2.2 b.2.2.2.2.2.2)))))
def gz (m:cX):Prop:=m.2.2.1.1.size≤1048576∧uG m.2.2.1.2∧uG m.2.2.2.1∧uG m.2.2.2.2.1
theorem axr {a b:cX}(ha:gz a)(hb:gz b):kT F0 a b=some (tw a b,()):=by
 rw[ajm,aq7 ha.2.1 hb.2.1,ai,axq ha.2.2.1 hb.2.2.1,ai,agQ ha.2.2.2 hb.2.2.2,ai]
 unfold tw agR
 dsimp only
 generalize ((a.2.2.2.2.2.2.1==b.2.2.2.2.2.2.1)&&((a.2.2.2.2.2.2.2.1==b.2.2.2.2.2.2.2.1)&&((a.2.2.2.2.2.2.2.2.1==b.2.2.2.2.2.2.2.2.1)&&((a.2.2.2.2.2.2.2.2.2==b.2.2.2.2.2.2.2.2.2)&&true))))=t
 cases (a.1==b.1)<;>cases (a.2.1==b.2.1)<;>cases pN a.2.2.1 b.2.2.1<;>cases gS a.2.2.2.1 b.2.2.2.1<;>cases gS a.2.2.2.2.1 b.2.2.2.2.1<;>cases (a.2.2.2.2.2.1==b.2.2.2.2.2.1)<;>rfl
theorem avd {a b:cX}(ha:gz a):HL F0 a b=some (tw a b,()):=by
 rw[akj,aoP ha.2.1,ai,avc ha.2.2.1,ai,KD ha.2.2.2,ai]
 unfold tw agR
 dsimp only
 generalize ((a.2.2.2.2.2.2.1==b.2.2.2.2.2.2.1)&&((a.2.2.2.2.2.2.2.1==b.2.2.2.2.2.2.2.1)&&((a.2.2.2.2.2.2.2.2.1==b.2.2.2.2.2.2.2.2.1)&&((a.2.2.2.2.2.2.2.2.2==b.2.2.2.2.2.2.2.2.2)&&true))))=t
 cases (a.1==b.1)<;>cases (a.2.1==b.2.1)<;>cases pN a.2.2.1 b.2.2.1<;>cases gS a.2.2.2.1 b.2.2.2.1<;>cases gS a.2.2.2.2.1 b.2.2.2.2.1<;>cases (a.2.2.2.2.2.1==b.2.2.2.2.2.1)<;>rfl
theorem M8 (a b:di):gS a b=gS b a:=by
 unfold gS
 rw[FU (a:=a.1),FU (a:=a.2.1.toList)]
 congr 2
 by_cases h:a.2.2=b.2.2
 ·rw[aL h,aL h.symm]
 ·rw[aR h,aR fun h'=>h h'.symm]
theorem ave (a b:cX):tw a b=tw b a:=by
 unfold tw pN agR
 rw[FU (a:=a.1),FU (a:=a.2.1),FU (a:=a.2.2.1.1.toList),M8 a.2.2.1.2,M8 a.2.2.2.1,M8 a.2.2.2.2.1,FU (a:=a.2.2.2.2.2.1),FU (a:=a.2.2.2.2.2.2.1),FU (a:=a.2.2.2.2.2.2.2.1),FU (a:=a.2.2.2.2.2.2.2.2.1),FU (a:=a.2.2.2.2.2.2.2.2.2)]
def named (m:cX):cX :=
 if (m.1==1)=true then (m.1,0,m.2.2.1,cP,cP,0,qJ)
 else if (m.1==2)=true then (m.1,0,(al,cP),m.2.2.2.1,cP,0,qJ)
 else if (m.1==3)=true then (m.1,m.2.1,(al,cP),cP,m.2.2.2.2.1,m.2.2.2.2.2.1,qJ)
 else if (m.1==4)=true then (m.1,0,(al,cP),cP,cP,0,m.2.2.2.2.2.2)
 else (m.1,0,(al,cP),cP,cP,0,qJ)
theorem aDP (m:cX):QZ F0 m=some (named m,()):=by
 rw[aqO]
 unfold named
 cases (m.1==1)<;>cases (m.1==2)<;>cases (m.1==3)<;>cases (m.1==4)<;>rfl
theorem ee:uG cP:=⟨aV _,aV _⟩
theorem aH9 {m:cX}(h:gz m):gz (named m):=by
 unfold named
 split
 ·exact⟨h.1,h.2.1,ee,ee⟩
 ·split
  ·exact⟨aV _,ee,h.2.2.1,ee⟩
  ·split
   ·exact⟨aV _,ee,ee,h.2.2.2⟩
   ·split
    ·exact⟨aV _,ee,ee,ee⟩
    ·exact⟨aV _,ee,ee,ee⟩
theorem axs {m:cX}(h:gz m):Hc F0 m=some (tw (named m) m,()):=by
 have hn:=axr (aH9 h) h
 rw[ajo]
 unfold named cP qJ at hn
 unfold named cP qJ
 by_cases h1:(m.1==1)=true
 ·rw[ak h1]at hn ⊢
  rw[h1,af,hn,ai]
 ·rw[ah h1]at hn ⊢
  rw[DN.2 h1,aa]
  by_cases h2:(m.1==2)=true
  ·rw[ak h2]at hn ⊢
   rw[h2,af,hn,ai]
  ·rw[ah h2]at hn ⊢
   rw[DN.2 h2,aa]
   by_cases h3:(m.1==3)=true
   ·rw[ak h3]at hn ⊢
    rw[h3,af,hn,ai]
   ·rw[ah h3]at hn ⊢
    rw[DN.2 h3,aa]
    by_cases h4:(m.1==4)=true
    ·rw[ak h4]at hn ⊢
     rw[h4,af,hn,ai]
    ·rw[ah h4]at hn ⊢
     rw[DN.2 h4,aa,hn,ai]
def gZ (l:List UInt8):Nat→Nat
 |0=>0
 |k+1=>if (((l.getD k 0).toNat:Int) != 47)=true then gZ l k else k+1
theorem aoQ (l:List UInt8):∀k,gZ l k≤k
 |0=>b9 _
 |k+1=>by
  unfold gZ
  split
  ·exact Nat.le_succ_of_le (aoQ l k)
  ·exact b9 _
theorem aGl {h n:Nat}(hn:h≤n):RN 0 (h:Int) (n:Int)=true:=Xi (l:=0) (aV _) hn
def upL (l:List UInt8):List UInt8:=if cr l=true then l.take (gZ l l.length-1) else []
theorem aCA (l:List UInt8){γ:Type}(κ:Ex→St→Option γ):∀(k n:Nat),k≤l.length→k≤1073741824→k<n→Ln F0 κ n (Cw (tx l) (k:Int))=κ (.exit 0) (yw (tx l) (gZ l k:Int))
 |0,n,hk,hm,hn=>by
  obtain⟨n,rfl⟩:∃m,n=m+1:=⟨n-1,by omega⟩
  rw[Oz]
  rfl
 |k+1,n,hk,hm,hn=>by
  obtain⟨n,rfl⟩:∃m,n=m+1:=⟨n-1,by omega⟩
  rw[Oz,aL (show((k+1:Nat):Int)>0 by omega),af,KA (by omega) (by omega),show k+1-1=k from rfl,bP,av (by omega),ae,Xf]
  unfold gZ
  by_cases h:(((l.getD k 0).toNat:Int) != 47)=true
  ·rw[h,af,ak rfl,aCA l κ k n (by omega) (by omega) (by omega)]
  ·rw[DN.2 h,aa,ah (by decide)]
theorem aGm {l:List UInt8}(h:l.length≤1048576):mu F0 (tx l)=some (tx (upL l),()):=by
 rw[auf,Ri (by omega),ai]
 unfold upL
 dsimp only
 cases cr l with
 |false=>rfl
 |true =>
  have hk:=aoQ l l.length
  rw[aK,aa,bP,aCA l _ l.length _ (b9 _) (by omega) (by rw[ch];omega),ajq,ak rfl,YC]
  have hmax:br (decide (aj ((gZ l l.length:Int)-1)>0)) (some (aj ((gZ l l.length:Int)-1),())) (some ((0:Int),()))=some (((gZ l l.length-1:Nat):Int),()):=by
   rw[aH (by omega) (by omega)]
   by_cases h0:(gZ l l.length:Int)-1>0
   ·rw[aL h0,af,show(gZ l l.length:Int)-1=((gZ l l.length-1:Nat):Int) by omega]
   ·rw[aR h0,aa,show gZ l l.length-1=0 by omega]
    rfl
  rw[hmax,ai]
  dsimp only
  rw[bP,aGl (by omega),ae,kH,show(0:Int).toNat=0 from rfl,Wh,ahl,Z0]
theorem asx (l:List UInt8):∀(k n:Nat),k≤l.length→k≤1073741824→k<n→fe F0 (gy F0) n (eA (tx l) 47 ((k:Int)-1))=some ((gZ l k:Int)-1,())
 |0,n,hk,hm,hn=>by
  obtain⟨n,rfl⟩:∃m,n=m+1:=⟨n-1,by omega⟩
  rw[j6]
  rfl
 |k+1,n,hk,hm,hn=>by
  obtain⟨n,rfl⟩:∃m,n=m+1:=⟨n-1,by omega⟩
  rw[show((k+1:Nat):Int)-1=(k:Int) by omega,j6,aL (show(k:Int)≥0 by omega),af,bP,av (by omega),ae,Xf,aH (by omega) (by omega),zK]
  unfold gZ
  by_cases h:((l.getD k 0).toNat:Int)=47
  ·rw[h,show((47:Int)==47)=true from rfl,af,show((47:Int) != 47)=false from rfl,ah (by decide),show((k+1:Nat):Int)-1=(k:Int) by omega]
  ·rw[cp.2 h,aa,DO.2 h,ak rfl,asx l k n (by omega) (by omega) (by omega)]
theorem az2 {c x:UInt8}{l:List UInt8}{ps:List (List UInt8)}(h:parts c (x::l)=[]::ps):x=c:=by
 unfold parts at h
 split at h
 ·assumption
 ·split at h
  ·cases (xS h).1
  ·cases (xS h).1
theorem aoR {l:List UInt8}(h:cr l=true)(h0:l≠[]):∃t,l=47::t:=by
 cases l with
 |nil=>exact absurd rfl h0
 |cons x t =>
  refine⟨t,?_⟩
  unfold cr cD at h
  rw[ah h0]at h
  cases hp:parts 47 (x::t) with
  |nil=>exact absurd hp (EP _ _)
  |cons p0 ps =>
   rw[hp]at h
   dsimp only at h
   split at h
   ·cases h
   ·rename_i h1
    have hp0:p0=[]:=av1 fun hne=>h1 (.inl hne)
    subst hp0
    rw[az2 hp]
theorem agS {t:List UInt8}:∀k,0<k→0<gZ (47::t) k
 |0,h=>absurd h (TT _)
 |1,_=>by
  unfold gZ
  rw[show((((47::t).getD 0 0:UInt8).toNat:Int) != 47)=false from rfl,ah (by decide)]
  exact aeP _
 |k+2,_=>by
  unfold gZ
  split
  ·exact agS (k+1) (aeP _)
  ·exact aeP _
theorem aDQ {l:List UInt8}(h:l.length≤1048576):sN F0 (tx l)=some (tx (upL l),()):=by
 rw[auz,M5 (by omega),ai,au6,Wg]
 unfold upL
 dsimp only
 cases hn:cr l with
 |false=>rfl
 |true =>
  rw[aK,aa,ak rfl]
  by_cases h0:l=[]
  ·subst h0
   rfl
  ·have hk:=aoQ l l.length
   have hp:0<gZ l l.length:=by
    obtain⟨t,rfl⟩:=aoR hn h0
    exact agS _ (aeP _)
   rw[aR h0,aa,NH,BM,bP,aH (by omega) (by omega),asx l l.length _ (b9 _) (by omega) (by rw[ch];omega),ai,ai]
   dsimp only
   rw[show(gZ l l.length:Int)-1=((gZ l l.length-1:Nat):Int) by omega,aGl (by omega),ae,kH,show(0:Int).toNat=0 from rfl,Wh,ahl,Z0]
theorem ad5 {b:ByteArray}(h:b.size≤1048576):mu F0 b=some (tx (upL b.data.toList),()):=aGm (l:=b.data.toList) h
theorem ad6 {b:ByteArray}(h:b.size≤1048576):sN F0 b=some (tx (upL b.data.toList),()):=aDQ (l:=b.data.toList) h
def gD (c:Int×Int)(b:dk):Bool:=fN c b.2&&(cr b.1.data.toList&&(!ed b.1&&((tx (upL b.1.data.toList)).toList==b.2.2.1.toList)))
theorem M9 {b:dk}(h1:b.1.size≤1048576)(h2:uG b.2)(c:Int×Int):nU F0 c b=some (gD c b,()):=by
 rw[ajr,Rk h2,ai,IH h1,ai,ad5 h1,ai]
 unfold gD ed
 cases fN c b.2<;>cases cr b.1.data.toList<;>cases (b.1.toList==al.toList)<;>rfl
theorem Ie {b:dk}(h1:b.1.size≤1048576)(h2:uG b.2)(c:Int×Int):n8 F0 c b=some (gD c b,()):=by
 rw[akl,Qa h2,ai,B6 h1,ai,ad6 h1,ai]
 unfold gD ed
 cases fN c b.2<;>cases cr b.1.data.toList<;>cases (b.1.toList==al.toList)<;>rfl
def en (c:Int×Int)(m:cX):Bool:=bO c&&(tw (named m) m&&(if (m.1==1)=true then gD c m.2.2.1 else if (m.1==2)=true then jh c m.2.2.2.1&& !ed m.2.2.2.1.2.1
 else if (m.1==3)=true then iH 1 60 m.2.1&&(fN c m.2.2.2.2.1&&iH 0 (aj (c.1-1)) m.2.2.2.2.2.1) else (m.1==4)&&iG m.2.2.2.2.2.2))
theorem II {m:cX}(h:gz m)(c:Int×Int):fV F0 c m=some (en c m,()):=by
 rw[aqr,jg,ai,axs h,ai,M9 h.1 h.2.1,ai,Rl h.2.2.1,ai,dz,ai,Rk h.2.2.2,ai,dz,ai,P5,ai]
 unfold en ed
 dsimp only
 cases bO c<;>cases tw (named m) m<;>cases (m.1==1)<;>cases (m.1==2)<;>cases (m.1==3)<;>cases (m.1==4)<;>cases jh c m.2.2.2.1<;>cases iH 1 60 m.2.1<;>cases fN c m.2.2.2.2.1<;>rfl
theorem KE {m:cX}(h:gz m)(c:Int×Int):gO F0 c m=some (en c m,()):=by
 rw[aqQ,gx,ai,aDP,ai,avd h,ai,Ie h.1 h.2.1,ai,M6 h.2.2.1,ai,cg,ai,Qa h.2.2.2,ai,cg,ai,B4,ai,ave]
 unfold en ed
 dsimp only
 cases bO c<;>cases tw (named m) m<;>cases (m.1==1)<;>cases (m.1==2)<;>cases (m.1==3)<;>cases (m.1==4)<;>cases jh c m.2.2.2.1<;>cases iH 1 60 m.2.1<;>cases fN c m.2.2.2.2.1<;>rfl
def KF (c:Int×Int)(r:Int)(p:km):Bool:=en c p.2&&(iH 0 (aj (c.1-1)) p.1&& !(p.1==r))
def nz (c:Int×Int)(r:aD):Bool :=
 bO c&&(iH 0 (aj (c.1-1)) r.1&&(iH 1 60 r.2.1&&(iH 0 60 r.2.2.1&&(bS c r.2.2.2.1&&(fL r.2.2.2.2.1&&(fC c r.2.2.2.2.2.1&&(gm r.2.2.2.2.2.2.1&&(!decide ((r.2.2.2.2.2.2.2.length:Int)>30)&&r.2.2.2.2.2.2.2.all (KF c r.1)))))))))
structure aoS (r:aD):Prop where
 s:ko r.2.2.2.1
 p:r.2.2.2.2.1.length≤1048576
 t:r.2.2.2.2.2.1.length≤1048576
 tq:∀q∈r.2.2.2.2.2.1,uG q
 h:r.2.2.2.2.2.2.2.length≤1048576
 hm:∀q∈r.2.2.2.2.2.2.2,gz q.2
def avf:km:=(0,0,0,(al,cP),cP,cP,0,qJ)
theorem Qb (b:Bool):(if b=true then some (true,()) else some (false,()))=some (b,()):=by cases b<;>rfl
theorem iT {r:aD}(h:aoS r)(c:Int×Int):ec F0 c r=some (nz c r,()):=by
 have hh:=h.h
 rw[aqs,jg,ai,dz,ai,dz,ai,dz,ai,B7 h.s,ai,aoN h.p,ai,aiD h.t h.tq,ai,KC,ai,
  lW (fun m k=>Hg F0 (yz F0) m (yx k c.1 c.2 r.1 r.2.1 r.2.2.1 r.2.2.2.1.1 r.2.2.2.1.2.1 r.2.2.2.1.2.2.1.1 r.2.2.2.1.2.2.1.2.1 r.2.2.2.1.2.2.1.2.2 r.2.2.2.1.2.2.2 r.2.2.2.2.1 r.2.2.2.2.2.1 r.2.2.2.2.2.2.1.1 r.2.2.2.2.2.2.1.2 r.2.2.2.2.2.2.2)) r.2.2.2.2.2.2.2.length
   (fun k=>KF c r.1 (r.2.2.2.2.2.2.2.getD k avf)) (some (true,())) (some (false,())) (fun m k hk=>?_) (fun m=>?_) _ (by rw[ch];omega),Ky,Qb]
 ·unfold nz
  cases bO c<;>cases iH 0 (aj (c.1-1)) r.1<;>cases iH 1 60 r.2.1<;>cases iH 0 60 r.2.2.1<;>cases bS c r.2.2.2.1<;>cases fL r.2.2.2.2.1<;>cases fC c r.2.2.2.2.2.1<;>cases gm r.2.2.2.2.2.2.1<;>cases decide ((r.2.2.2.2.2.2.2.length:Int)>30)<;>rfl
 ·rw[Lo,aW hk,af,av hk,ae,bC hk,show((c.1,c.2):Int×Int)=c from rfl,II (h.hm _ (dr hk)),ai,ae,dz,ai,ae,bp hk,ajs,ao (by omega)]
  unfold KF
  cases en c (r.2.2.2.2.2.2.2[k]).2<;>cases iH 0 (aj (c.1-1)) (r.2.2.2.2.2.2.2[k]).1<;>cases ((r.2.2.2.2.2.2.2[k]).1==r.1)<;>rfl
 ·rw[Lo,aI,aa,afk]
theorem eL {r:aD}(h:aoS r)(c:Int×Int):c8 F0 c r=some (nz c r,()):=by
 have hh:=h.h
 rw[aqR,gx,ai,cg,ai,cg,ai,cg,ai,ES h.s,ai,Wt h.p,ai,ad4 h.t h.tq,ai,M7,ai,
  lW (fun m k=>HO F0 (zN F0) m (zL r.2.2.2.2.2.2.2 (r.2.2.2.2.2.2.2.length:Int) k c.1 c.2 r.1 r.2.1 r.2.2.1 r.2.2.2.1.1 r.2.2.2.1.2.1 r.2.2.2.1.2.2.1.1 r.2.2.2.1.2.2.1.2.1 r.2.2.2.1.2.2.1.2.2 r.2.2.2.1.2.2.2 r.2.2.2.2.1 r.2.2.2.2.2.1 r.2.2.2.2.2.2.1.1 r.2.2.2.2.2.2.1.2 r.2.2.2.2.2.2.2)) r.2.2.2.2.2.2.2.length
   (fun k=>KF c r.1 (r.2.2.2.2.2.2.2.getD k avf)) (some (true,())) (some (false,())) (fun m k hk=>?_) (fun m=>?_) _ (by rw[ch];omega),Ky,Qb]
 ·unfold nz
  cases bO c<;>cases iH 0 (aj (c.1-1)) r.1<;>cases iH 1 60 r.2.1<;>cases iH 0 60 r.2.2.1<;>cases bS c r.2.2.2.1<;>cases fL r.2.2.2.2.1<;>cases fC c r.2.2.2.2.2.1<;>cases gm r.2.2.2.2.2.2.1<;>cases decide ((r.2.2.2.2.2.2.2.length:Int)>30)<;>rfl
 ·rw[Mn,aW hk,af,av hk,ae,bC hk,show((c.1,c.2):Int×Int)=c from rfl,KE (h.hm _ (dr hk)),ai,cg,ai,bp hk,akm,ao (by omega)]
  unfold KF
  cases en c (r.2.2.2.2.2.2.2[k]).2<;>cases iH 0 (aj (c.1-1)) (r.2.2.2.2.2.2.2[k]).1<;>cases ((r.2.2.2.2.2.2.2[k]).1==r.1)<;>rfl
 ·rw[Mn,aI,aa,af4]
theorem ad7 {lo hi x:Int}:iH lo hi x=decide (lo≤x∧x≤hi):=by
 unfold iH
 by_cases h1:lo≤x<;>by_cases h2:x≤hi<;>simp[h1,h2]
def Qc:Nat→List Int→Nat→Int→Option (Int×Nat)
 |0,_,_,_=>none
 |_+1,[],_,_=>none
 |j+1,x::xs,k,n=>if x<128 then (if (k≠0∧x=0)∨n+x*128 ^ k>2147483647 then none else some (n+x*128 ^ k,k+1)) else Qc j xs (k+1) (n+x%128*128 ^ k)
def aIa (a:Nat):Option (Int×Nat)→Int×Int×Bool×Unit
 |some (v,c)=>(v,((a+c:Nat):Int),true,())
 |none=>(0,0,false,())
theorem aGn {k:Nat}(h:k≤4):(2:Int) ^ (min (aj (7*(k:Int))).toNat 64)=128 ^ k:=by
 have:k=0∨k=1∨k=2∨k=3∨k=4:=by omega
 rcases this with rfl|rfl|rfl|rfl|rfl<;>rfl
theorem Rm {k:Nat}(h:k≤4):(1:Int)≤128 ^ k∧(128:Int) ^ k≤268435456:=by
 have:k=0∨k=1∨k=2∨k=3∨k=4:=by omega
 rcases this with rfl|rfl|rfl|rfl|rfl<;>decide
theorem aoT {d P:Int}(h0:0≤d)(h1:d≤127)(hP:1≤P):0≤d*P∧d*P≤127*P:=⟨Int.mul_nonneg h0 (by omega),Int.mul_le_mul_of_nonneg_right h1 (by omega)⟩
theorem aKk {i n:Nat}(d:Nat)(h:n<2 ^ i):n ||| d*2 ^ i=n+d*2 ^ i:=by
 rw[Nat.or_comm,←Nat.shiftLeft_eq,←Nat.shiftLeft_add_eq_or_of_lt h,Nat.add_comm]
theorem aKl {k:Nat}(hk:k≤4){n d:Int}(h0:0≤n)(h1:n<128 ^ k)(h2:0≤d)(h3:d≤127):((BitVec.ofInt 64 n ||| BitVec.ofInt 64 (d*128 ^ k)).toNat:Int)=n+d*128 ^ k:=by
 obtain⟨m,rfl⟩:=Int.eq_ofNat_of_zero_le h0
 obtain⟨e,rfl⟩:=Int.eq_ofNat_of_zero_le h2
 have hp:(128:Int) ^ k=((2 ^ (7*k):Nat):Int):=by
  rw[Nat.pow_mul]
  exact(Int.natCast_pow 128 k).symm
 have hb:=Rm hk
 rw[hp]at h1 hb ⊢
 have h1':m<2 ^ (7*k):=by omega
 have hm:e*2 ^ (7*k)≤127*2 ^ (7*k):=FR _ (by omega)
 have hb2:2 ^ (7*k)≤268435456:=by omega
 rw[show(e:Int)*((2 ^ (7*k):Nat):Int)=((e*2 ^ (7*k):Nat):Int) from(Int.natCast_mul _ _).symm,BitVec.ofInt_natCast,BitVec.ofInt_natCast,BitVec.toNat_or,BitVec.toNat_ofNat,BitVec.toNat_ofNat,as6 (by omega),as6 (by omega),aKk e h1']
 omega
def dC (b:List Int):Prop:=b.length≤1048576∧∀x∈b,0≤x∧x≤255
theorem axt {b:List Int}(hb:dC b)(a:Nat)(ha:a≤b.length):∀(j k:Nat),j+k=5→∀(n1:Int) (m:Nat),0≤n1→n1<128 ^ k→j<m →
  Cy F0 (uU F0) m (uT b (a:Int) n1 (k:Int))=some (aIa a (Qc j (b.drop (a+k)) k n1))
 |0,k,hjk,n1,m,h0,h1,hm=>by
  obtain⟨m,rfl⟩:∃q,m=q+1:=⟨m-1,by omega⟩
  rw[Jh,aR (by omega),aa,acz]
  rfl
 |j+1,k,hjk,n1,m,h0,h1,hm=>by
  obtain⟨m,rfl⟩:∃q,m=q+1:=⟨m-1,by omega⟩
  have hl:=hb.1
  rw[Jh,aL (by omega),af,aR (show ¬(a:Int)<0 by omega),aa,aH (n:=(b.length:Int)-k) (by omega) (by omega)]
  rcases abM (a+k) b.length with hlt|hge
  ·have hx:=hb.2 b[a+k] (dr hlt)
   have hp:=Rm (k:=k) (by omega)
   rw[aR (show ¬(a:Int)≥(b.length:Int)-k by omega),aa,show aj ((a:Int)+(k:Int))=((a+k:Nat):Int) by rw[aH (by omega) (by omega)];omega,av hlt,ae,
    aL (show 0≤aj (7*(k:Int)) by rw[aH (by omega) (by omega)];omega),ae,bC hlt,aGn (by omega),X8 hlt]
   generalize b[a+k]=x at hx ⊢
   rw[aH (n:=x) (by omega) (by omega),alq (by omega),Bm,Bm]
   have hd:=aoT (d:=x%128) (P:=128 ^ k) (by omega) (by omega) hp.1
   rw[aH (n:=x%128*128 ^ k) (by omega) (by omega),aKl (by omega) h0 h1 (by omega) (by omega),aH (n:=n1+x%128*128 ^ k) (by omega) (by omega)]
   unfold Qc
   by_cases ad8:x<128
   ·have e:x%128=x:=Int.emod_eq_of_lt hx.1 ad8
    rw[e]at hd ⊢
    rw[aL ad8,af,ak ad8,aH (n:=((a+k:Nat):Int)+1) (by omega) (by omega)]
    by_cases hk0:k=0
    ·subst hk0
     rw[show decide (((0:Nat):Int)>0)=false from rfl,aa]
     by_cases hv:n1+x*128 ^ 0>2147483647
     ·rw[aL hv,af,ak (.inr hv)]
      rfl
     ·rw[aR hv,aa,ah (fun h=>h.elim (fun h=>h.1 rfl) hv)]
      rfl
    ·rw[aL (show(k:Int)>0 by omega),af]
     by_cases hx0:x=0
     ·rw[show(x==0)=true from bB.2 hx0,af,ak (.inl ⟨hk0,hx0⟩)]
      rfl
     ·rw[cp.2 hx0,aa]
      by_cases hv:n1+x*128 ^ k>2147483647
      ·rw[aL hv,af,ak (.inr hv)]
       rfl
      ·rw[aR hv,aa,ah (fun h=>h.elim (fun h=>hx0 h.2) hv)]
       rfl
   ·rw[aR ad8,aa,ah ad8,ao (by omega)]
    have hn:n1+x%128*128 ^ k<128 ^ (k+1):=by rw[RI];omega
    exact axt hb a ha j (k+1) (by omega) _ m (by omega) hn (by omega)
  ·rw[aL (show(a:Int)≥(b.length:Int)-k by omega),af,Bm,as1 hge]
   rfl
theorem az3 {b:List Int}(hb:dC b){a:Nat}(ha:a≤b.length):kU F0 b (a:Int)=some (aIa a (Qc 5 (b.drop a) 0 0)):=by
 rw[amG]
 exact axt hb a ha 5 0 rfl 0 _ (by omega) (by decide) (by rw[ch];omega)
theorem ad9:∀(k:Nat) (v:Int) (xs:List Int) (n:Nat),0≤v→v<128 ^ (k+1)→xs.length+k≤1000→k<n→k≤4 →
  ∃ys,uq F0 (vN F0) n (o8 v xs)=some (xs++ys,())∧ys.length≤k+1∧(128 ^ k≤v→ys.length=k+1)∧1≤ys.length
 |0,v,xs,n,h0,h1,hx,hn,hk=>by
  obtain⟨n,rfl⟩:∃m,n=m+1:=⟨n-1,by omega⟩
  rw[n9,aR (show ¬v≥128 by have:(128:Int) ^ (0+1)=128:=rfl;omega),aa,qo,az (by omega) (by omega) (by rw[dU];omega),ae]
  exact⟨_,rfl,b9 _,fun _=>rfl,b9 _⟩
 |k+1,v,xs,n,h0,h1,hx,hn,hk=>by
  obtain⟨n,rfl⟩:∃m,n=m+1:=⟨n-1,by omega⟩
  have hp:=Rm (k:=k) (by omega)
  have e1:(128:Int) ^ (k+1)=128 ^ k*128:=RI _ _
  have e2:(128:Int) ^ (k+1+1)=128 ^ (k+1)*128:=RI _ _
  rw[n9]
  by_cases hv:v≥128
  ·rw[aL hv,af,az (by omega) (by omega) (by rw[dU];omega),ae,art h0,aH (n:=v/128) (by omega) (by omega)]
   obtain⟨ys,h2,h3,h4,h5⟩:=ad9 k (v/128) (xs++[IntKind.wrap .u8 (aj (Int.tmod v 128+128))]) n (by omega) (by omega) (by rw[aM,dU];omega) (by omega) (by omega)
   refine⟨IntKind.wrap .u8 (aj (Int.tmod v 128+128))::ys,h2.trans (by rw[iK];rfl),by rw[ba];omega,fun h=>?_,by rw[ba];omega⟩
   rw[ba,h4 (by omega)]
  ·rw[aR hv,aa,qo,az (by omega) (by omega) (by rw[dU];omega),ae]
   exact⟨_,rfl,by rw[dU];omega,fun h=>by omega,b9 _⟩
theorem az4 (v:Int):∃ys,fH F0 v=some (ys,())∧∀(k:Nat) (n1 x:Int),k≤4→0≤n1→n1<128 ^ k→0≤x→x<128→v=n1+x*128 ^ k →
  ((ys.length:Int) != ((k+1:Nat):Int))=decide ((k≠0∧x=0)∨v>2147483647):=by
 rw[VB,cg,ai,ad7]
 by_cases hv:0≤v∧v≤2147483647
 ·rw[aL hv,aK,aa]
  have h5:(128:Int) ^ (4+1)=34359738368:=by decide
  obtain⟨ys0,h2,_,_,_⟩:=ad9 4 v [] F0.n hv.1 (by omega) (by simp) (by rw[ch];omega) (by omega)
  refine⟨ys0,h2,fun k n1 x hk g0 g1 g2 g3 hvk=>?_⟩
  have hp:=Rm hk
  have e1:(128:Int) ^ (k+1)=128 ^ k*128:=RI _ _
  have hm:=aoT (d:=x) (P:=128 ^ k) g2 (by omega) hp.1
  obtain⟨ys,h3,h4,h5,h6⟩:=ad9 k v [] F0.n hv.1 (by omega) (by simp;omega) (by rw[ch];omega) hk
  rw[h2]at h3
  have hys:ys0=ys:=by simpa using h3
  subst hys
  by_cases hx:k≠0∧x=0
  ·rw[aL (.inl hx),DO]
   obtain⟨hk0,hx0⟩:=hx
   subst hx0
   obtain⟨k,rfl⟩:∃q,k=q+1:=⟨k-1,by omega⟩
   obtain⟨ys',h3',h4',_,_⟩:=ad9 k v [] F0.n hv.1 (by omega) (by simp;omega) (by rw[ch];omega) (by omega)
   rw[h2]at h3'
   have aOE:ys0=ys':=by simpa using h3'
   subst aOE
   omega
  ·rw[aR (fun h=>h.elim hx (by omega)),RG]
   by_cases hk0:k=0
   ·subst hk0
    omega
   ·have hx1:1≤x:=by
     have:x≠0:=fun h=>hx ⟨hk0,h⟩
     omega
    have:=Int.mul_le_mul_of_nonneg_right hx1 (show(0:Int)≤128 ^ k by omega)
    rw[h5 (by omega)]
 ·rw[aR hv,eZ,af]
  refine⟨[],rfl,fun k n1 x hk g0 g1 g2 g3 hvk=>?_⟩
  have hp:=Rm hk
  have hm:=aoT (d:=x) (P:=128 ^ k) g2 (by omega) hp.1
  rw[aL (.inr (by omega)),DO]
  simp only[bA]
  omega
theorem axu {b:List Int}(hb:dC b)(a:Nat)(ha:a≤b.length):∀(j k:Nat),j+k=5→∀(n1:Int) (m:Nat),0≤n1→n1<128 ^ k→j<m →
  Dl F0 (vP F0) m (vO b (a:Int) n1 (k:Int))=some (aIa a (Qc j (b.drop (a+k)) k n1))
 |0,k,hjk,n1,m,h0,h1,hm=>by
  obtain⟨m,rfl⟩:∃q,m=q+1:=⟨m-1,by omega⟩
  rw[J0,aR (by omega),aa,Mp]
  rfl
 |j+1,k,hjk,n1,m,h0,h1,hm=>by
  obtain⟨m,rfl⟩:∃q,m=q+1:=⟨m-1,by omega⟩
  have hl:=hb.1
  rw[J0,aL (by omega),af,show aj ((a:Int)+(k:Int))=((a+k:Nat):Int) by rw[aH (by omega) (by omega)];omega]
  rcases abM (a+k) b.length with hlt|hge
  ·have hx:=hb.2 b[a+k] (dr hlt)
   have hp:=Rm (k:=k) (by omega)
   rw[aW hlt,af,av hlt,ae,
    aL (show 0≤aj (7*(k:Int)) by rw[aH (by omega) (by omega)];omega),ae,bC hlt,aGn (by omega),X8 hlt]
   generalize b[a+k]=x at hx ⊢
   rw[aH (n:=x) (by omega) (by omega),alq (by omega),Pq,Pq]
   have hd:=aoT (d:=x%128) (P:=128 ^ k) (by omega) (by omega) hp.1
   rw[aH (n:=x%128*128 ^ k) (by omega) (by omega),aH (n:=n1+x%128*128 ^ k) (by omega) (by omega),ao (show k+1≤9223372036854775807 by omega)]
   unfold Qc
   by_cases ad8:x<128
   ·have e:x%128=x:=Int.emod_eq_of_lt hx.1 ad8
    rw[e]at hd ⊢
    rw[aL ad8,af,ak ad8,aH (n:=((a+k:Nat):Int)+1) (by omega) (by omega)]
    obtain⟨ys,h2,h3⟩:=az4 (n1+x*128 ^ k)
    rw[h2,ai]
    dsimp only
    rw[h3 k n1 x (by omega) h0 h1 hx.1 ad8 rfl]
    by_cases hc:(k≠0∧x=0)∨n1+x*128 ^ k>2147483647
    ·rw[aL hc,af,ak hc]
     rfl
    ·rw[aR hc,aa,ah hc]
     rfl
   ·rw[aR ad8,aa,ah ad8]
    have hn:n1+x%128*128 ^ k<128 ^ (k+1):=by rw[RI];omega
    exact axu hb a ha j (k+1) (by omega) _ m (by omega) hn (by omega)
  ·rw[aR (show ¬((a+k:Nat):Int)<(b.length:Int) by omega),aa,Mp,as1 hge]
   rfl
theorem axv {b:List Int}(hb:dC b){a:Nat}(ha:a≤b.length):xz F0 b (a:Int)=some (aIa a (Qc 5 (b.drop a) 0 0)):=by
 have hl:=hb.1
 rw[anY,cg,ai,ad7,aH (by omega) (by omega)]
 rcases abM a b.length with hlt|hge
 ·rw[aL (by omega),aK,aa]
  exact axu hb a ha 5 0 rfl 0 _ (by omega) (by decide) (by rw[ch];omega)
 ·rw[aR (by omega),eZ,af,as1 hge]
  rfl
theorem aCB:∀(j:Nat) (l:List Int) (k:Nat) (n:Int) (v:Int) (c:Nat),Qc j l k n=some (v,c)→v≤2147483647∧k<c∧c≤k+l.length
 |0,_,_,_,_,_,h=>by cases h
 |_+1,[],_,_,_,_,h=>by cases h
 |j+1,x::l,k,n,v,c,h=>by
  unfold Qc at h
  split at h
  ·split at h
   ·cases h
   ·rename_i hc
    cases h
    exact⟨Int.not_lt.1 fun hh=>hc (.inr hh),Nat.lt_succ_self _,by rw[ba];omega⟩
  ·have:=aCB j l (k+1) _ v c h
   rw[ba]
   exact⟨this.1,by omega,by omega⟩
theorem axw:∀(j:Nat) (l:List Int) (k:Nat) (n:Int) (v:Int) (c:Nat),(∀x∈l,0≤x)→0≤n→Qc j l k n=some (v,c)→0≤v
 |0,_,_,_,_,_,_,_,h=>by cases h
 |_+1,[],_,_,_,_,_,_,h=>by cases h
 |j+1,x::l,k,n,v,c,hl,hn,h=>by
  have hx:=hl x IL
  have hp:(0:Int)≤128 ^ k:=Int.pow_nonneg (by omega)
  unfold Qc at h
  split at h
  ·split at h
   ·cases h
   ·cases h
    have:=Int.mul_nonneg hx hp
    omega
  ·have h0:=Int.mul_nonneg (ahk x (show(128:Int)≠0 by decide)) hp
   exact axw j l (k+1) _ v c (fun y hy=>hl y (pW _ hy)) (by omega) h
abbrev Qd:=Nat×Bool
abbrev cell (b:List Int)(s:Qd):List Int×Int×Bool:=(b,(s.1:Int),s.2)
abbrev Wu (b:List Int)(s:Qd):List Int×Int×Bool:=(b,(s.1:Int),!s.2)
def rO (b:List Int)(a:Nat):Option (Int×Nat):=match Qc 5 (b.drop a) 0 0 with
 |some (v,c)=>some (v,a+c)
 |none=>none
def aa8:Option (Int×Nat)→Int×Int×Bool×Unit
 |some (v,a)=>(v,(a:Int),true,())
 |none=>(0,0,false,())
theorem aea {b:List Int}(hb:dC b){a:Nat}(ha:a≤b.length):kU F0 b (a:Int)=some (aa8 (rO b a)):=by
 rw[az3 hb ha]
 unfold rO
 cases Qc 5 (b.drop a) 0 0<;>rfl
theorem asy {b:List Int}(hb:dC b){a:Nat}(ha:a≤b.length):xz F0 b (a:Int)=some (aa8 (rO b a)):=by
 rw[axv hb ha]
 unfold rO
 cases Qc 5 (b.drop a) 0 0<;>rfl
theorem Xl {b:List Int}(hb:dC b){a:Nat}(ha:a≤b.length){v:Int}{a':Nat}(h:rO b a=some (v,a')):0≤v∧v≤2147483647∧a<a'∧a'≤b.length:=by
 unfold rO at h
 split at h
 ·rename_i v' c he
  cases h
  have h1:=aCB _ _ _ _ _ _ he
  have h2:=axw _ _ _ _ _ _ (fun x hx=>(hb.2 x (ayX hx)).1) (TU 0) he
  rw[bo]at h1
  exact⟨h2,h1.1,by omega,by omega⟩
 ·cases h
def aT (b:List Int)(s:Qd):Int×Qd:=match rO b s.1 with
 |some (v,a)=>if s.2=true then (v,a,true) else (0,s.1,false)
 |none=>(0,s.1,false)
theorem tz {b:List Int}(hb:dC b){s:Qd}(hs:s.1≤b.length):dt F0 (cell b s)=some (((aT b s).1,()),cell b (aT b s).2,()):=by
 obtain⟨a,ok⟩:=s
 rw[amH,aea hb hs,ai]
 unfold aT aa8
 dsimp only
 cases rO b a with
 |none=>rfl
 |some r=>cases ok<;>rfl
theorem nA {b:List Int}(hb:dC b){s:Qd}(hs:s.1≤b.length):bT F0 (Wu b s)=some (((aT b s).1,()),Wu b (aT b s).2,()):=by
 obtain⟨a,ok⟩:=s
 rw[aaP,asy hb hs,ai]
 unfold aT aa8
 dsimp only
 cases rO b a with
 |none=>cases ok<;>rfl
 |some r=>cases ok<;>rfl
theorem eM {b:List Int}(hb:dC b){s:Qd}(hs:s.1≤b.length):(aT b s).2.1≤b.length∧((aT b s).2.2=true→s.1<(aT b s).2.1)∧0≤(aT b s).1∧(aT b s).1≤2147483647:=by
 unfold aT
 split
 ·rename_i v a h
  have:=Xl hb hs h
  split
  ·exact⟨this.2.2.2,fun _=>this.2.2.1,this.1,this.2.1⟩
  ·exact⟨hs,(fun h=>by cases h),TU _,by omega⟩
 ·exact⟨hs,(fun h=>by cases h),TU _,by omega⟩
def aa9 (b:List Int)(a:Nat):Option (ByteArray×Nat):=match rO b a with
 |some (v,a)=>if v>(b.length:Int)-a then none else some (strOf ((b.take (a+v.toNat)).drop a),a+v.toNat)
 |none=>none
def az5:Option (ByteArray×Nat)→ByteArray×Int×Bool×Unit
 |some (v,a)=>(v,(a:Int),true,())
 |none=>(al,0,false,())
theorem asz {b:List Int}(hb:dC b){a:Nat}(ha:a≤b.length) :
  br (!(aa8 (rO b a)).2.2.1) (some (al,0,false,())) (br (decide ((aa8 (rO b a)).1>aj ((b.length:Int)-(aa8 (rO b a)).2.1))) (some (al,0,false,()))
   (ck (RN (aa8 (rO b a)).2.1 (aj ((aa8 (rO b a)).2.1+(aa8 (rO b a)).1)) (b.length:Int)) (some (strOf ((b.take (aj ((aa8 (rO b a)).2.1+(aa8 (rO b a)).1)).toNat).drop (aa8 (rO b a)).2.1.toNat),aj ((aa8 (rO b a)).2.1+(aa8 (rO b a)).1),true,()))))=some (az5 (aa9 b a)):=by
 have hl:=hb.1
 unfold aa9
 cases hg:rO b a with
 |none=>rfl
 |some r =>
  obtain⟨v,a'⟩:=r
  have h:=Xl hb ha hg
  show br (!true) _ (br (decide (v>aj ((b.length:Int)-(a':Int)))) _ (ck (RN (a':Int) (aj ((a':Int)+v)) (b.length:Int)) (some (strOf ((b.take (aj ((a':Int)+v)).toNat).drop (a':Int).toNat),aj ((a':Int)+v),true,()))))=some (az5 (if v>(b.length:Int)-a' then none else some (strOf ((b.take (a'+v.toNat)).drop a'),a'+v.toNat)))
  rw[aK,aa,aH (n:=(b.length:Int)-a') (by omega) (by omega),aH (n:=(a':Int)+v) (by omega) (by omega)]
  by_cases hv:v>(b.length:Int)-a'
  ·rw[aL hv,af,ak hv]
   rfl
  ·rw[aR hv,aa,ah hv,show(a':Int)+v=((a'+v.toNat:Nat):Int) by omega,Xi (by omega) (by omega),ae]
   simp only[kH,az5]
theorem axx {b:List Int}(hb:dC b){a:Nat}(ha:a≤b.length):Hh F0 b (a:Int)=some (az5 (aa9 b a)):=by
 rw[ajt,aea hb ha,ai]
 exact asz hb ha
theorem Ig {b:List Int}(hb:dC b){a:Nat}(ha:a≤b.length):og F0 b (a:Int)=some (az5 (aa9 b a)):=by
 rw[akn,asy hb ha,ai]
 exact asz hb ha
theorem aIb {b:List Int}(hb:dC b){a:Nat}(ha:a≤b.length){v:ByteArray}{a':Nat}(h:aa9 b a=some (v,a')):v.size≤1048576∧a<a'∧a'≤b.length:=by
 have hl:=hb.1
 unfold aa9 at h
 split at h
 ·rename_i v0 a0 hg
  have h0:=Xl hb ha hg
  split at h
  ·cases h
  ·rename_i hv
   cases h
   refine⟨?_,by omega,by omega⟩
   show(((b.take (a0+v0.toNat)).drop a0).map fun n=>UInt8.ofNat n.toNat).toArray.size≤1048576
   rw[List.size_toArray,tZ,bo,bQ]
   omega
 ·cases h
def dE (b:List Int)(s:Qd):ByteArray×Qd:=match aa9 b s.1 with
 |some (v,a)=>if s.2=true then (v,a,true) else (al,s.1,false)
 |none=>(al,s.1,false)
theorem aeb {b:List Int}(hb:dC b){s:Qd}(hs:s.1≤b.length):nV F0 (cell b s)=some (((dE b s).1,()),cell b (dE b s).2,()):=by
 obtain⟨a,ok⟩:=s
 rw[ajv,axx hb hs,ai]
 unfold dE az5
 dsimp only
 cases aa9 b a with
 |none=>rfl
 |some r=>cases ok<;>rfl
theorem Xm {b:List Int}(hb:dC b){s:Qd}(hs:s.1≤b.length):gP F0 (Wu b s)=some (((dE b s).1,()),Wu b (dE b s).2,()):=by
 obtain⟨a,ok⟩:=s
 rw[XT,Ig hb hs,ai]
 unfold dE az5
 dsimp only
 cases aa9 b a with
 |none=>cases ok<;>rfl
 |some r=>cases ok<;>rfl
theorem xG {b:List Int}(hb:dC b){s:Qd}(hs:s.1≤b.length):(dE b s).2.1≤b.length∧(dE b s).1.size≤1048576:=by
 unfold dE
 split
 ·rename_i v a h
  have:=aIb hb hs h
  split
  ·exact⟨this.2.2,this.1⟩
  ·exact⟨hs,aV _⟩
 ·exact⟨hs,aV _⟩
def kq (b:List Int)(n:Int):Nat→Int→Qd→List Int→List Int×Qd
 |0,_,s,xs=>(xs,s)
 |f+1,i,s,xs=>if i<n∧s.2=true then kq b n f (i+1) (aT b s).2 (xs++[(aT b s).1]) else (xs,s)
def A2 (b:List Int)(s:Qd):List Int×Qd:=kq b (aT b s).1 (b.length+2) 0 (aT b s).2 []
theorem axy {b:List Int}(hb:dC b)(n1:Int){γ:Type}(κ:Ex→St→Option γ):∀(f:Nat) (i:Int) (s:Qd) (xs:List Int) (m:Nat),s.1≤b.length→0≤i→i+f≤4194304→(s.2=true→b.length+2≤s.1+f)→xs.length+f≤4194304→f<m →
  CB F0 κ m (uW n1 i b (s.1:Int) s.2 xs)=κ (.exit 0) (sf b ((kq b n1 f i s xs).2.1:Int) (kq b n1 f i s xs).2.2 (kq b n1 f i s xs).1)
 |0,i,s,xs,m,hs,h0,h1,h2,h3,hm=>by
  obtain⟨m,rfl⟩:∃q,m=q+1:=⟨m-1,by omega⟩
  have hf:s.2=false:=DN.2 fun h=>by have:=h2 h;omega
  rw[Jj]
  unfold kq
  dsimp only
  rw[hf,aa]
  cases decide (i<n1)<;>rfl
 |f+1,i,s,xs,m,hs,h0,h1,h2,h3,hm=>by
  obtain⟨m,rfl⟩:∃q,m=q+1:=⟨m-1,by omega⟩
  rw[Jj]
  unfold kq
  by_cases hi:i<n1
  ·rw[aL hi,af]
   cases hf:s.2 with
   |false =>
    rw[aa,ah (fun h=>by cases h.2),hf]
   |true =>
    have hn:=tz hb hs
    have hk:=eM hb hs
    unfold cell at hn
    rw[hf]at hn
    rw[af,ak ⟨hi,rfl⟩,hn,ai,az (by omega) (by omega) (by rw[dU];omega),ae,aH (by omega) (by omega)]
    exact axy hb n1 κ f (i+1) (aT b s).2 (xs++[(aT b s).1]) m hk.1 (by omega) (by omega) (fun h=>by have:=hk.2.1 h;have:=h2 hf;omega) (by rw[aM,dU];omega) (by omega)
  ·rw[aR hi,aa,ah (fun h=>hi h.1)]
theorem axz {b:List Int}(hb:dC b)(n1:Int){γ:Type}(κ:Ex→St→Option γ):∀(f:Nat) (i:Int) (s:Qd) (xs:List Int) (m:Nat),s.1≤b.length→0≤i→i+f≤4194304→(s.2=true→b.length+2≤s.1+f)→xs.length+f≤4194304→f<m →
  oo F0 κ m (lj n1 i b (s.1:Int) (!s.2) xs)=κ (.exit 0) (kf b ((kq b n1 f i s xs).2.1:Int) (!(kq b n1 f i s xs).2.2) (kq b n1 f i s xs).1)
 |0,i,s,xs,m,hs,h0,h1,h2,h3,hm=>by
  obtain⟨m,rfl⟩:∃q,m=q+1:=⟨m-1,by omega⟩
  have hf:s.2=false:=DN.2 fun h=>by have:=h2 h;omega
  rw[xA]
  unfold kq
  dsimp only
  rw[hf]
  cases decide (i<n1)<;>rfl
 |f+1,i,s,xs,m,hs,h0,h1,h2,h3,hm=>by
  obtain⟨m,rfl⟩:∃q,m=q+1:=⟨m-1,by omega⟩
  rw[xA]
  unfold kq
  by_cases hi:i<n1
  ·rw[aL hi,af]
   cases hf:s.2 with
   |false =>
    rw[ah (fun h=>by cases h.2),hf]
    rfl
   |true =>
    have hn:=nA hb hs
    have hk:=eM hb hs
    unfold Wu at hn
    rw[hf]at hn
    rw[aK,eZ,af,ak ⟨hi,rfl⟩,show(false:Bool)= !true from rfl,hn,ai,az (by omega) (by omega) (by rw[dU];omega),ae,aH (by omega) (by omega)]
    exact axz hb n1 κ f (i+1) (aT b s).2 (xs++[(aT b s).1]) m hk.1 (by omega) (by omega) (fun h=>by have:=hk.2.1 h;have:=h2 hf;omega) (by rw[aM,dU];omega) (by omega)
  ·rw[aR hi,aa,ah (fun h=>hi h.1)]
theorem aCC {b:List Int}(hb:dC b){s:Qd}(hs:s.1≤b.length):D7 F0 (cell b s)=some (((A2 b s).1,()),cell b (A2 b s).2,()):=by
 have hl:=hb.1
 have hk:=eM hb hs
 rw[amI,tz hb hs,ai]
 refine(axy hb (aT b s).1 (Fh F0) (b.length+2) 0 (aT b s).2 [] _ hk.1 (TU _) (by omega) (fun _=>by omega) (by rw[bA];omega) (by rw[ch];omega)).trans ?_
 rw[acA]
 rfl
theorem axA {b:List Int}(hb:dC b){s:Qd}(hs:s.1≤b.length):mY F0 (Wu b s)=some (((A2 b s).1,()),Wu b (A2 b s).2,()):=by
 have hl:=hb.1
 have hk:=eM hb hs
 rw[XU,nA hb hs,ai]
 refine(axz hb (aT b s).1 (ry F0) (b.length+2) 0 (aT b s).2 [] _ hk.1 (TU _) (by omega) (fun _=>by omega) (by rw[bA];omega) (by rw[ch];omega)).trans ?_
 rw[Q1]
 rfl
theorem az6 (b:List Int)(n:Int)(f:Nat)(i:Int){s:Qd}(h:s.2=false)(xs:List Int):kq b n f i s xs=(xs,s):=by
 cases f with
 |zero=>rfl
 |succ f =>
  unfold kq
  rw[ah (fun h'=>by rw[h]at h';cases h'.2)]
theorem asA {b:List Int}(hb:dC b)(n:Int):∀(f:Nat) (i:Int) (s:Qd) (xs:List Int),s.1≤b.length→(kq b n f i s xs).2.1≤b.length∧((kq b n f i s xs).2.2=true→(kq b n f i s xs).1.length+s.1≤xs.length+(kq b n f i s xs).2.1)
 |0,i,s,xs,hs=>⟨hs,fun _=>b9 _⟩
 |f+1,i,s,xs,hs=>by
  unfold kq
  split
  ·have hk:=eM hb hs
   have ih:=asA hb n f (i+1) (aT b s).2 (xs++[(aT b s).1]) hk.1
   refine⟨ih.1,fun h=>?_⟩
   cases hr:(aT b s).2.2 with
   |false =>
    rw[az6 b n f (i+1) hr,hr]at h
    cases h
   |true =>
    have h1:=hk.2.1 hr
    have h2:=ih.2 h
    rw[aM,dU]at h2
    omega
  ·exact⟨hs,fun _=>b9 _⟩
theorem aoU {b:List Int}(hb:dC b){s:Qd}(hs:s.1≤b.length):(A2 b s).2.1≤b.length∧((A2 b s).2.2=true→(A2 b s).1.length≤1048576):=by
 have hl:=hb.1
 have hk:=eM hb hs
 have h:=asA hb (aT b s).1 (b.length+2) 0 (aT b s).2 [] hk.1
 refine⟨h.1,fun ho=>?_⟩
 have h2:=h.2 ho
 have h1:=h.1
 rw[bA]at h2
 unfold A2
 omega
def wZ (b:List Int)(s:Qd):di×Qd:=(((aT b s).1,(dE b (aT b s).2).1,(A2 b (dE b (aT b s).2).2).1),(A2 b (dE b (aT b s).2).2).2)
theorem az7 {b:List Int}(hb:dC b){s:Qd}(hs:s.1≤b.length):Bn F0 (cell b s)=some (((wZ b s).1,()),cell b (wZ b s).2,()):=by
 have h1:=(eM hb hs).1
 have h2:=(xG hb h1).1
 rw[aqt,tz hb hs,ai,aeb hb h1,ai,aCC hb h2,ai]
 rfl
theorem avg {b:List Int}(hb:dC b){s:Qd}(hs:s.1≤b.length):mZ F0 (Wu b s)=some (((wZ b s).1,()),Wu b (wZ b s).2,()):=by
 have h1:=(eM hb hs).1
 have h2:=(xG hb h1).1
 rw[ade,nA hb hs,ai,Xm hb h1,ai,axA hb h2,ai]
 rfl
theorem Rn {b:List Int}(hb:dC b){s:Qd}(hs:s.1≤b.length):(wZ b s).2.1≤b.length∧((wZ b s).2.2=true→uG (wZ b s).1):=by
 have h1:=(eM hb hs).1
 have h2:=xG hb h1
 have h3:=aoU hb h2.1
 exact⟨h3.1,fun h=>⟨h2.2,h3.2 h⟩⟩
def aba:cX:=(0,0,(al,cP),cP,cP,0,qJ)
def fin (c:Int×Int)(b:List Int)(m:cX)(s:Qd):cX×Bool:=if s.2=true∧(s.1:Int)=(b.length:Int)∧en c m=true then (m,true) else (aba,false)
theorem aec {c:Int×Int}{b:List Int}{m:cX}{s:Qd}(h:s.2=true→gz m) :
  br (!s.2) (some (aba,false,())) (br ((s.1:Int) != (b.length:Int)) (some (aba,false,())) ((fV F0 c m).bind fun r87=>br (!r87.1) (some (aba,false,())) (some (m,true,()))))=some ((fin c b m s).1,(fin c b m s).2,()):=by
 unfold fin
 cases hs:s.2 with
 |false =>
  rw[ah (fun h=>by cases h.1)]
  rfl
 |true =>
  rw[aK,aa,II (h hs),ai]
  by_cases hl:(s.1:Int)=(b.length:Int)
  ·rw[show((s.1:Int) != (b.length:Int))=false from RG.2 hl,aa]
   cases hm:en c m with
   |false =>
    rw[ah (fun h=>by cases h.2.2)]
    rfl
   |true =>
    rw[ak ⟨rfl,hl,rfl⟩]
    rfl
  ·rw[DO.2 hl,af,ah (fun h=>hl h.2.1)]
theorem Wv {c:Int×Int}{b:List Int}{m:cX}{s:Qd}(h:s.2=true→gz m) :
  br (!s.2) (some (aba,false,())) (br ((s.1:Int) != (b.length:Int)) (some (aba,false,())) ((gO F0 c m).bind fun r87=>br (!r87.1) (some (aba,false,())) (some (m,true,()))))=some ((fin c b m s).1,(fin c b m s).2,()):=by
 unfold fin
 cases hs:s.2 with
 |false =>
  rw[ah (fun h=>by cases h.1)]
  rfl
 |true =>
  rw[aK,aa,KE (h hs),ai]
  by_cases hl:(s.1:Int)=(b.length:Int)
  ·rw[show((s.1:Int) != (b.length:Int))=false from RG.2 hl,aa]
   cases hm:en c m with
   |false =>
    rw[ah (fun h=>by cases h.2.2)]
    rfl
   |true =>
    rw[ak ⟨rfl,hl,rfl⟩]
    rfl
  ·rw[DO.2 hl,af,ah (fun h=>hl h.2.1)]
def jm (b:List Int):Int×Qd:=aT b (0,true)
def aIc (b:List Int):cX×Qd:=(((jm b).1,0,((dE b (jm b).2).1,(wZ b (dE b (jm b).2).2).1),cP,cP,0,qJ),(wZ b (dE b (jm b).2).2).2)
def aId (b:List Int):cX×Qd :=
 (((jm b).1,0,(al,cP),((aT b (jm b).2).1,(dE b (aT b (jm b).2).2).1,(A2 b (dE b (aT b (jm b).2).2).2).1),cP,0,qJ),(A2 b (dE b (aT b (jm b).2).2).2).2)
def aIe (b:List Int):cX×Qd :=
 (((jm b).1,(aT b (jm b).2).1,(al,cP),cP,(wZ b (aT b (aT b (jm b).2).2).2).1,(aT b (aT b (jm b).2).2).1,qJ),(wZ b (aT b (aT b (jm b).2).2).2).2)
def aIf (b:List Int):cX×Qd :=
 (((jm b).1,0,(al,cP),cP,cP,0,(aT b (jm b).2).1,(aT b (aT b (jm b).2).2).1,(aT b (aT b (aT b (jm b).2).2).2).1,(aT b (aT b (aT b (aT b (jm b).2).2).2).2).1),(aT b (aT b (aT b (aT b (jm b).2).2).2).2).2)
def aKm (b:List Int):cX×Qd:=(((jm b).1,0,(al,cP),cP,cP,0,qJ),(jm b).2)
def aed (b:List Int):cX×Qd:=if ((jm b).1==1)=true then aIc b else if ((jm b).1==2)=true then aId b else if ((jm b).1==3)=true then aIe b else if ((jm b).1==4)=true then aIf b else aKm b
def tK (c:Int×Int)(b:List Int):cX×Bool:=fin c b (aed b).1 (aed b).2
theorem asB {b:List Int}(hb:dC b)(c:Int×Int):Jl F0 c b=some ((tK c b).1,(tK c b).2,()):=by
 have e0:dt F0 (b,0,true)=some (((jm b).1,()),cell b (jm b).2,()):=tz hb (s:=(0,true)) (aV _)
 have h0:(jm b).2.1≤b.length:=(eM hb (s:=(0,true)) (aV _)).1
 have h1:=(eM hb h0).1
 have h2:=(eM hb h1).1
 have h3:=(eM hb h2).1
 have t0:=xG hb h0
 have t1:=xG hb h1
 have q1:=Rn hb t0.1
 have q3:=Rn hb h2
 have w2:=aoU hb t1.1
 rw[aqu,e0,ai]
 unfold tK aed
 dsimp only
 by_cases k1:((jm b).1==1)=true
 ·rw[k1,af,ak rfl,aeb hb h0,ai,az7 hb t0.1,ai]
  unfold aIc
  generalize wZ b (dE b (jm b).2).2=r2 at q1 ⊢
  generalize dE b (jm b).2=r1 at t0 ⊢
  generalize jm b=r0
  exact aec (c:=c) (b:=b) (m:=(r0.1,0,(r1.1,r2.1),cP,cP,0,qJ)) (s:=r2.2) fun h=>⟨t0.2,q1.2 h,ee,ee⟩
 ·rw[DN.2 k1,aa,ah (by decide)]
  by_cases k2:((jm b).1==2)=true
  ·rw[k2,af,ak rfl,tz hb h0,ai,aeb hb h1,ai,aCC hb t1.1,ai]
   unfold aId
   generalize A2 b (dE b (aT b (jm b).2).2).2=r3 at w2 ⊢
   generalize dE b (aT b (jm b).2).2=r2 at t1 ⊢
   generalize aT b (jm b).2=r1
   generalize jm b=r0
   exact aec (c:=c) (b:=b) (m:=(r0.1,0,(al,cP),(r1.1,r2.1,r3.1),cP,0,qJ)) (s:=r3.2) fun h=>⟨aV _,ee,⟨t1.2,w2.2 h⟩,ee⟩
  ·rw[DN.2 k2,aa,ah (by decide)]
   by_cases k3:((jm b).1==3)=true
   ·rw[k3,af,ak rfl,tz hb h0,ai,tz hb h1,ai,az7 hb h2,ai]
    unfold aIe
    generalize wZ b (aT b (aT b (jm b).2).2).2=r3 at q3 ⊢
    generalize aT b (aT b (jm b).2).2=r2
    generalize aT b (jm b).2=r1
    generalize jm b=r0
    exact aec (c:=c) (b:=b) (m:=(r0.1,r1.1,(al,cP),cP,r3.1,r2.1,qJ)) (s:=r3.2) fun h=>⟨aV _,ee,ee,q3.2 h⟩
   ·rw[DN.2 k3,aa,ah (by decide)]
    by_cases k4:((jm b).1==4)=true
    ·rw[k4,af,ak rfl,tz hb h0,ai,tz hb h1,ai,tz hb h2,ai,tz hb h3,ai]
     unfold aIf
     generalize aT b (aT b (aT b (aT b (jm b).2).2).2).2=r4
     generalize aT b (aT b (aT b (jm b).2).2).2=r3
     generalize aT b (aT b (jm b).2).2=r2
     generalize aT b (jm b).2=r1
     generalize jm b=r0
     exact aec (c:=c) (b:=b) (m:=(r0.1,0,(al,cP),cP,cP,0,r1.1,r2.1,r3.1,r4.1)) (s:=r4.2) fun h=>⟨aV _,ee,ee,ee⟩
    ·rw[DN.2 k4,aa,ah (by decide)]
     unfold aKm
     generalize jm b=r0
     exact aec (c:=c) (b:=b) (m:=(r0.1,0,(al,cP),cP,cP,0,qJ)) (s:=r0.2) fun h=>⟨aV _,ee,ee,ee⟩
theorem aoV {b:List Int}(hb:dC b)(c:Int×Int):J2 F0 c b=some ((tK c b).1,(tK c b).2,()):=by
 have e0:bT F0 (b,0,false)=some (((jm b).1,()),Wu b (jm b).2,()):=nA hb (s:=(0,true)) (aV _)
 have h0:(jm b).2.1≤b.length:=(eM hb (s:=(0,true)) (aV _)).1
 have h1:=(eM hb h0).1
 have h2:=(eM hb h1).1
 have h3:=(eM hb h2).1
 have t0:=xG hb h0
 have t1:=xG hb h1
 have q1:=Rn hb t0.1
 have q3:=Rn hb h2
 have w2:=aoU hb t1.1
 rw[aqS,e0,ai]
 unfold tK aed
 dsimp only
 by_cases k1:((jm b).1==1)=true
 ·rw[k1,af,ak rfl,Xm hb h0,ai,avg hb t0.1,ai]
  unfold aIc
  generalize wZ b (dE b (jm b).2).2=r2 at q1 ⊢
  generalize dE b (jm b).2=r1 at t0 ⊢
  generalize jm b=r0
  exact Wv (c:=c) (b:=b) (m:=(r0.1,0,(r1.1,r2.1),cP,cP,0,qJ)) (s:=r2.2) fun h=>⟨t0.2,q1.2 h,ee,ee⟩
 ·rw[DN.2 k1,aa,ah (by decide)]
  by_cases k2:((jm b).1==2)=true
  ·rw[k2,af,ak rfl,nA hb h0,ai,Xm hb h1,ai,axA hb t1.1,ai]
   unfold aId
   generalize A2 b (dE b (aT b (jm b).2).2).2=r3 at w2 ⊢
   generalize dE b (aT b (jm b).2).2=r2 at t1 ⊢
   generalize aT b (jm b).2=r1
   generalize jm b=r0
   exact Wv (c:=c) (b:=b) (m:=(r0.1,0,(al,cP),(r1.1,r2.1,r3.1),cP,0,qJ)) (s:=r3.2) fun h=>⟨aV _,ee,⟨t1.2,w2.2 h⟩,ee⟩
  ·rw[DN.2 k2,aa,ah (by decide)]
   by_cases k3:((jm b).1==3)=true
   ·rw[k3,af,ak rfl,nA hb h0,ai,nA hb h1,ai,avg hb h2,ai]
    unfold aIe
    generalize wZ b (aT b (aT b (jm b).2).2).2=r3 at q3 ⊢
    generalize aT b (aT b (jm b).2).2=r2
    generalize aT b (jm b).2=r1
    generalize jm b=r0
    exact Wv (c:=c) (b:=b) (m:=(r0.1,r1.1,(al,cP),cP,r3.1,r2.1,qJ)) (s:=r3.2) fun h=>⟨aV _,ee,ee,q3.2 h⟩
   ·rw[DN.2 k3,aa,ah (by decide)]
    by_cases k4:((jm b).1==4)=true
    ·rw[k4,af,ak rfl,nA hb h0,ai,nA hb h1,ai,nA hb h2,ai,nA hb h3,ai]
     unfold aIf
     generalize aT b (aT b (aT b (aT b (jm b).2).2).2).2=r4
     generalize aT b (aT b (aT b (jm b).2).2).2=r3
     generalize aT b (aT b (jm b).2).2=r2
     generalize aT b (jm b).2=r1
     generalize jm b=r0
     exact Wv (c:=c) (b:=b) (m:=(r0.1,0,(al,cP),cP,cP,0,r1.1,r2.1,r3.1,r4.1)) (s:=r4.2) fun h=>⟨aV _,ee,ee,ee⟩
    ·rw[DN.2 k4,aa,ah (by decide)]
     unfold aKm
     generalize jm b=r0
     exact Wv (c:=c) (b:=b) (m:=(r0.1,0,(al,cP),cP,cP,0,qJ)) (s:=r0.2) fun h=>⟨aV _,ee,ee,ee⟩
structure KG (w:an):Prop where
 l:w.2.1.length≤1048576
 r:w.2.2.1.length≤1048576
 rl:∀x∈w.2.2.1,aoS x
 n:w.2.2.2.1.length≤1048576
 nb:∀x∈w.2.2.2.1,dC x.2
 s:w.2.2.2.2.length≤1048576
 st:∀x∈w.2.2.2.2,x.2.1.size≤1048576
theorem az8 (c:Int×Int):Lq F0 c=some (FP c,()):=by
 rw[amE,jg,ai]
 unfold FP
 dsimp only
 cases h:bO c with
 |false=>rfl
 |true =>
  have:=cO h
  have h3:=axh this.1 this.2.1
  have e:aj (c.1-1)=c.1-1:=aH (by omega) (by omega)
  rw[aK,aa,e,aH (n:=Int.tdiv (c.1-1) 3) (by omega) (by omega),ak rfl]
def aoW:aD:=(0,0,0,(0,0,cP,al),[],[],([],0),[])
def az9:ph:=(0,[])
def abb:eK:=(0,al,0)
def aoX (c:Int×Int)(l:List aD)(k:Nat):Bool:=nz c (l.getD k aoW)&&((l.getD k aoW).1==(k:Int))
def abc (c:Int×Int)(l:List ph)(k:Nat):Bool:=(tK c (l.getD k az9).2).2&&iH 0 (aj (c.1-1)) (l.getD k az9).1
def abd (c:Int×Int)(l:List eK)(k:Nat):Bool:=iH 0 (aj (c.1-1)) (l.getD k abb).2.2&&(cr (l.getD k abb).2.1.data.toList&&(bu (l.getD k abb).2.1.data.toList==(l.getD k abb).1))
def aoY (w:an):Bool:=(List.range w.2.2.1.length).all (aoX w.1 w.2.2.1)
def Ih (w:an):Bool:=(List.range w.2.2.2.1.length).all (abc w.1 w.2.2.2.1)
def tB (w:an):Bool:=(List.range w.2.2.2.2.length).all (abd w.1 w.2.2.2.2)
def qF (w:an):Bool :=
 bO w.1&&(nx w.1.1 w.2.1&&(!decide ((w.2.1.length:Int)>FP w.1)&&(!((w.2.2.1.length:Int) != w.1.1)&&(!decide ((w.2.2.2.1.length:Int)>60)&&(!decide ((w.2.2.2.2.length:Int)>300)&&(aoY w&&(Ih w&&tB w)))))))
theorem alh (a b:Bool):(if a=true then some (b,()) else some (false,()))=some (a&&b,()):=by cases a<;>rfl
theorem aAa {w:an}(h:KG w):qW F0 (mx F0) F0.n (mw 0 w.1.1 w.1.2 w.2.1 w.2.2.1 w.2.2.2.1 w.2.2.2.2)=some (tB w,()):=by
 have hs:=h.s
 rw[lW (fun m k=>qW F0 (mx F0) m (mw k w.1.1 w.1.2 w.2.1 w.2.2.1 w.2.2.2.1 w.2.2.2.2)) w.2.2.2.2.length (abd w.1 w.2.2.2.2) (some (true,())) (some (false,())) (fun m k hk=>?_) (fun m=>?_) _ (by rw[ch];omega),Qb]
 ·rfl
 ·have hz:=h.st _ (dr hk)
  rw[FY,aW hk,af,av hk,ae,bC hk,dz,ai,IH hz,ai,pM hz,ai,acD,ao (by omega)]
  unfold abd
  rw[bp hk]
  dsimp only
  cases iH 0 (aj (w.1.1-1)) (w.2.2.2.2[k]).2.2<;>cases cr (w.2.2.2.2[k]).2.1.data.toList<;>try rfl
  by_cases hv:bu (w.2.2.2.2[k]).2.1.data.toList=(w.2.2.2.2[k]).1
  ·rw[show(bu (w.2.2.2.2[k]).2.1.data.toList != (w.2.2.2.2[k]).1)=false from RG.2 hv,show(bu (w.2.2.2.2[k]).2.1.data.toList==(w.2.2.2.2[k]).1)=true from bB.2 hv]
   rfl
  ·rw[DO.2 hv,cp.2 hv]
   rfl
 ·rw[FY,aI,aa,aar]
theorem aAb {w:an}(h:KG w):qX F0 (mz F0) F0.n (my 0 w.1.1 w.1.2 w.2.1 w.2.2.1 w.2.2.2.1 w.2.2.2.2)=some (Ih w&&tB w,()):=by
 have hs:=h.n
 rw[lW (fun m k=>qX F0 (mz F0) m (my k w.1.1 w.1.2 w.2.1 w.2.2.1 w.2.2.2.1 w.2.2.2.2)) w.2.2.2.1.length (abc w.1 w.2.2.2.1) (some (tB w,())) (some (false,())) (fun m k hk=>?_) (fun m=>?_) _ (by rw[ch];omega),alh]
 ·rfl
 ·rw[FZ,aW hk,af,av hk,ae,bC hk,show((w.1.1,w.1.2):Int×Int)=w.1 from rfl,asB (h.nb _ (dr hk)),ai,ae,dz,ai,acE,ao (by omega)]
  unfold abc
  rw[bp hk]
  dsimp only
  cases (tK w.1 (w.2.2.2.1[k]).2).2<;>cases iH 0 (aj (w.1.1-1)) (w.2.2.2.1[k]).1<;>rfl
 ·rw[FZ,aI,aa,aas,aAa h]
theorem aDR {w:an}(h:KG w):qY F0 (mB F0) F0.n (mA 0 w.1.1 w.1.2 w.2.1 w.2.2.1 w.2.2.2.1 w.2.2.2.2)=some (aoY w&&(Ih w&&tB w),()):=by
 have hs:=h.r
 rw[lW (fun m k=>qY F0 (mB F0) m (mA k w.1.1 w.1.2 w.2.1 w.2.2.1 w.2.2.2.1 w.2.2.2.2)) w.2.2.1.length (aoX w.1 w.2.2.1) (some (Ih w&&tB w,())) (some (false,())) (fun m k hk=>?_) (fun m=>?_) _ (by rw[ch];omega),alh]
 ·rfl
 ·rw[F1,aW hk,af,av hk,ae,bC hk,ae,show((w.1.1,w.1.2):Int×Int)=w.1 from rfl,iT (h.rl _ (dr hk)),ai,acF,ao (by omega)]
  unfold aoX
  rw[bp hk]
  dsimp only
  by_cases hv:(w.2.2.1[k]).1=(k:Int)
  ·rw[show((w.2.2.1[k]).1 != (k:Int))=false from RG.2 hv,show((w.2.2.1[k]).1==(k:Int))=true from bB.2 hv,aa,Bool.and_true]
   cases nz w.1 w.2.2.1[k]<;>rfl
  ·rw[DO.2 hv,cp.2 hv,af,ahm]
   rfl
 ·rw[F1,aI,aa,aat,aAb h]
theorem axB {w:an}(h:KG w):yB F0 w=some (qF w,()):=by
 rw[ajw,jg,ai,agN (cT h.l (by omega)),ai,az8,ai,aDR h]
 unfold qF
 cases bO w.1<;>cases nx w.1.1 w.2.1<;>cases decide ((w.2.1.length:Int)>FP w.1)<;>cases ((w.2.2.1.length:Int) != w.1.1)<;>cases decide ((w.2.2.2.1.length:Int)>60)<;>cases decide ((w.2.2.2.2.length:Int)>300)<;>rfl
theorem aAc {w:an}(h:KG w):rA F0 (nc F0) F0.n (na w.2.2.2.2 (w.2.2.2.2.length:Int) 0 w.1.1 w.1.2)=some (tB w,()):=by
 have hs:=h.s
 rw[lW (fun m k=>rA F0 (nc F0) m (na w.2.2.2.2 (w.2.2.2.2.length:Int) k w.1.1 w.1.2)) w.2.2.2.2.length (abd w.1 w.2.2.2.2) (some (true,())) (some (false,())) (fun m k hk=>?_) (fun m=>?_) _ (by rw[ch];omega),Qb]
 ·rfl
 ·have hz:=h.st _ (dr hk)
  rw[Gu,aW hk,af,av hk,ae,bC hk,cg,ai,B6 hz,ai,rN hz,ai,adg,ao (by omega)]
  unfold abd
  rw[bp hk]
  dsimp only
  cases iH 0 (aj (w.1.1-1)) (w.2.2.2.2[k]).2.2<;>cases cr (w.2.2.2.2[k]).2.1.data.toList<;>try rfl
  by_cases hv:bu (w.2.2.2.2[k]).2.1.data.toList=(w.2.2.2.2[k]).1
  ·rw[show(bu (w.2.2.2.2[k]).2.1.data.toList != (w.2.2.2.2[k]).1)=false from RG.2 hv,show(bu (w.2.2.2.2[k]).2.1.data.toList==(w.2.2.2.2[k]).1)=true from bB.2 hv]
   rfl
  ·rw[DO.2 hv,cp.2 hv]
   rfl
 ·rw[Gu,aI,aa,aaQ]
theorem aAd {w:an}(h:KG w):rB F0 (ng F0) F0.n (nd w.2.2.2.1 (w.2.2.2.1.length:Int) 0 w.1.1 w.1.2 w.2.1 w.2.2.1 w.2.2.2.1 w.2.2.2.2 w.1.1 w.1.2)=some (Ih w&&tB w,()):=by
 have hs:=h.n
 rw[lW (fun m k=>rB F0 (ng F0) m (nd w.2.2.2.1 (w.2.2.2.1.length:Int) k w.1.1 w.1.2 w.2.1 w.2.2.1 w.2.2.2.1 w.2.2.2.2 w.1.1 w.1.2)) w.2.2.2.1.length (abc w.1 w.2.2.2.1) (some (tB w,())) (some (false,())) (fun m k hk=>?_) (fun m=>?_) _ (by rw[ch];omega),alh]
 ·rfl
 ·rw[Gv,aW hk,af,av hk,ae,bC hk,show((w.1.1,w.1.2):Int×Int)=w.1 from rfl,aoV (h.nb _ (dr hk)),ai,cg,ai,adh,ao (by omega)]
  unfold abc
  rw[bp hk]
  dsimp only
  cases (tK w.1 (w.2.2.2.1[k]).2).2<;>cases iH 0 (aj (w.1.1-1)) (w.2.2.2.1[k]).1<;>rfl
 ·rw[Gv,aI,aa,aaR,aAc h]
theorem aDS {w:an}(h:KG w):rC F0 (ni F0) F0.n (nh w.2.2.1 (w.2.2.1.length:Int) 0 w.1.1 w.1.2 w.2.1 w.2.2.1 w.2.2.2.1 w.2.2.2.2 w.1.1 w.1.2)=some (aoY w&&(Ih w&&tB w),()):=by
 have hs:=h.r
 rw[lW (fun m k=>rC F0 (ni F0) m (nh w.2.2.1 (w.2.2.1.length:Int) k w.1.1 w.1.2 w.2.1 w.2.2.1 w.2.2.2.1 w.2.2.2.2 w.1.1 w.1.2)) w.2.2.1.length (aoX w.1 w.2.2.1) (some (Ih w&&tB w,())) (some (false,())) (fun m k hk=>?_) (fun m=>?_) _ (by rw[ch];omega),alh]
 ·rfl
 ·rw[Gw,aW hk,af,av hk,ae,bC hk,show((w.1.1,w.1.2):Int×Int)=w.1 from rfl,eL (h.rl _ (dr hk)),ai,adi,ao (by omega)]
  unfold aoX
  rw[bp hk]
  dsimp only
  by_cases hv:(w.2.2.1[k]).1=(k:Int)
  ·rw[show((w.2.2.1[k]).1 != (k:Int))=false from RG.2 hv,show((w.2.2.1[k]).1==(k:Int))=true from bB.2 hv,aa,Bool.and_true]
   cases nz w.1 w.2.2.1[k]<;>rfl
  ·rw[DO.2 hv,cp.2 hv,af,ahm]
   cases nz w.1 w.2.2.1[k]<;>rfl
 ·rw[Gw,aI,aa,aaS,aAd h]
theorem Aw {w:an}(h:KG w):dN F0 w=some (qF w,()):=by
 rw[ako,gx,ai,aa7 (cT h.l (by omega)),ai,aiy,ai,aDS h]
 unfold qF
 cases bO w.1<;>cases nx w.1.1 w.2.1<;>cases decide ((w.2.1.length:Int)>FP w.1)<;>cases ((w.2.2.1.length:Int) != w.1.1)<;>cases decide ((w.2.2.2.1.length:Int)>60)<;>cases decide ((w.2.2.2.2.length:Int)>300)<;>rfl
structure aRL (r:aD):Prop where
 i1:I64 r.1
 i2:I64 r.2.1
 i3:I64 r.2.2.2.1.1
 i4:I64 r.2.2.2.1.2.1
 i5:I64 r.2.2.2.1.2.2.1.1
 d:r.2.2.2.1.2.2.2.size≤1048576
 p:r.2.2.2.2.1.length≤1048576
 t:r.2.2.2.2.2.1.length≤1048576
 h:r.2.2.2.2.2.2.2.length≤1048576
def uH (l:List Int):Nat→List Int
 |0=>[]
 |k+1=>uH l k++if (k:Int)∈l then [] else [(k:Int)]
theorem Ro (l:List Int):∀k,(uH l k).length≤k
 |0=>b9 _
 |k+1=>by
  have:=Ro l k
  unfold uH
  split
  ·rw[gE]
   omega
  ·rw[aM,dU]
   omega
theorem agT (l:List Int):∀k,∀x∈uH l k,0≤x∧x<k
 |0,x,h=>by cases h
 |k+1,x,h=>by
  unfold uH at h
  rcases kI.1 h with h1|h1
  ·have:=agT l k x h1
   omega
  ·split at h1
   ·cases h1
   ·rw[lZ.1 h1]
    omega
def dP (w:an):List Int:=uH w.2.1 w.2.2.1.length
theorem aiE {β:Type}(X:List Int→β)(l xs:List Int)(k:Int):br (!decide (k∈l)) (X (xs++[k])) (X xs)=X (xs++if k∈l then [] else [k]):=by
 by_cases h:k∈l
 ·rw[aL h,ak h,gE]
  rfl
 ·rw[aR h,ah h]
  rfl
theorem aoZ {w:an}(h:KG w):En F0 w=some (dP w,()):=by
 have hr:=h.r
 have hl:=h.l
 rw[anr]
 refine dp (fun n i (xs:List Int)=>pG F0 (vC F0) n (kz i w.1.1 w.1.2 w.2.1 w.2.2.1 w.2.2.2.1 w.2.2.2.2 xs)) w.2.2.1.length (fun k xs=>xs=uH w.2.1 k) _ (fun n k xs hk hx=>.inr ⟨uH w.2.1 (k+1),?_,rfl⟩) (fun n xs hx=>?_) _ 0 [] (aV _) rfl (by rw[ch];omega)
 ·have hn:=Ro w.2.1 k
  rw[←hx]at hn
  rw[JM,aW hk,af,gk (by omega),ai,az (by omega) (by omega) (by rw[dU];omega),ae,ao (by omega)]
  dsimp only
  rw[aiE (fun xs=>pG F0 (vC F0) n (kz ((k+1:Nat):Int) w.1.1 w.1.2 w.2.1 w.2.2.1 w.2.2.2.1 w.2.2.2.2 xs)),hx]
  rfl
 ·rw[JM,aI,aa,ac1,hx]
  rfl
theorem Na {w:an}(h:KG w):rD F0 w=some (dP w,()):=by
 have hr:=h.r
 have hl:=h.l
 rw[an1]
 refine dp (fun n i (xs:List Int)=>pI F0 (vU F0) n (kD (w.2.2.1.length:Int) i w.1.1 w.1.2 w.2.1 w.2.2.1 w.2.2.2.1 w.2.2.2.2 xs)) w.2.2.1.length (fun k xs=>xs=uH w.2.1 k) _ (fun n k xs hk hx=>.inr ⟨uH w.2.1 (k+1),?_,rfl⟩) (fun n xs hx=>?_) _ 0 [] (aV _) rfl (by rw[ch];omega)
 ·have hn:=Ro w.2.1 k
  rw[←hx]at hn
  rw[J9,aW hk,af,fI (by omega),ai,az (by omega) (by omega) (by rw[dU];omega),ae,ao (by omega)]
  dsimp only
  rw[aiE (fun xs=>pI F0 (vU F0) n (kD (w.2.2.1.length:Int) ((k+1:Nat):Int) w.1.1 w.1.2 w.2.1 w.2.2.1 w.2.2.2.1 w.2.2.2.2 xs)),hx]
  rfl
 ·rw[J9,aI,aa,adp,hx]
  rfl
theorem aDT {w:an}{k:Nat}(hk:k<(dP w).length):∃j:Nat,(dP w)[k]=(j:Int)∧j<w.2.2.1.length:=by
 have:=agT w.2.1 w.2.2.1.length _ (dr hk)
 exact⟨(dP w)[k].toNat,by show _=(((dP w)[k]).toNat:Int);have h0:0≤(dP w)[k]:=this.1;omega,by have h0:0≤(dP w)[k]:=this.1;have h1:(dP w)[k]<w.2.2.1.length:=this.2;omega⟩
def aAe (s t:ByteArray):Bool:=cr s.data.toList&&(cr t.data.toList&&(decide ((s.size:Int)≥(t.size:Int))&&(((s.extract 0 t.size).toList==t.toList)&&(((s.size:Int)==(t.size:Int)) || (lN s (t.size:Int)==47)))))
theorem axC {s t:ByteArray}(hs:s.size≤1048576)(ht:t.size≤1048576):Hq F0 s t=some (aAe s t,()):=by
 rw[ajO,IH hs,ai,IH ht,ai]
 unfold aAe
 dsimp only
 cases cr s.data.toList<;>cases cr t.data.toList<;>try rfl
 rw[aK,aa,aa,jB,jB]
 by_cases hz:t.size≤s.size
 ·rw[aR (show ¬(t.size:Int)>(s.size:Int) by omega),aa,aL (show(s.size:Int)≥(t.size:Int) by omega),jB,aGl hz,ae,kH,show(0:Int).toNat=0 from rfl]
  cases ((s.extract 0 t.size).toList==t.toList)<;>try rfl
  rw[aK,aa,jB]
  by_cases he:(s.size:Int)=(t.size:Int)
  ·rw[show((s.size:Int)==(t.size:Int))=true from bB.2 he]
   rfl
  ·rw[cp.2 he,aa,av (by omega),ae]
   rfl
 ·rw[aL (show(t.size:Int)>(s.size:Int) by omega),af,aR (show ¬(s.size:Int)≥(t.size:Int) by omega)]
  rfl
theorem avh {s t:ByteArray}(hs:s.size≤1048576)(ht:t.size≤1048576):HU F0 s t=some (aAe s t,()):=by
 rw[akF,B6 hs,ai,B6 ht,ai,VU,NL]
 unfold aAe
 dsimp only
 cases cr s.data.toList<;>cases cr t.data.toList<;>try rfl
 rw[af,af,jB,jB]
 by_cases hz:t.size≤s.size
 ·rw[aL (show(s.size:Int)≥(t.size:Int) by omega),jB,af,aGl hz,ae,kH,show(0:Int).toNat=0 from rfl,ai,ai]
  dsimp only
  cases ((s.extract 0 t.size).toList==t.toList)<;>try rfl
  rw[af,jB]
  by_cases he:(s.size:Int)=(t.size:Int)
  ·rw[show((s.size:Int)==(t.size:Int))=true from bB.2 he]
   rfl
  ·rw[cp.2 he,aa,av (by omega),ae]
   rfl
 ·rw[aR (show ¬(s.size:Int)≥(t.size:Int) by omega)]
  rfl
def aOF (a b:di):Bool:=(a.1==b.1)&& !(a.2.1.toList==b.2.1.toList)
def okC (l:List di)(i k:Nat):Bool:= !aOF (l.getD i cP) (l.getD k cP)
def mc:bH:=(0,0,cP,al)
theorem asC:ko mc:=⟨ee,aV _⟩
theorem axD {b:List Int}{s:Qd}(h:(dE b s).2.2=true):s.2=true:=by
 unfold dE at h
 split at h
 ·split at h
  ·assumption
  ·cases h
 ·cases h
def KH (b:List Int):bH×Qd :=
 (((jm b).1,(aT b (jm b).2).1,(wZ b (aT b (jm b).2).2).1,(dE b (wZ b (aT b (jm b).2).2).2).1),(dE b (wZ b (aT b (jm b).2).2).2).2)
def oJ (c:Int×Int)(b:List Int):bH×Bool:=if (KH b).2.2=true∧((KH b).2.1:Int)=(b.length:Int)∧bS c (KH b).1=true then ((KH b).1,true) else (mc,false)
theorem ao0 {b:List Int}(hb:dC b)(h:(KH b).2.2=true):ko (KH b).1:=by
 have h0:(jm b).2.1≤b.length:=(eM hb (s:=(0,true)) (aV _)).1
 have h1:=(eM hb h0).1
 have q:=Rn hb h1
 have x:=xG hb q.1
 have ht:(dE b (wZ b (aT b (jm b).2).2).2).2.2=true→(wZ b (aT b (jm b).2).2).2.2=true:=axD
 unfold KH at h ⊢
 generalize dE b (wZ b (aT b (jm b).2).2).2=r3 at h x ht ⊢
 generalize wZ b (aT b (jm b).2).2=r2 at q ht ⊢
 generalize aT b (jm b).2=r1
 generalize jm b=r0
 exact⟨q.2 (ht h),x.2⟩
theorem aGo {b:List Int}(hb:dC b)(c:Int×Int):ko (oJ c b).1:=by
 unfold oJ
 split
 ·rename_i h
  exact ao0 hb h.1
 ·exact asC
theorem ay8 {c:Int×Int}{b:List Int}{m:bH}{s:Qd}{f:bH→Option (Bool×Unit)}(h:s.2=true→f m=some (bS c m,())) :
  br (!s.2) (some (mc,false,())) (br ((s.1:Int) != (b.length:Int)) (some (mc,false,())) ((f m).bind fun r87=>br (!r87.1) (some (mc,false,())) (some (m,true,())))) =
   some ((if s.2=true∧(s.1:Int)=(b.length:Int)∧bS c m=true then ((m,true):bH×Bool) else (mc,false)).1,(if s.2=true∧(s.1:Int)=(b.length:Int)∧bS c m=true then ((m,true):bH×Bool) else (mc,false)).2,()):=by
 cases hs:s.2 with
 |false =>
  rw[ah (fun h=>by cases h.1)]
  rfl
 |true =>
  rw[aK,aa,h hs,ai]
  by_cases hl:(s.1:Int)=(b.length:Int)
  ·rw[show((s.1:Int) != (b.length:Int))=false from RG.2 hl,aa]
   cases hm:bS c m with
   |false =>
    rw[ah (fun h=>by cases h.2.2)]
    rfl
   |true =>
    rw[ak ⟨rfl,hl,rfl⟩]
    rfl
  ·rw[DO.2 hl,af,ah (fun h=>hl h.2.1)]
theorem aAf {b:List Int}(hb:dC b)(c:Int×Int):Mb F0 c b=some ((oJ c b).1,(oJ c b).2,()):=by
 have e0:dt F0 (b,0,true)=some (((jm b).1,()),cell b (jm b).2,()):=tz hb (s:=(0,true)) (aV _)
 have h0:(jm b).2.1≤b.length:=(eM hb (s:=(0,true)) (aV _)).1
 have h1:=(eM hb h0).1
 have q:=Rn hb h1
 have hl:=ao0 hb
 rw[anz,e0,ai,tz hb h0,ai,az7 hb h1,ai,aeb hb q.1,ai]
 unfold oJ
 unfold KH at hl ⊢
 generalize dE b (wZ b (aT b (jm b).2).2).2=r3 at hl ⊢
 generalize wZ b (aT b (jm b).2).2=r2 at hl ⊢
 generalize aT b (jm b).2=r1 at hl ⊢
 generalize jm b=r0 at hl ⊢
 exact ay8 (c:=c) (b:=b) (m:=(r0.1,r1.1,r2.1,r3.1)) (s:=r3.2) (f:=fun m=>jG F0 c m) fun h=>B7 (hl h) c
theorem axE {b:List Int}(hb:dC b)(c:Int×Int):M3 F0 c b=some ((oJ c b).1,(oJ c b).2,()):=by
 have e0:bT F0 (b,0,false)=some (((jm b).1,()),Wu b (jm b).2,()):=nA hb (s:=(0,true)) (aV _)
 have h0:(jm b).2.1≤b.length:=(eM hb (s:=(0,true)) (aV _)).1
 have h1:=(eM hb h0).1
 have q:=Rn hb h1
 have hl:=ao0 hb
 rw[aos,e0,ai,nA hb h0,ai,avg hb h1,ai,Xm hb q.1,ai]
 unfold oJ
 unfold KH at hl ⊢
 generalize dE b (wZ b (aT b (jm b).2).2).2=r3 at hl ⊢
 generalize wZ b (aT b (jm b).2).2=r2 at hl ⊢
 generalize aT b (jm b).2=r1 at hl ⊢
 generalize jm b=r0 at hl ⊢
 exact ay8 (c:=c) (b:=b) (m:=(r0.1,r1.1,r2.1,r3.1)) (s:=r3.2) (f:=fun m=>ld F0 c m) fun h=>ES (hl h) c
def Ww (b:List Int)(i j:Nat):List Int:=(b.take j).drop i
theorem aee {b:List Int}(hb:dC b)(i j:Nat):dC (Ww b i j):=by
 have hl:=hb.1
 refine⟨?_,fun x hx=>hb.2 x (abG (ayX hx))⟩
 unfold Ww
 rw[bo,bQ]
 omega
theorem aDU {b:List Int}(hb:dC b):bytesOf (strOf b)=b:=by
 unfold bytesOf strOf
 simp only[List.map_map]
 refine(List.map_congr_left fun x hx=>?_).trans (List.map_id b)
 have:=hb.2 x hx
 simp only[Function.comp,id,UInt8.toNat_ofNat']
 omega
def GM (c:Int×Int)(b:List Int)(a:Nat):Option (bH×Nat):=match rO b a with
 |none=>none
 |some (v,a')=>if v≥(b.length:Int)-a' then none else if b.getD (a'+v.toNat) 0≠10 then none else if (oJ c (Ww b a' (a'+v.toNat))).2=true then some ((oJ c (Ww b a' (a'+v.toNat))).1,a'+v.toNat+1) else none
def ET (c:Int×Int)(b:List Int):Nat→bH→Nat→bH×Nat
 |0,s,a=>(s,a)
 |f+1,s,a=>match GM c b a with
  |none=>(s,a)
  |some (s',a')=>ET c b f s' a'
def fx (c:Int×Int)(b:List Int):bH×Nat:=ET c b (b.length+1) mc 0
theorem B8 {c:Int×Int}{b:List Int}{a:Nat}{v:Int}{a':Nat}(h:rO b a=some (v,a')):GM c b a =
  if v≥(b.length:Int)-a' then none else if b.getD (a'+v.toNat) 0≠10 then none else if (oJ c (Ww b a' (a'+v.toNat))).2=true then some ((oJ c (Ww b a' (a'+v.toNat))).1,a'+v.toNat+1) else none:=by
 unfold GM
 rw[h]
theorem B9 {c:Int×Int}{b:List Int}{a:Nat}(h:rO b a=none):GM c b a=none:=by
 unfold GM
 rw[h]
theorem ji {c:Int×Int}{b:List Int}{f:Nat}{s:bH}{a:Nat}(h:GM c b a=none):ET c b (f+1) s a=(s,a):=by
 unfold ET
 rw[h]
theorem Ca {c:Int×Int}{b:List Int}{f:Nat}{s s':bH}{a a':Nat}(h:GM c b a=some (s',a')):ET c b (f+1) s a=ET c b f s' a':=by
 rw[ET,h]
theorem axF {c:Int×Int}{b:List Int}(hb:dC b){a:Nat}(ha:a≤b.length){s:bH}{a':Nat}(h:GM c b a=some (s,a')):a<a'∧a'≤b.length∧ko s:=by
 cases hg:rO b a with
 |none=>rw[B9 hg]at h;cases h
 |some r =>
  obtain⟨v,a0⟩:=r
  have h0:=Xl hb ha hg
  have hs:=aGo (aee hb a0 (a0+v.toNat)) c
  rw[B8 hg]at h
  generalize oJ c (Ww b a0 (a0+v.toNat))=r at h hs
  split at h
  ·cases h
  ·rename_i hv
   split at h
   ·cases h
   ·split at h
    ·cases h
     exact⟨by omega,by omega,hs⟩
    ·cases h
theorem asD (c:Int×Int){b:List Int}(hb:dC b)(t4 t41 t42:Int)(t43 t44:ByteArray)(xs:List Int):∀(f:Nat) (s:bH) (a n:Nat),a≤b.length→b.length+1≤a+f→f<n →
  vF F0 (zr F0) n (qj b (a:Int) c.1 c.2 t4 t41 t42 t43 t44 s.1 s.2.1 s.2.2.1.1 s.2.2.1.2.1 s.2.2.2 xs s.2.2.1.2.2)=some ((ET c b f s a).1,((ET c b f s a).2:Int),())
 |0,s,a,n,ha,hf,hn=>by omega
 |f+1,s,a,n,ha,hf,hn=>by
  obtain⟨n,rfl⟩:∃m,n=m+1:=⟨n-1,by omega⟩
  have hl:=hb.1
  cases hg:rO b a with
  |none =>
   have law:kU F0 b (a:Int)=some (0,0,false,()):=by rw[aea hb ha,hg];rfl
   rw[Eo,law,ai,JS,ji (B9 hg)]
   rfl
  |some r =>
   obtain⟨v,a'⟩:=r
   have h0:=Xl hb ha hg
   have law:kU F0 b (a:Int)=some (v,(a':Int),true,()):=by rw[aea hb ha,hg];rfl
   have XD:=B8 (c:=c) hg
   rw[Eo,law,ai,JS]
   dsimp only
   rw[aK,aa,aH (n:=(b.length:Int)-a') (by omega) (by omega),show aj ((a':Int)+v)=((a'+v.toNat:Nat):Int) by rw[aH (by omega) (by omega)];omega]
   by_cases hv:v≥(b.length:Int)-a'
   ·rw[ak hv]at XD
    rw[aL hv,af,ji XD]
   ·have hi:a'+v.toNat<b.length:=by omega
    rw[ah hv]at XD
    rw[aR hv,aa,av hi,ae,mm]
    by_cases Qr:b.getD (a'+v.toNat) 0=10
    ·rw[ah (fun h=>h Qr)]at XD
     rw[show(b.getD (a'+v.toNat) 0 != 10)=false from RG.2 Qr,aa,Xi (by omega) (by omega),ae,show((c.1,c.2):Int×Int)=c from rfl,kH,kH,
      show((b.take (a'+v.toNat)).drop a')=Ww b a' (a'+v.toNat) from rfl,aAf (aee hb _ _),ai]
     dsimp only
     generalize oJ c (Ww b a' (a'+v.toNat))=r at XD ⊢
     cases hs:r.2 with
     |false =>
      rw[hs,ah (by decide)]at XD
      rw[eZ,af,ji XD]
     |true =>
      rw[hs,ak rfl]at XD
      rw[aK,aa,ao (by omega),Ca XD]
      exact asD c hb t4 t41 t42 t43 t44 xs f r.1 (a'+v.toNat+1) n (by omega) (by omega) (by omega)
    ·rw[ak Qr]at XD
     rw[DO.2 Qr,af,ji XD]
theorem avi {b:List Int}(hb:dC b)(c:Int×Int):C6 F0 c b=some ((fx c b).1,((fx c b).2:Int),()):=by
 have hl:=hb.1
 rw[afS,akb,ai]
 exact asD c hb 0 0 0 _ _ [] (b.length+1) mc 0 _ (aV _) (by omega) (by rw[ch];omega)
theorem aDV {b:List Int}{a:Nat}{v:Int}{a':Nat}(h:rO b a=some (v,a')):aa9 b a=if v>(b.length:Int)-a' then none else some (strOf (Ww b a' (a'+v.toNat)),a'+v.toNat):=by
 unfold aa9
 rw[h]
 rfl
theorem aDW {b:List Int}{a:Nat}(h:rO b a=none):aa9 b a=none:=by
 unfold aa9
 rw[h]
theorem ao1 (c:Int×Int){b:List Int}(hb:dC b)(t4 t41 t42:Int)(t43 t44:ByteArray)(xs:List Int):∀(f:Nat) (s:bH) (a n:Nat),a≤b.length→b.length+1≤a+f→f<n →
  pg F0 (qD F0) n (lA b (a:Int) c.1 c.2 t4 t41 t42 t43 t44 s.1 s.2.1 s.2.2.1.1 s.2.2.1.2.1 s.2.2.2 xs s.2.2.1.2.2)=some ((ET c b f s a).1,((ET c b f s a).2:Int),())
 |0,s,a,n,ha,hf,hn=>by omega
 |f+1,s,a,n,ha,hf,hn=>by
  obtain⟨n,rfl⟩:∃m,n=m+1:=⟨n-1,by omega⟩
  have hl:=hb.1
  have bad:og F0 b (a:Int)=some (al,0,false,())→GM c b a=none→pg F0 (qD F0) (n+1) (lA b (a:Int) c.1 c.2 t4 t41 t42 t43 t44 s.1 s.2.1 s.2.2.1.1 s.2.2.1.2.1 s.2.2.2 xs s.2.2.1.2.2)=some ((ET c b (f+1) s a).1,((ET c b (f+1) s a).2:Int),()):=by
   intro law XD
   rw[EN,law,ai,Kv,ji XD]
   rfl
  cases hg:rO b a with
  |none=>exact bad (by rw[Ig hb ha,aDW hg];rfl) (B9 hg)
  |some r =>
   obtain⟨v,a'⟩:=r
   have h0:=Xl hb ha hg
   have XD:=B8 (c:=c) hg
   have hT:=aDV hg
   by_cases hv0:v>(b.length:Int)-a'
   ·rw[ak hv0]at hT
    rw[ak (show v≥(b.length:Int)-a' by omega)]at XD
    exact bad (by rw[Ig hb ha,hT];rfl) XD
   ·rw[ah hv0]at hT
    have law:og F0 b (a:Int)=some (strOf (Ww b a' (a'+v.toNat)),((a'+v.toNat:Nat):Int),true,()):=by rw[Ig hb ha,hT];rfl
    rw[EN,law,ai,Kv]
    dsimp only
    rw[aK,aa]
    by_cases hv:v≥(b.length:Int)-a'
    ·rw[ak hv]at XD
     rw[aL (show((a'+v.toNat:Nat):Int)≥(b.length:Int) by omega),af,ji XD]
    ·have hi:a'+v.toNat<b.length:=by omega
     rw[ah hv]at XD
     rw[aR (show ¬((a'+v.toNat:Nat):Int)≥(b.length:Int) by omega),aa,av hi,ae,mm]
     by_cases Qr:b.getD (a'+v.toNat) 0=10
     ·have hsz:((strOf (Ww b a' (a'+v.toNat))).size:Int)≤1048576:=by
       have:=(aee hb a' (a'+v.toNat)).1
       show((((Ww b a' (a'+v.toNat)).map fun n=>UInt8.ofNat n.toNat).toArray.size:Nat):Int)≤1048576
       rw[List.size_toArray,tZ]
       omega
      rw[ah (fun h=>h Qr)]at XD
      rw[show(b.getD (a'+v.toNat) 0 != 10)=false from RG.2 Qr,aa,show((c.1,c.2):Int×Int)=c from rfl,aL (show((strOf (Ww b a' (a'+v.toNat))).size:Int)≤F0.mem by rw[aFM];omega),ae,aDU (aee hb _ _),axE (aee hb _ _),ai]
      dsimp only
      generalize oJ c (Ww b a' (a'+v.toNat))=r at XD ⊢
      cases hs:r.2 with
      |false =>
       rw[hs,ah (by decide)]at XD
       rw[eZ,af,ji XD]
      |true =>
       rw[hs,ak rfl]at XD
       rw[aK,aa,ao (by omega),Ca XD]
       exact ao1 c hb t4 t41 t42 t43 t44 xs f r.1 (a'+v.toNat+1) n (by omega) (by omega) (by omega)
     ·rw[ak Qr]at XD
      rw[DO.2 Qr,af,ji XD]
theorem NT {b:List Int}(hb:dC b)(c:Int×Int):pL F0 c b=some ((fx c b).1,((fx c b).2:Int),()):=by
 have hl:=hb.1
 rw[agD,akV,ai]
 exact ao1 c hb 0 0 0 _ _ [] (b.length+1) mc 0 _ (aV _) (by omega) (by rw[ch];omega)
theorem aCD (c:Int×Int){b:List Int}(hb:dC b):∀(f:Nat) (s:bH) (a:Nat),a≤b.length→ko s→ko (ET c b f s a).1
 |0,_,_,_,h=>h
 |f+1,s,a,ha,h=>by
  cases hn:GM c b a with
  |none =>
   rw[ji hn]
   exact h
  |some r =>
   obtain⟨s',a'⟩:=r
   have:=axF hb ha hn
   rw[Ca hn]
   exact aCD c hb f s' a' this.2.1 this.2.2
theorem ao2 (c:Int×Int){b:List Int}(hb:dC b):ko (fx c b).1:=aCD c hb _ _ _ (aV _) asC
def iI (a b:bH):Bool:=(a.1==b.1)&&((a.2.1==b.2.1)&&(gS a.2.2.1 b.2.2.1&&(a.2.2.2.toList==b.2.2.2.toList)))
theorem avj {a b:bH}(ha:ko a)(hb:ko b):CN F0 a b=some (iI a b,()):=by
 rw[afy,agQ ha.1 hb.1,ai]
 unfold iI
 cases (a.1==b.1)<;>cases (a.2.1==b.2.1)<;>cases gS a.2.2.1 b.2.2.1<;>rfl
theorem NU {a b:bH}(ha:ko a):pJ F0 a b=some (iI a b,()):=by
 rw[agh,KD ha.1,ai]
 unfold iI
 cases (a.1==b.1)<;>cases (a.2.1==b.2.1)<;>cases gS a.2.2.1 b.2.2.1<;>rfl
def aCE (c:Int×Int)(r:aD):Bool:=nz c r&&(iI (fx c r.2.2.2.2.2.2.1.1).1 r.2.2.2.1&&(((fx c r.2.2.2.2.2.2.1.1).2:Int)==(r.2.2.2.2.2.2.1.1.length:Int)))
theorem aDX {r:aD}(h:aoS r)(hb:dC r.2.2.2.2.2.2.1.1)(c:Int×Int):IC F0 c r=some (aCE c r,()):=by
 rw[auT,NT hb,ai,eL h,ai,NU (ao2 c hb),ai]
 unfold aCE
 cases nz c r<;>cases iI (fx c r.2.2.2.2.2.2.1.1).1 r.2.2.2.1<;>rfl
end Go.Am.Tryz
