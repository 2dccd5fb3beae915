/- No condition. -/
import Derived.Test.YtaheoongenkdbaaGreatDoorQsXJL1
import Derived.Test.YtaheoongenkdbaaGreatDoorQsAmWf
set_option linter.all false
namespace Go.Am.Tryz
open Go.Am
def azQ {c:Int×Int}{view s:Int}(b:bq c=true)(d:0<=view)(e:0<=s)(h:s<=c.1-1):bG c view (Vc c view s)=s:=by
 have i:=b4 b;have f:=YK (view%c.1+s) (show c.1≠0 by omega);have j:=ajs (view%c.1+s) (show 0<c.1 by omega);unfold Vc;rw[ah ⟨b,d,e,h⟩];unfold bG;rw[ah ⟨b,d,f,by omega⟩];obtain⟨n,a⟩:=c;dsimp only at *;have g:n=4\/n=5\/n=6\/n=7:=by omega
 rcases g with rfl|rfl|rfl|rfl<;>omega
def aBF (c:Int×Int)(view:Int):bG c view (-1)=-1:=by unfold bG;rw[af (fun h=>by omega)]
def asz {c:Int×Int}{view i:Int}(h:0<=bG c view i):bq c=true/\0<=view/\bG c view i<=c.1-1:=by
 unfold bG at h ⊢;by_cases a:bq c=true/\0<=view/\0<=i/\i<=c.1-1
 .rw[ah a];have b:=b4 a.1;have d:=ajs (i+c.1-view%c.1) (show 0<c.1 by omega);exact⟨a.1,a.2.1,by omega⟩
 .rw[af a]at h;omega
def ayW {c:Int×Int}{view i:Int}(h:0<=bG c view i):bG c view (Ph c view i)<bG c view i:=by
 have a:=asz h;have d:=b4 a.1;unfold Ph;by_cases b:bG c view i<=0
 .rw[ah b,aBF];omega
 .have hd1:0<=(bG c view i-1)/c.2:=Int.ediv_nonneg (by omega) (by omega);have e:(bG c view i-1)/c.2<=bG c view i-1:=Int.ediv_le_self c.2 (by omega);rw[af b,azQ a.1 a.2.1 hd1 (by omega)];omega
def Df (c:Int×Int)(view:Int):Nat->Int->List Int
 |0,_=>[]|k+1,i=>if 0<=bG c view i then i::Df c view k (Ph c view i) else []
def acv (c:Int×Int)(view i:Int):List Int:=Df c view 8 i
def agK (c:Int×Int)(view:Int):∀(k:Nat) (i:Int),(Df c view k i).length<=k
 |0,_=>bP _|k+1,i=>by
  unfold Df;split
  .have:=agK c view k (Ph c view i);rw[aV];omega
  .exact aQ _
def ap1 (c:Int×Int)(view i:Int):(acv c view i).length<=8:=agK c view 8 i
def aup (c:Int×Int)(view:Int){γ:Type}(J:Ex->St->Option γ):∀(k:Nat) (i:Int) (xs:List Int) (n:Nat),bG c view i<k->xs.length+k<=1000->k<n ->
  PZ F0 J n (GJ view i c.1 c.2 xs)=J (.exit 0) (MQ (xs++Df c view k i))
 |0,i,xs,n,a,b,d=>by obtain⟨n,rfl⟩:∃m,n=m+1:=⟨n-1,by omega⟩;rw[Ro,show((c.1,c.2):Int×Int)=c from rfl,Ve,ag];dsimp only;rw[aK (show ¬bG c view i>=0 by omega),aa,Df,fS]
 |k+1,i,xs,n,a,b,d=>by
  obtain⟨n,rfl⟩:∃m,n=m+1:=⟨n-1,by omega⟩;rw[Ro,show((c.1,c.2):Int×Int)=c from rfl,Ve,ag];unfold Df;dsimp only;by_cases h:0<=bG c view i
  .have e:=ayW h;rw[aH (show bG c view i>=0 from h),ae,ah h,av (by omega) (by omega) (by rw[dr];omega),ad,aBE,ag];dsimp only;rw[aup c view J k (Ph c view i) (xs++[i]) n (by omega) (by rw[aL,dr];omega) (by omega),ik];rfl
  .rw[aK (show ¬bG c view i>=0 from h),aa,af h,fS]
def auq (c:Int×Int)(view:Int){γ:Type}(J:Ex->St->Option γ):∀(k:Nat) (i:Int) (xs:List Int) (n:Nat),bG c view i<k->xs.length+k<=1000->k<n ->
  Qa F0 J n (Hf view i c.1 c.2 xs)=J (.exit 0) (MZ (xs++Df c view k i))
 |0,i,xs,n,a,b,d=>by obtain⟨n,rfl⟩:∃m,n=m+1:=⟨n-1,by omega⟩;rw[Sc,show((c.1,c.2):Int×Int)=c from rfl,HS,ag];dsimp only;rw[aK (show ¬bG c view i>=0 by omega),aa,Df,fS]
 |k+1,i,xs,n,a,b,d=>by
  obtain⟨n,rfl⟩:∃m,n=m+1:=⟨n-1,by omega⟩;rw[Sc,show((c.1,c.2):Int×Int)=c from rfl,HS,ag];unfold Df;dsimp only;by_cases h:0<=bG c view i
  .have e:=ayW h;rw[aH (show bG c view i>=0 from h),ae,ah h,av (by omega) (by omega) (by rw[dr];omega),ad,ayV,ag];dsimp only;rw[auq c view J k (Ph c view i) (xs++[i]) n (by omega) (by rw[aL,dr];omega) (by omega),ik];rfl
  .rw[aK (show ¬bG c view i>=0 from h),aa,af h,fS]
def aC8 (c:Int×Int)(view i:Int):abk F0 c view i=some (acv c view i,()):=by have a:=V0 c view i;rw[at2,aup c view _ 8 i [] _ (by omega) (by rw[ba];omega) (by rw[bH];omega),ak3,Fc];rfl
def aBG (c:Int×Int)(view i:Int):ab0 F0 c view i=some (acv c view i,()):=by have a:=V0 c view i;rw[at6,auq c view _ 8 i [] _ (by omega) (by rw[ba];omega) (by rw[bH];omega),al1,Fc];rfl
def cmn (b a:List Int):Nat:=a.countP fun x=>decide (x∈b)
def aur (b a:List Int)(x:Int):cmn b (a++[x])=cmn b a+if x∈b then 1 else 0:=by
 unfold cmn;rw[List.countP_append,List.countP_singleton];by_cases h:x∈b
 .simp[h]
 .simp[h]
def aBH (b a:List Int):cmn b a<=a.length:=avP
def awI {a b:List Int}(f:a.length<=1048576)(g:b.length<=1048576):KO F0 a b=some ((cmn b a:Int),()):=by
 rw[ak4];refine cp (fun n i (q:Int)=>Cs F0 (EO F0) n (tG a b q i)) a.length (fun k q=>q=(cmn b (a.take k):Int)) _ (fun n k q c d=>.inr ⟨(cmn b (a.take (k+1)):Int),?_,rfl⟩) (fun n q d=>?_) _ 0 0 (aQ _) rfl (by rw[bH];omega)
 .have e:=aBH b (a.take k);rw[bz]at e;rw[IV,aO c,ae,ao c,ad,bb c,e3 (by omega),ag,hz c,aur,d,al (by omega)];dsimp only;rw[aoh];by_cases h:a[k]∈b
  .rw[aH h,ae,ag,ah h];dsimp only;rw[al (by omega)]
  .rw[aK h,aa,ag,af h];dsimp only;rw[aF (by omega) (by omega),Int.add_zero];rfl
 .rw[IV,aE,aa,abm,d,mH]
def aus {a b:List Int}(f:a.length<=1048576)(g:b.length<=1048576):LV F0 a b=some ((cmn b a:Int),()):=by
 rw[al2];refine cp (fun n i (q:Int)=>sB F0 (E5 F0) n (nd b q a (a.length:Int) i)) a.length (fun k q=>q=(cmn b (a.take k):Int)) _ (fun n k q c d=>.inr ⟨(cmn b (a.take (k+1)):Int),?_,rfl⟩) (fun n q d=>?_) _ 0 0 (aQ _) rfl (by rw[bH];omega)
 .have e:=aBH b (a.take k);rw[bz]at e;rw[Ju,aO c,ae,ao c,ad,bb c,eF (by omega),ag,hz c,aur,d,al (show k+1<=9223372036854775807 by omega)];dsimp only;by_cases h:a[k]∈b
  .rw[aH h,ae,ah h,al (by omega)]
  .rw[aK h,aa,af h];rfl
 .rw[Ju,aE,aa,ab2,d,mH]
def Srt (l:List Int):Prop:=l.Pairwise (·< ·)
structure aGg (c:Int×Int) (view:Int) (cC:List Int) (k:Nat) (xs:List (List Int)):Prop where
 len:(xs.length:Int)=c.1
 srt:∀i,0<=i->i<c.1->Srt (ay xs i [])
 mem:∀i x,0<=i->i<c.1->x∈ay xs i []->x∈cC/\0<=x/\x<c.1
 up:∀x,x∈cC->0<=x->x<c.1->(k:Int)<=bG c view x->∃a:Int,0<=a/\a<max k 1/\x∈ay xs (Vc c view a) []
abbrev bU:=Int×Int×cE×ByteArray
abbrev cG:=ByteArray×cE
abbrev ct:=Int×Int×cG×cE×cE×Int×dU
abbrev kr:=Int×ct
abbrev aA:=Int×Int×Int×bU×List dU×List cE×(List Int×Int)×List kr
abbrev nk:=Int×List Int
abbrev dG:=Int×ByteArray×Int
abbrev ak:=(Int×Int)×List Int×List aA×List nk×List dG
def Su {b:ByteArray}(h:b.size<=1048576):b.data.toList.length<=1073741824:=cj (Nat.le_of_eq (show b.data.toList.length=b.size from rfl)) (by omega)
def HT {b:ByteArray}(h:b.size<=1048576):eB F0 b=some (bw b.data.toList,()):=Qj (Su h)
def BI {b:ByteArray}(h:b.size<=1048576):eC F0 b=some (bw b.data.toList,()):=Mj (Su h)
def nK {b:ByteArray}(h:b.size<=1048576):df F0 b=some (aZ b.data.toList,()):=amy (Su h)
def py {b:ByteArray}(h:b.size<=1048576):dZ F0 b=some (aZ b.data.toList,()):=agH (Su h)
def sH (q:cE):Prop:=q.2.1.size<=1048576/\q.2.2.length<=1048576
def eK (c:Int×Int)(q:cE):Bool:=WQ c (q.1,q.2.1.data.toList,q.2.2)
def Ql {q:cE}(h:sH q)(c:Int×Int):iX F0 c q=some (eK c q,()):=aul (v:=q.1) (l:=q.2.1.data.toList) (s:=q.2.2) (Su h.1) (cj h.2 (by omega)) c
def Pj {q:cE}(h:sH q)(c:Int×Int):la F0 c q=some (eK c q,()):=apZ (v:=q.1) (l:=q.2.1.data.toList) (s:=q.2.2) (Su h.1) (cj h.2 (by omega)) c
def ch (c:Int×Int)(s:bU):Bool:=e4 0 60 s.1&&(e4 0 60 s.2.1&&(eK c s.2.2.1&&bw s.2.2.2.data.toList))
def lK (s:bU):Prop:=sH s.2.2.1/\s.2.2.2.size<=1048576
def BJ {s:bU}(h:lK s)(c:Int×Int):hO F0 c s=some (ch c s,()):=by rw[akv,cO,ag,cO,ag,Ql h.1,ag,HT h.2,ag];unfold ch;cases e4 0 60 s.1<;>cases e4 0 60 s.2.1<;>cases eK c s.2.2.1<;>rfl
def Eh {s:bU}(h:lK s)(c:Int×Int):jN F0 c s=some (ch c s,()):=by rw[alH,bM,ag,bM,ag,Pj h.1,ag,BI h.2,ag];unfold ch;cases e4 0 60 s.1<;>cases e4 0 60 s.2.1<;>cases eK c s.2.2.1<;>rfl
def aY {U:Type}{a:List U}{k:Nat}(h:k<a.length)(d:U):a.getD k d=a[k]:=by simp[List.getD,h]
def Vf {U:Type}(d:U)(p:U->Bool)(q:U->U->Bool)(l:List U):Bool:=(List.range l.length).all fun k=>p (l.getD k d)&&(decide (k=0) || q (l.getD (k-1) d) (l.getD k d))
def acw {V:Type}{k:Nat}(a b:Bool)(x y:V)(c:V)(d:0<k->c=br (!b) x y) :
  br (!a) x (br (decide ((k:Int)>0)) c y)=if (a&&(decide (k=0) || b))=true then y else x:=by
 cases a with
 |false=>rfl
 |true =>
  rw[aG,aa,hH];by_cases h:k=0
  .subst h;rfl
  .rw[aH (show(k:Int)>0 by omega),ae,aK h,va,d (by omega)];cases b<;>rfl
def oJ:dU:=(0,0,0,0)
def eL (a b:dU):Bool:=decide (a.1<b.1) || ((a.1==b.1)&&decide (a.2.2.2<b.2.2.2))
def acx (a b:dU):se F0 a b=some (eL a b,()):=by rw[adD];unfold eL;cases decide (a.1<b.1)<;>cases (a.1==b.1)<;>rfl
def asA (a b:dU):CH F0 a b=some (eL a b,()):=by rw[aei];unfold eL;cases decide (a.1<b.1)<;>cases (a.1==b.1)<;>rfl
def eI (p:List dU):Bool:=Vf oJ fB eL p&&decide ((p.length:Int)<=12)
def amC {p:List dU}(h:p.length<=1048576):Dq F0 p=some (eI p,()):=by
 rw[akw,kf (fun m k=>sf F0 (sR F0) m (mM p k)) p.length (fun k=>fB (p.getD k oJ)&&(decide (k=0) || eL (p.getD (k-1) oJ) (p.getD k oJ))) (some (decide ((p.length:Int)<=12),())) (some (false,())) (fun m k a=>?_) (fun m=>?_) _ (by rw[bH];omega)]
 .unfold eI Vf;cases (List.range p.length).all _<;>rfl
 .rw[Iq,aO a,ae,ao a,ad,bb a,Pd,ag,aY a,adE,al (by omega),ad];refine acw _ (eL (p.getD (k-1) oJ) p[k]) _ _ _ fun b=>?_
  rw[JO b (by omega),ao (show k-1<p.length by omega),ad,bb (show k-1<p.length by omega),acx,ag,aY (show k-1<p.length by omega)]
 .rw[Iq,aE,aa,aaT]
def Vg {p:List dU}(h:p.length<=1048576):vC F0 p=some (eI p,()):=by
 rw[alI,kf (fun m k=>so F0 (tT F0) m (mV p p (p.length:Int) k)) p.length (fun k=>fB (p.getD k oJ)&&(decide (k=0) || eL (p.getD (k-1) oJ) (p.getD k oJ))) (some (decide ((p.length:Int)<=12),())) (some (false,())) (fun m k a=>?_) (fun m=>?_) _ (by rw[bH];omega)]
 .unfold eI Vf;cases (List.range p.length).all _<;>rfl
 .rw[Jb,aO a,ae,ao a,ad,bb a,BE,ag,aY a,aek,al (by omega)];refine acw _ (eL (p.getD (k-1) oJ) p[k]) _ _ _ fun b=>?_
  rw[JO b (by omega),ao (show k-1<p.length by omega),ad,bb (show k-1<p.length by omega),asA,ag,aY (show k-1<p.length by omega)]
 .rw[Jb,aE,aa,abA]
def dk (b:ByteArray):Bool:=b.toList==aj.toList
def gM (c:Int×Int)(p:cE):Bool :=
 bq c&&(e4 1 60 p.1&&(lI c.1 p.2.2&&(!((p.2.2.length:Int)==0)&&(dk p.2.1 || (bw p.2.1.data.toList&&(aZ p.2.1.data.toList==p.1))))))
def Qm {p:cE}(h:sH p)(c:Int×Int):jD F0 c p=some (gM c p,()):=by rw[akx,gL,ag,cO,ag,ae9 (cj h.2 (by omega)),ag,HT h.1,ag,nK h.1,ag];unfold gM dk;cases bq c<;>cases e4 1 60 p.1<;>cases lI c.1 p.2.2<;>cases ((p.2.2.length:Int)==0)<;>cases (p.2.1.toList==aj.toList)<;>cases bw p.2.1.data.toList<;>rfl
def aEp (n:Nat):decide ((n:Int)>0)= !((n:Int)==0):=by
 cases n with
 |zero=>rfl
 |succ n =>
  rw[aH (by omega),bR.2 (by omega)];rfl
def Mk {p:cE}(h:sH p)(c:Int×Int):o9 F0 c p=some (gM c p,()):=by rw[alJ,fh,ag,bM,ag,ZP (cj h.2 (by omega)),ag,BI h.1,ag,py h.1,ag,aEp];unfold gM dk;dsimp only;generalize (aZ p.2.1.data.toList==p.1)=b;cases bq c<;>cases e4 1 60 p.1<;>cases lI c.1 p.2.2<;>cases ((p.2.2.length:Int)==0)<;>cases (p.2.1.toList==aj.toList)<;>cases bw p.2.1.data.toList<;>cases b<;>rfl
def b5:cE:=(0,aj,[])
def e7 (a b:cE):Bool:=decide (a.1<b.1) || ((a.1==b.1)&&Op.bytesLess a.2.1.toList b.2.1.toList)
def Yz (a b:cE):oR F0 a b=some (e7 a b,()):=by rw[aaU];unfold e7;cases decide (a.1<b.1)<;>cases (a.1==b.1)<;>rfl
def aC9 (x y:Int):Int:=if x<y then -1 else if x>y then 1 else 0
def agL (x y:Int):tU F0 x y=some (aC9 x y,()):=by
 rw[Zs,Ov,ag,Ov,ag,ajw,ajw,aa,aa];unfold aC9;by_cases h:x<y
 .rw[aH h,ae,ah h]
 .rw[aK h,aa,af h];by_cases a:x>y
  .rw[aH a,ae,ah a]
  .rw[aK a,aa,af a]
def aDa (x y:ByteArray):Int:=if Op.bytesLess x.toList y.toList=true then -1 else if (x.toList==y.toList)=true then 0 else 1
def acy (x y:ByteArray):mg F0 x y=some (aDa x y,()):=by rw[SH,FH,ag,FH,ag,apE,apE,aa,aa];unfold aDa;cases Op.bytesLess x.toList y.toList<;>cases (x.toList==y.toList)<;>rfl
def afb (a b:cE):∃r,eW F0 a b=some (r,())/\decide (r>=0)= !e7 a b:=by
 rw[DN,agL,ag,acy,ag];unfold e7 aC9 aDa;dsimp only;by_cases h:a.1<b.1
 .rw[ah h,aH h];exact⟨-1,rfl,rfl⟩
 .rw[af h,aK h,va];by_cases c:a.1>b.1
  .rw[ah c,bR.2 (show a.1≠b.1 by omega)];exact⟨1,rfl,rfl⟩
  .rw[af c,show a.1=b.1 by omega,aal];refine⟨_,rfl,?_⟩;cases Op.bytesLess a.2.1.toList b.2.1.toList<;>cases (a.2.1.toList==b.2.1.toList)<;>rfl
def ew (c:Int×Int)(l:List cE):Bool:=Vf b5 (gM c) e7 l&&decide ((l.length:Int)<=20)
def agM {l:List cE}(h:l.length<=1048576)(b:∀q∈l,sH q)(c:Int×Int):l5 F0 c l=some (ew c l,()):=by
 rw[ahj,kf (fun m k=>oS F0 (pK F0) m (kK l k c.1 c.2)) l.length (fun k=>gM c (l.getD k b5)&&(decide (k=0) || e7 (l.getD (k-1) b5) (l.getD k b5))) (some (decide ((l.length:Int)<=20),())) (some (false,())) (fun m k a=>?_) (fun m=>?_) _ (by rw[bH];omega)]
 .unfold ew Vf;cases (List.range l.length).all _<;>rfl
 .rw[Fg,aO a,ae,ao a,ad,bb a,show((c.1,c.2):Int×Int)=c from rfl,Qm (b _ (cy a)),ag,aY a,aaV,al (by omega),ad];refine acw _ (e7 (l.getD (k-1) b5) l[k]) _ _ _ fun d=>?_
  rw[JO d (by omega),ao (show k-1<l.length by omega),ad,bb (show k-1<l.length by omega),Yz,ag,aY (show k-1<l.length by omega)]
 .rw[Fg,aE,aa,Y7]
def acz {l:List cE}(h:l.length<=1048576)(b:∀q∈l,sH q)(c:Int×Int):jO F0 c l=some (ew c l,()):=by
 rw[aii,kf (fun m k=>pa F0 (qU F0) m (ld l l (l.length:Int) k c.1 c.2)) l.length (fun k=>gM c (l.getD k b5)&&(decide (k=0) || e7 (l.getD (k-1) b5) (l.getD k b5))) (some (decide ((l.length:Int)<=20),())) (some (false,())) (fun m k a=>?_) (fun m=>?_) _ (by rw[bH];omega)]
 .unfold ew Vf;cases (List.range l.length).all _<;>rfl
 .rw[FJ,aO a,ae,ao a,ad,bb a,show((c.1,c.2):Int×Int)=c from rfl,Mk (b _ (cy a)),ag,aY a,abB,al (by omega)];refine acw _ (e7 (l.getD (k-1) b5) l[k]) _ _ _ fun d=>?_
  rw[JO d (by omega),ao (show k-1<l.length by omega),ad,bb (show k-1<l.length by omega)];obtain⟨r,e,f⟩:=afb l[k-1] l[k];rw[e,ag,f,aY (show k-1<l.length by omega)]
 .rw[FJ,aE,aa,Zu]
def fk (d:List Int×Int):Bool:=decide ((d.1.length:Int)<=100000)&&e4 0 d.1.length d.2
def JQ (d:List Int×Int):lW F0 d=some (fk d,()):=by rw[aky,cO,ag];unfold fk;cases decide ((d.1.length:Int)<=100000)<;>rfl
def Ml (d:List Int×Int):pb F0 d=some (fk d,()):=by rw[alK,bM,ag];unfold fk;cases decide ((d.1.length:Int)<=100000)<;>rfl
def amD {a b:List Int}(j:a.length<=1048576)(l:b.length<=1048576):Ds F0 a b=some (decide (a=b),()):=by
 rw[akz,kf (fun m k=>B2 F0 (sT F0) m (sS a b k)) (min a.length b.length) (fun k=>a.getD k 0==b.getD k 0) (some ((a.length:Int)==(b.length:Int),())) (some (false,())) (fun m k n=>?_) (fun m=>?_) _ (by rw[bH];omega)]
 .by_cases c:a=b
  .rw[aH c,ah (hD.2 fun k _=>by rw[c];exact aal (b.getD k 0)),c,aal]
  .rw[aK c];by_cases e:a.length=b.length
   .rw[af];intro f;refine c (List.ext_getElem e fun k g i=>?_);have:=hD.1 f k (il.2 (by omega));simpa [List.getD,g,i]using this
   .rw[bR.2 (show(a.length:Int)≠(b.length:Int) by omega)];cases (List.range (min a.length b.length)).all _<;>rfl
 .rw[Ir,aO (show k<a.length by omega),ae,aO (show k<b.length by omega),ae,ao (show k<a.length by omega),ad,ao (show k<b.length by omega),ad,j5,j5,adF,al (by omega),awD];by_cases d:a.getD k 0=b.getD k 0
  .simp[d]
  .simp[d]
 .rw[Ir,aaW];rcases QJ a.length b.length with h|h
  .rw[YJ (by omega),aE,aa]
  .rw[Nat.min_eq_right h,aE,aa];cases decide ((b.length:Int)<(a.length:Int))<;>rfl
def gN (a b:cE):Bool:=(a.1==b.1)&&((a.2.1.toList==b.2.1.toList)&&decide (a.2.2=b.2.2))
def afc {a b:cE}(c:sH a)(d:sH b):vr F0 a b=some (gN a b,()):=by rw[akA,amD c.2 d.2,ag];unfold gN;cases (a.1==b.1)<;>cases (a.2.1.toList==b.2.1.toList)<;>rfl
def JR {a b:cE}(c:sH a):hU F0 a b=some (gN a b,()):=by rw[Ui,afa (cj c.2 (by omega)),ag];unfold gN;cases (a.1==b.1)<;>cases (a.2.1.toList==b.2.1.toList)<;>rfl
def aut {a b:cE}(c:sH a)(d:sH b):Gq F0 a b=some (gN a b,()):=by rw[ahk,amD c.2 d.2,ag];unfold gN;cases (a.1==b.1)<;>cases (a.2.1.toList==b.2.1.toList)<;>rfl
def asB {a b:cE}(c:sH a):CL F0 a b=some (gN a b,()):=by rw[aem,afa (cj c.2 (by omega)),ag];unfold gN;cases (a.1==b.1)<;>cases (a.2.1.toList==b.2.1.toList)<;>rfl
def nL (a b:cG):Bool:=(a.1.toList==b.1.toList)&&gN a.2 b.2
def aoM {a b:cG}(c:sH a.2)(d:sH b.2):wG F0 a b=some (nL a b,()):=by rw[aaY,afc c d,ag];unfold nL;cases (a.1.toList==b.1.toList)<;>rfl
def amE {a b:cG}(c:sH a.2):yC F0 a b=some (nL a b,()):=by rw[abD,JR c,ag];unfold nL;cases (a.1.toList==b.1.toList)<;>rfl
def afd (a b:dU):Bool:=(a.1==b.1)&&((a.2.1==b.2.1)&&((a.2.2.1==b.2.2.1)&&((a.2.2.2==b.2.2.2)&&true)))
def rH (a b:ct):Bool:=(a.1==b.1)&&((a.2.1==b.2.1)&&(nL a.2.2.1 b.2.2.1&&(gN a.2.2.2.1 b.2.2.2.1&&(gN a.2.2.2.2.1 b.2.2.2.2.1&&((a.2.2.2.2.2.1==b.2.2.2.2.2.1)&&afd a.2.2.2.2.2.2 b.2.2.2.2.2.2)))))
def fc (m:ct):Prop:=m.2.2.1.1.size<=1048576/\sH m.2.2.1.2/\sH m.2.2.2.1/\sH m.2.2.2.2.1
def auu {a b:ct}(c:fc a)(d:fc b):jE F0 a b=some (rH a b,()):=by rw[ahm,aoM c.2.1 d.2.1,ag,aut c.2.2.1 d.2.2.1,ag,afc c.2.2.2 d.2.2.2,ag];unfold rH afd;dsimp only;generalize ((a.2.2.2.2.2.2.1==b.2.2.2.2.2.2.1)&&((a.2.2.2.2.2.2.2.1==b.2.2.2.2.2.2.2.1)&&((a.2.2.2.2.2.2.2.2.1==b.2.2.2.2.2.2.2.2.1)&&((a.2.2.2.2.2.2.2.2.2==b.2.2.2.2.2.2.2.2.2)&&true))))=t;cases (a.1==b.1)<;>cases (a.2.1==b.2.1)<;>cases nL a.2.2.1 b.2.2.1<;>cases gN a.2.2.2.1 b.2.2.2.1<;>cases gN a.2.2.2.2.1 b.2.2.2.2.1<;>cases (a.2.2.2.2.2.1==b.2.2.2.2.2.1)<;>rfl
def asC {a b:ct}(c:fc a):G1 F0 a b=some (rH a b,()):=by rw[aij,amE c.2.1,ag,asB c.2.2.1,ag,JR c.2.2.2,ag];unfold rH afd;dsimp only;generalize ((a.2.2.2.2.2.2.1==b.2.2.2.2.2.2.1)&&((a.2.2.2.2.2.2.2.1==b.2.2.2.2.2.2.2.1)&&((a.2.2.2.2.2.2.2.2.1==b.2.2.2.2.2.2.2.2.1)&&((a.2.2.2.2.2.2.2.2.2==b.2.2.2.2.2.2.2.2.2)&&true))))=t;cases (a.1==b.1)<;>cases (a.2.1==b.2.1)<;>cases nL a.2.2.1 b.2.2.1<;>cases gN a.2.2.2.1 b.2.2.2.1<;>cases gN a.2.2.2.2.1 b.2.2.2.2.1<;>cases (a.2.2.2.2.2.1==b.2.2.2.2.2.1)<;>rfl
def Mm (a b:cE):gN a b=gN b a:=by
 unfold gN;rw[Fe (a:=a.1),Fe (a:=a.2.1.toList)]
 congr 2
 by_cases h:a.2.2=b.2.2
 .rw[aH h,aH h.symm]
 .rw[aK h,aK fun c=>h c.symm]
def asD (a b:ct):rH a b=rH b a:=by unfold rH nL afd;rw[Fe (a:=a.1),Fe (a:=a.2.1),Fe (a:=a.2.2.1.1.toList),Mm a.2.2.1.2,Mm a.2.2.2.1,Mm a.2.2.2.2.1,Fe (a:=a.2.2.2.2.2.1),Fe (a:=a.2.2.2.2.2.2.1),Fe (a:=a.2.2.2.2.2.2.2.1),Fe (a:=a.2.2.2.2.2.2.2.2.1),Fe (a:=a.2.2.2.2.2.2.2.2.2)]
def named (m:ct):ct :=
 if (m.1==1)=true then (m.1,0,m.2.2.1,b5,b5,0,oJ)
 else if (m.1==2)=true then (m.1,0,(aj,b5),m.2.2.2.1,b5,0,oJ)
 else if (m.1==3)=true then (m.1,m.2.1,(aj,b5),b5,m.2.2.2.2.1,m.2.2.2.2.2.1,oJ)
 else if (m.1==4)=true then (m.1,0,(aj,b5),b5,b5,0,m.2.2.2.2.2.2)
 else (m.1,0,(aj,b5),b5,b5,0,oJ)
def azR (m:ct):P3 F0 m=some (named m,()):=by rw[aou];unfold named;cases (m.1==1)<;>cases (m.1==2)<;>cases (m.1==3)<;>cases (m.1==4)<;>rfl
def dm:sH b5:=⟨aQ _,aQ _⟩
def aDb {m:ct}(h:fc m):fc (named m):=by
 unfold named;split
 .exact⟨h.1,h.2.1,dm,dm⟩
 .split
  .exact⟨aQ _,dm,h.2.2.1,dm⟩
  .split
   .exact⟨aQ _,dm,dm,h.2.2.2⟩
   .split
    .exact⟨aQ _,dm,dm,dm⟩
    .exact⟨aQ _,dm,dm,dm⟩
def auv {m:ct}(h:fc m):Gr F0 m=some (rH (named m) m,()):=by
 have a:=auu (aDb h) h;rw[aho];unfold named b5 oJ at a;unfold named b5 oJ;by_cases b:(m.1==1)=true
 .rw[ah b]at a ⊢;rw[b,ae,a,ag]
 .rw[af b]at a ⊢;rw[HX.2 b,aa];by_cases c:(m.1==2)=true
  .rw[ah c]at a ⊢;rw[c,ae,a,ag]
  .rw[af c]at a ⊢;rw[HX.2 c,aa];by_cases d:(m.1==3)=true
   .rw[ah d]at a ⊢;rw[d,ae,a,ag]
   .rw[af d]at a ⊢;rw[HX.2 d,aa];by_cases e:(m.1==4)=true
    .rw[ah e]at a ⊢;rw[e,ae,a,ag]
    .rw[af e]at a ⊢;rw[HX.2 e,aa,a,ag]
def fH (l:List UInt8):Nat->Nat
 |0=>0|k+1=>if (((l.getD k 0).toNat:Int) != 47)=true then fH l k else k+1
def amF (l:List UInt8):∀k,fH l k<=k
 |0=>bP _|k+1=>by
  unfold fH;split
  .exact Nat.le_succ_of_le (amF l k)
  .exact bP _
def aBI {h n:Nat}(a:h<=n):QN 0 (h:Int) (n:Int)=true:=VZ (l:=0) (aQ _) a
def SM (l:List UInt8):List UInt8:=if bw l=true then l.take (fH l l.length-1) else []
def ayX (l:List UInt8){γ:Type}(J:Ex->St->Option γ):∀(k n:Nat),k<=l.length->k<=1073741824->k<n->Kp F0 J n (B3 (tx l) (k:Int))=J (.exit 0) (wH (tx l) (fH l k:Int))
 |0,n,a,b,c=>by obtain⟨n,rfl⟩:∃m,n=m+1:=⟨n-1,by omega⟩;rw[NH];rfl
 |k+1,n,a,b,c=>by
  obtain⟨n,rfl⟩:∃m,n=m+1:=⟨n-1,by omega⟩;rw[NH,aH (show((k+1:Nat):Int)>0 by omega),ae,JO (by omega) (by omega),show k+1-1=k from rfl,bs,ao (by omega),ad,VX];unfold fH;by_cases h:(((l.getD k 0).toNat:Int) != 47)=true
  .rw[h,ae,ah rfl,ayX l J k n (by omega) (by omega) (by omega)]
  .rw[HX.2 h,aa,af (by decide)]
def aBJ {l:List UInt8}(h:l.length<=1048576):kL F0 (tx l)=some (tx (SM l),()):=by
 rw[arH,Qj (by omega),ag];unfold SM;dsimp only;cases bw l with
 |false=>rfl
 |true =>
  have c:=amF l l.length;rw[aG,aa,bs,ayX l _ l.length _ (bP _) (by omega) (by rw[bH];omega),ahq,ah rfl,Xo];have b:br (decide (ai ((fH l l.length:Int)-1)>0)) (some (ai ((fH l l.length:Int)-1),())) (some ((0:Int),()))=some (((fH l l.length-1:Nat):Int),()):=by
   rw[aF (by omega) (by omega)];by_cases a:(fH l l.length:Int)-1>0
   .rw[aH a,ae,show(fH l l.length:Int)-1=((fH l l.length-1:Nat):Int) by omega]
   .rw[aK a,aa,show fH l l.length-1=0 by omega];rfl
  rw[b,ag];dsimp only;rw[bs,aBI (by omega),ad,kC,show(0:Int).toNat=0 from rfl,Mi,aam,SR]
def ap3 (l:List UInt8):∀(k n:Nat),k<=l.length->k<=1073741824->k<n->eb F0 (fi F0) n (dv (tx l) 47 ((k:Int)-1))=some ((fH l k:Int)-1,())
 |0,n,a,b,c=>by obtain⟨n,rfl⟩:∃m,n=m+1:=⟨n-1,by omega⟩;rw[iD];rfl
 |k+1,n,a,b,c=>by
  obtain⟨n,rfl⟩:∃m,n=m+1:=⟨n-1,by omega⟩;rw[show((k+1:Nat):Int)-1=(k:Int) by omega,iD,aH (show(k:Int)>=0 by omega),ae,bs,ao (by omega),ad,VX,aF (by omega) (by omega),yE];unfold fH;by_cases h:((l.getD k 0).toNat:Int)=47
  .rw[h,show((47:Int)==47)=true from rfl,ae,show((47:Int) != 47)=false from rfl,af (by decide),show((k+1:Nat):Int)-1=(k:Int) by omega]
  .rw[bR.2 h,aa,Dk.2 h,ah rfl,ap3 l k n (by omega) (by omega) (by omega)]
def awJ {c x:UInt8}{l:List UInt8}{ps:List (List UInt8)}(h:parts c (x::l)=[]::ps):x=c:=by
 unfold parts at h;split at h
 .assumption
 .split at h
  .cases (vS h).1
  .cases (vS h).1
def amG {l:List UInt8}(h:bw l=true)(b:l≠[]):∃t,l=47::t:=by
 cases l with
 |nil=>exact absurd rfl b
 |cons x t =>
  refine⟨t,?_⟩;unfold bw bO at h;rw[af b]at h;cases a:parts 47 (x::t) with
  |nil=>exact absurd a (Ee _ _)
  |cons c g =>
   rw[a]at h;dsimp only at h;split at h
   .cases h
   .rename_i d;have e:c=[]:=atg fun f=>d (.inl f)
    subst e;rw[awJ a]
def afe {t:List UInt8}:∀k,0<k->0<fH (47::t) k
 |0,h=>absurd h (SQ _)|1,_=>by unfold fH;rw[show((((47::t).getD 0 0:UInt8).toNat:Int) != 47)=false from rfl,af (by decide)];exact adh _
 |k+2,_=>by
  unfold fH;split
  .exact afe (k+1) (adh _)
  .exact adh _
def azS {l:List UInt8}(h:l.length<=1048576):qV F0 (tx l)=some (tx (SM l),()):=by
 rw[arZ,Mj (by omega),ag,asv,Pc];unfold SM;dsimp only;cases b:bw l with
 |false=>rfl
 |true =>
  rw[aG,aa,ah rfl];by_cases a:l=[]
  .subst a;rfl
  .have c:=amF l l.length;have d:0<fH l l.length:=by obtain⟨t,rfl⟩:=amG b a;exact afe _ (adh _)
   rw[aK a,aa,MT,Bm,bs,aF (by omega) (by omega),ap3 l l.length _ (bP _) (by omega) (by rw[bH];omega),ag,ag];dsimp only;rw[show(fH l l.length:Int)-1=((fH l l.length-1:Nat):Int) by omega,aBI (by omega),ad,kC,show(0:Int).toNat=0 from rfl,Mi,aam,SR]
def acA {b:ByteArray}(h:b.size<=1048576):kL F0 b=some (tx (SM b.data.toList),()):=aBJ (l:=b.data.toList) h
def acB {b:ByteArray}(h:b.size<=1048576):qV F0 b=some (tx (SM b.data.toList),()):=azS (l:=b.data.toList) h
def fm (c:Int×Int)(b:cG):Bool:=eK c b.2&&(bw b.1.data.toList&&(!dk b.1&&((tx (SM b.1.data.toList)).toList==b.2.2.1.toList)))
def Mn {b:cG}(a:b.1.size<=1048576)(d:sH b.2)(c:Int×Int):l6 F0 c b=some (fm c b,()):=by rw[ahr,Ql d,ag,HT a,ag,acA a,ag];unfold fm dk;cases eK c b.2<;>cases bw b.1.data.toList<;>cases (b.1.toList==aj.toList)<;>rfl
def Ht {b:cG}(a:b.1.size<=1048576)(d:sH b.2)(c:Int×Int):mh F0 c b=some (fm c b,()):=by rw[ail,Pj d,ag,BI a,ag,acB a,ag];unfold fm dk;cases eK c b.2<;>cases bw b.1.data.toList<;>cases (b.1.toList==aj.toList)<;>rfl
def dp (c:Int×Int)(m:ct):Bool:=bq c&&(rH (named m) m&&(if (m.1==1)=true then fm c m.2.2.1 else if (m.1==2)=true then gM c m.2.2.2.1&& !dk m.2.2.2.1.2.1
 else if (m.1==3)=true then e4 1 60 m.2.1&&(eK c m.2.2.2.2.1&&e4 0 (ai (c.1-1)) m.2.2.2.2.2.1) else (m.1==4)&&fB m.2.2.2.2.2.2))
def HU {m:ct}(h:fc m)(c:Int×Int):eR F0 c m=some (dp c m,()):=by rw[an9,gL,ag,auv h,ag,Mn h.1 h.2.1,ag,Qm h.2.2.1,ag,cO,ag,Ql h.2.2.2,ag,cO,ag,Pd,ag];unfold dp dk;dsimp only;cases bq c<;>cases rH (named m) m<;>cases (m.1==1)<;>cases (m.1==2)<;>cases (m.1==3)<;>cases (m.1==4)<;>cases gM c m.2.2.2.1<;>cases e4 1 60 m.2.1<;>cases eK c m.2.2.2.2.1<;>rfl
def JS {m:ct}(h:fc m)(c:Int×Int):fx F0 c m=some (dp c m,()):=by rw[aow,fh,ag,azR,ag,asC h,ag,Ht h.1 h.2.1,ag,Mk h.2.2.1,ag,bM,ag,Pj h.2.2.2,ag,bM,ag,BE,ag,asD];unfold dp dk;dsimp only;cases bq c<;>cases rH (named m) m<;>cases (m.1==1)<;>cases (m.1==2)<;>cases (m.1==3)<;>cases (m.1==4)<;>cases gM c m.2.2.2.1<;>cases e4 1 60 m.2.1<;>cases eK c m.2.2.2.2.1<;>rfl
def JT (c:Int×Int)(r:Int)(p:kr):Bool:=dp c p.2&&(e4 0 (ai (c.1-1)) p.1&& !(p.1==r))
def oF (c:Int×Int)(r:aA):Bool :=
 bq c&&(e4 0 (ai (c.1-1)) r.1&&(e4 1 60 r.2.1&&(e4 0 60 r.2.2.1&&(ch c r.2.2.2.1&&(eI r.2.2.2.2.1&&(ew c r.2.2.2.2.2.1&&(fk r.2.2.2.2.2.2.1&&(!decide ((r.2.2.2.2.2.2.2.length:Int)>30)&&r.2.2.2.2.2.2.2.all (JT c r.1)))))))))
structure aoN (r:aA):Prop where
 s:lK r.2.2.2.1
 p:r.2.2.2.2.1.length<=1048576
 t:r.2.2.2.2.2.1.length<=1048576
 tq:∀q∈r.2.2.2.2.2.1,sH q
 h:r.2.2.2.2.2.2.2.length<=1048576
 hm:∀q∈r.2.2.2.2.2.2.2,fc q.2
def asE:kr:=(0,0,0,(aj,b5),b5,b5,0,oJ)
def Pk (b:Bool):(if b=true then some (true,()) else some (false,()))=some (b,()):=by cases b<;>rfl
def gx {r:aA}(h:aoN r)(c:Int×Int):dj F0 c r=some (oF c r,()):=by
 have b:=h.h;rw[aoa,gL,ag,cO,ag,cO,ag,cO,ag,BJ h.s,ag,amC h.p,ag,agM h.t h.tq,ag,JQ,ag,
  kf (fun m k=>Gv F0 (wK F0) m (wI k c.1 c.2 r.1 r.2.1 r.2.2.1 r.2.2.2.1.1 r.2.2.2.1.2.1 r.2.2.2.1.2.2.1.1 r.2.2.2.1.2.2.1.2.1 r.2.2.2.1.2.2.1.2.2 r.2.2.2.1.2.2.2 r.2.2.2.2.1 r.2.2.2.2.2.1 r.2.2.2.2.2.2.1.1 r.2.2.2.2.2.2.1.2 r.2.2.2.2.2.2.2)) r.2.2.2.2.2.2.2.length
   (fun k=>JT c r.1 (r.2.2.2.2.2.2.2.getD k asE)) (some (true,())) (some (false,())) (fun m k a=>?_) (fun m=>?_) _ (by rw[bH];omega),JN,Pk]
 .unfold oF;cases bq c<;>cases e4 0 (ai (c.1-1)) r.1<;>cases e4 1 60 r.2.1<;>cases e4 0 60 r.2.2.1<;>cases ch c r.2.2.2.1<;>cases eI r.2.2.2.2.1<;>cases ew c r.2.2.2.2.2.1<;>cases fk r.2.2.2.2.2.2.1<;>cases decide ((r.2.2.2.2.2.2.2.length:Int)>30)<;>rfl
 .rw[Kq,aO a,ae,ao a,ad,bb a,show((c.1,c.2):Int×Int)=c from rfl,HU (h.hm _ (cy a)),ag,ad,cO,ag,ad,aY a,ahs,al (by omega)];unfold JT;cases dp c (r.2.2.2.2.2.2.2[k]).2<;>cases e4 0 (ai (c.1-1)) (r.2.2.2.2.2.2.2[k]).1<;>cases ((r.2.2.2.2.2.2.2[k]).1==r.1)<;>rfl
 .rw[Kq,aE,aa,adG]
def dV {r:aA}(h:aoN r)(c:Int×Int):cr F0 c r=some (oF c r,()):=by
 have b:=h.h;rw[aox,fh,ag,bM,ag,bM,ag,bM,ag,Eh h.s,ag,Vg h.p,ag,acz h.t h.tq,ag,Ml,ag,
  kf (fun m k=>G5 F0 (yH F0) m (yF r.2.2.2.2.2.2.2 (r.2.2.2.2.2.2.2.length:Int) k c.1 c.2 r.1 r.2.1 r.2.2.1 r.2.2.2.1.1 r.2.2.2.1.2.1 r.2.2.2.1.2.2.1.1 r.2.2.2.1.2.2.1.2.1 r.2.2.2.1.2.2.1.2.2 r.2.2.2.1.2.2.2 r.2.2.2.2.1 r.2.2.2.2.2.1 r.2.2.2.2.2.2.1.1 r.2.2.2.2.2.2.1.2 r.2.2.2.2.2.2.2)) r.2.2.2.2.2.2.2.length
   (fun k=>JT c r.1 (r.2.2.2.2.2.2.2.getD k asE)) (some (true,())) (some (false,())) (fun m k a=>?_) (fun m=>?_) _ (by rw[bH];omega),JN,Pk]
 .unfold oF;cases bq c<;>cases e4 0 (ai (c.1-1)) r.1<;>cases e4 1 60 r.2.1<;>cases e4 0 60 r.2.2.1<;>cases ch c r.2.2.2.1<;>cases eI r.2.2.2.2.1<;>cases ew c r.2.2.2.2.2.1<;>cases fk r.2.2.2.2.2.2.1<;>cases decide ((r.2.2.2.2.2.2.2.length:Int)>30)<;>rfl
 .rw[Ls,aO a,ae,ao a,ad,bb a,show((c.1,c.2):Int×Int)=c from rfl,JS (h.hm _ (cy a)),ag,bM,ag,aY a,aim,al (by omega)];unfold JT;cases dp c (r.2.2.2.2.2.2.2[k]).2<;>cases e4 0 (ai (c.1-1)) (r.2.2.2.2.2.2.2[k]).1<;>cases ((r.2.2.2.2.2.2.2[k]).1==r.1)<;>rfl
 .rw[Ls,aE,aa,aeo]
def acC {lo hi x:Int}:e4 lo hi x=decide (lo<=x/\x<=hi):=by unfold e4;by_cases a:lo<=x<;>by_cases b:x<=hi<;>simp[a,b]
def SK:Nat->List Int->Nat->Int->Option (Int×Nat)
 |0,_,_,_=>none|_+1,[],_,_=>none|j+1,x::xs,k,n=>if x<128 then (if (k≠0/\x=0)\/n+x*128 ^ k>2147483647 then none else some (n+x*128 ^ k,k+1)) else SK j xs (k+1) (n+x%128*128 ^ k)
def aDc (a:Nat):Option (Int×Nat)->Int×Int×Bool×Unit
 |some (v,c)=>(v,((a+c:Nat):Int),true,())|none=>(0,0,false,())
def aBK {k:Nat}(h:k<=4):(2:Int) ^ (min (ai (7*(k:Int))).toNat 64)=128 ^ k:=by
 have:k=0\/k=1\/k=2\/k=3\/k=4:=by omega
 rcases this with rfl|rfl|rfl|rfl|rfl<;>rfl
def Qn {k:Nat}(h:k<=4):(1:Int)<=128 ^ k/\(128:Int) ^ k<=268435456:=by
 have:k=0\/k=1\/k=2\/k=3\/k=4:=by omega
 rcases this with rfl|rfl|rfl|rfl|rfl<;>decide
def amH {d P:Int}(a:0<=d)(b:d<=127)(c:1<=P):0<=d*P/\d*P<=127*P:=⟨Int.mul_nonneg a (by omega),Int.mul_le_mul_of_nonneg_right b (by omega)⟩
def aEq {i n:Nat}(d:Nat)(h:n<2 ^ i):n ||| d*2 ^ i=n+d*2 ^ i:=by rw[Nat.or_comm,<-Nat.shiftLeft_eq,<-Nat.shiftLeft_add_eq_or_of_lt h,Nat.add_comm]
def aEr {k:Nat}(a:k<=4){n d:Int}(b:0<=n)(c:n<128 ^ k)(f:0<=d)(j:d<=127):((BitVec.ofInt 64 n ||| BitVec.ofInt 64 (d*128 ^ k)).toNat:Int)=n+d*128 ^ k:=by
 obtain⟨m,rfl⟩:=Int.eq_ofNat_of_zero_le b;obtain⟨e,rfl⟩:=Int.eq_ofNat_of_zero_le f;have g:(128:Int) ^ k=((2 ^ (7*k):Nat):Int):=by rw[Nat.pow_mul];exact(Int.natCast_pow 128 k).symm
 have h:=Qn a;rw[g]at c h ⊢;have i:m<2 ^ (7*k):=by omega
 have l:e*2 ^ (7*k)<=127*2 ^ (7*k):=Fa _ (by omega);have o:2 ^ (7*k)<=268435456:=by omega
 rw[show(e:Int)*((2 ^ (7*k):Nat):Int)=((e*2 ^ (7*k):Nat):Int) from(Int.natCast_mul _ _).symm,BitVec.ofInt_natCast,BitVec.ofInt_natCast,BitVec.toNat_or,BitVec.toNat_ofNat,BitVec.toNat_ofNat,aqE (by omega),aqE (by omega),aEq e i];omega
def dH (b:List Int):Prop:=b.length<=1048576/\∀x∈b,0<=x/\x<=255
def auw {b:List Int}(l:dH b)(a:Nat)(t:a<=b.length):∀(j k:Nat),j+k=5->∀(c:Int) (m:Nat),0<=c->c<128 ^ k->j<m ->
  B5 F0 (sX F0) m (sW b (a:Int) c (k:Int))=some (aDc a (SK j (b.drop (a+k)) k c))
 |0,k,u,c,m,o,p,v=>by obtain⟨m,rfl⟩:∃q,m=q+1:=⟨m-1,by omega⟩;rw[Iu,aK (by omega),aa,aa2];rfl
 |j+1,k,u,c,m,o,p,v=>by
  obtain⟨m,rfl⟩:∃q,m=q+1:=⟨m-1,by omega⟩;have B:=l.1;rw[Iu,aH (by omega),ae,aK (show ¬(a:Int)<0 by omega),aa,aF (n:=(b.length:Int)-k) (by omega) (by omega)];rcases QJ (a+k) b.length with hlt|w
  .have r:=l.2 b[a+k] (cy hlt);have y:=Qn (k:=k) (by omega);rw[aK (show ¬(a:Int)>=(b.length:Int)-k by omega),aa,show ai ((a:Int)+(k:Int))=((a+k:Nat):Int) by rw[aF (by omega) (by omega)];omega,ao hlt,ad,
    aH (show 0<=ai (7*(k:Int)) by rw[aF (by omega) (by omega)];omega),ad,bb hlt,aBK (by omega),QG hlt]
   generalize b[a+k]=x at r ⊢;rw[aF (n:=x) (by omega) (by omega),ajp (by omega),AX,AX];have z:=amH (d:=x%128) (P:=128 ^ k) (by omega) (by omega) y.1;rw[aF (n:=x%128*128 ^ k) (by omega) (by omega),aEr (by omega) o p (by omega) (by omega),aF (n:=c+x%128*128 ^ k) (by omega) (by omega)];unfold SK;by_cases g:x<128
   .have e:x%128=x:=Int.emod_eq_of_lt r.1 g;rw[e]at z ⊢;rw[aH g,ae,ah g,aF (n:=((a+k:Nat):Int)+1) (by omega) (by omega)];by_cases s:k=0
    .subst s;rw[show decide (((0:Nat):Int)>0)=false from rfl,aa];by_cases f:c+x*128 ^ 0>2147483647
     .rw[aH f,ae,ah (.inr f)];rfl
     .rw[aK f,aa,af (fun h=>h.elim (fun h=>h.1 rfl) f)];rfl
    .rw[aH (show(k:Int)>0 by omega),ae];by_cases i:x=0
     .rw[show(x==0)=true from bc.2 i,ae,ah (.inl ⟨s,i⟩)];rfl
     .rw[bR.2 i,aa];by_cases f:c+x*128 ^ k>2147483647
      .rw[aH f,ae,ah (.inr f)];rfl
      .rw[aK f,aa,af (fun h=>h.elim (fun h=>i h.2) f)];rfl
   .rw[aK g,aa,af g,al (by omega)];have A:c+x%128*128 ^ k<128 ^ (k+1):=by rw[QK];omega
    exact auw l a t j (k+1) (by omega) _ m (by omega) A (by omega)
  .rw[aH (show(a:Int)>=(b.length:Int)-k by omega),ae,AX,aqB w];rfl
def awK {b:List Int}(c:dH b){a:Nat}(d:a<=b.length):jF F0 b (a:Int)=some (aDc a (SK 5 (b.drop a) 0 0)):=by rw[akF];exact auw c a d 5 0 rfl 0 _ (by omega) (by decide) (by rw[bH];omega)
def acD:∀(k:Nat) (v:Int) (xs:List Int) (n:Nat),0<=v->v<128 ^ (k+1)->xs.length+k<=1000->k<n->k<=4 ->
  ∃a,sr F0 (tW F0) n (mY v xs)=some (xs++a,())/\a.length<=k+1/\(128 ^ k<=v->a.length=k+1)/\1<=a.length
 |0,v,xs,n,b,d,e,f,g=>by obtain⟨n,rfl⟩:∃m,n=m+1:=⟨n-1,by omega⟩;rw[mi,aK (show ¬v>=128 by have:(128:Int) ^ (0+1)=128:=rfl;omega),aa,om,av (by omega) (by omega) (by rw[dr];omega),ad];exact⟨_,rfl,bP _,fun _=>rfl,bP _⟩
 |k+1,v,xs,n,b,d,e,f,g=>by
  obtain⟨n,rfl⟩:∃m,n=m+1:=⟨n-1,by omega⟩;have l:=Qn (k:=k) (by omega);have o:(128:Int) ^ (k+1)=128 ^ k*128:=QK _ _;have p:(128:Int) ^ (k+1+1)=128 ^ (k+1)*128:=QK _ _;rw[mi];by_cases c:v>=128
  .rw[aH c,ae,av (by omega) (by omega) (by rw[dr];omega),ad,ao7 b,aF (n:=v/128) (by omega) (by omega)];obtain⟨a,i,q,j,r⟩:=acD k (v/128) (xs++[IntKind.wrap .u8 (ai (Int.tmod v 128+128))]) n (by omega) (by omega) (by rw[aL,dr];omega) (by omega) (by omega);refine⟨IntKind.wrap .u8 (ai (Int.tmod v 128+128))::a,i.trans (by rw[ik];rfl),by rw[aV];omega,fun h=>?_,by rw[aV];omega⟩;rw[aV,j (by omega)]
  .rw[aK c,aa,om,av (by omega) (by omega) (by rw[dr];omega),ad];exact⟨_,rfl,by rw[dr];omega,fun h=>by omega,bP _⟩
def awL (v:Int):∃c,eD F0 v=some (c,())/\∀(k:Nat) (a x:Int),k<=4->0<=a->a<128 ^ k->0<=x->x<128->v=a+x*128 ^ k ->
  ((c.length:Int) != ((k+1:Nat):Int))=decide ((k≠0/\x=0)\/v>2147483647):=by
 rw[Us,bM,ag,acC];by_cases b:0<=v/\v<=2147483647
 .rw[aH b,aG,aa];have n:(128:Int) ^ (4+1)=34359738368:=by decide
  obtain⟨g,i,_,_,_⟩:=acD 4 v [] F0.n b.1 (by omega) (by simp) (by rw[bH];omega) (by omega);refine⟨g,i,fun k a x e r s j t u=>?_⟩;have l:=Qn e;have D:(128:Int) ^ (k+1)=128 ^ k*128:=QK _ _;have w:=amH (d:=x) (P:=128 ^ k) j (by omega) l.1;obtain⟨c,o,E,n,F⟩:=acD k v [] F0.n b.1 (by omega) (by simp;omega) (by rw[bH];omega) e;rw[i]at o;have y:g=c:=by simpa using o
  subst y;by_cases f:k≠0/\x=0
  .rw[aH (.inl f),Dk];obtain⟨m,z⟩:=f;subst z;obtain⟨k,rfl⟩:∃q,k=q+1:=⟨k-1,by omega⟩;obtain⟨A,p,G,_,_⟩:=acD k v [] F0.n b.1 (by omega) (by simp;omega) (by rw[bH];omega) (by omega);rw[i]at p;have B:g=A:=by simpa using p
   subst B;omega
  .rw[aK (fun h=>h.elim f (by omega)),QH];by_cases m:k=0
   .subst m;omega
   .have C:1<=x:=by
     have:x≠0:=fun h=>f ⟨m,h⟩
     omega
    have:=Int.mul_le_mul_of_nonneg_right C (show(0:Int)<=128 ^ k by omega);rw[n (by omega)]
 .rw[aK b,dW,ae];refine⟨[],rfl,fun k a x e r s j t u=>?_⟩;have l:=Qn e;have w:=amH (d:=x) (P:=128 ^ k) j (by omega) l.1;rw[aH (.inr (by omega)),Dk];simp only[ba];omega
def auy {b:List Int}(h:dH b)(a:Nat)(p:a<=b.length):∀(j k:Nat),j+k=5->∀(c:Int) (m:Nat),0<=c->c<128 ^ k->j<m ->
  CR F0 (tY F0) m (tX b (a:Int) c (k:Int))=some (aDc a (SK j (b.drop (a+k)) k c))
 |0,k,r,c,m,l,o,s=>by obtain⟨m,rfl⟩:∃q,m=q+1:=⟨m-1,by omega⟩;rw[Jd,aK (by omega),aa,Lu];rfl
 |j+1,k,r,c,m,l,o,s=>by
  obtain⟨m,rfl⟩:∃q,m=q+1:=⟨m-1,by omega⟩;have A:=h.1;rw[Jd,aH (by omega),ae,show ai ((a:Int)+(k:Int))=((a+k:Nat):Int) by rw[aF (by omega) (by omega)];omega];rcases QJ (a+k) b.length with hlt|t
  .have i:=h.2 b[a+k] (cy hlt);have u:=Qn (k:=k) (by omega);rw[aO hlt,ae,ao hlt,ad,
    aH (show 0<=ai (7*(k:Int)) by rw[aF (by omega) (by omega)];omega),ad,bb hlt,aBK (by omega),QG hlt]
   generalize b[a+k]=x at i ⊢;rw[aF (n:=x) (by omega) (by omega),ajp (by omega),Oz,Oz];have v:=amH (d:=x%128) (P:=128 ^ k) (by omega) (by omega) u.1;rw[aF (n:=x%128*128 ^ k) (by omega) (by omega),aF (n:=c+x%128*128 ^ k) (by omega) (by omega),al (show k+1<=9223372036854775807 by omega)];unfold SK;by_cases f:x<128
   .have e:x%128=x:=Int.emod_eq_of_lt i.1 f;rw[e]at v ⊢;rw[aH f,ae,ah f,aF (n:=((a+k:Nat):Int)+1) (by omega) (by omega)];obtain⟨B,w,y⟩:=awL (c+x*128 ^ k);rw[w,ag];dsimp only;rw[y k c x (by omega) l o i.1 f rfl];by_cases g:(k≠0/\x=0)\/c+x*128 ^ k>2147483647
    .rw[aH g,ae,ah g];rfl
    .rw[aK g,aa,af g];rfl
   .rw[aK f,aa,af f];have z:c+x%128*128 ^ k<128 ^ (k+1):=by rw[QK];omega
    exact auy h a p j (k+1) (by omega) _ m (by omega) z (by omega)
  .rw[aK (show ¬((a+k:Nat):Int)<(b.length:Int) by omega),aa,Lu,aqB t];rfl
def auz {b:List Int}(c:dH b){a:Nat}(d:a<=b.length):vE F0 b (a:Int)=some (aDc a (SK 5 (b.drop a) 0 0)):=by
 have f:=c.1;rw[alN,bM,ag,acC,aF (by omega) (by omega)];rcases QJ a b.length with hlt|e
 .rw[aH (by omega),aG,aa];exact auy c a d 5 0 rfl 0 _ (by omega) (by decide) (by rw[bH];omega)
 .rw[aK (by omega),dW,ae,aqB e];rfl
def ayY:∀(j:Nat) (l:List Int) (k:Nat) (n:Int) (v:Int) (c:Nat),SK j l k n=some (v,c)->v<=2147483647/\k<c/\c<=k+l.length
 |0,_,_,_,_,_,h=>by cases h
 |_+1,[],_,_,_,_,h=>by cases h
 |j+1,x::l,k,n,v,c,h=>by
  unfold SK at h;split at h
  .split at h
   .cases h
   .rename_i a;cases h;exact⟨Int.not_lt.1 fun b=>a (.inr b),Nat.lt_succ_self _,by rw[aV];omega⟩
  .have:=ayY j l (k+1) _ v c h;rw[aV];exact⟨this.1,by omega,by omega⟩
def auA:∀(j:Nat) (l:List Int) (k:Nat) (n:Int) (v:Int) (c:Nat),(∀x∈l,0<=x)->0<=n->SK j l k n=some (v,c)->0<=v
 |0,_,_,_,_,_,_,_,h=>by cases h
 |_+1,[],_,_,_,_,_,_,h=>by cases h
 |j+1,x::l,k,n,v,c,a,f,h=>by
  have d:=a x J5;have b:(0:Int)<=128 ^ k:=Int.pow_nonneg (by omega);unfold SK at h;split at h
  .split at h
   .cases h
   .cases h;have:=Int.mul_nonneg d b;omega
  .have g:=Int.mul_nonneg (YK x (show(128:Int)≠0 by decide)) b;exact auA j l (k+1) _ v c (fun y e=>a y (rL _ e)) (by omega) h
abbrev Pl:=Nat×Bool
abbrev cell (b:List Int)(s:Pl):List Int×Int×Bool:=(b,(s.1:Int),s.2)
abbrev Vh (b:List Int)(s:Pl):List Int×Int×Bool:=(b,(s.1:Int),!s.2)
def r4 (b:List Int)(a:Nat):Option (Int×Nat):=match SK 5 (b.drop a) 0 0 with
 |some (v,c)=>some (v,a+c)|none=>none
def ZQ:Option (Int×Nat)->Int×Int×Bool×Unit
 |some (v,a)=>(v,(a:Int),true,())|none=>(0,0,false,())
def acE {b:List Int}(c:dH b){a:Nat}(d:a<=b.length):jF F0 b (a:Int)=some (ZQ (r4 b a)):=by rw[awK c d];unfold r4;cases SK 5 (b.drop a) 0 0<;>rfl
def ap4 {b:List Int}(c:dH b){a:Nat}(d:a<=b.length):vE F0 b (a:Int)=some (ZQ (r4 b a)):=by rw[auz c d];unfold r4;cases SK 5 (b.drop a) 0 0<;>rfl
def V2 {b:List Int}(f:dH b){a:Nat}(j:a<=b.length){v:Int}{a':Nat}(h:r4 b a=some (v,a')):0<=v/\v<=2147483647/\a<a'/\a'<=b.length:=by
 unfold r4 at h;split at h
 .rename_i k c d;cases h;have e:=ayY _ _ _ _ _ _ d;have g:=auA _ _ _ _ _ _ (fun x i=>(f.2 x (avR i)).1) (QL 0) d;rw[a1]at e;exact⟨g,e.1,by omega,by omega⟩
 .cases h
def aP (b:List Int)(s:Pl):Int×Pl:=match r4 b s.1 with
 |some (v,a)=>if s.2=true then (v,a,true) else (0,s.1,false)|none=>(0,s.1,false)
def rI {b:List Int}(c:dH b){s:Pl}(d:s.1<=b.length):cH F0 (cell b s)=some (((aP b s).1,()),cell b (aP b s).2,()):=by
 obtain⟨a,ok⟩:=s;rw[akG,acE c d,ag];unfold aP ZQ;dsimp only;cases r4 b a with
 |none=>rfl|some r=>cases ok<;>rfl
def lL {b:List Int}(c:dH b){s:Pl}(d:s.1<=b.length):bB F0 (Vh b s)=some (((aP b s).1,()),Vh b (aP b s).2,()):=by
 obtain⟨a,ok⟩:=s;rw[Zv,ap4 c d,ag];unfold aP ZQ;dsimp only;cases r4 b a with
 |none=>cases ok<;>rfl|some r=>cases ok<;>rfl
def dI {b:List Int}(d:dH b){s:Pl}(c:s.1<=b.length):(aP b s).2.1<=b.length/\((aP b s).2.2=true->s.1<(aP b s).2.1)/\0<=(aP b s).1/\(aP b s).1<=2147483647:=by
 unfold aP;split
 .rename_i v a h;have:=V2 d c h;split
  .exact⟨this.2.2.2,fun _=>this.2.2.1,this.1,this.2.1⟩
  .exact⟨c,(fun h=>by cases h),QL _,by omega⟩
 .exact⟨c,(fun h=>by cases h),QL _,by omega⟩
def ZR (b:List Int)(a:Nat):Option (ByteArray×Nat):=match r4 b a with
 |some (v,a)=>if v>(b.length:Int)-a then none else some (strOf ((b.take (a+v.toNat)).drop a),a+v.toNat)|none=>none
def awM:Option (ByteArray×Nat)->ByteArray×Int×Bool×Unit
 |some (v,a)=>(v,(a:Int),true,())|none=>(aj,0,false,())
def ap5 {b:List Int}(e:dH b){a:Nat}(f:a<=b.length) :
  br (!(ZQ (r4 b a)).2.2.1) (some (aj,0,false,())) (br (decide ((ZQ (r4 b a)).1>ai ((b.length:Int)-(ZQ (r4 b a)).2.1))) (some (aj,0,false,()))
   (ck (QN (ZQ (r4 b a)).2.1 (ai ((ZQ (r4 b a)).2.1+(ZQ (r4 b a)).1)) (b.length:Int)) (some (strOf ((b.take (ai ((ZQ (r4 b a)).2.1+(ZQ (r4 b a)).1)).toNat).drop (ZQ (r4 b a)).2.1.toNat),ai ((ZQ (r4 b a)).2.1+(ZQ (r4 b a)).1),true,()))))=some (awM (ZR b a)):=by
 have i:=e.1;unfold ZR;cases g:r4 b a with
 |none=>rfl
 |some r =>
  obtain⟨v,c⟩:=r;have h:=V2 e f g;show br (!true) _ (br (decide (v>ai ((b.length:Int)-(c:Int)))) _ (ck (QN (c:Int) (ai ((c:Int)+v)) (b.length:Int)) (some (strOf ((b.take (ai ((c:Int)+v)).toNat).drop (c:Int).toNat),ai ((c:Int)+v),true,()))))=some (awM (if v>(b.length:Int)-c then none else some (strOf ((b.take (c+v.toNat)).drop c),c+v.toNat)));rw[aG,aa,aF (n:=(b.length:Int)-c) (by omega) (by omega),aF (n:=(c:Int)+v) (by omega) (by omega)];by_cases d:v>(b.length:Int)-c
  .rw[aH d,ae,ah d];rfl
  .rw[aK d,aa,af d,show(c:Int)+v=((c+v.toNat:Nat):Int) by omega,VZ (by omega) (by omega),ad];simp only[kC,awM]
def auB {b:List Int}(c:dH b){a:Nat}(d:a<=b.length):Gw F0 b (a:Int)=some (awM (ZR b a)):=by rw[aht,acE c d,ag];exact ap5 c d
def Hu {b:List Int}(c:dH b){a:Nat}(d:a<=b.length):ml F0 b (a:Int)=some (awM (ZR b a)):=by rw[ain,ap4 c d,ag];exact ap5 c d
def aDd {b:List Int}(c:dH b){a:Nat}(e:a<=b.length){v:ByteArray}{a':Nat}(h:ZR b a=some (v,a')):v.size<=1048576/\a<a'/\a'<=b.length:=by
 have i:=c.1;unfold ZR at h;split at h
 .rename_i f d g;have j:=V2 c e g;split at h
  .cases h
  .rename_i k;cases h;refine⟨?_,by omega,by omega⟩;show(((b.take (d+f.toNat)).drop d).map fun n=>UInt8.ofNat n.toNat).toArray.size<=1048576;rw[List.size_toArray,r7,a1,bz];omega
 .cases h
def cZ (b:List Int)(s:Pl):ByteArray×Pl:=match ZR b s.1 with
 |some (v,a)=>if s.2=true then (v,a,true) else (aj,s.1,false)|none=>(aj,s.1,false)
def acF {b:List Int}(c:dH b){s:Pl}(d:s.1<=b.length):l7 F0 (cell b s)=some (((cZ b s).1,()),cell b (cZ b s).2,()):=by
 obtain⟨a,ok⟩:=s;rw[ahv,auB c d,ag];unfold cZ awM;dsimp only;cases ZR b a with
 |none=>rfl|some r=>cases ok<;>rfl
def V3 {b:List Int}(c:dH b){s:Pl}(d:s.1<=b.length):fy F0 (Vh b s)=some (((cZ b s).1,()),Vh b (cZ b s).2,()):=by
 obtain⟨a,ok⟩:=s;rw[WC,Hu c d,ag];unfold cZ awM;dsimp only;cases ZR b a with
 |none=>cases ok<;>rfl|some r=>cases ok<;>rfl
def vJ {b:List Int}(d:dH b){s:Pl}(c:s.1<=b.length):(cZ b s).2.1<=b.length/\(cZ b s).1.size<=1048576:=by
 unfold cZ;split
 .rename_i v a h;have:=aDd d c h;split
  .exact⟨this.2.2,this.1⟩
  .exact⟨c,aQ _⟩
 .exact⟨c,aQ _⟩
def iU (b:List Int)(n:Int):Nat->Int->Pl->List Int->List Int×Pl
 |0,_,s,xs=>(xs,s)|f+1,i,s,xs=>if i<n/\s.2=true then iU b n f (i+1) (aP b s).2 (xs++[(aP b s).1]) else (xs,s)
def AG (b:List Int)(s:Pl):List Int×Pl:=iU b (aP b s).1 (b.length+2) 0 (aP b s).2 []
def auC {b:List Int}(e:dH b)(a:Int){γ:Type}(J:Ex->St->Option γ):∀(f:Nat) (i:Int) (s:Pl) (xs:List Int) (m:Nat),s.1<=b.length->0<=i->i+f<=4194304->(s.2=true->b.length+2<=s.1+f)->xs.length+f<=4194304->f<m ->
  B8 F0 J m (sZ a i b (s.1:Int) s.2 xs)=J (.exit 0) (pM b ((iU b a f i s xs).2.1:Int) (iU b a f i s xs).2.2 (iU b a f i s xs).1)
 |0,i,s,xs,m,g,n,o,j,p,r=>by
  obtain⟨m,rfl⟩:∃q,m=q+1:=⟨m-1,by omega⟩;have c:s.2=false:=HX.2 fun h=>by have:=j h;omega
  rw[Iw];unfold iU;dsimp only;rw[c,aa];cases decide (i<a)<;>rfl
 |f+1,i,s,xs,m,g,n,o,j,p,r=>by
  obtain⟨m,rfl⟩:∃q,m=q+1:=⟨m-1,by omega⟩;rw[Iw];unfold iU;by_cases d:i<a
  .rw[aH d,ae];cases c:s.2 with
   |false =>
    rw[aa,af (fun h=>by cases h.2),c]
   |true =>
    have k:=rI e g;have l:=dI e g;unfold cell at k;rw[c]at k;rw[ae,ah ⟨d,rfl⟩,k,ag,av (by omega) (by omega) (by rw[dr];omega),ad,aF (by omega) (by omega)];exact auC e a J f (i+1) (aP b s).2 (xs++[(aP b s).1]) m l.1 (by omega) (by omega) (fun h=>by have:=l.2.1 h;have:=j c;omega) (by rw[aL,dr];omega) (by omega)
  .rw[aK d,aa,af (fun h=>d h.1)]
def auD {b:List Int}(e:dH b)(a:Int){γ:Type}(J:Ex->St->Option γ):∀(f:Nat) (i:Int) (s:Pl) (xs:List Int) (m:Nat),s.1<=b.length->0<=i->i+f<=4194304->(s.2=true->b.length+2<=s.1+f)->xs.length+f<=4194304->f<m ->
  mo F0 J m (jQ a i b (s.1:Int) (!s.2) xs)=J (.exit 0) (iL b ((iU b a f i s xs).2.1:Int) (!(iU b a f i s xs).2.2) (iU b a f i s xs).1)
 |0,i,s,xs,m,g,n,o,j,p,r=>by
  obtain⟨m,rfl⟩:∃q,m=q+1:=⟨m-1,by omega⟩;have c:s.2=false:=HX.2 fun h=>by have:=j h;omega
  rw[vF];unfold iU;dsimp only;rw[c];cases decide (i<a)<;>rfl
 |f+1,i,s,xs,m,g,n,o,j,p,r=>by
  obtain⟨m,rfl⟩:∃q,m=q+1:=⟨m-1,by omega⟩;rw[vF];unfold iU;by_cases d:i<a
  .rw[aH d,ae];cases c:s.2 with
   |false =>
    rw[af (fun h=>by cases h.2),c];rfl
   |true =>
    have k:=lL e g;have l:=dI e g;unfold Vh at k;rw[c]at k;rw[aG,dW,ae,ah ⟨d,rfl⟩,show(false:Bool)= !true from rfl,k,ag,av (by omega) (by omega) (by rw[dr];omega),ad,aF (by omega) (by omega)];exact auD e a J f (i+1) (aP b s).2 (xs++[(aP b s).1]) m l.1 (by omega) (by omega) (fun h=>by have:=l.2.1 h;have:=j c;omega) (by rw[aL,dr];omega) (by omega)
  .rw[aK d,aa,af (fun h=>d h.1)]
def ayZ {b:List Int}(a:dH b){s:Pl}(c:s.1<=b.length):Dt F0 (cell b s)=some (((AG b s).1,()),cell b (AG b s).2,()):=by have e:=a.1;have d:=dI a c;rw[akH,rI a c,ag];refine(auC a (aP b s).1 (EF F0) (b.length+2) 0 (aP b s).2 [] _ d.1 (QL _) (by omega) (fun _=>by omega) (by rw[ba];omega) (by rw[bH];omega)).trans ?_;rw[aa3];rfl
def auE {b:List Int}(a:dH b){s:Pl}(c:s.1<=b.length):lk F0 (Vh b s)=some (((AG b s).1,()),Vh b (AG b s).2,()):=by have e:=a.1;have d:=dI a c;rw[WD,lL a c,ag];refine(auD a (aP b s).1 (pc F0) (b.length+2) 0 (aP b s).2 [] _ d.1 (QL _) (by omega) (fun _=>by omega) (by rw[ba];omega) (by rw[bH];omega)).trans ?_;rw[P5];rfl
def awN (b:List Int)(n:Int)(f:Nat)(i:Int){s:Pl}(h:s.2=false)(xs:List Int):iU b n f i s xs=(xs,s):=by
 cases f with
 |zero=>rfl
 |succ f =>
  unfold iU;rw[af (fun a=>by rw[h]at a;cases a.2)]
def ap6 {b:List Int}(d:dH b)(n:Int):∀(f:Nat) (i:Int) (s:Pl) (xs:List Int),s.1<=b.length->(iU b n f i s xs).2.1<=b.length/\((iU b n f i s xs).2.2=true->(iU b n f i s xs).1.length+s.1<=xs.length+(iU b n f i s xs).2.1)
 |0,i,s,xs,a=>⟨a,fun _=>bP _⟩
 |f+1,i,s,xs,a=>by
  unfold iU;split
  .have e:=dI d a;have g:=ap6 d n f (i+1) (aP b s).2 (xs++[(aP b s).1]) e.1;refine⟨g.1,fun h=>?_⟩;cases c:(aP b s).2.2 with
   |false =>
    rw[awN b n f (i+1) c,c]at h;cases h
   |true =>
    have k:=e.2.1 c;have j:=g.2 h;rw[aL,dr]at j;omega
  .exact⟨a,fun _=>bP _⟩
def amI {b:List Int}(a:dH b){s:Pl}(c:s.1<=b.length):(AG b s).2.1<=b.length/\((AG b s).2.2=true->(AG b s).1.length<=1048576):=by have g:=a.1;have d:=dI a c;have h:=ap6 a (aP b s).1 (b.length+2) 0 (aP b s).2 [] d.1;refine⟨h.1,fun e=>?_⟩;have f:=h.2 e;have i:=h.1;rw[ba]at f;unfold AG;omega
def vN (b:List Int)(s:Pl):cE×Pl:=(((aP b s).1,(cZ b (aP b s).2).1,(AG b (cZ b (aP b s).2).2).1),(AG b (cZ b (aP b s).2).2).2)
def awO {b:List Int}(a:dH b){s:Pl}(c:s.1<=b.length):AY F0 (cell b s)=some (((vN b s).1,()),cell b (vN b s).2,()):=by have d:=(dI a c).1;have e:=(vJ a d).1;rw[aob,rI a c,ag,acF a d,ag,ayZ a e,ag];rfl
def asF {b:List Int}(a:dH b){s:Pl}(c:s.1<=b.length):ll F0 (Vh b s)=some (((vN b s).1,()),Vh b (vN b s).2,()):=by have d:=(dI a c).1;have e:=(vJ a d).1;rw[abG,lL a c,ag,V3 a d,ag,auE a e,ag];rfl
def Qo {b:List Int}(a:dH b){s:Pl}(e:s.1<=b.length):(vN b s).2.1<=b.length/\((vN b s).2.2=true->sH (vN b s).1):=by have f:=(dI a e).1;have c:=vJ a f;have d:=amI a c.1;exact⟨d.1,fun h=>⟨c.2,d.2 h⟩⟩
def ZS:ct:=(0,0,(aj,b5),b5,b5,0,oJ)
def fin (c:Int×Int)(b:List Int)(m:ct)(s:Pl):ct×Bool:=if s.2=true/\(s.1:Int)=(b.length:Int)/\dp c m=true then (m,true) else (ZS,false)
def acG {c:Int×Int}{b:List Int}{m:ct}{s:Pl}(h:s.2=true->fc m) :
  br (!s.2) (some (ZS,false,())) (br ((s.1:Int) != (b.length:Int)) (some (ZS,false,())) ((eR F0 c m).bind fun d=>br (!d.1) (some (ZS,false,())) (some (m,true,()))))=some ((fin c b m s).1,(fin c b m s).2,()):=by
 unfold fin;cases e:s.2 with
 |false =>
  rw[af (fun h=>by cases h.1)];rfl
 |true =>
  rw[aG,aa,HU (h e),ag];by_cases a:(s.1:Int)=(b.length:Int)
  .rw[show((s.1:Int) != (b.length:Int))=false from QH.2 a,aa];cases f:dp c m with
   |false =>
    rw[af (fun h=>by cases h.2.2)];rfl
   |true =>
    rw[ah ⟨rfl,a,rfl⟩];rfl
  .rw[Dk.2 a,ae,af (fun h=>a h.2.1)]
def Vi {c:Int×Int}{b:List Int}{m:ct}{s:Pl}(h:s.2=true->fc m) :
  br (!s.2) (some (ZS,false,())) (br ((s.1:Int) != (b.length:Int)) (some (ZS,false,())) ((fx F0 c m).bind fun d=>br (!d.1) (some (ZS,false,())) (some (m,true,()))))=some ((fin c b m s).1,(fin c b m s).2,()):=by
 unfold fin;cases e:s.2 with
 |false =>
  rw[af (fun h=>by cases h.1)];rfl
 |true =>
  rw[aG,aa,JS (h e),ag];by_cases a:(s.1:Int)=(b.length:Int)
  .rw[show((s.1:Int) != (b.length:Int))=false from QH.2 a,aa];cases f:dp c m with
   |false =>
    rw[af (fun h=>by cases h.2.2)];rfl
   |true =>
    rw[ah ⟨rfl,a,rfl⟩];rfl
  .rw[Dk.2 a,ae,af (fun h=>a h.2.1)]
def gQ (b:List Int):Int×Pl:=aP b (0,true)
def aDe (b:List Int):ct×Pl:=(((gQ b).1,0,((cZ b (gQ b).2).1,(vN b (cZ b (gQ b).2).2).1),b5,b5,0,oJ),(vN b (cZ b (gQ b).2).2).2)
def aDf (b:List Int):ct×Pl :=
 (((gQ b).1,0,(aj,b5),((aP b (gQ b).2).1,(cZ b (aP b (gQ b).2).2).1,(AG b (cZ b (aP b (gQ b).2).2).2).1),b5,0,oJ),(AG b (cZ b (aP b (gQ b).2).2).2).2)
def aDg (b:List Int):ct×Pl :=
 (((gQ b).1,(aP b (gQ b).2).1,(aj,b5),b5,(vN b (aP b (aP b (gQ b).2).2).2).1,(aP b (aP b (gQ b).2).2).1,oJ),(vN b (aP b (aP b (gQ b).2).2).2).2)
def aDh (b:List Int):ct×Pl :=
 (((gQ b).1,0,(aj,b5),b5,b5,0,(aP b (gQ b).2).1,(aP b (aP b (gQ b).2).2).1,(aP b (aP b (aP b (gQ b).2).2).2).1,(aP b (aP b (aP b (aP b (gQ b).2).2).2).2).1),(aP b (aP b (aP b (aP b (gQ b).2).2).2).2).2)
def aEs (b:List Int):ct×Pl:=(((gQ b).1,0,(aj,b5),b5,b5,0,oJ),(gQ b).2)
def acH (b:List Int):ct×Pl:=if ((gQ b).1==1)=true then aDe b else if ((gQ b).1==2)=true then aDf b else if ((gQ b).1==3)=true then aDg b else if ((gQ b).1==4)=true then aDh b else aEs b
def rU (c:Int×Int)(b:List Int):ct×Bool:=fin c b (acH b).1 (acH b).2
def ap7 {b:List Int}(a:dH b)(c:Int×Int):Iy F0 c b=some ((rU c b).1,(rU c b).2,()):=by
 have v:cH F0 (b,0,true)=some (((gQ b).1,()),cell b (gQ b).2,()):=rI a (s:=(0,true)) (aQ _);have i:(gQ b).2.1<=b.length:=(dI a (s:=(0,true)) (aQ _)).1;have j:=(dI a i).1;have k:=(dI a j).1;have w:=(dI a k).1;have t0:=vJ a i;have t1:=vJ a j;have l:=Qo a t0.1;have n:=Qo a k;have o:=amI a t1.1;rw[aoc,v,ag];unfold rU acH;dsimp only;by_cases p:((gQ b).1==1)=true
 .rw[p,ae,ah rfl,acF a i,ag,awO a t0.1,ag];unfold aDe;generalize vN b (cZ b (gQ b).2).2=e at l ⊢;generalize cZ b (gQ b).2=f at t0 ⊢;generalize gQ b=d;exact acG (c:=c) (b:=b) (m:=(d.1,0,(f.1,e.1),b5,b5,0,oJ)) (s:=e.2) fun h=>⟨t0.2,l.2 h,dm,dm⟩
 .rw[HX.2 p,aa,af (by decide)];by_cases q:((gQ b).1==2)=true
  .rw[q,ae,ah rfl,rI a i,ag,acF a j,ag,ayZ a t1.1,ag];unfold aDf;generalize AG b (cZ b (aP b (gQ b).2).2).2=g at o ⊢;generalize cZ b (aP b (gQ b).2).2=e at t1 ⊢;generalize aP b (gQ b).2=f;generalize gQ b=d;exact acG (c:=c) (b:=b) (m:=(d.1,0,(aj,b5),(f.1,e.1,g.1),b5,0,oJ)) (s:=g.2) fun h=>⟨aQ _,dm,⟨t1.2,o.2 h⟩,dm⟩
  .rw[HX.2 q,aa,af (by decide)];by_cases r:((gQ b).1==3)=true
   .rw[r,ae,ah rfl,rI a i,ag,rI a j,ag,awO a k,ag];unfold aDg;generalize vN b (aP b (aP b (gQ b).2).2).2=g at n ⊢;generalize aP b (aP b (gQ b).2).2=e;generalize aP b (gQ b).2=f;generalize gQ b=d;exact acG (c:=c) (b:=b) (m:=(d.1,f.1,(aj,b5),b5,g.1,e.1,oJ)) (s:=g.2) fun h=>⟨aQ _,dm,dm,n.2 h⟩
   .rw[HX.2 r,aa,af (by decide)];by_cases t:((gQ b).1==4)=true
    .rw[t,ae,ah rfl,rI a i,ag,rI a j,ag,rI a k,ag,rI a w,ag];unfold aDh;generalize aP b (aP b (aP b (aP b (gQ b).2).2).2).2=u;generalize aP b (aP b (aP b (gQ b).2).2).2=g;generalize aP b (aP b (gQ b).2).2=e;generalize aP b (gQ b).2=f;generalize gQ b=d;exact acG (c:=c) (b:=b) (m:=(d.1,0,(aj,b5),b5,b5,0,f.1,e.1,g.1,u.1)) (s:=u.2) fun h=>⟨aQ _,dm,dm,dm⟩
    .rw[HX.2 t,aa,af (by decide)];unfold aEs;generalize gQ b=d;exact acG (c:=c) (b:=b) (m:=(d.1,0,(aj,b5),b5,b5,0,oJ)) (s:=d.2) fun h=>⟨aQ _,dm,dm,dm⟩
def amJ {b:List Int}(a:dH b)(c:Int×Int):Jf F0 c b=some ((rU c b).1,(rU c b).2,()):=by
 have v:bB F0 (b,0,false)=some (((gQ b).1,()),Vh b (gQ b).2,()):=lL a (s:=(0,true)) (aQ _);have i:(gQ b).2.1<=b.length:=(dI a (s:=(0,true)) (aQ _)).1;have j:=(dI a i).1;have k:=(dI a j).1;have w:=(dI a k).1;have t0:=vJ a i;have t1:=vJ a j;have l:=Qo a t0.1;have n:=Qo a k;have o:=amI a t1.1;rw[aoy,v,ag];unfold rU acH;dsimp only;by_cases p:((gQ b).1==1)=true
 .rw[p,ae,ah rfl,V3 a i,ag,asF a t0.1,ag];unfold aDe;generalize vN b (cZ b (gQ b).2).2=e at l ⊢;generalize cZ b (gQ b).2=f at t0 ⊢;generalize gQ b=d;exact Vi (c:=c) (b:=b) (m:=(d.1,0,(f.1,e.1),b5,b5,0,oJ)) (s:=e.2) fun h=>⟨t0.2,l.2 h,dm,dm⟩
 .rw[HX.2 p,aa,af (by decide)];by_cases q:((gQ b).1==2)=true
  .rw[q,ae,ah rfl,lL a i,ag,V3 a j,ag,auE a t1.1,ag];unfold aDf;generalize AG b (cZ b (aP b (gQ b).2).2).2=g at o ⊢;generalize cZ b (aP b (gQ b).2).2=e at t1 ⊢;generalize aP b (gQ b).2=f;generalize gQ b=d;exact Vi (c:=c) (b:=b) (m:=(d.1,0,(aj,b5),(f.1,e.1,g.1),b5,0,oJ)) (s:=g.2) fun h=>⟨aQ _,dm,⟨t1.2,o.2 h⟩,dm⟩
  .rw[HX.2 q,aa,af (by decide)];by_cases r:((gQ b).1==3)=true
   .rw[r,ae,ah rfl,lL a i,ag,lL a j,ag,asF a k,ag];unfold aDg;generalize vN b (aP b (aP b (gQ b).2).2).2=g at n ⊢;generalize aP b (aP b (gQ b).2).2=e;generalize aP b (gQ b).2=f;generalize gQ b=d;exact Vi (c:=c) (b:=b) (m:=(d.1,f.1,(aj,b5),b5,g.1,e.1,oJ)) (s:=g.2) fun h=>⟨aQ _,dm,dm,n.2 h⟩
   .rw[HX.2 r,aa,af (by decide)];by_cases t:((gQ b).1==4)=true
    .rw[t,ae,ah rfl,lL a i,ag,lL a j,ag,lL a k,ag,lL a w,ag];unfold aDh;generalize aP b (aP b (aP b (aP b (gQ b).2).2).2).2=u;generalize aP b (aP b (aP b (gQ b).2).2).2=g;generalize aP b (aP b (gQ b).2).2=e;generalize aP b (gQ b).2=f;generalize gQ b=d;exact Vi (c:=c) (b:=b) (m:=(d.1,0,(aj,b5),b5,b5,0,f.1,e.1,g.1,u.1)) (s:=u.2) fun h=>⟨aQ _,dm,dm,dm⟩
    .rw[HX.2 t,aa,af (by decide)];unfold aEs;generalize gQ b=d;exact Vi (c:=c) (b:=b) (m:=(d.1,0,(aj,b5),b5,b5,0,oJ)) (s:=d.2) fun h=>⟨aQ _,dm,dm,dm⟩
structure JU (w:ak):Prop where
 l:w.2.1.length<=1048576
 r:w.2.2.1.length<=1048576
 rl:∀x∈w.2.2.1,aoN x
 n:w.2.2.2.1.length<=1048576
 nb:∀x∈w.2.2.2.1,dH x.2
 s:w.2.2.2.2.length<=1048576
 st:∀x∈w.2.2.2.2,x.2.1.size<=1048576
def awP (c:Int×Int):Ks F0 c=some (BG c,()):=by
 rw[akD,gL,ag];unfold BG;dsimp only;cases h:bq c with
 |false=>rfl
 |true =>
  have:=b4 h;have a:=auk this.1 this.2.1;have e:ai (c.1-1)=c.1-1:=aF (by omega) (by omega);rw[aG,aa,e,aF (n:=Int.tdiv (c.1-1) 3) (by omega) (by omega),ah rfl]
def amK:aA:=(0,0,0,(0,0,b5,aj),[],[],([],0),[])
def awQ:nk:=(0,[])
def ZT:dG:=(0,aj,0)
def amL (c:Int×Int)(l:List aA)(k:Nat):Bool:=oF c (l.getD k amK)&&((l.getD k amK).1==(k:Int))
def ZU (c:Int×Int)(l:List nk)(k:Nat):Bool:=(rU c (l.getD k awQ).2).2&&e4 0 (ai (c.1-1)) (l.getD k awQ).1
def ZV (c:Int×Int)(l:List dG)(k:Nat):Bool:=e4 0 (ai (c.1-1)) (l.getD k ZT).2.2&&(bw (l.getD k ZT).2.1.data.toList&&(aZ (l.getD k ZT).2.1.data.toList==(l.getD k ZT).1))
def amM (w:ak):Bool:=(List.range w.2.2.1.length).all (amL w.1 w.2.2.1)
def Hv (w:ak):Bool:=(List.range w.2.2.2.1.length).all (ZU w.1 w.2.2.2.1)
def rJ (w:ak):Bool:=(List.range w.2.2.2.2.length).all (ZV w.1 w.2.2.2.2)
def oG (w:ak):Bool :=
 bq w.1&&(lI w.1.1 w.2.1&&(!decide ((w.2.1.length:Int)>BG w.1)&&(!((w.2.2.1.length:Int) != w.1.1)&&(!decide ((w.2.2.2.1.length:Int)>60)&&(!decide ((w.2.2.2.2.length:Int)>300)&&(amM w&&(Hv w&&rJ w)))))))
def ajg (a b:Bool):(if a=true then some (b,()) else some (false,()))=some (a&&b,()):=by cases a<;>rfl
def awR {w:ak}(h:JU w):oT F0 (kO F0) F0.n (kN 0 w.1.1 w.1.2 w.2.1 w.2.2.1 w.2.2.2.1 w.2.2.2.2)=some (rJ w,()):=by
 have d:=h.s;rw[kf (fun m k=>oT F0 (kO F0) m (kN k w.1.1 w.1.2 w.2.1 w.2.2.1 w.2.2.2.1 w.2.2.2.2)) w.2.2.2.2.length (ZV w.1 w.2.2.2.2) (some (true,())) (some (false,())) (fun m k a=>?_) (fun m=>?_) _ (by rw[bH];omega),Pk]
 .rfl
 .have c:=h.st _ (cy a);rw[Fh,aO a,ae,ao a,ad,bb a,cO,ag,HT c,ag,nK c,ag,aa6,al (by omega)];unfold ZV;rw[aY a];dsimp only;cases e4 0 (ai (w.1.1-1)) (w.2.2.2.2[k]).2.2<;>cases bw (w.2.2.2.2[k]).2.1.data.toList<;>try rfl
  by_cases b:aZ (w.2.2.2.2[k]).2.1.data.toList=(w.2.2.2.2[k]).1
  .rw[show(aZ (w.2.2.2.2[k]).2.1.data.toList != (w.2.2.2.2[k]).1)=false from QH.2 b,show(aZ (w.2.2.2.2[k]).2.1.data.toList==(w.2.2.2.2[k]).1)=true from bc.2 b];rfl
  .rw[Dk.2 b,bR.2 b];rfl
 .rw[Fh,aE,aa,Y8]
def awS {w:ak}(h:JU w):oU F0 (kQ F0) F0.n (kP 0 w.1.1 w.1.2 w.2.1 w.2.2.1 w.2.2.2.1 w.2.2.2.2)=some (Hv w&&rJ w,()):=by
 have b:=h.n;rw[kf (fun m k=>oU F0 (kQ F0) m (kP k w.1.1 w.1.2 w.2.1 w.2.2.1 w.2.2.2.1 w.2.2.2.2)) w.2.2.2.1.length (ZU w.1 w.2.2.2.1) (some (rJ w,())) (some (false,())) (fun m k a=>?_) (fun m=>?_) _ (by rw[bH];omega),ajg]
 .rfl
 .rw[Fi,aO a,ae,ao a,ad,bb a,show((w.1.1,w.1.2):Int×Int)=w.1 from rfl,ap7 (h.nb _ (cy a)),ag,ad,cO,ag,aa7,al (by omega)];unfold ZU;rw[aY a];dsimp only;cases (rU w.1 (w.2.2.2.1[k]).2).2<;>cases e4 0 (ai (w.1.1-1)) (w.2.2.2.1[k]).1<;>rfl
 .rw[Fi,aE,aa,Y9,awR h]
def azT {w:ak}(h:JU w):oV F0 (kS F0) F0.n (kR 0 w.1.1 w.1.2 w.2.1 w.2.2.1 w.2.2.2.1 w.2.2.2.2)=some (amM w&&(Hv w&&rJ w),()):=by
 have c:=h.r;rw[kf (fun m k=>oV F0 (kS F0) m (kR k w.1.1 w.1.2 w.2.1 w.2.2.1 w.2.2.2.1 w.2.2.2.2)) w.2.2.1.length (amL w.1 w.2.2.1) (some (Hv w&&rJ w,())) (some (false,())) (fun m k a=>?_) (fun m=>?_) _ (by rw[bH];omega),ajg]
 .rfl
 .rw[Fj,aO a,ae,ao a,ad,bb a,ad,show((w.1.1,w.1.2):Int×Int)=w.1 from rfl,gx (h.rl _ (cy a)),ag,aa8,al (by omega)];unfold amL;rw[aY a];dsimp only;by_cases b:(w.2.2.1[k]).1=(k:Int)
  .rw[show((w.2.2.1[k]).1 != (k:Int))=false from QH.2 b,show((w.2.2.1[k]).1==(k:Int))=true from bc.2 b,aa,Bool.and_true];cases oF w.1 w.2.2.1[k]<;>rfl
  .rw[Dk.2 b,bR.2 b,ae,afF];rfl
 .rw[Fj,aE,aa,Za,awS h]
def auF {w:ak}(h:JU w):wM F0 w=some (oG w,()):=by rw[ahw,gL,ag,ae9 (cj h.l (by omega)),ag,awP,ag,azT h];unfold oG;cases bq w.1<;>cases lI w.1.1 w.2.1<;>cases decide ((w.2.1.length:Int)>BG w.1)<;>cases ((w.2.2.1.length:Int) != w.1.1)<;>cases decide ((w.2.2.2.1.length:Int)>60)<;>cases decide ((w.2.2.2.2.length:Int)>300)<;>rfl
def awT {w:ak}(h:JU w):pe F0 (lq F0) F0.n (ln w.2.2.2.2 (w.2.2.2.2.length:Int) 0 w.1.1 w.1.2)=some (rJ w,()):=by
 have d:=h.s;rw[kf (fun m k=>pe F0 (lq F0) m (ln w.2.2.2.2 (w.2.2.2.2.length:Int) k w.1.1 w.1.2)) w.2.2.2.2.length (ZV w.1 w.2.2.2.2) (some (true,())) (some (false,())) (fun m k a=>?_) (fun m=>?_) _ (by rw[bH];omega),Pk]
 .rfl
 .have c:=h.st _ (cy a);rw[FL,aO a,ae,ao a,ad,bb a,bM,ag,BI c,ag,py c,ag,abI,al (by omega)];unfold ZV;rw[aY a];dsimp only;cases e4 0 (ai (w.1.1-1)) (w.2.2.2.2[k]).2.2<;>cases bw (w.2.2.2.2[k]).2.1.data.toList<;>try rfl
  by_cases b:aZ (w.2.2.2.2[k]).2.1.data.toList=(w.2.2.2.2[k]).1
  .rw[show(aZ (w.2.2.2.2[k]).2.1.data.toList != (w.2.2.2.2[k]).1)=false from QH.2 b,show(aZ (w.2.2.2.2[k]).2.1.data.toList==(w.2.2.2.2[k]).1)=true from bc.2 b];rfl
  .rw[Dk.2 b,bR.2 b];rfl
 .rw[FL,aE,aa,Zw]
def awU {w:ak}(h:JU w):pf F0 (lu F0) F0.n (lr w.2.2.2.1 (w.2.2.2.1.length:Int) 0 w.1.1 w.1.2 w.2.1 w.2.2.1 w.2.2.2.1 w.2.2.2.2 w.1.1 w.1.2)=some (Hv w&&rJ w,()):=by
 have b:=h.n;rw[kf (fun m k=>pf F0 (lu F0) m (lr w.2.2.2.1 (w.2.2.2.1.length:Int) k w.1.1 w.1.2 w.2.1 w.2.2.1 w.2.2.2.1 w.2.2.2.2 w.1.1 w.1.2)) w.2.2.2.1.length (ZU w.1 w.2.2.2.1) (some (rJ w,())) (some (false,())) (fun m k a=>?_) (fun m=>?_) _ (by rw[bH];omega),ajg]
 .rfl
 .rw[FM,aO a,ae,ao a,ad,bb a,show((w.1.1,w.1.2):Int×Int)=w.1 from rfl,amJ (h.nb _ (cy a)),ag,bM,ag,abJ,al (by omega)];unfold ZU;rw[aY a];dsimp only;cases (rU w.1 (w.2.2.2.1[k]).2).2<;>cases e4 0 (ai (w.1.1-1)) (w.2.2.2.1[k]).1<;>rfl
 .rw[FM,aE,aa,Zx,awT h]
def azU {w:ak}(h:JU w):pg F0 (lx F0) F0.n (lv w.2.2.1 (w.2.2.1.length:Int) 0 w.1.1 w.1.2 w.2.1 w.2.2.1 w.2.2.2.1 w.2.2.2.2 w.1.1 w.1.2)=some (amM w&&(Hv w&&rJ w),()):=by
 have c:=h.r;rw[kf (fun m k=>pg F0 (lx F0) m (lv w.2.2.1 (w.2.2.1.length:Int) k w.1.1 w.1.2 w.2.1 w.2.2.1 w.2.2.2.1 w.2.2.2.2 w.1.1 w.1.2)) w.2.2.1.length (amL w.1 w.2.2.1) (some (Hv w&&rJ w,())) (some (false,())) (fun m k a=>?_) (fun m=>?_) _ (by rw[bH];omega),ajg]
 .rfl
 .rw[FN,aO a,ae,ao a,ad,bb a,show((w.1.1,w.1.2):Int×Int)=w.1 from rfl,dV (h.rl _ (cy a)),ag,abK,al (by omega)];unfold amL;rw[aY a];dsimp only;by_cases b:(w.2.2.1[k]).1=(k:Int)
  .rw[show((w.2.2.1[k]).1 != (k:Int))=false from QH.2 b,show((w.2.2.1[k]).1==(k:Int))=true from bc.2 b,aa,Bool.and_true];cases oF w.1 w.2.2.1[k]<;>rfl
  .rw[Dk.2 b,bR.2 b,ae,afF];cases oF w.1 w.2.2.1[k]<;>rfl
 .rw[FN,aE,aa,Zy,awU h]
def Ad {w:ak}(h:JU w):cY F0 w=some (oG w,()):=by rw[aio,fh,ag,ZP (cj h.l (by omega)),ag,agI,ag,azU h];unfold oG;cases bq w.1<;>cases lI w.1.1 w.2.1<;>cases decide ((w.2.1.length:Int)>BG w.1)<;>cases ((w.2.2.1.length:Int) != w.1.1)<;>cases decide ((w.2.2.2.1.length:Int)>60)<;>cases decide ((w.2.2.2.2.length:Int)>300)<;>rfl
structure aHR (r:aA):Prop where
 i1:I64 r.1
 i2:I64 r.2.1
 i3:I64 r.2.2.2.1.1
 i4:I64 r.2.2.2.1.2.1
 i5:I64 r.2.2.2.1.2.2.1.1
 d:r.2.2.2.1.2.2.2.size<=1048576
 p:r.2.2.2.2.1.length<=1048576
 t:r.2.2.2.2.2.1.length<=1048576
 h:r.2.2.2.2.2.2.2.length<=1048576
def nm (l:List Int):Nat->List Int
 |0=>[]|k+1=>nm l k++if (k:Int)∈l then [] else [(k:Int)]
def Qp (l:List Int):∀k,(nm l k).length<=k
 |0=>bP _|k+1=>by
  have:=Qp l k;unfold nm;split
  .rw[fS];omega
  .rw[aL,dr];omega
def aff (l:List Int):∀k,∀x∈nm l k,0<=x/\x<k
 |0,x,h=>by cases h
 |k+1,x,h=>by
  unfold nm at h;rcases kj.1 h with a|a
  .have:=aff l k x a;omega
  .split at a
   .cases a
   .rw[ki.1 a];omega
def b8 (w:ak):List Int:=nm w.2.1 w.2.2.1.length
def agN {V:Type}(X:List Int->V)(l xs:List Int)(k:Int):br (!decide (k∈l)) (X (xs++[k])) (X xs)=X (xs++if k∈l then [] else [k]):=by
 by_cases h:k∈l
 .rw[aH h,ah h,fS];rfl
 .rw[aK h,af h];rfl
def amN {w:ak}(h:JU w):DG F0 w=some (b8 w,()):=by
 have e:=h.r;have f:=h.l;rw[alj];refine cp (fun n i (a:List Int)=>nF F0 (tL F0) n (jj i w.1.1 w.1.2 w.2.1 w.2.2.1 w.2.2.2.1 w.2.2.2.2 a)) w.2.2.1.length (fun k a=>a=nm w.2.1 k) _ (fun n k a c b=>.inr ⟨nm w.2.1 (k+1),?_,rfl⟩) (fun n a b=>?_) _ 0 [] (aQ _) rfl (by rw[bH];omega)
 .have d:=Qp w.2.1 k;rw[<-b]at d;rw[I1,aO c,ae,e3 (by omega),ag,av (by omega) (by omega) (by rw[dr];omega),ad,al (by omega)];dsimp only;rw[agN (fun a=>nF F0 (tL F0) n (jj ((k+1:Nat):Int) w.1.1 w.1.2 w.2.1 w.2.2.1 w.2.2.2.1 w.2.2.2.2 a)),b];rfl
 .rw[I1,aE,aa,abv,b];rfl
def Mo {w:ak}(h:JU w):ph F0 w=some (b8 w,()):=by
 have e:=h.r;have f:=h.l;rw[alQ];refine cp (fun n i (a:List Int)=>nH F0 (ud F0) n (jr (w.2.2.1.length:Int) i w.1.1 w.1.2 w.2.1 w.2.2.1 w.2.2.2.1 w.2.2.2.2 a)) w.2.2.1.length (fun k a=>a=nm w.2.1 k) _ (fun n k a c b=>.inr ⟨nm w.2.1 (k+1),?_,rfl⟩) (fun n a b=>?_) _ 0 [] (aQ _) rfl (by rw[bH];omega)
 .have d:=Qp w.2.1 k;rw[<-b]at d;rw[Jm,aO c,ae,eF (by omega),ag,av (by omega) (by omega) (by rw[dr];omega),ad,al (by omega)];dsimp only;rw[agN (fun a=>nH F0 (ud F0) n (jr (w.2.2.1.length:Int) ((k+1:Nat):Int) w.1.1 w.1.2 w.2.1 w.2.2.1 w.2.2.2.1 w.2.2.2.2 a)),b];rfl
 .rw[Jm,aE,aa,abR,b];rfl
def ap8 {w:ak}{k:Nat}(a:k<(b8 w).length):∃j:Nat,(b8 w)[k]=(j:Int)/\j<w.2.2.1.length:=by have:=aff w.2.1 w.2.2.1.length _ (cy a);exact⟨(b8 w)[k].toNat,by show _=(((b8 w)[k]).toNat:Int);have b:0<=(b8 w)[k]:=this.1;omega,by have b:0<=(b8 w)[k]:=this.1;have c:(b8 w)[k]<w.2.2.1.length:=this.2;omega⟩
def aiZ (s t:ByteArray):Bool:=bw s.data.toList&&(bw t.data.toList&&(decide ((s.size:Int)>=(t.size:Int))&&(((s.extract 0 t.size).toList==t.toList)&&(((s.size:Int)==(t.size:Int)) || (iq s (t.size:Int)==47)))))
def auG {s t:ByteArray}(b:s.size<=1048576)(c:t.size<=1048576):GG F0 s t=some (aiZ s t,()):=by
 rw[ahN,HT b,ag,HT c,ag];unfold aiZ;dsimp only;cases bw s.data.toList<;>cases bw t.data.toList<;>try rfl
 rw[aG,aa,aa,hH,hH];by_cases d:t.size<=s.size
 .rw[aK (show ¬(t.size:Int)>(s.size:Int) by omega),aa,aH (show(s.size:Int)>=(t.size:Int) by omega),hH,aBI d,ad,kC,show(0:Int).toNat=0 from rfl];cases ((s.extract 0 t.size).toList==t.toList)<;>try rfl
  rw[aG,aa,hH];by_cases a:(s.size:Int)=(t.size:Int)
  .rw[show((s.size:Int)==(t.size:Int))=true from bc.2 a];rfl
  .rw[bR.2 a,aa,ao (by omega),ad];rfl
 .rw[aH (show(t.size:Int)>(s.size:Int) by omega),ae,aK (show ¬(s.size:Int)>=(t.size:Int) by omega)];rfl
def acI {s t:ByteArray}(b:s.size<=1048576)(c:t.size<=1048576):yV F0 s t=some (aiZ s t,()):=by
 rw[aiF,BI b,ag,BI c,ag,UL,MW];unfold aiZ;dsimp only;cases bw s.data.toList<;>cases bw t.data.toList<;>try rfl
 rw[ae,ae,hH,hH];by_cases d:t.size<=s.size
 .rw[aH (show(s.size:Int)>=(t.size:Int) by omega),hH,ae,aBI d,ad,kC,show(0:Int).toNat=0 from rfl,ag,ag];dsimp only;cases ((s.extract 0 t.size).toList==t.toList)<;>try rfl
  rw[ae,hH];by_cases a:(s.size:Int)=(t.size:Int)
  .rw[show((s.size:Int)==(t.size:Int))=true from bc.2 a];rfl
  .rw[bR.2 a,aa,ao (by omega),ad];rfl
 .rw[aK (show ¬(s.size:Int)>=(t.size:Int) by omega)];rfl
def aGh (a b:cE):Bool:=(a.1==b.1)&& !(a.2.1.toList==b.2.1.toList)
def okC (l:List cE)(i k:Nat):Bool:= !aGh (l.getD i b5) (l.getD k b5)
end Go.Am.Tryz
