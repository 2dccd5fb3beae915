/- No condition. -/
import Derived.Test.YtnllfndlcahalaaGreatDoorQvWJL1
import Derived.Test.YtnllfndlcahalaaGreatDoorQvAmWf
set_option linter.all false
namespace Go.Am.Tryz
open Go.Am
def aFI {c:Int×Int}{view s:Int}(b:bw c=true)(d:0<=view)(e:0<=s)(h:s<=c.1-1):bM c view (Ys c view s)=s:=by
 have i:=b5 b;have f:=VP (view%c.1+s) (show c.1≠0 by omega);have j:=anR (view%c.1+s) (show 0<c.1 by omega);unfold Ys;rw[ag ⟨b,d,e,h⟩];unfold bM;rw[ag ⟨b,d,f,by omega⟩];obtain⟨n,a⟩:=c;dsimp only at *;have g:n=4\/n=5\/n=6\/n=7:=by omega
 rcases g with rfl|rfl|rfl|rfl<;>omega
def aHG (c:Int×Int)(view:Int):bM c view (-1)=-1:=by unfold bM;rw[af (fun h=>by omega)]
def axF {c:Int×Int}{view i:Int}(h:0<=bM c view i):bw c=true/\0<=view/\bM c view i<=c.1-1:=by
 unfold bM at h ⊢;by_cases a:bw c=true/\0<=view/\0<=i/\i<=c.1-1
 .rw[ag a];have b:=b5 a.1;have d:=anR (i+c.1-view%c.1) (show 0<c.1 by omega);exact⟨a.1,a.2.1,by omega⟩
 .rw[af a]at h;omega
def aEE {c:Int×Int}{view i:Int}(h:0<=bM c view i):bM c view (RV c view i)<bM c view i:=by
 have a:=axF h;have d:=b5 a.1;unfold RV;by_cases b:bM c view i<=0
 .rw[ag b,aHG];omega
 .have hd1:0<=(bM c view i-1)/c.2:=Int.ediv_nonneg (by omega) (by omega);have e:(bM c view i-1)/c.2<=bM c view i-1:=Int.ediv_le_self c.2 (by omega);rw[af b,aFI a.1 a.2.1 hd1 (by omega)];omega
def E3 (c:Int×Int)(view:Int):Nat->Int->List Int
 |0,_=>[]|k+1,i=>if 0<=bM c view i then i::E3 c view k (RV c view i) else []
def ags (c:Int×Int)(view i:Int):List Int:=E3 c view 8 i
def akY (c:Int×Int)(view:Int):∀(k:Nat) (i:Int),(E3 c view k i).length<=k
 |0,_=>bF _|k+1,i=>by
  unfold E3;split
  .have:=akY c view k (RV c view i);rw[aW];omega
  .exact aR _
def auP (c:Int×Int)(view i:Int):(ags c view i).length<=8:=akY c view 8 i
def azH (c:Int×Int)(view:Int){γ:Type}(J:Ex->St->Option γ):∀(k:Nat) (i:Int) (xs:List Int) (n:Nat),bM c view i<k->xs.length+k<=1000->k<n ->
  SD F0 J n (IY view i c.1 c.2 xs)=J (.exit 0) (Pq (xs++E3 c view k i))
 |0,i,xs,n,a,b,d=>by obtain⟨n,rfl⟩:∃m,n=m+1:=⟨n-1,by omega⟩;rw[T9,show((c.1,c.2):Int×Int)=c from rfl,Yu,ai];dsimp only;rw[aQ (show ¬bM c view i>=0 by omega),aa,E3,fs]
 |k+1,i,xs,n,a,b,d=>by
  obtain⟨n,rfl⟩:∃m,n=m+1:=⟨n-1,by omega⟩;rw[T9,show((c.1,c.2):Int×Int)=c from rfl,Yu,ai];unfold E3;dsimp only;by_cases h:0<=bM c view i
  .have e:=aEE h;rw[aL (show bM c view i>=0 from h),ae,ag h,ar (by omega) (by omega) (by rw[cR];omega),ab,aHF,ai];dsimp only;rw[azH c view J k (RV c view i) (xs++[i]) n (by omega) (by rw[aK,cR];omega) (by omega),hS];rfl
  .rw[aQ (show ¬bM c view i>=0 from h),aa,af h,fs]
def azI (c:Int×Int)(view:Int){γ:Type}(J:Ex->St->Option γ):∀(k:Nat) (i:Int) (xs:List Int) (n:Nat),bM c view i<k->xs.length+k<=1000->k<n ->
  SP F0 J n (Jr view i c.1 c.2 xs)=J (.exit 0) (PA (xs++E3 c view k i))
 |0,i,xs,n,a,b,d=>by obtain⟨n,rfl⟩:∃m,n=m+1:=⟨n-1,by omega⟩;rw[UY,show((c.1,c.2):Int×Int)=c from rfl,J5,ai];dsimp only;rw[aQ (show ¬bM c view i>=0 by omega),aa,E3,fs]
 |k+1,i,xs,n,a,b,d=>by
  obtain⟨n,rfl⟩:∃m,n=m+1:=⟨n-1,by omega⟩;rw[UY,show((c.1,c.2):Int×Int)=c from rfl,J5,ai];unfold E3;dsimp only;by_cases h:0<=bM c view i
  .have e:=aEE h;rw[aL (show bM c view i>=0 from h),ae,ag h,ar (by omega) (by omega) (by rw[cR];omega),ab,aED,ai];dsimp only;rw[azI c view J k (RV c view i) (xs++[i]) n (by omega) (by rw[aK,cR];omega) (by omega),hS];rfl
  .rw[aQ (show ¬bM c view i>=0 from h),aa,af h,fs]
def aJu (c:Int×Int)(view i:Int):afb F0 c view i=some (ags c view i,()):=by have a:=Zq c view i;rw[azl,azH c view _ 8 i [] _ (by omega) (by rw[bm];omega) (by rw[bz];omega),apo,BO];rfl
def aHH (c:Int×Int)(view i:Int):afR F0 c view i=some (ags c view i,()):=by have a:=Zq c view i;rw[azo,azI c view _ 8 i [] _ (by omega) (by rw[bm];omega) (by rw[bz];omega),aqm,BO];rfl
def cmn (b a:List Int):Nat:=a.countP fun x=>decide (x∈b)
def azJ (b a:List Int)(x:Int):cmn b (a++[x])=cmn b a+if x∈b then 1 else 0:=by
 unfold cmn;rw[List.countP_append,List.countP_singleton];by_cases h:x∈b
 .simp[h]
 .simp[h]
def aHI (b a:List Int):cmn b a<=a.length:=List.countP_le_length
def aCf {a b:List Int}(f:a.length<=1048576)(g:b.length<=1048576):Nu F0 a b=some ((cmn b a:Int),()):=by
 rw[apq];refine cv (fun n i (q:Int)=>Ed F0 (GN F0) n (vh a b q i)) a.length (fun k q=>q=(cmn b (a.take k):Int)) _ (fun n k q c d=>.inr ⟨(cmn b (a.take (k+1)):Int),?_,rfl⟩) (fun n q d=>?_) _ 0 0 (aR _) rfl (by rw[bz];omega)
 .have e:=aHI b (a.take k);rw[bB]at e;rw[Lg,aM c,ae,an c,ab,aV c,fH (by omega),ai,ei c,azJ,d,al (by omega)];dsimp only;rw[as4];by_cases h:a[k]∈b
  .rw[aL h,ae,ai,ag h];dsimp only;rw[al (by omega)]
  .rw[aQ h,aa,ai,af h];dsimp only;rw[aH (by omega) (by omega),Int.add_zero];rfl
 .rw[Lg,aC,aa,afd,d,kl]
def azK {a b:List Int}(f:a.length<=1048576)(g:b.length<=1048576):Oq F0 a b=some ((cmn b a:Int),()):=by
 rw[aqn];refine cv (fun n i (q:Int)=>uj F0 (G6 F0) n (oL b q a (a.length:Int) i)) a.length (fun k q=>q=(cmn b (a.take k):Int)) _ (fun n k q c d=>.inr ⟨(cmn b (a.take (k+1)):Int),?_,rfl⟩) (fun n q d=>?_) _ 0 0 (aR _) rfl (by rw[bz];omega)
 .have e:=aHI b (a.take k);rw[bB]at e;rw[LO,aM c,ae,an c,ab,aV c,eD (by omega),ai,ei c,azJ,d,al (show k+1<=9223372036854775807 by omega)];dsimp only;by_cases h:a[k]∈b
  .rw[aL h,ae,ag h,al (by omega)]
  .rw[aQ h,aa,af h];rfl
 .rw[LO,aC,aa,afT,d,kl]
def Srt (l:List Int):Prop:=l.Pairwise (·< ·)
def azL {i x:Int}:∀{l:List Int},x∈ank i l↔x=i\/x∈l
 |[]=>by simp[ank]
 |y::l=>by
  unfold ank;split
  .rw[cS]
  .rw[cS,azL,cS];constructor
   .rintro(h|h|h)
    .exact .inr (.inl h)
    .exact .inl h
    .exact .inr (.inr h)
   .rintro(h|h|h)
    .exact .inr (.inl h)
    .exact .inl h
    .exact .inr (.inr h)
def aHJ {i x:Int}{l:List Int}:x∈RU l i↔x=i\/x∈l:=by
 unfold RU;split
 .rename_i h;exact⟨.inr,fun a=>a.elim (fun e=>e▸h) id⟩
 .exact azL
def Mm {x:Int}:∀(l a:List Int),x∈l.foldl RU a↔x∈a\/x∈l
 |[],a=>by simp
 |y::l,a=>by
  rw[avL,Mm l,aHJ,cS];constructor
  .rintro((h|h)|h)
   .exact .inr (.inl h)
   .exact .inl h
   .exact .inr (.inr h)
  .rintro(h|h|h)
   .exact .inl (.inr h)
   .exact .inl (.inl h)
   .exact .inr h
def aFJ {x:Int}{a b:List Int}:x∈agr a b↔x∈a\/x∈b:=by unfold agr;rw[Mm,Mm];simp
structure aMJ (c:Int×Int) (view:Int) (cw:List Int) (k:Nat) (xs:List (List Int)):Prop where
 len:(xs.length:Int)=c.1
 srt:∀i,0<=i->i<c.1->Srt (aI xs i [])
 mem:∀i x,0<=i->i<c.1->x∈aI xs i []->x∈cw/\0<=x/\x<c.1
 up:∀x,x∈cw->0<=x->x<c.1->(k:Int)<=bM c view x->∃a:Int,0<=a/\a<max k 1/\x∈aI xs (Ys c view a) []
abbrev bf:=Int×Int×bZ×ByteArray
abbrev cr:=ByteArray×bZ
abbrev b1:=Int×Int×cr×bZ×bZ×Int×dH
abbrev jC:=Int×b1
abbrev aw:=Int×Int×Int×bf×List dH×List bZ×(List Int×Int)×List jC
abbrev gD:=Int×List Int
abbrev cD:=Int×ByteArray×Int
abbrev ah:=(Int×Int)×List Int×List aw×List gD×List cD
def Vi {b:ByteArray}(h:b.size<=1048576):b.data.toList.length<=1073741824:=bY (Nat.le_of_eq (show b.data.toList.length=b.size from rfl)) (by omega)
def J6 {b:ByteArray}(h:b.size<=1048576):e6 F0 b=some (bg b.data.toList,()):=S2 (Vi h)
def Dd {b:ByteArray}(h:b.size<=1048576):e7 F0 b=some (bg b.data.toList,()):=OQ (Vi h)
def o7 {b:ByteArray}(h:b.size<=1048576):dt F0 b=some (aE b.data.toList,()):=aqX (Vi h)
def rF {b:ByteArray}(h:b.size<=1048576):ew F0 b=some (aE b.data.toList,()):=akU (Vi h)
def ur (q:bZ):Prop:=q.2.1.size<=1048576/\q.2.2.length<=1048576
def eW (c:Int×Int)(q:bZ):Bool:=aaj c (q.1,q.2.1.data.toList,q.2.2)
def S5 {q:bZ}(h:ur q)(c:Int×Int):ky F0 c q=some (eW c q,()):=azD (v:=q.1) (l:=q.2.1.data.toList) (s:=q.2.2) (Vi h.1) (bY h.2 (by omega)) c
def RW {q:bZ}(h:ur q)(c:Int×Int):mD F0 c q=some (eW c q,()):=auO (v:=q.1) (l:=q.2.1.data.toList) (s:=q.2.2) (Vi h.1) (bY h.2 (by omega)) c
def bh (c:Int×Int)(s:bf):Bool:=gC 0 60 s.1&&(gC 0 60 s.2.1&&(eW c s.2.2.1&&bg s.2.2.2.data.toList))
def kp (s:bf):Prop:=ur s.2.2.1/\s.2.2.2.size<=1048576
def De {s:bf}(h:kp s)(c:Int×Int):jv F0 c s=some (bh c s,()):=by rw[aoQ,cO,ai,cO,ai,S5 h.1,ai,J6 h.2,ai];unfold bh;cases gC 0 60 s.1<;>cases gC 0 60 s.2.1<;>cases eW c s.2.2.1<;>rfl
def Ge {s:bf}(h:kp s)(c:Int×Int):k3 F0 c s=some (bh c s,()):=by rw[ap2,bR,ai,bR,ai,RW h.1,ai,Dd h.2,ai];unfold bh;cases gC 0 60 s.1<;>cases gC 0 60 s.2.1<;>cases eW c s.2.2.1<;>rfl
def aJ {U:Type}{a:List U}{k:Nat}(h:k<a.length)(d:U):a.getD k d=a[k]:=by simp[List.getD,h]
def Yv {U:Type}(d:U)(p:U->Bool)(q:U->U->Bool)(l:List U):Bool:=(List.range l.length).all fun k=>p (l.getD k d)&&(decide (k=0) || q (l.getD (k-1) d) (l.getD k d))
def agt {V:Type}{k:Nat}(a b:Bool)(x y:V)(c:V)(d:0<k->c=br (!b) x y) :
  br (!a) x (br (decide ((k:Int)>0)) c y)=if (a&&(decide (k=0) || b))=true then y else x:=by
 cases a with
 |false=>rfl
 |true =>
  rw[aN,aa,eF];by_cases h:k=0
  .subst h;rfl
  .rw[aL (show(k:Int)>0 by omega),ae,aQ h,Kf,d (by omega)];cases b<;>rfl
def ni:dH:=(0,0,0,0)
def fl (a b:dH):Bool:=decide (a.1<b.1) || ((a.1==b.1)&&decide (a.2.2.2<b.2.2.2))
def agu (a b:dH):tR F0 a b=some (fl a b,()):=by rw[ahI];unfold fl;cases decide (a.1<b.1)<;>cases (a.1==b.1)<;>rfl
def axG (a b:dH):Et F0 a b=some (fl a b,()):=by rw[aio];unfold fl;cases decide (a.1<b.1)<;>cases (a.1==b.1)<;>rfl
def fi (p:List dH):Bool:=Yv ni gx fl p&&decide ((p.length:Int)<=12)
def aq1 {p:List dH}(h:p.length<=1048576):Fo F0 p=some (fi p,()):=by
 rw[aoR,er (fun m k=>tS F0 (uB F0) m (ow p k)) p.length (fun k=>gx (p.getD k ni)&&(decide (k=0) || fl (p.getD (k-1) ni) (p.getD k ni))) (some (decide ((p.length:Int)<=12),())) (some (false,())) (fun m k a=>?_) (fun m=>?_) _ (by rw[bz];omega)]
 .unfold fi Yv;cases (List.range p.length).all _<;>rfl
 .rw[KE,aM a,ae,an a,ab,aV a,RQ,ai,aJ a,ahJ,al (by omega),ab];refine agt _ (fl (p.getD (k-1) ni) p[k]) _ _ _ fun b=>?_
  rw[Mk b (by omega),an (show k-1<p.length by omega),ab,aV (show k-1<p.length by omega),agu,ai,aJ (show k-1<p.length by omega)]
 .rw[KE,aC,aa,aeJ]
def Yw {p:List dH}(h:p.length<=1048576):xU F0 p=some (fi p,()):=by
 rw[ap3,er (fun m k=>tZ F0 (vv F0) m (oF p p (p.length:Int) k)) p.length (fun k=>gx (p.getD k ni)&&(decide (k=0) || fl (p.getD (k-1) ni) (p.getD k ni))) (some (decide ((p.length:Int)<=12),())) (some (false,())) (fun m k a=>?_) (fun m=>?_) _ (by rw[bz];omega)]
 .unfold fi Yv;cases (List.range p.length).all _<;>rfl
 .rw[Lv,aM a,ae,an a,ab,aV a,Db,ai,aJ a,aiq,al (by omega)];refine agt _ (fl (p.getD (k-1) ni) p[k]) _ _ _ fun b=>?_
  rw[Mk b (by omega),an (show k-1<p.length by omega),ab,aV (show k-1<p.length by omega),axG,ai,aJ (show k-1<p.length by omega)]
 .rw[Lv,aC,aa,afr]
def dh (b:ByteArray):Bool:=b.toList==ak.toList
def iC (c:Int×Int)(p:bZ):Bool :=
 bw c&&(gC 1 60 p.1&&(ko c.1 p.2.2&&(!((p.2.2.length:Int)==0)&&(dh p.2.1 || (bg p.2.1.data.toList&&(aE p.2.1.data.toList==p.1))))))
def S6 {p:bZ}(h:ur p)(c:Int×Int):kT F0 c p=some (iC c p,()):=by rw[aoS,iB,ai,cO,ai,ajj (bY h.2 (by omega)),ai,J6 h.1,ai,o7 h.1,ai];unfold iC dh;cases bw c<;>cases gC 1 60 p.1<;>cases ko c.1 p.2.2<;>cases ((p.2.2.length:Int)==0)<;>cases (p.2.1.toList==ak.toList)<;>cases bg p.2.1.data.toList<;>rfl
def aKY (n:Nat):decide ((n:Int)>0)= !((n:Int)==0):=by
 cases n with
 |zero=>rfl
 |succ n =>
  rw[aL (by omega),bU.2 (by omega)];rfl
def OR {p:bZ}(h:ur p)(c:Int×Int):rf F0 c p=some (iC c p,()):=by rw[ap4,fZ,ai,bR,ai,adC (bY h.2 (by omega)),ai,Dd h.1,ai,rF h.1,ai,aKY];unfold iC dh;dsimp only;generalize (aE p.2.1.data.toList==p.1)=b;cases bw c<;>cases gC 1 60 p.1<;>cases ko c.1 p.2.2<;>cases ((p.2.2.length:Int)==0)<;>cases (p.2.1.toList==ak.toList)<;>cases bg p.2.1.data.toList<;>cases b<;>rfl
def b9:bZ:=(0,ak,[])
def fI (a b:bZ):Bool:=decide (a.1<b.1) || ((a.1==b.1)&&Op.bytesLess a.2.1.toList b.2.1.toList)
def ab3 (a b:bZ):qJ F0 a b=some (fI a b,()):=by rw[aeK];unfold fI;cases decide (a.1<b.1)<;>cases (a.1==b.1)<;>rfl
def aJv (x y:Int):Int:=if x<y then -1 else if x>y then 1 else 0
def akZ (x y:Int):vw F0 x y=some (aJv x y,()):=by
 rw[ac4,Q0,ai,Q0,ai,anV,anV,aa,aa];unfold aJv;by_cases h:x<y
 .rw[aL h,ae,ag h]
 .rw[aQ h,aa,af h];by_cases a:x>y
  .rw[aL a,ae,ag a]
  .rw[aQ a,aa,af a]
def aJw (x y:ByteArray):Int:=if Op.bytesLess x.toList y.toList=true then -1 else if (x.toList==y.toList)=true then 0 else 1
def agv (x y:ByteArray):nN F0 x y=some (aJw x y,()):=by rw[Vy,HJ,ai,HJ,ai,aus,aus,aa,aa];unfold aJw;cases Op.bytesLess x.toList y.toList<;>cases (x.toList==y.toList)<;>rfl
def ajl (a b:bZ):∃r,fB F0 a b=some (r,())/\decide (r>=0)= !fI a b:=by
 rw[FM,akZ,ai,agv,ai];unfold fI aJv aJw;dsimp only;by_cases h:a.1<b.1
 .rw[ag h,aL h];exact⟨-1,rfl,rfl⟩
 .rw[af h,aQ h,Kf];by_cases c:a.1>b.1
  .rw[ag c,bU.2 (show a.1≠b.1 by omega)];exact⟨1,rfl,rfl⟩
  .rw[af c,show a.1=b.1 by omega,aao];refine⟨_,rfl,?_⟩;cases Op.bytesLess a.2.1.toList b.2.1.toList<;>cases (a.2.1.toList==b.2.1.toList)<;>rfl
def eU (c:Int×Int)(l:List bZ):Bool:=Yv b9 (iC c) fI l&&decide ((l.length:Int)<=20)
def ak0 {l:List bZ}(h:l.length<=1048576)(b:∀q∈l,ur q)(c:Int×Int):nD F0 c l=some (eU c l,()):=by
 rw[alE,er (fun m k=>qU F0 (rV F0) m (l8 l k c.1 c.2)) l.length (fun k=>iC c (l.getD k b9)&&(decide (k=0) || fI (l.getD (k-1) b9) (l.getD k b9))) (some (decide ((l.length:Int)<=20),())) (some (false,())) (fun m k a=>?_) (fun m=>?_) _ (by rw[bz];omega)]
 .unfold eU Yv;cases (List.range l.length).all _<;>rfl
 .rw[Hk,aM a,ae,an a,ab,aV a,show((c.1,c.2):Int×Int)=c from rfl,S6 (b _ (bJ a)),ai,aJ a,aeL,al (by omega),ab];refine agt _ (fI (l.getD (k-1) b9) l[k]) _ _ _ fun d=>?_
  rw[Mk d (by omega),an (show k-1<l.length by omega),ab,aV (show k-1<l.length by omega),ab3,ai,aJ (show k-1<l.length by omega)]
 .rw[Hk,aC,aa,acI]
def agw {l:List bZ}(h:l.length<=1048576)(b:∀q∈l,ur q)(c:Int×Int):k4 F0 c l=some (eU c l,()):=by
 rw[amC,er (fun m k=>rh F0 (sx F0) m (mE l l (l.length:Int) k c.1 c.2)) l.length (fun k=>iC c (l.getD k b9)&&(decide (k=0) || fI (l.getD (k-1) b9) (l.getD k b9))) (some (decide ((l.length:Int)<=20),())) (some (false,())) (fun m k a=>?_) (fun m=>?_) _ (by rw[bz];omega)]
 .unfold eU Yv;cases (List.range l.length).all _<;>rfl
 .rw[HL,aM a,ae,an a,ab,aV a,show((c.1,c.2):Int×Int)=c from rfl,OR (b _ (bJ a)),ai,aJ a,afs,al (by omega)];refine agt _ (fI (l.getD (k-1) b9) l[k]) _ _ _ fun d=>?_
  rw[Mk d (by omega),an (show k-1<l.length by omega),ab,aV (show k-1<l.length by omega)];obtain⟨r,e,f⟩:=ajl l[k-1] l[k];rw[e,ai,f,aJ (show k-1<l.length by omega)]
 .rw[HL,aC,aa,ac6]
def fJ (d:List Int×Int):Bool:=decide ((d.1.length:Int)<=100000)&&gC 0 d.1.length d.2
def Mn (d:List Int×Int):np F0 d=some (fJ d,()):=by rw[aoT,cO,ai];unfold fJ;cases decide ((d.1.length:Int)<=100000)<;>rfl
def OS (d:List Int×Int):ri F0 d=some (fJ d,()):=by rw[ap5,bR,ai];unfold fJ;cases decide ((d.1.length:Int)<=100000)<;>rfl
def aq2 {a b:List Int}(j:a.length<=1048576)(l:b.length<=1048576):Fp F0 a b=some (decide (a=b),()):=by
 rw[aoU,er (fun m k=>DF F0 (uD F0) m (uC a b k)) (min a.length b.length) (fun k=>a.getD k 0==b.getD k 0) (some ((a.length:Int)==(b.length:Int),())) (some (false,())) (fun m k n=>?_) (fun m=>?_) _ (by rw[bz];omega)]
 .by_cases c:a=b
  .rw[aL c,ag (ek.2 fun k _=>by rw[c];exact aao (b.getD k 0)),c,aao]
  .rw[aQ c];by_cases e:a.length=b.length
   .rw[af];intro f;refine c (List.ext_getElem e fun k g i=>?_);have:=ek.1 f k (eZ.2 (by omega));simpa [List.getD,g,i]using this
   .rw[bU.2 (show(a.length:Int)≠(b.length:Int) by omega)];cases (List.range (min a.length b.length)).all _<;>rfl
 .rw[KF,aM (show k<a.length by omega),ae,aM (show k<b.length by omega),ae,an (show k<a.length by omega),ab,an (show k<b.length by omega),ab,kq,kq,ahK,al (by omega),axz];by_cases d:a.getD k 0=b.getD k 0
  .simp[d]
  .simp[d]
 .rw[KF,aeM];rcases Tt a.length b.length with h|h
  .rw[aec (by omega),aC,aa]
  .rw[Nat.min_eq_right h,aC,aa];cases decide ((b.length:Int)<(a.length:Int))<;>rfl
def gy (a b:bZ):Bool:=(a.1==b.1)&&((a.2.1.toList==b.2.1.toList)&&decide (a.2.2=b.2.2))
def ajm {a b:bZ}(c:ur a)(d:ur b):w4 F0 a b=some (gy a b,()):=by rw[aoV,aq2 c.2 d.2,ai];unfold gy;cases (a.1==b.1)<;>cases (a.2.1.toList==b.2.1.toList)<;>rfl
def Mo {a b:bZ}(c:ur a):jy F0 a b=some (gy a b,()):=by rw[Xo,ajk (bY c.2 (by omega)),ai];unfold gy;cases (a.1==b.1)<;>cases (a.2.1.toList==b.2.1.toList)<;>rfl
def azM {a b:bZ}(c:ur a)(d:ur b):IE F0 a b=some (gy a b,()):=by rw[alG,aq2 c.2 d.2,ai];unfold gy;cases (a.1==b.1)<;>cases (a.2.1.toList==b.2.1.toList)<;>rfl
def axH {a b:bZ}(c:ur a):Ey F0 a b=some (gy a b,()):=by rw[ais,ajk (bY c.2 (by omega)),ai];unfold gy;cases (a.1==b.1)<;>cases (a.2.1.toList==b.2.1.toList)<;>rfl
def o8 (a b:cr):Bool:=(a.1.toList==b.1.toList)&&gy a.2 b.2
def atD {a b:cr}(c:ur a.2)(d:ur b.2):yI F0 a b=some (o8 a b,()):=by rw[aeN,ajm c d,ai];unfold o8;cases (a.1.toList==b.1.toList)<;>rfl
def aq3 {a b:cr}(c:ur a.2):AI F0 a b=some (o8 a b,()):=by rw[afu,Mo c,ai];unfold o8;cases (a.1.toList==b.1.toList)<;>rfl
def ajn (a b:dH):Bool:=(a.1==b.1)&&((a.2.1==b.2.1)&&((a.2.2.1==b.2.2.1)&&((a.2.2.2==b.2.2.2)&&true)))
def s9 (a b:b1):Bool:=(a.1==b.1)&&((a.2.1==b.2.1)&&(o8 a.2.2.1 b.2.2.1&&(gy a.2.2.2.1 b.2.2.2.1&&(gy a.2.2.2.2.1 b.2.2.2.2.1&&((a.2.2.2.2.2.1==b.2.2.2.2.2.1)&&ajn a.2.2.2.2.2.2 b.2.2.2.2.2.2)))))
def gb (m:b1):Prop:=m.2.2.1.1.size<=1048576/\ur m.2.2.1.2/\ur m.2.2.2.1/\ur m.2.2.2.2.1
def azN {a b:b1}(c:gb a)(d:gb b):kU F0 a b=some (s9 a b,()):=by rw[alI,atD c.2.1 d.2.1,ai,azM c.2.2.1 d.2.2.1,ai,ajm c.2.2.2 d.2.2.2,ai];unfold s9 ajn;dsimp only;generalize ((a.2.2.2.2.2.2.1==b.2.2.2.2.2.2.1)&&((a.2.2.2.2.2.2.2.1==b.2.2.2.2.2.2.2.1)&&((a.2.2.2.2.2.2.2.2.1==b.2.2.2.2.2.2.2.2.1)&&((a.2.2.2.2.2.2.2.2.2==b.2.2.2.2.2.2.2.2.2)&&true))))=t;cases (a.1==b.1)<;>cases (a.2.1==b.2.1)<;>cases o8 a.2.2.1 b.2.2.1<;>cases gy a.2.2.2.1 b.2.2.2.1<;>cases gy a.2.2.2.2.1 b.2.2.2.2.1<;>cases (a.2.2.2.2.2.1==b.2.2.2.2.2.1)<;>rfl
def axI {a b:b1}(c:gb a):Jf F0 a b=some (s9 a b,()):=by rw[amD,aq3 c.2.1,ai,axH c.2.2.1,ai,Mo c.2.2.2,ai];unfold s9 ajn;dsimp only;generalize ((a.2.2.2.2.2.2.1==b.2.2.2.2.2.2.1)&&((a.2.2.2.2.2.2.2.1==b.2.2.2.2.2.2.2.1)&&((a.2.2.2.2.2.2.2.2.1==b.2.2.2.2.2.2.2.2.1)&&((a.2.2.2.2.2.2.2.2.2==b.2.2.2.2.2.2.2.2.2)&&true))))=t;cases (a.1==b.1)<;>cases (a.2.1==b.2.1)<;>cases o8 a.2.2.1 b.2.2.1<;>cases gy a.2.2.2.1 b.2.2.2.1<;>cases gy a.2.2.2.2.1 b.2.2.2.2.1<;>cases (a.2.2.2.2.2.1==b.2.2.2.2.2.1)<;>rfl
def OT (a b:bZ):gy a b=gy b a:=by
 unfold gy;rw[tr (a:=a.1),tr (a:=a.2.1.toList)]
 congr 2
 by_cases h:a.2.2=b.2.2
 .rw[aL h,aL h.symm]
 .rw[aQ h,aQ fun c=>h c.symm]
def axJ (a b:b1):s9 a b=s9 b a:=by unfold s9 o8 ajn;rw[tr (a:=a.1),tr (a:=a.2.1),tr (a:=a.2.2.1.1.toList),OT a.2.2.1.2,OT a.2.2.2.1,OT a.2.2.2.2.1,tr (a:=a.2.2.2.2.2.1),tr (a:=a.2.2.2.2.2.2.1),tr (a:=a.2.2.2.2.2.2.2.1),tr (a:=a.2.2.2.2.2.2.2.2.1),tr (a:=a.2.2.2.2.2.2.2.2.2)]
def named (m:b1):b1 :=
 if (m.1==1)=true then (m.1,0,m.2.2.1,b9,b9,0,ni)
 else if (m.1==2)=true then (m.1,0,(ak,b9),m.2.2.2.1,b9,0,ni)
 else if (m.1==3)=true then (m.1,m.2.1,(ak,b9),b9,m.2.2.2.2.1,m.2.2.2.2.2.1,ni)
 else if (m.1==4)=true then (m.1,0,(ak,b9),b9,b9,0,m.2.2.2.2.2.2)
 else (m.1,0,(ak,b9),b9,b9,0,ni)
def aFK (m:b1):SH F0 m=some (named m,()):=by rw[ath];unfold named;cases (m.1==1)<;>cases (m.1==2)<;>cases (m.1==3)<;>cases (m.1==4)<;>rfl
def dx:ur b9:=⟨aR _,aR _⟩
def aJx {m:b1}(h:gb m):gb (named m):=by
 unfold named;split
 .exact⟨h.1,h.2.1,dx,dx⟩
 .split
  .exact⟨aR _,dx,h.2.2.1,dx⟩
  .split
   .exact⟨aR _,dx,dx,h.2.2.2⟩
   .split
    .exact⟨aR _,dx,dx,dx⟩
    .exact⟨aR _,dx,dx,dx⟩
def azO {m:b1}(h:gb m):IF F0 m=some (s9 (named m) m,()):=by
 have a:=azN (aJx h) h;rw[alK];unfold named b9 ni at a;unfold named b9 ni;by_cases b:(m.1==1)=true
 .rw[ag b]at a ⊢;rw[b,ae,a,ai]
 .rw[af b]at a ⊢;rw[Ke.2 b,aa];by_cases c:(m.1==2)=true
  .rw[ag c]at a ⊢;rw[c,ae,a,ai]
  .rw[af c]at a ⊢;rw[Ke.2 c,aa];by_cases d:(m.1==3)=true
   .rw[ag d]at a ⊢;rw[d,ae,a,ai]
   .rw[af d]at a ⊢;rw[Ke.2 d,aa];by_cases e:(m.1==4)=true
    .rw[ag e]at a ⊢;rw[e,ae,a,ai]
    .rw[af e]at a ⊢;rw[Ke.2 e,aa,a,ai]
def gE (l:List UInt8):Nat->Nat
 |0=>0|k+1=>if (((l.getD k 0).toNat:Int) != 47)=true then gE l k else k+1
def aq4 (l:List UInt8):∀k,gE l k<=k
 |0=>bF _|k+1=>by
  unfold gE;split
  .exact Nat.le_succ_of_le (aq4 l k)
  .exact bF _
def aHK {h n:Nat}(a:h<=n):Tx 0 (h:Int) (n:Int)=true:=Zp (l:=0) (aR _) a
def fV (l:List UInt8):List UInt8:=if bg l=true then l.take (gE l l.length-1) else []
def aEF (l:List UInt8){γ:Type}(J:Ex->St->Option γ):∀(k n:Nat),k<=l.length->k<=1073741824->k<n->M1 F0 J n (DG (tx l) (k:Int))=J (.exit 0) (yJ (tx l) (gE l k:Int))
 |0,n,a,b,c=>by obtain⟨n,rfl⟩:∃m,n=m+1:=⟨n-1,by omega⟩;rw[Qg];rfl
 |k+1,n,a,b,c=>by
  obtain⟨n,rfl⟩:∃m,n=m+1:=⟨n-1,by omega⟩;rw[Qg,aL (show((k+1:Nat):Int)>0 by omega),ae,Mk (by omega) (by omega),show k+1-1=k from rfl,bD,an (by omega),ab,Zn];unfold gE;by_cases h:(((l.getD k 0).toNat:Int) != 47)=true
  .rw[h,ae,ag rfl,aEF l J k n (by omega) (by omega) (by omega)]
  .rw[Ke.2 h,aa,af (by decide)]
def aHL {l:List UInt8}(h:l.length<=1048576):l9 F0 (tx l)=some (tx (fV l),()):=by
 rw[awI,S2 (by omega),ai];unfold fV;dsimp only;cases bg l with
 |false=>rfl
 |true =>
  have c:=aq4 l l.length;rw[aN,aa,bD,aEF l _ l.length _ (bF _) (by omega) (by rw[bz];omega),alM,ag rfl,aaQ];have b:br (decide (aj ((gE l l.length:Int)-1)>0)) (some (aj ((gE l l.length:Int)-1),())) (some ((0:Int),()))=some (((gE l l.length-1:Nat):Int),()):=by
   rw[aH (by omega) (by omega)];by_cases a:(gE l l.length:Int)-1>0
   .rw[aL a,ae,show(gE l l.length:Int)-1=((gE l l.length-1:Nat):Int) by omega]
   .rw[aQ a,aa,show gE l l.length-1=0 by omega];rfl
  rw[b,ai];dsimp only;rw[bD,aHK (by omega),ab,gz,show(0:Int).toNat=0 from rfl,OO,aed,VS]
def auR (l:List UInt8):∀(k n:Nat),k<=l.length->k<=1073741824->k<n->ez F0 (ga F0) n (dG (tx l) 47 ((k:Int)-1))=some ((gE l k:Int)-1,())
 |0,n,a,b,c=>by obtain⟨n,rfl⟩:∃m,n=m+1:=⟨n-1,by omega⟩;rw[jZ];rfl
 |k+1,n,a,b,c=>by
  obtain⟨n,rfl⟩:∃m,n=m+1:=⟨n-1,by omega⟩;rw[show((k+1:Nat):Int)-1=(k:Int) by omega,jZ,aL (show(k:Int)>=0 by omega),ae,bD,an (by omega),ab,Zn,aH (by omega) (by omega),AK];unfold gE;by_cases h:((l.getD k 0).toNat:Int)=47
  .rw[h,show((47:Int)==47)=true from rfl,ae,show((47:Int) != 47)=false from rfl,af (by decide),show((k+1:Nat):Int)-1=(k:Int) by omega]
  .rw[bU.2 h,aa,Fe.2 h,ag rfl,auR l k n (by omega) (by omega) (by omega)]
def aCg {c x:UInt8}{l:List UInt8}{ps:List (List UInt8)}(h:parts c (x::l)=[]::ps):x=c:=by
 unfold parts at h;split at h
 .assumption
 .split at h
  .cases (tO h).1
  .cases (tO h).1
def aq5 {l:List UInt8}(h:bg l=true)(b:l≠[]):∃t,l=47::t:=by
 cases l with
 |nil=>exact absurd rfl b
 |cons x t =>
  refine⟨t,?_⟩;unfold bg a6 at h;rw[af b]at h;cases a:parts 47 (x::t) with
  |nil=>exact absurd a (Gb _ _)
  |cons c g =>
   rw[a]at h;dsimp only at h;split at h
   .cases h
   .rename_i d;have e:c=[]:=ayz fun f=>d (.inl f)
    subst e;rw[aCg a]
def ajo {t:List UInt8}:∀k,0<k->0<gE (47::t) k
 |0,h=>absurd h (VQ _)|1,_=>by unfold gE;rw[show((((47::t).getD 0 0:UInt8).toNat:Int) != 47)=false from rfl,af (by decide)];exact ahm _
 |k+2,_=>by
  unfold gE;split
  .exact ajo (k+1) (ahm _)
  .exact ahm _
def aFL {l:List UInt8}(h:l.length<=1048576):sy F0 (tx l)=some (tx (fV l),()):=by
 rw[aw0,OQ (by omega),ai,axB,Vh];unfold fV;dsimp only;cases b:bg l with
 |false=>rfl
 |true =>
  rw[aN,aa,ag rfl];by_cases a:l=[]
  .subst a;rfl
  .have c:=aq4 l l.length;have d:0<gE l l.length:=by obtain⟨t,rfl⟩:=aq5 b a;exact ajo _ (ahm _)
   rw[aQ a,aa,Pt,CT,bD,aH (by omega) (by omega),auR l l.length _ (bF _) (by omega) (by rw[bz];omega),ai,ai];dsimp only;rw[show(gE l l.length:Int)-1=((gE l l.length-1:Nat):Int) by omega,aHK (by omega),ab,gz,show(0:Int).toNat=0 from rfl,OO,aed,VS]
def agx {b:ByteArray}(h:b.size<=1048576):l9 F0 b=some (tx (fV b.data.toList),()):=aHL (l:=b.data.toList) h
def agy {b:ByteArray}(h:b.size<=1048576):sy F0 b=some (tx (fV b.data.toList),()):=aFL (l:=b.data.toList) h
def fK (c:Int×Int)(b:cr):Bool:=eW c b.2&&(bg b.1.data.toList&&(!dh b.1&&((tx (fV b.1.data.toList)).toList==b.2.2.1.toList)))
def OU {b:cr}(a:b.1.size<=1048576)(d:ur b.2)(c:Int×Int):nE F0 c b=some (fK c b,()):=by rw[alN,S5 d,ai,J6 a,ai,agx a,ai];unfold fK dh;cases eW c b.2<;>cases bg b.1.data.toList<;>cases (b.1.toList==ak.toList)<;>rfl
def JJ {b:cr}(a:b.1.size<=1048576)(d:ur b.2)(c:Int×Int):nO F0 c b=some (fK c b,()):=by rw[amF,RW d,ai,Dd a,ai,agy a,ai];unfold fK dh;cases eW c b.2<;>cases bg b.1.data.toList<;>cases (b.1.toList==ak.toList)<;>rfl
def c8 (c:Int×Int)(m:b1):Bool:=bw c&&(s9 (named m) m&&(if (m.1==1)=true then fK c m.2.2.1 else if (m.1==2)=true then iC c m.2.2.2.1&& !dh m.2.2.2.1.2.1
 else if (m.1==3)=true then gC 1 60 m.2.1&&(eW c m.2.2.2.2.1&&gC 0 (aj (c.1-1)) m.2.2.2.2.2.1) else (m.1==4)&&gx m.2.2.2.2.2.2))
def J7 {m:b1}(h:gb m)(c:Int×Int):fw F0 c m=some (c8 c m,()):=by rw[asW,iB,ai,azO h,ai,OU h.1 h.2.1,ai,S6 h.2.2.1,ai,cO,ai,S5 h.2.2.2,ai,cO,ai,RQ,ai];unfold c8 dh;dsimp only;cases bw c<;>cases s9 (named m) m<;>cases (m.1==1)<;>cases (m.1==2)<;>cases (m.1==3)<;>cases (m.1==4)<;>cases iC c m.2.2.2.1<;>cases gC 1 60 m.2.1<;>cases eW c m.2.2.2.2.1<;>rfl
def Mp {m:b1}(h:gb m)(c:Int×Int):gm F0 c m=some (c8 c m,()):=by rw[atj,fZ,ai,aFK,ai,axI h,ai,JJ h.1 h.2.1,ai,OR h.2.2.1,ai,bR,ai,RW h.2.2.2,ai,bR,ai,Db,ai,axJ];unfold c8 dh;dsimp only;cases bw c<;>cases s9 (named m) m<;>cases (m.1==1)<;>cases (m.1==2)<;>cases (m.1==3)<;>cases (m.1==4)<;>cases iC c m.2.2.2.1<;>cases gC 1 60 m.2.1<;>cases eW c m.2.2.2.2.1<;>rfl
def Mq (c:Int×Int)(r:Int)(p:jC):Bool:=c8 c p.2&&(gC 0 (aj (c.1-1)) p.1&& !(p.1==r))
def ng (c:Int×Int)(r:aw):Bool :=
 bw c&&(gC 0 (aj (c.1-1)) r.1&&(gC 1 60 r.2.1&&(gC 0 60 r.2.2.1&&(bh c r.2.2.2.1&&(fi r.2.2.2.2.1&&(eU c r.2.2.2.2.2.1&&(fJ r.2.2.2.2.2.2.1&&(!decide ((r.2.2.2.2.2.2.2.length:Int)>30)&&r.2.2.2.2.2.2.2.all (Mq c r.1)))))))))
structure aq6 (r:aw):Prop where
 s:kp r.2.2.2.1
 p:r.2.2.2.2.1.length<=1048576
 t:r.2.2.2.2.2.1.length<=1048576
 tq:∀q∈r.2.2.2.2.2.1,ur q
 h:r.2.2.2.2.2.2.2.length<=1048576
 hm:∀q∈r.2.2.2.2.2.2.2,gb q.2
def axK:jC:=(0,0,0,(ak,b9),b9,b9,0,ni)
def rG (b:Bool):(if b=true then some (true,()) else some (false,()))=some (b,()):=by cases b<;>rfl
def ib {r:aw}(h:aq6 r)(c:Int×Int):dw F0 c r=some (ng c r,()):=by
 have b:=h.h;rw[asX,iB,ai,cO,ai,cO,ai,cO,ai,De h.s,ai,aq1 h.p,ai,ak0 h.t h.tq,ai,Mn,ai,
  er (fun m k=>IJ F0 (yM F0) m (yK k c.1 c.2 r.1 r.2.1 r.2.2.1 r.2.2.2.1.1 r.2.2.2.1.2.1 r.2.2.2.1.2.2.1.1 r.2.2.2.1.2.2.1.2.1 r.2.2.2.1.2.2.1.2.2 r.2.2.2.1.2.2.2 r.2.2.2.2.1 r.2.2.2.2.2.1 r.2.2.2.2.2.2.1.1 r.2.2.2.2.2.2.1.2 r.2.2.2.2.2.2.2)) r.2.2.2.2.2.2.2.length
   (fun k=>Mq c r.1 (r.2.2.2.2.2.2.2.getD k axK)) (some (true,())) (some (false,())) (fun m k a=>?_) (fun m=>?_) _ (by rw[bz];omega),Gc,rG]
 .unfold ng;cases bw c<;>cases gC 0 (aj (c.1-1)) r.1<;>cases gC 1 60 r.2.1<;>cases gC 0 60 r.2.2.1<;>cases bh c r.2.2.2.1<;>cases fi r.2.2.2.2.1<;>cases eU c r.2.2.2.2.2.1<;>cases fJ r.2.2.2.2.2.2.1<;>cases decide ((r.2.2.2.2.2.2.2.length:Int)>30)<;>rfl
 .rw[M3,aM a,ae,an a,ab,aV a,show((c.1,c.2):Int×Int)=c from rfl,J7 (h.hm _ (bJ a)),ai,ab,cO,ai,ab,aJ a,alO,al (by omega)];unfold Mq;cases c8 c (r.2.2.2.2.2.2.2[k]).2<;>cases gC 0 (aj (c.1-1)) (r.2.2.2.2.2.2.2[k]).1<;>cases ((r.2.2.2.2.2.2.2[k]).1==r.1)<;>rfl
 .rw[M3,aC,aa,ahL]
def dS {r:aw}(h:aq6 r)(c:Int×Int):cq F0 c r=some (ng c r,()):=by
 have b:=h.h;rw[atk,fZ,ai,bR,ai,bR,ai,bR,ai,Ge h.s,ai,Yw h.p,ai,agw h.t h.tq,ai,OS,ai,
  er (fun m k=>Ji F0 (AN F0) m (AL r.2.2.2.2.2.2.2 (r.2.2.2.2.2.2.2.length:Int) k c.1 c.2 r.1 r.2.1 r.2.2.1 r.2.2.2.1.1 r.2.2.2.1.2.1 r.2.2.2.1.2.2.1.1 r.2.2.2.1.2.2.1.2.1 r.2.2.2.1.2.2.1.2.2 r.2.2.2.1.2.2.2 r.2.2.2.2.1 r.2.2.2.2.2.1 r.2.2.2.2.2.2.1.1 r.2.2.2.2.2.2.1.2 r.2.2.2.2.2.2.2)) r.2.2.2.2.2.2.2.length
   (fun k=>Mq c r.1 (r.2.2.2.2.2.2.2.getD k axK)) (some (true,())) (some (false,())) (fun m k a=>?_) (fun m=>?_) _ (by rw[bz];omega),Gc,rG]
 .unfold ng;cases bw c<;>cases gC 0 (aj (c.1-1)) r.1<;>cases gC 1 60 r.2.1<;>cases gC 0 60 r.2.2.1<;>cases bh c r.2.2.2.1<;>cases fi r.2.2.2.2.1<;>cases eU c r.2.2.2.2.2.1<;>cases fJ r.2.2.2.2.2.2.1<;>cases decide ((r.2.2.2.2.2.2.2.length:Int)>30)<;>rfl
 .rw[N1,aM a,ae,an a,ab,aV a,show((c.1,c.2):Int×Int)=c from rfl,Mp (h.hm _ (bJ a)),ai,bR,ai,aJ a,amG,al (by omega)];unfold Mq;cases c8 c (r.2.2.2.2.2.2.2[k]).2<;>cases gC 0 (aj (c.1-1)) (r.2.2.2.2.2.2.2[k]).1<;>cases ((r.2.2.2.2.2.2.2[k]).1==r.1)<;>rfl
 .rw[N1,aC,aa,aiu]
def agz {lo hi x:Int}:gC lo hi x=decide (lo<=x/\x<=hi):=by unfold gC;by_cases a:lo<=x<;>by_cases b:x<=hi<;>simp[a,b]
def RX:Nat->List Int->Nat->Int->Option (Int×Nat)
 |0,_,_,_=>none|_+1,[],_,_=>none|j+1,x::xs,k,n=>if x<128 then (if (k≠0/\x=0)\/n+x*128 ^ k>2147483647 then none else some (n+x*128 ^ k,k+1)) else RX j xs (k+1) (n+x%128*128 ^ k)
def aJy (a:Nat):Option (Int×Nat)->Int×Int×Bool×Unit
 |some (v,c)=>(v,((a+c:Nat):Int),true,())|none=>(0,0,false,())
def aHM {k:Nat}(h:k<=4):(2:Int) ^ (min (aj (7*(k:Int))).toNat 64)=128 ^ k:=by
 have:k=0\/k=1\/k=2\/k=3\/k=4:=by omega
 rcases this with rfl|rfl|rfl|rfl|rfl<;>rfl
def S7 {k:Nat}(h:k<=4):(1:Int)<=128 ^ k/\(128:Int) ^ k<=268435456:=by
 have:k=0\/k=1\/k=2\/k=3\/k=4:=by omega
 rcases this with rfl|rfl|rfl|rfl|rfl<;>decide
def aq7 {d P:Int}(a:0<=d)(b:d<=127)(c:1<=P):0<=d*P/\d*P<=127*P:=⟨Int.mul_nonneg a (by omega),Int.mul_le_mul_of_nonneg_right b (by omega)⟩
def aKZ {i n:Nat}(d:Nat)(h:n<2 ^ i):n ||| d*2 ^ i=n+d*2 ^ i:=by rw[Nat.or_comm,<-Nat.shiftLeft_eq,<-Nat.shiftLeft_add_eq_or_of_lt h,Nat.add_comm]
def aK0 {k:Nat}(a:k<=4){n d:Int}(b:0<=n)(c:n<128 ^ k)(f:0<=d)(j:d<=127):((BitVec.ofInt 64 n ||| BitVec.ofInt 64 (d*128 ^ k)).toNat:Int)=n+d*128 ^ k:=by
 obtain⟨m,rfl⟩:=Int.eq_ofNat_of_zero_le b;obtain⟨e,rfl⟩:=Int.eq_ofNat_of_zero_le f;have g:(128:Int) ^ k=((2 ^ (7*k):Nat):Int):=by rw[Nat.pow_mul];exact(Int.natCast_pow 128 k).symm
 have h:=S7 a;rw[g]at c h ⊢;have i:m<2 ^ (7*k):=by omega
 have l:e*2 ^ (7*k)<=127*2 ^ (7*k):=Hg _ (by omega);have o:2 ^ (7*k)<=268435456:=by omega
 rw[show(e:Int)*((2 ^ (7*k):Nat):Int)=((e*2 ^ (7*k):Nat):Int) from(Int.natCast_mul _ _).symm,BitVec.ofInt_natCast,BitVec.ofInt_natCast,BitVec.toNat_or,BitVec.toNat_ofNat,BitVec.toNat_ofNat,avI (by omega),avI (by omega),aKZ e i];omega
def di (b:List Int):Prop:=b.length<=1048576/\∀x∈b,0<=x/\x<=255
def azP {b:List Int}(l:di b)(a:Nat)(t:a<=b.length):∀(j k:Nat),j+k=5->∀(c:Int) (m:Nat),0<=c->c<128 ^ k->j<m ->
  DI F0 (uH F0) m (uG b (a:Int) c (k:Int))=some (aJy a (RX j (b.drop (a+k)) k c))
 |0,k,u,c,m,o,p,v=>by obtain⟨m,rfl⟩:∃q,m=q+1:=⟨m-1,by omega⟩;rw[KI,aQ (by omega),aa,aeR];rfl
 |j+1,k,u,c,m,o,p,v=>by
  obtain⟨m,rfl⟩:∃q,m=q+1:=⟨m-1,by omega⟩;have B:=l.1;rw[KI,aL (by omega),ae,aQ (show ¬(a:Int)<0 by omega),aa,aH (n:=(b.length:Int)-k) (by omega) (by omega)];rcases Tt (a+k) b.length with hlt|w
  .have r:=l.2 b[a+k] (bJ hlt);have y:=S7 (k:=k) (by omega);rw[aQ (show ¬(a:Int)>=(b.length:Int)-k by omega),aa,show aj ((a:Int)+(k:Int))=((a+k:Nat):Int) by rw[aH (by omega) (by omega)];omega,an hlt,ab,
    aL (show 0<=aj (7*(k:Int)) by rw[aH (by omega) (by omega)];omega),ab,aV hlt,aHM (by omega),VK hlt]
   generalize b[a+k]=x at r ⊢;rw[aH (n:=x) (by omega) (by omega),anO (by omega),Cv,Cv];have z:=aq7 (d:=x%128) (P:=128 ^ k) (by omega) (by omega) y.1;rw[aH (n:=x%128*128 ^ k) (by omega) (by omega),aK0 (by omega) o p (by omega) (by omega),aH (n:=c+x%128*128 ^ k) (by omega) (by omega)];unfold RX;by_cases g:x<128
   .have e:x%128=x:=Int.emod_eq_of_lt r.1 g;rw[e]at z ⊢;rw[aL g,ae,ag g,aH (n:=((a+k:Nat):Int)+1) (by omega) (by omega)];by_cases s:k=0
    .subst s;rw[show decide (((0:Nat):Int)>0)=false from rfl,aa];by_cases f:c+x*128 ^ 0>2147483647
     .rw[aL f,ae,ag (.inr f)];rfl
     .rw[aQ f,aa,af (fun h=>h.elim (fun h=>h.1 rfl) f)];rfl
    .rw[aL (show(k:Int)>0 by omega),ae];by_cases i:x=0
     .rw[show(x==0)=true from bd.2 i,ae,ag (.inl ⟨s,i⟩)];rfl
     .rw[bU.2 i,aa];by_cases f:c+x*128 ^ k>2147483647
      .rw[aL f,ae,ag (.inr f)];rfl
      .rw[aQ f,aa,af (fun h=>h.elim (fun h=>i h.2) f)];rfl
   .rw[aQ g,aa,af g,al (by omega)];have A:c+x%128*128 ^ k<128 ^ (k+1):=by rw[Tu];omega
    exact azP l a t j (k+1) (by omega) _ m (by omega) A (by omega)
  .rw[aL (show(a:Int)>=(b.length:Int)-k by omega),ae,Cv,avz w];rfl
def aCh {b:List Int}(c:di b){a:Nat}(d:a<=b.length):kV F0 b (a:Int)=some (aJy a (RX 5 (b.drop a) 0 0)):=by rw[ao0];exact azP c a d 5 0 rfl 0 _ (by omega) (by decide) (by rw[bz];omega)
def agA:∀(k:Nat) (v:Int) (xs:List Int) (n:Nat),0<=v->v<128 ^ (k+1)->xs.length+k<=1000->k<n->k<=4 ->
  ∃a,ub F0 (vy F0) n (oI v xs)=some (xs++a,())/\a.length<=k+1/\(128 ^ k<=v->a.length=k+1)/\1<=a.length
 |0,v,xs,n,b,d,e,f,g=>by obtain⟨n,rfl⟩:∃m,n=m+1:=⟨n-1,by omega⟩;rw[nP,aQ (show ¬v>=128 by have:(128:Int) ^ (0+1)=128:=rfl;omega),aa,pM,ar (by omega) (by omega) (by rw[cR];omega),ab];exact⟨_,rfl,bF _,fun _=>rfl,bF _⟩
 |k+1,v,xs,n,b,d,e,f,g=>by
  obtain⟨n,rfl⟩:∃m,n=m+1:=⟨n-1,by omega⟩;have l:=S7 (k:=k) (by omega);have o:(128:Int) ^ (k+1)=128 ^ k*128:=Tu _ _;have p:(128:Int) ^ (k+1+1)=128 ^ (k+1)*128:=Tu _ _;rw[nP];by_cases c:v>=128
  .rw[aL c,ae,ar (by omega) (by omega) (by rw[cR];omega),ab,anP b,aH (n:=v/128) (by omega) (by omega)];obtain⟨a,i,q,j,r⟩:=agA k (v/128) (xs++[IntKind.wrap .u8 (aj (Int.tmod v 128+128))]) n (by omega) (by omega) (by rw[aK,cR];omega) (by omega) (by omega);refine⟨IntKind.wrap .u8 (aj (Int.tmod v 128+128))::a,i.trans (by rw[hS];rfl),by rw[aW];omega,fun h=>?_,by rw[aW];omega⟩;rw[aW,j (by omega)]
  .rw[aQ c,aa,pM,ar (by omega) (by omega) (by rw[cR];omega),ab];exact⟨_,rfl,by rw[cR];omega,fun h=>by omega,bF _⟩
def aCi (v:Int):∃c,e8 F0 v=some (c,())/\∀(k:Nat) (a x:Int),k<=4->0<=a->a<128 ^ k->0<=x->x<128->v=a+x*128 ^ k ->
  ((c.length:Int) != ((k+1:Nat):Int))=decide ((k≠0/\x=0)\/v>2147483647):=by
 rw[Xz,bR,ai,agz];by_cases b:0<=v/\v<=2147483647
 .rw[aL b,aN,aa];have n:(128:Int) ^ (4+1)=34359738368:=by decide
  obtain⟨g,i,_,_,_⟩:=agA 4 v [] F0.n b.1 (by omega) (by simp) (by rw[bz];omega) (by omega);refine⟨g,i,fun k a x e r s j t u=>?_⟩;have l:=S7 e;have D:(128:Int) ^ (k+1)=128 ^ k*128:=Tu _ _;have w:=aq7 (d:=x) (P:=128 ^ k) j (by omega) l.1;obtain⟨c,o,E,n,F⟩:=agA k v [] F0.n b.1 (by omega) (by simp;omega) (by rw[bz];omega) e;rw[i]at o;have y:g=c:=by simpa using o
  subst y;by_cases f:k≠0/\x=0
  .rw[aL (.inl f),Fe];obtain⟨m,z⟩:=f;subst z;obtain⟨k,rfl⟩:∃q,k=q+1:=⟨k-1,by omega⟩;obtain⟨A,p,G,_,_⟩:=agA k v [] F0.n b.1 (by omega) (by simp;omega) (by rw[bz];omega) (by omega);rw[i]at p;have B:g=A:=by simpa using p
   subst B;omega
  .rw[aQ (fun h=>h.elim f (by omega)),Tr];by_cases m:k=0
   .subst m;omega
   .have C:1<=x:=by
     have:x≠0:=fun h=>f ⟨m,h⟩
     omega
    have:=Int.mul_le_mul_of_nonneg_right C (show(0:Int)<=128 ^ k by omega);rw[n (by omega)]
 .rw[aQ b,ed,ae];refine⟨[],rfl,fun k a x e r s j t u=>?_⟩;have l:=S7 e;have w:=aq7 (d:=x) (P:=128 ^ k) j (by omega) l.1;rw[aL (.inr (by omega)),Fe];simp only[bm];omega
def azQ {b:List Int}(h:di b)(a:Nat)(p:a<=b.length):∀(j k:Nat),j+k=5->∀(c:Int) (m:Nat),0<=c->c<128 ^ k->j<m ->
  EE F0 (vA F0) m (vz b (a:Int) c (k:Int))=some (aJy a (RX j (b.drop (a+k)) k c))
 |0,k,r,c,m,l,o,s=>by obtain⟨m,rfl⟩:∃q,m=q+1:=⟨m-1,by omega⟩;rw[Lx,aQ (by omega),aa,N3];rfl
 |j+1,k,r,c,m,l,o,s=>by
  obtain⟨m,rfl⟩:∃q,m=q+1:=⟨m-1,by omega⟩;have A:=h.1;rw[Lx,aL (by omega),ae,show aj ((a:Int)+(k:Int))=((a+k:Nat):Int) by rw[aH (by omega) (by omega)];omega];rcases Tt (a+k) b.length with hlt|t
  .have i:=h.2 b[a+k] (bJ hlt);have u:=S7 (k:=k) (by omega);rw[aM hlt,ae,an hlt,ab,
    aL (show 0<=aj (7*(k:Int)) by rw[aH (by omega) (by omega)];omega),ab,aV hlt,aHM (by omega),VK hlt]
   generalize b[a+k]=x at i ⊢;rw[aH (n:=x) (by omega) (by omega),anO (by omega),Q4,Q4];have v:=aq7 (d:=x%128) (P:=128 ^ k) (by omega) (by omega) u.1;rw[aH (n:=x%128*128 ^ k) (by omega) (by omega),aH (n:=c+x%128*128 ^ k) (by omega) (by omega),al (show k+1<=9223372036854775807 by omega)];unfold RX;by_cases f:x<128
   .have e:x%128=x:=Int.emod_eq_of_lt i.1 f;rw[e]at v ⊢;rw[aL f,ae,ag f,aH (n:=((a+k:Nat):Int)+1) (by omega) (by omega)];obtain⟨B,w,y⟩:=aCi (c+x*128 ^ k);rw[w,ai];dsimp only;rw[y k c x (by omega) l o i.1 f rfl];by_cases g:(k≠0/\x=0)\/c+x*128 ^ k>2147483647
    .rw[aL g,ae,ag g];rfl
    .rw[aQ g,aa,af g];rfl
   .rw[aQ f,aa,af f];have z:c+x%128*128 ^ k<128 ^ (k+1):=by rw[Tu];omega
    exact azQ h a p j (k+1) (by omega) _ m (by omega) z (by omega)
  .rw[aQ (show ¬((a+k:Nat):Int)<(b.length:Int) by omega),aa,N3,avz t];rfl
def azR {b:List Int}(c:di b){a:Nat}(d:a<=b.length):x0 F0 b (a:Int)=some (aJy a (RX 5 (b.drop a) 0 0)):=by
 have f:=c.1;rw[ap8,bR,ai,agz,aH (by omega) (by omega)];rcases Tt a b.length with hlt|e
 .rw[aL (by omega),aN,aa];exact azQ c a d 5 0 rfl 0 _ (by omega) (by decide) (by rw[bz];omega)
 .rw[aQ (by omega),ed,ae,avz e];rfl
def aEG:∀(j:Nat) (l:List Int) (k:Nat) (n:Int) (v:Int) (c:Nat),RX j l k n=some (v,c)->v<=2147483647/\k<c/\c<=k+l.length
 |0,_,_,_,_,_,h=>by cases h
 |_+1,[],_,_,_,_,h=>by cases h
 |j+1,x::l,k,n,v,c,h=>by
  unfold RX at h;split at h
  .split at h
   .cases h
   .rename_i a;cases h;exact⟨Int.not_lt.1 fun b=>a (.inr b),Nat.lt_succ_self _,by rw[aW];omega⟩
  .have:=aEG j l (k+1) _ v c h;rw[aW];exact⟨this.1,by omega,by omega⟩
def azS:∀(j:Nat) (l:List Int) (k:Nat) (n:Int) (v:Int) (c:Nat),(∀x∈l,0<=x)->0<=n->RX j l k n=some (v,c)->0<=v
 |0,_,_,_,_,_,_,_,h=>by cases h
 |_+1,[],_,_,_,_,_,_,h=>by cases h
 |j+1,x::l,k,n,v,c,a,f,h=>by
  have d:=a x p3;have b:(0:Int)<=128 ^ k:=Int.pow_nonneg (by omega);unfold RX at h;split at h
  .split at h
   .cases h
   .cases h;have:=Int.mul_nonneg d b;omega
  .have g:=Int.mul_nonneg (VP x (show(128:Int)≠0 by decide)) b;exact azS j l (k+1) _ v c (fun y e=>a y (jO _ e)) (by omega) h
abbrev RY:=Nat×Bool
abbrev cell (b:List Int)(s:RY):List Int×Int×Bool:=(b,(s.1:Int),s.2)
abbrev Yx (b:List Int)(s:RY):List Int×Int×Bool:=(b,(s.1:Int),!s.2)
def rH (b:List Int)(a:Nat):Option (Int×Nat):=match RX 5 (b.drop a) 0 0 with
 |some (v,c)=>some (v,a+c)|none=>none
def adD:Option (Int×Nat)->Int×Int×Bool×Unit
 |some (v,a)=>(v,(a:Int),true,())|none=>(0,0,false,())
def agB {b:List Int}(c:di b){a:Nat}(d:a<=b.length):kV F0 b (a:Int)=some (adD (rH b a)):=by rw[aCh c d];unfold rH;cases RX 5 (b.drop a) 0 0<;>rfl
def auS {b:List Int}(c:di b){a:Nat}(d:a<=b.length):x0 F0 b (a:Int)=some (adD (rH b a)):=by rw[azR c d];unfold rH;cases RX 5 (b.drop a) 0 0<;>rfl
def Zs {b:List Int}(f:di b){a:Nat}(j:a<=b.length){v:Int}{a':Nat}(h:rH b a=some (v,a')):0<=v/\v<=2147483647/\a<a'/\a'<=b.length:=by
 unfold rH at h;split at h
 .rename_i k c d;cases h;have e:=aEG _ _ _ _ _ _ d;have g:=azS _ _ _ _ _ _ (fun x i=>(f.2 x (avD i)).1) (MK 0) d;rw[bc]at e;exact⟨g,e.1,by omega,by omega⟩
 .cases h
def aT (b:List Int)(s:RY):Int×RY:=match rH b s.1 with
 |some (v,a)=>if s.2=true then (v,a,true) else (0,s.1,false)|none=>(0,s.1,false)
def ta {b:List Int}(c:di b){s:RY}(d:s.1<=b.length):cI F0 (cell b s)=some (((aT b s).1,()),cell b (aT b s).2,()):=by
 obtain⟨a,ok⟩:=s;rw[ao1,agB c d,ai];unfold aT adD;dsimp only;cases rH b a with
 |none=>rfl|some r=>cases ok<;>rfl
def nh {b:List Int}(c:di b){s:RY}(d:s.1<=b.length):bH F0 (Yx b s)=some (((aT b s).1,()),Yx b (aT b s).2,()):=by
 obtain⟨a,ok⟩:=s;rw[ac7,auS c d,ai];unfold aT adD;dsimp only;cases rH b a with
 |none=>cases ok<;>rfl|some r=>cases ok<;>rfl
def dU {b:List Int}(d:di b){s:RY}(c:s.1<=b.length):(aT b s).2.1<=b.length/\((aT b s).2.2=true->s.1<(aT b s).2.1)/\0<=(aT b s).1/\(aT b s).1<=2147483647:=by
 unfold aT;split
 .rename_i v a h;have:=Zs d c h;split
  .exact⟨this.2.2.2,fun _=>this.2.2.1,this.1,this.2.1⟩
  .exact⟨c,(fun h=>by cases h),MK _,by omega⟩
 .exact⟨c,(fun h=>by cases h),MK _,by omega⟩
def adE (b:List Int)(a:Nat):Option (ByteArray×Nat):=match rH b a with
 |some (v,a)=>if v>(b.length:Int)-a then none else some (strOf ((b.take (a+v.toNat)).drop a),a+v.toNat)|none=>none
def aCj:Option (ByteArray×Nat)->ByteArray×Int×Bool×Unit
 |some (v,a)=>(v,(a:Int),true,())|none=>(ak,0,false,())
def auT {b:List Int}(e:di b){a:Nat}(f:a<=b.length) :
  br (!(adD (rH b a)).2.2.1) (some (ak,0,false,())) (br (decide ((adD (rH b a)).1>aj ((b.length:Int)-(adD (rH b a)).2.1))) (some (ak,0,false,()))
   (ck (Tx (adD (rH b a)).2.1 (aj ((adD (rH b a)).2.1+(adD (rH b a)).1)) (b.length:Int)) (some (strOf ((b.take (aj ((adD (rH b a)).2.1+(adD (rH b a)).1)).toNat).drop (adD (rH b a)).2.1.toNat),aj ((adD (rH b a)).2.1+(adD (rH b a)).1),true,()))))=some (aCj (adE b a)):=by
 have i:=e.1;unfold adE;cases g:rH b a with
 |none=>rfl
 |some r =>
  obtain⟨v,c⟩:=r;have h:=Zs e f g;show br (!true) _ (br (decide (v>aj ((b.length:Int)-(c:Int)))) _ (ck (Tx (c:Int) (aj ((c:Int)+v)) (b.length:Int)) (some (strOf ((b.take (aj ((c:Int)+v)).toNat).drop (c:Int).toNat),aj ((c:Int)+v),true,()))))=some (aCj (if v>(b.length:Int)-c then none else some (strOf ((b.take (c+v.toNat)).drop c),c+v.toNat)));rw[aN,aa,aH (n:=(b.length:Int)-c) (by omega) (by omega),aH (n:=(c:Int)+v) (by omega) (by omega)];by_cases d:v>(b.length:Int)-c
  .rw[aL d,ae,ag d];rfl
  .rw[aQ d,aa,af d,show(c:Int)+v=((c+v.toNat:Nat):Int) by omega,Zp (by omega) (by omega),ab];simp only[gz,aCj]
def azT {b:List Int}(c:di b){a:Nat}(d:a<=b.length):IK F0 b (a:Int)=some (aCj (adE b a)):=by rw[alP,agB c d,ai];exact auT c d
def JK {b:List Int}(c:di b){a:Nat}(d:a<=b.length):nR F0 b (a:Int)=some (aCj (adE b a)):=by rw[amH,auS c d,ai];exact auT c d
def aJz {b:List Int}(c:di b){a:Nat}(e:a<=b.length){v:ByteArray}{a':Nat}(h:adE b a=some (v,a')):v.size<=1048576/\a<a'/\a'<=b.length:=by
 have i:=c.1;unfold adE at h;split at h
 .rename_i f d g;have j:=Zs c e g;split at h
  .cases h
  .rename_i k;cases h;refine⟨?_,by omega,by omega⟩;show(((b.take (d+f.toNat)).drop d).map fun n=>UInt8.ofNat n.toNat).toArray.size<=1048576;rw[List.size_toArray,pj,bc,bB];omega
 .cases h
def cV (b:List Int)(s:RY):ByteArray×RY:=match adE b s.1 with
 |some (v,a)=>if s.2=true then (v,a,true) else (ak,s.1,false)|none=>(ak,s.1,false)
def agC {b:List Int}(c:di b){s:RY}(d:s.1<=b.length):nF F0 (cell b s)=some (((cV b s).1,()),cell b (cV b s).2,()):=by
 obtain⟨a,ok⟩:=s;rw[alR,azT c d,ai];unfold cV aCj;dsimp only;cases adE b a with
 |none=>rfl|some r=>cases ok<;>rfl
def Zt {b:List Int}(c:di b){s:RY}(d:s.1<=b.length):gn F0 (Yx b s)=some (((cV b s).1,()),Yx b (cV b s).2,()):=by
 obtain⟨a,ok⟩:=s;rw[ZZ,JK c d,ai];unfold cV aCj;dsimp only;cases adE b a with
 |none=>cases ok<;>rfl|some r=>cases ok<;>rfl
def x4 {b:List Int}(d:di b){s:RY}(c:s.1<=b.length):(cV b s).2.1<=b.length/\(cV b s).1.size<=1048576:=by
 unfold cV;split
 .rename_i v a h;have:=aJz d c h;split
  .exact⟨this.2.2,this.1⟩
  .exact⟨c,aR _⟩
 .exact⟨c,aR _⟩
def ks (b:List Int)(n:Int):Nat->Int->RY->List Int->List Int×RY
 |0,_,s,xs=>(xs,s)|f+1,i,s,xs=>if i<n/\s.2=true then ks b n f (i+1) (aT b s).2 (xs++[(aT b s).1]) else (xs,s)
def Ce (b:List Int)(s:RY):List Int×RY:=ks b (aT b s).1 (b.length+2) 0 (aT b s).2 []
def azU {b:List Int}(e:di b)(a:Int){γ:Type}(J:Ex->St->Option γ):∀(f:Nat) (i:Int) (s:RY) (xs:List Int) (m:Nat),s.1<=b.length->0<=i->i+f<=4194304->(s.2=true->b.length+2<=s.1+f)->xs.length+f<=4194304->f<m ->
  DL F0 J m (uJ a i b (s.1:Int) s.2 xs)=J (.exit 0) (rX b ((ks b a f i s xs).2.1:Int) (ks b a f i s xs).2.2 (ks b a f i s xs).1)
 |0,i,s,xs,m,g,n,o,j,p,r=>by
  obtain⟨m,rfl⟩:∃q,m=q+1:=⟨m-1,by omega⟩;have c:s.2=false:=Ke.2 fun h=>by have:=j h;omega
  rw[KK];unfold ks;dsimp only;rw[c,aa];cases decide (i<a)<;>rfl
 |f+1,i,s,xs,m,g,n,o,j,p,r=>by
  obtain⟨m,rfl⟩:∃q,m=q+1:=⟨m-1,by omega⟩;rw[KK];unfold ks;by_cases d:i<a
  .rw[aL d,ae];cases c:s.2 with
   |false =>
    rw[aa,af (fun h=>by cases h.2),c]
   |true =>
    have k:=ta e g;have l:=dU e g;unfold cell at k;rw[c]at k;rw[ae,ag ⟨d,rfl⟩,k,ai,ar (by omega) (by omega) (by rw[cR];omega),ab,aH (by omega) (by omega)];exact azU e a J f (i+1) (aT b s).2 (xs++[(aT b s).1]) m l.1 (by omega) (by omega) (fun h=>by have:=l.2.1 h;have:=j c;omega) (by rw[aK,cR];omega) (by omega)
  .rw[aQ d,aa,af (fun h=>d h.1)]
def azV {b:List Int}(e:di b)(a:Int){γ:Type}(J:Ex->St->Option γ):∀(f:Nat) (i:Int) (s:RY) (xs:List Int) (m:Nat),s.1<=b.length->0<=i->i+f<=4194304->(s.2=true->b.length+2<=s.1+f)->xs.length+f<=4194304->f<m ->
  nU F0 J m (k6 a i b (s.1:Int) (!s.2) xs)=J (.exit 0) (kd b ((ks b a f i s xs).2.1:Int) (!(ks b a f i s xs).2.2) (ks b a f i s xs).1)
 |0,i,s,xs,m,g,n,o,j,p,r=>by
  obtain⟨m,rfl⟩:∃q,m=q+1:=⟨m-1,by omega⟩;have c:s.2=false:=Ke.2 fun h=>by have:=j h;omega
  rw[x1];unfold ks;dsimp only;rw[c];cases decide (i<a)<;>rfl
 |f+1,i,s,xs,m,g,n,o,j,p,r=>by
  obtain⟨m,rfl⟩:∃q,m=q+1:=⟨m-1,by omega⟩;rw[x1];unfold ks;by_cases d:i<a
  .rw[aL d,ae];cases c:s.2 with
   |false =>
    rw[af (fun h=>by cases h.2),c];rfl
   |true =>
    have k:=nh e g;have l:=dU e g;unfold Yx at k;rw[c]at k;rw[aN,ed,ae,ag ⟨d,rfl⟩,show(false:Bool)= !true from rfl,k,ai,ar (by omega) (by omega) (by rw[cR];omega),ab,aH (by omega) (by omega)];exact azV e a J f (i+1) (aT b s).2 (xs++[(aT b s).1]) m l.1 (by omega) (by omega) (fun h=>by have:=l.2.1 h;have:=j c;omega) (by rw[aK,cR];omega) (by omega)
  .rw[aQ d,aa,af (fun h=>d h.1)]
def aEH {b:List Int}(a:di b){s:RY}(c:s.1<=b.length):Fq F0 (cell b s)=some (((Ce b s).1,()),cell b (Ce b s).2,()):=by have e:=a.1;have d:=dU a c;rw[ao2,ta a c,ai];refine(azU a (aT b s).1 (GD F0) (b.length+2) 0 (aT b s).2 [] _ d.1 (MK _) (by omega) (fun _=>by omega) (by rw[bm];omega) (by rw[bz];omega)).trans ?_;rw[aeS];rfl
def azW {b:List Int}(a:di b){s:RY}(c:s.1<=b.length):mI F0 (Yx b s)=some (((Ce b s).1,()),Yx b (Ce b s).2,()):=by have e:=a.1;have d:=dU a c;rw[Z0,nh a c,ai];refine(azV a (aT b s).1 (rj F0) (b.length+2) 0 (aT b s).2 [] _ d.1 (MK _) (by omega) (fun _=>by omega) (by rw[bm];omega) (by rw[bz];omega)).trans ?_;rw[SK];rfl
def aCk (b:List Int)(n:Int)(f:Nat)(i:Int){s:RY}(h:s.2=false)(xs:List Int):ks b n f i s xs=(xs,s):=by
 cases f with
 |zero=>rfl
 |succ f =>
  unfold ks;rw[af (fun a=>by rw[h]at a;cases a.2)]
def auU {b:List Int}(d:di b)(n:Int):∀(f:Nat) (i:Int) (s:RY) (xs:List Int),s.1<=b.length->(ks b n f i s xs).2.1<=b.length/\((ks b n f i s xs).2.2=true->(ks b n f i s xs).1.length+s.1<=xs.length+(ks b n f i s xs).2.1)
 |0,i,s,xs,a=>⟨a,fun _=>bF _⟩
 |f+1,i,s,xs,a=>by
  unfold ks;split
  .have e:=dU d a;have g:=auU d n f (i+1) (aT b s).2 (xs++[(aT b s).1]) e.1;refine⟨g.1,fun h=>?_⟩;cases c:(aT b s).2.2 with
   |false =>
    rw[aCk b n f (i+1) c,c]at h;cases h
   |true =>
    have k:=e.2.1 c;have j:=g.2 h;rw[aK,cR]at j;omega
  .exact⟨a,fun _=>bF _⟩
def aq8 {b:List Int}(a:di b){s:RY}(c:s.1<=b.length):(Ce b s).2.1<=b.length/\((Ce b s).2.2=true->(Ce b s).1.length<=1048576):=by have g:=a.1;have d:=dU a c;have h:=auU a (aT b s).1 (b.length+2) 0 (aT b s).2 [] d.1;refine⟨h.1,fun e=>?_⟩;have f:=h.2 e;have i:=h.1;rw[bm]at f;unfold Ce;omega
def wP (b:List Int)(s:RY):bZ×RY:=(((aT b s).1,(cV b (aT b s).2).1,(Ce b (cV b (aT b s).2).2).1),(Ce b (cV b (aT b s).2).2).2)
def aCl {b:List Int}(a:di b){s:RY}(c:s.1<=b.length):Cw F0 (cell b s)=some (((wP b s).1,()),cell b (wP b s).2,()):=by have d:=(dU a c).1;have e:=(x4 a d).1;rw[asY,ta a c,ai,agC a d,ai,aEH a e,ai];rfl
def axL {b:List Int}(a:di b){s:RY}(c:s.1<=b.length):mJ F0 (Yx b s)=some (((wP b s).1,()),Yx b (wP b s).2,()):=by have d:=(dU a c).1;have e:=(x4 a d).1;rw[afx,nh a c,ai,Zt a d,ai,azW a e,ai];rfl
def S8 {b:List Int}(a:di b){s:RY}(e:s.1<=b.length):(wP b s).2.1<=b.length/\((wP b s).2.2=true->ur (wP b s).1):=by have f:=(dU a e).1;have c:=x4 a f;have d:=aq8 a c.1;exact⟨d.1,fun h=>⟨c.2,d.2 h⟩⟩
def adF:b1:=(0,0,(ak,b9),b9,b9,0,ni)
def fin (c:Int×Int)(b:List Int)(m:b1)(s:RY):b1×Bool:=if s.2=true/\(s.1:Int)=(b.length:Int)/\c8 c m=true then (m,true) else (adF,false)
def agD {c:Int×Int}{b:List Int}{m:b1}{s:RY}(h:s.2=true->gb m) :
  br (!s.2) (some (adF,false,())) (br ((s.1:Int) != (b.length:Int)) (some (adF,false,())) ((fw F0 c m).bind fun d=>br (!d.1) (some (adF,false,())) (some (m,true,()))))=some ((fin c b m s).1,(fin c b m s).2,()):=by
 unfold fin;cases e:s.2 with
 |false =>
  rw[af (fun h=>by cases h.1)];rfl
 |true =>
  rw[aN,aa,J7 (h e),ai];by_cases a:(s.1:Int)=(b.length:Int)
  .rw[show((s.1:Int) != (b.length:Int))=false from Tr.2 a,aa];cases f:c8 c m with
   |false =>
    rw[af (fun h=>by cases h.2.2)];rfl
   |true =>
    rw[ag ⟨rfl,a,rfl⟩];rfl
  .rw[Fe.2 a,ae,af (fun h=>a h.2.1)]
def Yy {c:Int×Int}{b:List Int}{m:b1}{s:RY}(h:s.2=true->gb m) :
  br (!s.2) (some (adF,false,())) (br ((s.1:Int) != (b.length:Int)) (some (adF,false,())) ((gm F0 c m).bind fun d=>br (!d.1) (some (adF,false,())) (some (m,true,()))))=some ((fin c b m s).1,(fin c b m s).2,()):=by
 unfold fin;cases e:s.2 with
 |false =>
  rw[af (fun h=>by cases h.1)];rfl
 |true =>
  rw[aN,aa,Mp (h e),ai];by_cases a:(s.1:Int)=(b.length:Int)
  .rw[show((s.1:Int) != (b.length:Int))=false from Tr.2 a,aa];cases f:c8 c m with
   |false =>
    rw[af (fun h=>by cases h.2.2)];rfl
   |true =>
    rw[ag ⟨rfl,a,rfl⟩];rfl
  .rw[Fe.2 a,ae,af (fun h=>a h.2.1)]
def iL (b:List Int):Int×RY:=aT b (0,true)
def aJA (b:List Int):b1×RY:=(((iL b).1,0,((cV b (iL b).2).1,(wP b (cV b (iL b).2).2).1),b9,b9,0,ni),(wP b (cV b (iL b).2).2).2)
def aJB (b:List Int):b1×RY :=
 (((iL b).1,0,(ak,b9),((aT b (iL b).2).1,(cV b (aT b (iL b).2).2).1,(Ce b (cV b (aT b (iL b).2).2).2).1),b9,0,ni),(Ce b (cV b (aT b (iL b).2).2).2).2)
def aJC (b:List Int):b1×RY :=
 (((iL b).1,(aT b (iL b).2).1,(ak,b9),b9,(wP b (aT b (aT b (iL b).2).2).2).1,(aT b (aT b (iL b).2).2).1,ni),(wP b (aT b (aT b (iL b).2).2).2).2)
def aJD (b:List Int):b1×RY :=
 (((iL b).1,0,(ak,b9),b9,b9,0,(aT b (iL b).2).1,(aT b (aT b (iL b).2).2).1,(aT b (aT b (aT b (iL b).2).2).2).1,(aT b (aT b (aT b (aT b (iL b).2).2).2).2).1),(aT b (aT b (aT b (aT b (iL b).2).2).2).2).2)
def aK1 (b:List Int):b1×RY:=(((iL b).1,0,(ak,b9),b9,b9,0,ni),(iL b).2)
def agE (b:List Int):b1×RY:=if ((iL b).1==1)=true then aJA b else if ((iL b).1==2)=true then aJB b else if ((iL b).1==3)=true then aJC b else if ((iL b).1==4)=true then aJD b else aK1 b
def gF (c:Int×Int)(b:List Int):b1×Bool:=fin c b (agE b).1 (agE b).2
def auV {b:List Int}(a:di b)(c:Int×Int):KM F0 c b=some ((gF c b).1,(gF c b).2,()):=by
 have v:cI F0 (b,0,true)=some (((iL b).1,()),cell b (iL b).2,()):=ta a (s:=(0,true)) (aR _);have i:(iL b).2.1<=b.length:=(dU a (s:=(0,true)) (aR _)).1;have j:=(dU a i).1;have k:=(dU a j).1;have w:=(dU a k).1;have t0:=x4 a i;have t1:=x4 a j;have l:=S8 a t0.1;have n:=S8 a k;have o:=aq8 a t1.1;rw[asZ,v,ai];unfold gF agE;dsimp only;by_cases p:((iL b).1==1)=true
 .rw[p,ae,ag rfl,agC a i,ai,aCl a t0.1,ai];unfold aJA;generalize wP b (cV b (iL b).2).2=e at l ⊢;generalize cV b (iL b).2=f at t0 ⊢;generalize iL b=d;exact agD (c:=c) (b:=b) (m:=(d.1,0,(f.1,e.1),b9,b9,0,ni)) (s:=e.2) fun h=>⟨t0.2,l.2 h,dx,dx⟩
 .rw[Ke.2 p,aa,af (by decide)];by_cases q:((iL b).1==2)=true
  .rw[q,ae,ag rfl,ta a i,ai,agC a j,ai,aEH a t1.1,ai];unfold aJB;generalize Ce b (cV b (aT b (iL b).2).2).2=g at o ⊢;generalize cV b (aT b (iL b).2).2=e at t1 ⊢;generalize aT b (iL b).2=f;generalize iL b=d;exact agD (c:=c) (b:=b) (m:=(d.1,0,(ak,b9),(f.1,e.1,g.1),b9,0,ni)) (s:=g.2) fun h=>⟨aR _,dx,⟨t1.2,o.2 h⟩,dx⟩
  .rw[Ke.2 q,aa,af (by decide)];by_cases r:((iL b).1==3)=true
   .rw[r,ae,ag rfl,ta a i,ai,ta a j,ai,aCl a k,ai];unfold aJC;generalize wP b (aT b (aT b (iL b).2).2).2=g at n ⊢;generalize aT b (aT b (iL b).2).2=e;generalize aT b (iL b).2=f;generalize iL b=d;exact agD (c:=c) (b:=b) (m:=(d.1,f.1,(ak,b9),b9,g.1,e.1,ni)) (s:=g.2) fun h=>⟨aR _,dx,dx,n.2 h⟩
   .rw[Ke.2 r,aa,af (by decide)];by_cases t:((iL b).1==4)=true
    .rw[t,ae,ag rfl,ta a i,ai,ta a j,ai,ta a k,ai,ta a w,ai];unfold aJD;generalize aT b (aT b (aT b (aT b (iL b).2).2).2).2=u;generalize aT b (aT b (aT b (iL b).2).2).2=g;generalize aT b (aT b (iL b).2).2=e;generalize aT b (iL b).2=f;generalize iL b=d;exact agD (c:=c) (b:=b) (m:=(d.1,0,(ak,b9),b9,b9,0,f.1,e.1,g.1,u.1)) (s:=u.2) fun h=>⟨aR _,dx,dx,dx⟩
    .rw[Ke.2 t,aa,af (by decide)];unfold aK1;generalize iL b=d;exact agD (c:=c) (b:=b) (m:=(d.1,0,(ak,b9),b9,b9,0,ni)) (s:=d.2) fun h=>⟨aR _,dx,dx,dx⟩
def adG {b:List Int}(a:di b)(c:Int×Int):CY F0 c b=some ((gF c b).1,(gF c b).2,()):=by
 have v:bH F0 (b,0,false)=some (((iL b).1,()),Yx b (iL b).2,()):=nh a (s:=(0,true)) (aR _);have i:(iL b).2.1<=b.length:=(dU a (s:=(0,true)) (aR _)).1;have j:=(dU a i).1;have k:=(dU a j).1;have w:=(dU a k).1;have t0:=x4 a i;have t1:=x4 a j;have l:=S8 a t0.1;have n:=S8 a k;have o:=aq8 a t1.1;rw[atl,v,ai];unfold gF agE;dsimp only;by_cases p:((iL b).1==1)=true
 .rw[p,ae,ag rfl,Zt a i,ai,axL a t0.1,ai];unfold aJA;generalize wP b (cV b (iL b).2).2=e at l ⊢;generalize cV b (iL b).2=f at t0 ⊢;generalize iL b=d;exact Yy (c:=c) (b:=b) (m:=(d.1,0,(f.1,e.1),b9,b9,0,ni)) (s:=e.2) fun h=>⟨t0.2,l.2 h,dx,dx⟩
 .rw[Ke.2 p,aa,af (by decide)];by_cases q:((iL b).1==2)=true
  .rw[q,ae,ag rfl,nh a i,ai,Zt a j,ai,azW a t1.1,ai];unfold aJB;generalize Ce b (cV b (aT b (iL b).2).2).2=g at o ⊢;generalize cV b (aT b (iL b).2).2=e at t1 ⊢;generalize aT b (iL b).2=f;generalize iL b=d;exact Yy (c:=c) (b:=b) (m:=(d.1,0,(ak,b9),(f.1,e.1,g.1),b9,0,ni)) (s:=g.2) fun h=>⟨aR _,dx,⟨t1.2,o.2 h⟩,dx⟩
  .rw[Ke.2 q,aa,af (by decide)];by_cases r:((iL b).1==3)=true
   .rw[r,ae,ag rfl,nh a i,ai,nh a j,ai,axL a k,ai];unfold aJC;generalize wP b (aT b (aT b (iL b).2).2).2=g at n ⊢;generalize aT b (aT b (iL b).2).2=e;generalize aT b (iL b).2=f;generalize iL b=d;exact Yy (c:=c) (b:=b) (m:=(d.1,f.1,(ak,b9),b9,g.1,e.1,ni)) (s:=g.2) fun h=>⟨aR _,dx,dx,n.2 h⟩
   .rw[Ke.2 r,aa,af (by decide)];by_cases t:((iL b).1==4)=true
    .rw[t,ae,ag rfl,nh a i,ai,nh a j,ai,nh a k,ai,nh a w,ai];unfold aJD;generalize aT b (aT b (aT b (aT b (iL b).2).2).2).2=u;generalize aT b (aT b (aT b (iL b).2).2).2=g;generalize aT b (aT b (iL b).2).2=e;generalize aT b (iL b).2=f;generalize iL b=d;exact Yy (c:=c) (b:=b) (m:=(d.1,0,(ak,b9),b9,b9,0,f.1,e.1,g.1,u.1)) (s:=u.2) fun h=>⟨aR _,dx,dx,dx⟩
    .rw[Ke.2 t,aa,af (by decide)];unfold aK1;generalize iL b=d;exact Yy (c:=c) (b:=b) (m:=(d.1,0,(ak,b9),b9,b9,0,ni)) (s:=d.2) fun h=>⟨aR _,dx,dx,dx⟩
structure kt (w:ah):Prop where
 l:w.2.1.length<=1048576
 r:w.2.2.1.length<=1048576
 rl:∀x∈w.2.2.1,aq6 x
 n:w.2.2.2.1.length<=1048576
 nb:∀x∈w.2.2.2.1,di x.2
 s:w.2.2.2.2.length<=1048576
 st:∀x∈w.2.2.2.2,x.2.1.size<=1048576
def aCm (c:Int×Int):M5 F0 c=some (wO c,()):=by
 rw[aoY,iB,ai];unfold wO;dsimp only;cases h:bw c with
 |false=>rfl
 |true =>
  have:=b5 h;have a:=azC this.1 this.2.1;have e:aj (c.1-1)=c.1-1:=aH (by omega) (by omega);rw[aN,aa,e,aH (n:=Int.tdiv (c.1-1) 3) (by omega) (by omega),ag rfl]
def ab4:aw:=(0,0,0,(0,0,b9,ak),[],[],([],0),[])
def aCn:gD:=(0,[])
def Mr:cD:=(0,ak,0)
def aq9 (c:Int×Int)(l:List aw)(k:Nat):Bool:=ng c (l.getD k ab4)&&((l.getD k ab4).1==(k:Int))
def adH (c:Int×Int)(l:List gD)(k:Nat):Bool:=(gF c (l.getD k aCn).2).2&&gC 0 (aj (c.1-1)) (l.getD k aCn).1
def adI (c:Int×Int)(l:List cD)(k:Nat):Bool:=gC 0 (aj (c.1-1)) (l.getD k Mr).2.2&&(bg (l.getD k Mr).2.1.data.toList&&(aE (l.getD k Mr).2.1.data.toList==(l.getD k Mr).1))
def ara (w:ah):Bool:=(List.range w.2.2.1.length).all (aq9 w.1 w.2.2.1)
def JL (w:ah):Bool:=(List.range w.2.2.2.1.length).all (adH w.1 w.2.2.2.1)
def tc (w:ah):Bool:=(List.range w.2.2.2.2.length).all (adI w.1 w.2.2.2.2)
def fg (w:ah):Bool :=
 bw w.1&&(ko w.1.1 w.2.1&&(!decide ((w.2.1.length:Int)>wO w.1)&&(!((w.2.2.1.length:Int) != w.1.1)&&(!decide ((w.2.2.2.1.length:Int)>60)&&(!decide ((w.2.2.2.2.length:Int)>300)&&(ara w&&(JL w&&tc w)))))))
def anC (a b:Bool):(if a=true then some (b,()) else some (false,()))=some (a&&b,()):=by cases a<;>rfl
def aCo {w:ah}(h:kt w):qV F0 (mc F0) F0.n (mb 0 w.1.1 w.1.2 w.2.1 w.2.2.1 w.2.2.2.1 w.2.2.2.2)=some (tc w,()):=by
 have d:=h.s;rw[er (fun m k=>qV F0 (mc F0) m (mb k w.1.1 w.1.2 w.2.1 w.2.2.1 w.2.2.2.1 w.2.2.2.2)) w.2.2.2.2.length (adI w.1 w.2.2.2.2) (some (true,())) (some (false,())) (fun m k a=>?_) (fun m=>?_) _ (by rw[bz];omega),rG]
 .rfl
 .have c:=h.st _ (bJ a);rw[Hl,aM a,ae,an a,ab,aV a,cO,ai,J6 c,ai,o7 c,ai,aeV,al (by omega)];unfold adI;rw[aJ a];dsimp only;cases gC 0 (aj (w.1.1-1)) (w.2.2.2.2[k]).2.2<;>cases bg (w.2.2.2.2[k]).2.1.data.toList<;>try rfl
  by_cases b:aE (w.2.2.2.2[k]).2.1.data.toList=(w.2.2.2.2[k]).1
  .rw[show(aE (w.2.2.2.2[k]).2.1.data.toList != (w.2.2.2.2[k]).1)=false from Tr.2 b,show(aE (w.2.2.2.2[k]).2.1.data.toList==(w.2.2.2.2[k]).1)=true from bd.2 b];rfl
  .rw[Fe.2 b,bU.2 b];rfl
 .rw[Hl,aC,aa,acJ]
def aCp {w:ah}(h:kt w):q0 F0 (mf F0) F0.n (me 0 w.1.1 w.1.2 w.2.1 w.2.2.1 w.2.2.2.1 w.2.2.2.2)=some (JL w&&tc w,()):=by
 have b:=h.n;rw[er (fun m k=>q0 F0 (mf F0) m (me k w.1.1 w.1.2 w.2.1 w.2.2.1 w.2.2.2.1 w.2.2.2.2)) w.2.2.2.1.length (adH w.1 w.2.2.2.1) (some (tc w,())) (some (false,())) (fun m k a=>?_) (fun m=>?_) _ (by rw[bz];omega),anC]
 .rfl
 .rw[Hm,aM a,ae,an a,ab,aV a,show((w.1.1,w.1.2):Int×Int)=w.1 from rfl,auV (h.nb _ (bJ a)),ai,ab,cO,ai,aeW,al (by omega)];unfold adH;rw[aJ a];dsimp only;cases (gF w.1 (w.2.2.2.1[k]).2).2<;>cases gC 0 (aj (w.1.1-1)) (w.2.2.2.1[k]).1<;>rfl
 .rw[Hm,aC,aa,acK,aCo h]
def aFM {w:ah}(h:kt w):q1 F0 (mh F0) F0.n (mg 0 w.1.1 w.1.2 w.2.1 w.2.2.1 w.2.2.2.1 w.2.2.2.2)=some (ara w&&(JL w&&tc w),()):=by
 have c:=h.r;rw[er (fun m k=>q1 F0 (mh F0) m (mg k w.1.1 w.1.2 w.2.1 w.2.2.1 w.2.2.2.1 w.2.2.2.2)) w.2.2.1.length (aq9 w.1 w.2.2.1) (some (JL w&&tc w,())) (some (false,())) (fun m k a=>?_) (fun m=>?_) _ (by rw[bz];omega),anC]
 .rfl
 .rw[Hn,aM a,ae,an a,ab,aV a,ab,show((w.1.1,w.1.2):Int×Int)=w.1 from rfl,ib (h.rl _ (bJ a)),ai,aeX,al (by omega)];unfold aq9;rw[aJ a];dsimp only;by_cases b:(w.2.2.1[k]).1=(k:Int)
  .rw[show((w.2.2.1[k]).1 != (k:Int))=false from Tr.2 b,show((w.2.2.1[k]).1==(k:Int))=true from bd.2 b,aa,Bool.and_true];cases ng w.1 w.2.2.1[k]<;>rfl
  .rw[Fe.2 b,bU.2 b,ae,aee];rfl
 .rw[Hn,aC,aa,acL,aCp h]
def azX {w:ah}(h:kt w):yO F0 w=some (fg w,()):=by rw[alS,iB,ai,ajj (bY h.l (by omega)),ai,aCm,ai,aFM h];unfold fg;cases bw w.1<;>cases ko w.1.1 w.2.1<;>cases decide ((w.2.1.length:Int)>wO w.1)<;>cases ((w.2.2.1.length:Int) != w.1.1)<;>cases decide ((w.2.2.2.1.length:Int)>60)<;>cases decide ((w.2.2.2.2.length:Int)>300)<;>rfl
def aCq {w:ah}(h:kt w):rm F0 (mL F0) F0.n (mK w.2.2.2.2 (w.2.2.2.2.length:Int) 0 w.1.1 w.1.2)=some (tc w,()):=by
 have d:=h.s;rw[er (fun m k=>rm F0 (mL F0) m (mK w.2.2.2.2 (w.2.2.2.2.length:Int) k w.1.1 w.1.2)) w.2.2.2.2.length (adI w.1 w.2.2.2.2) (some (true,())) (some (false,())) (fun m k a=>?_) (fun m=>?_) _ (by rw[bz];omega),rG]
 .rfl
 .have c:=h.st _ (bJ a);rw[HN,aM a,ae,an a,ab,aV a,bR,ai,Dd c,ai,rF c,ai,afz,al (by omega)];unfold adI;rw[aJ a];dsimp only;cases gC 0 (aj (w.1.1-1)) (w.2.2.2.2[k]).2.2<;>cases bg (w.2.2.2.2[k]).2.1.data.toList<;>try rfl
  by_cases b:aE (w.2.2.2.2[k]).2.1.data.toList=(w.2.2.2.2[k]).1
  .rw[show(aE (w.2.2.2.2[k]).2.1.data.toList != (w.2.2.2.2[k]).1)=false from Tr.2 b,show(aE (w.2.2.2.2[k]).2.1.data.toList==(w.2.2.2.2[k]).1)=true from bd.2 b];rfl
  .rw[Fe.2 b,bU.2 b];rfl
 .rw[HN,aC,aa,ac8]
def aCr {w:ah}(h:kt w):rn F0 (mN F0) F0.n (mM w.2.2.2.1 (w.2.2.2.1.length:Int) 0 w.1.1 w.1.2 w.2.1 w.2.2.1 w.2.2.2.1 w.2.2.2.2 w.1.1 w.1.2)=some (JL w&&tc w,()):=by
 have b:=h.n;rw[er (fun m k=>rn F0 (mN F0) m (mM w.2.2.2.1 (w.2.2.2.1.length:Int) k w.1.1 w.1.2 w.2.1 w.2.2.1 w.2.2.2.1 w.2.2.2.2 w.1.1 w.1.2)) w.2.2.2.1.length (adH w.1 w.2.2.2.1) (some (tc w,())) (some (false,())) (fun m k a=>?_) (fun m=>?_) _ (by rw[bz];omega),anC]
 .rfl
 .rw[HO,aM a,ae,an a,ab,aV a,show((w.1.1,w.1.2):Int×Int)=w.1 from rfl,adG (h.nb _ (bJ a)),ai,bR,ai,afA,al (by omega)];unfold adH;rw[aJ a];dsimp only;cases (gF w.1 (w.2.2.2.1[k]).2).2<;>cases gC 0 (aj (w.1.1-1)) (w.2.2.2.1[k]).1<;>rfl
 .rw[HO,aC,aa,ac9,aCq h]
def aFN {w:ah}(h:kt w):rq F0 (mP F0) F0.n (mO w.2.2.1 (w.2.2.1.length:Int) 0 w.1.1 w.1.2 w.2.1 w.2.2.1 w.2.2.2.1 w.2.2.2.2 w.1.1 w.1.2)=some (ara w&&(JL w&&tc w),()):=by
 have c:=h.r;rw[er (fun m k=>rq F0 (mP F0) m (mO w.2.2.1 (w.2.2.1.length:Int) k w.1.1 w.1.2 w.2.1 w.2.2.1 w.2.2.2.1 w.2.2.2.2 w.1.1 w.1.2)) w.2.2.1.length (aq9 w.1 w.2.2.1) (some (JL w&&tc w,())) (some (false,())) (fun m k a=>?_) (fun m=>?_) _ (by rw[bz];omega),anC]
 .rfl
 .rw[HP,aM a,ae,an a,ab,aV a,show((w.1.1,w.1.2):Int×Int)=w.1 from rfl,dS (h.rl _ (bJ a)),ai,afB,al (by omega)];unfold aq9;rw[aJ a];dsimp only;by_cases b:(w.2.2.1[k]).1=(k:Int)
  .rw[show((w.2.2.1[k]).1 != (k:Int))=false from Tr.2 b,show((w.2.2.1[k]).1==(k:Int))=true from bd.2 b,aa,Bool.and_true];cases ng w.1 w.2.2.1[k]<;>rfl
  .rw[Fe.2 b,bU.2 b,ae,aee];cases ng w.1 w.2.2.1[k]<;>rfl
 .rw[HP,aC,aa,ada,aCr h]
def gP {w:ah}(h:kt w):b4 F0 w=some (fg w,()):=by rw[amI,fZ,ai,adC (bY h.l (by omega)),ai,akV,ai,aFN h];unfold fg;cases bw w.1<;>cases ko w.1.1 w.2.1<;>cases decide ((w.2.1.length:Int)>wO w.1)<;>cases ((w.2.2.1.length:Int) != w.1.1)<;>cases decide ((w.2.2.2.1.length:Int)>60)<;>cases decide ((w.2.2.2.2.length:Int)>300)<;>rfl
structure aN5 (r:aw):Prop where
 i1:I64 r.1
 i2:I64 r.2.1
 i3:I64 r.2.2.2.1.1
 i4:I64 r.2.2.2.1.2.1
 i5:I64 r.2.2.2.1.2.2.1.1
 d:r.2.2.2.1.2.2.2.size<=1048576
 p:r.2.2.2.2.1.length<=1048576
 t:r.2.2.2.2.2.1.length<=1048576
 h:r.2.2.2.2.2.2.2.length<=1048576
def aK2 (l:List Int)(a b:cD):Bool:= !decide (a.2.2∈l)&&((a.2.2==b.2.2)&&((a.1==b.1)&& !(a.2.1.toList==b.2.1.toList)))
def okV (w:ah)(i k:Nat):Bool:= !aK2 w.2.1 (w.2.2.2.2.getD i Mr) (w.2.2.2.2.getD k Mr)
def Zu (w:ah):Bool:=fg w&&(List.range w.2.2.2.2.length).all fun i=>(List.range w.2.2.2.2.length).all (okV w i)
def aCs {V:Type}(h a b c:Bool)(x y:V):br (!h) (br a (br b (br (!c) x y) y) y) y=if (!(!h&&(a&&(b&& !c))))=true then y else x:=by cases h<;>cases a<;>cases b<;>cases c<;>rfl
def aFO {w:ah}(h:kt w){γ:Type}(J:Ex->St->Option γ)(n:Nat){i:Nat}(hi:i<w.2.2.2.2.length) :
  eB F0 (iG F0 J n) F0.n (du w.2.2.2.2 (w.2.2.2.2.length:Int) (i:Int) w.2.2.2.2 (w.2.2.2.2.length:Int) 0 w.1.1 w.1.2 w.2.1 w.2.2.1 w.2.2.2.1 w.2.2.2.2 (w.2.2.2.2[i]).1 (w.2.2.2.2[i]).2.1 (w.2.2.2.2[i]).2.2) =
  if (List.range w.2.2.2.2.length).all (okV w i)=true then ly F0 J n (iH w.2.2.2.2 (w.2.2.2.2.length:Int) ((i+1:Nat):Int) w.1.1 w.1.2 w.2.1 w.2.2.1 w.2.2.2.1 w.2.2.2.2) else J .ret (tE false):=by
 have b:=h.s;have c:=h.l;refine er (fun m k=>eB F0 (iG F0 J n) m (du w.2.2.2.2 (w.2.2.2.2.length:Int) (i:Int) w.2.2.2.2 (w.2.2.2.2.length:Int) k w.1.1 w.1.2 w.2.1 w.2.2.1 w.2.2.2.1 w.2.2.2.2 (w.2.2.2.2[i]).1 (w.2.2.2.2[i]).2.1 (w.2.2.2.2[i]).2.2)) w.2.2.2.2.length (okV w i) _ _ (fun m k a=>?_) (fun m=>?_) _ (by rw[bz];omega)
 .rw[Bs,aM a,ae,an a,ab,aV a,eD (by omega),ai,Ya,al (by omega)];dsimp only;rw[aCs];unfold okV aK2;rw[aJ hi,aJ a]
 .rw[Bs,aC,aa,VA,al (by omega)]
def anl {w:ah}(h:kt w):v7 F0 w=some (Zu w,()):=by
 have b:=h.s;rw[ado,gP h,ai,er (fun m k=>ly F0 (lZ F0) m (iH w.2.2.2.2 (w.2.2.2.2.length:Int) k w.1.1 w.1.2 w.2.1 w.2.2.1 w.2.2.2.1 w.2.2.2.2)) w.2.2.2.2.length (fun i=>(List.range w.2.2.2.2.length).all (okV w i)) (some (true,())) (some (false,())) (fun m k a=>?_) (fun m=>?_) _ (by rw[bz];omega),rG]
 .unfold Zu;cases fg w<;>rfl
 .rw[Bt,aM a,ae,an a,ab,aV a,aFO h _ _ a,Yb]
 .rw[Bt,aC,aa,VB]
def lB (l:List Int):Nat->List Int
 |0=>[]|k+1=>lB l k++if (k:Int)∈l then [] else [(k:Int)]
def j9 (l:List Int):∀k,(lB l k).length<=k
 |0=>bF _|k+1=>by
  have:=j9 l k;unfold lB;split
  .rw[fs];omega
  .rw[aK,cR];omega
def ajp (l:List Int):∀k,∀x∈lB l k,0<=x/\x<k
 |0,x,h=>by cases h
 |k+1,x,h=>by
  unfold lB at h;rcases gQ.1 h with h1|h1
  .have:=ajp l k x h1;omega
  .split at h1
   .cases h1
   .rw[fq.1 h1];omega
def aD (w:ah):List Int:=lB w.2.1 w.2.2.1.length
def ak1 {V:Type}(X:List Int->V)(l xs:List Int)(k:Int):br (!decide (k∈l)) (X (xs++[k])) (X xs)=X (xs++if k∈l then [] else [k]):=by
 by_cases h:k∈l
 .rw[aL h,ag h,fs];rfl
 .rw[aQ h,af h];rfl
def arb {w:ah}(h:kt w):FE F0 w=some (aD w,()):=by
 have e:=h.r;have f:=h.l;rw[apF];refine cv (fun n i (a:List Int)=>o3 F0 (vm F0) n (kC i w.1.1 w.1.2 w.2.1 w.2.2.1 w.2.2.2.1 w.2.2.2.2 a)) w.2.2.1.length (fun k a=>a=lB w.2.1 k) _ (fun n k a c b=>.inr ⟨lB w.2.1 (k+1),?_,rfl⟩) (fun n a b=>?_) _ 0 [] (aR _) rfl (by rw[bz];omega)
 .have d:=j9 w.2.1 k;rw[<-b]at d;rw[Lm,aM c,ae,fH (by omega),ai,ar (by omega) (by omega) (by rw[cR];omega),ab,al (by omega)];dsimp only;rw[ak1 (fun a=>o3 F0 (vm F0) n (kC ((k+1:Nat):Int) w.1.1 w.1.2 w.2.1 w.2.2.1 w.2.2.2.1 w.2.2.2.2 a)),b];rfl
 .rw[Lm,aC,aa,afl,b];rfl
def nu {w:ah}(h:kt w):hH F0 w=some (aD w,()):=by
 have e:=h.r;have f:=h.l;rw[aqb];refine cv (fun n i (a:List Int)=>o5 F0 (vE F0) n (kF (w.2.2.1.length:Int) i w.1.1 w.1.2 w.2.1 w.2.2.1 w.2.2.2.1 w.2.2.2.2 a)) w.2.2.1.length (fun k a=>a=lB w.2.1 k) _ (fun n k a c b=>.inr ⟨lB w.2.1 (k+1),?_,rfl⟩) (fun n a b=>?_) _ 0 [] (aR _) rfl (by rw[bz];omega)
 .have d:=j9 w.2.1 k;rw[<-b]at d;rw[LG,aM c,ae,eD (by omega),ai,ar (by omega) (by omega) (by rw[cR];omega),ab,al (by omega)];dsimp only;rw[ak1 (fun a=>o5 F0 (vE F0) n (kF (w.2.2.1.length:Int) ((k+1:Nat):Int) w.1.1 w.1.2 w.2.1 w.2.2.1 w.2.2.2.1 w.2.2.2.2 a)),b];rfl
 .rw[LG,aC,aa,afJ,b];rfl
def o9 {w:ah}{k:Nat}(a:k<(aD w).length):∃j:Nat,(aD w)[k]=(j:Int)/\j<w.2.2.1.length:=by have:=ajp w.2.1 w.2.2.1.length _ (bJ a);exact⟨(aD w)[k].toNat,by show _=(((aD w)[k]).toNat:Int);have b:0<=(aD w)[k]:=this.1;omega,by have b:0<=(aD w)[k]:=this.1;have c:(aD w)[k]<w.2.2.1.length:=this.2;omega⟩
def aHN (w:ah)(x:Int):ByteArray:=(w.2.2.1.getD x.toNat ab4).2.2.2.1.2.2.2
def anm (s t:ByteArray):Bool:=bg s.data.toList&&(bg t.data.toList&&(decide ((s.size:Int)>=(t.size:Int))&&(((s.extract 0 t.size).toList==t.toList)&&(((s.size:Int)==(t.size:Int)) || (jP s (t.size:Int)==47)))))
def azY {s t:ByteArray}(b:s.size<=1048576)(c:t.size<=1048576):IV F0 s t=some (anm s t,()):=by
 rw[al8,J6 b,ai,J6 c,ai];unfold anm;dsimp only;cases bg s.data.toList<;>cases bg t.data.toList<;>try rfl
 rw[aN,aa,aa,eF,eF];by_cases d:t.size<=s.size
 .rw[aQ (show ¬(t.size:Int)>(s.size:Int) by omega),aa,aL (show(s.size:Int)>=(t.size:Int) by omega),eF,aHK d,ab,gz,show(0:Int).toNat=0 from rfl];cases ((s.extract 0 t.size).toList==t.toList)<;>try rfl
  rw[aN,aa,eF];by_cases a:(s.size:Int)=(t.size:Int)
  .rw[show((s.size:Int)==(t.size:Int))=true from bd.2 a];rfl
  .rw[bU.2 a,aa,an (by omega),ab];rfl
 .rw[aL (show(t.size:Int)>(s.size:Int) by omega),ae,aQ (show ¬(s.size:Int)>=(t.size:Int) by omega)];rfl
def S9 {s t:ByteArray}(b:s.size<=1048576)(c:t.size<=1048576):sP F0 s t=some (anm s t,()):=by
 rw[amZ,Dd b,ai,Dd c,ai,XS,Px];unfold anm;dsimp only;cases bg s.data.toList<;>cases bg t.data.toList<;>try rfl
 rw[ae,ae,eF,eF];by_cases d:t.size<=s.size
 .rw[aL (show(s.size:Int)>=(t.size:Int) by omega),eF,ae,aHK d,ab,gz,show(0:Int).toNat=0 from rfl,ai,ai];dsimp only;cases ((s.extract 0 t.size).toList==t.toList)<;>try rfl
  rw[ae,eF];by_cases a:(s.size:Int)=(t.size:Int)
  .rw[show((s.size:Int)==(t.size:Int))=true from bd.2 a];rfl
  .rw[bU.2 a,aa,an (by omega),ab];rfl
 .rw[aQ (show ¬(s.size:Int)>=(t.size:Int) by omega)];rfl
def ak2 (s t:ByteArray):Bool:=anm s t || anm t s
def aCt {s t:ByteArray}(a:s.size<=1048576)(b:t.size<=1048576):SS F0 s t=some (ak2 s t,()):=by rw[aty,S9 a b,ai,S9 b a,ai];unfold ak2;cases anm s t<;>rfl
def dn (w:ah)(i:Nat):ByteArray:=aHN w ((aD w).getD i 0)
def aEI {w:ah}{i j:Nat}(hi:i<(aD w).length)(e:(aD w)[i]=(j:Int))(a:j<w.2.2.1.length):dn w i=(w.2.2.1[j]).2.2.2.1.2.2.2:=by unfold dn aHN;rw[aJ hi,e,gz,aJ a]
def auW (w:ah):Bool:=fg w&&(List.range (aD w).length).all fun i=>(List.range (aD w).length).all fun k=>ak2 (dn w i) (dn w k)
def aJE {w:ah}(h:kt w){γ:Type}(J:Ex->St->Option γ)(n:Nat){i:Nat}(hi:i<(aD w).length) :
  oP F0 (lv F0 J n) F0.n (lr (aD w)[i] ((aD w).length:Int) (i:Int) ((aD w).length:Int) 0 w.1.1 w.1.2 w.2.1 w.2.2.1 w.2.2.2.1 w.2.2.2.2 (aD w) (aD w)) =
  if ((List.range (aD w).length).all fun k=>ak2 (dn w i) (dn w k))=true then oQ F0 J n (lx ((aD w).length:Int) ((i+1:Nat):Int) w.1.1 w.1.2 w.2.1 w.2.2.1 w.2.2.2.1 w.2.2.2.2 (aD w)) else J .ret (Br false):=by
 have hlen:(aD w).length<=1048576:=bY (j9 w.2.1 w.2.2.1.length) h.r;obtain⟨f,e,b⟩:=o9 hi;refine er (fun m k=>oP F0 (lv F0 J n) m (lr (aD w)[i] ((aD w).length:Int) (i:Int) ((aD w).length:Int) k w.1.1 w.1.2 w.2.1 w.2.2.1 w.2.2.2.1 w.2.2.2.2 (aD w) (aD w))) (aD w).length (fun k=>ak2 (dn w i) (dn w k)) _ _ (fun m k a=>?_) (fun m=>?_) _ (by rw[bz];omega)
 .obtain⟨g,d,c⟩:=o9 a;rw[F3,aM a,ae,an a,ab,e,an b,ab,aV a,d,an c,ab,aV b,aV c,aCt (h.rl _ (bJ b)).s.2 (h.rl _ (bJ c)).s.2,ai,adm,al (by omega),aEI hi e b,aEI a d c];dsimp only;cases ak2 (w.2.2.1[f]).2.2.2.1.2.2.2 (w.2.2.1[g]).2.2.2.1.2.2.2<;>rfl
 .rw[F3,aC,aa,Z9,al (by omega)]
def atE {w:ah}(h:kt w):E0 F0 w=some (auW w,()):=by
 have hlen:(aD w).length<=1048576:=bY (j9 w.2.1 w.2.2.1.length) h.r;rw[ai3,gP h,ai,nu h,ai];unfold auW;dsimp only;cases b:fg w with
 |false=>rfl
 |true =>
  rw[aN,aa,eF,er (fun m k=>oQ F0 (pZ F0) m (lx ((aD w).length:Int) k w.1.1 w.1.2 w.2.1 w.2.2.1 w.2.2.2.1 w.2.2.2.2 (aD w))) (aD w).length (fun i=>(List.range (aD w).length).all fun k=>ak2 (dn w i) (dn w k)) (some (true,())) (some (false,())) (fun m k a=>?_) (fun m=>?_) _ (by rw[bz];omega),rG]
  .rw[F4,aM a,ae,an a,ab,show(((w.1.1,w.1.2),w.2.1,w.2.2.1,w.2.2.2.1,w.2.2.2.2):ah)=w from rfl,nu h,ai];dsimp only;rw[aV a,aJE h _ _ a,adn]
  .rw[F4,aC,aa,aaa]
def Yz (w:ah)(x:Int):bZ:=(w.2.2.1.getD x.toNat ab4).2.2.2.1.2.2.1
def Ta (c:Int×Int)(x:gD):List bZ:=if ((gF c x.2).1.1==1)=true then [(gF c x.2).1.2.2.1.2] else if ((gF c x.2).1.1==3)=true then [(gF c x.2).1.2.2.2.2.1] else []
def E4 (c:Int×Int):List gD->List bZ->List bZ
 |[],xs=>xs|x::l,xs=>E4 c l (xs++Ta c x)
def agF (c:Int×Int):∀(l:List gD) (xs:List bZ) (x:gD),E4 c (l++[x]) xs=E4 c l xs++Ta c x
 |[],_,_=>rfl|_::l,_,x=>agF c l _ x
def aCu (c:Int×Int)(x:gD):(Ta c x).length<=1:=by
 unfold Ta;split
 .exact bF _
 .split
  .exact bF _
  .exact aR _
def YA (c:Int×Int):∀(l:List gD) (xs:List bZ),(E4 c l xs).length<=xs.length+l.length
 |[],_=>bF _|x::l,xs=>by have a:=YA c l (xs++Ta c x);have b:=aCu c x;rw[aK]at a;unfold E4;rw[aW];omega
def Ms (w:ah):List bZ:=E4 w.1 w.2.2.2.1 ((aD w).map (Yz w))
def aFP {V:Type}(X:List bZ->V)(c:Int×Int)(x:gD)(xs:List bZ) :
  br ((gF c x.2).1.1==1) (X (xs++[(gF c x.2).1.2.2.1.2])) (br ((gF c x.2).1.1==3) (X (xs++[(gF c x.2).1.2.2.2.2.1])) (X xs))=X (xs++Ta c x):=by
 unfold Ta;cases ((gF c x.2).1.1==1) with
 |true=>rfl
 |false =>
  cases ((gF c x.2).1.1==3) with
  |true=>rfl
  |false =>
   rw[af (by decide),af (by decide),fs];rfl
def aFQ {U V:Type}(f:U->V)(l:List U)(x:U):(l++[x]).map f=l.map f++[f x]:=by rw[aeb,List.map_singleton]
def aK3 (a b:bZ):Bool:=(a.1==b.1)&& !(a.2.1.toList==b.2.1.toList)
def Vo (l:List bZ)(i k:Nat):Bool:= !aK3 (l.getD i b9) (l.getD k b9)
def Zv (w:ah):Bool:=fg w&&(List.range (Ms w).length).all fun i=>(List.range (Ms w).length).all (Vo (Ms w) i)
def aCv {w:ah}(h:kt w):(Ms w).length<=2097152:=by have hlen:(aD w).length<=1048576:=bY (j9 w.2.1 w.2.2.1.length) h.r;have a:=YA w.1 w.2.2.2.1 ((aD w).map (Yz w));have b:=h.n;rw[pj]at a;unfold Ms;omega
def aCw {V:Type}(a b:Bool)(x y:V):br a (br (!b) x y) y=if (!(a&& !b))=true then y else x:=by cases a<;>cases b<;>rfl
def aFR {l:List bZ}(b:l.length<=2097152){γ:Type}(J:Ex->St->Option γ)(n:Nat){i:Nat}(hi:i<l.length):h9 F0 (iI F0 J n) F0.n (fR (l.length:Int) (i:Int) (l.length:Int) 0 (l[i]).1 (l[i]).2.1 (l[i]).2.2 l) =
  if (List.range l.length).all (Vo l i)=true then ia F0 J n (fS (l.length:Int) ((i+1:Nat):Int) l) else J .ret (tF false):=by
 refine er (fun m k=>h9 F0 (iI F0 J n) m (fR (l.length:Int) (i:Int) (l.length:Int) k (l[i]).1 (l[i]).2.1 (l[i]).2.2 l)) l.length (Vo l i) _ _ (fun m k a=>?_) (fun m=>?_) _ (by rw[bz];omega)
 .rw[Bu,aM a,ae,an a,ab,aV a,Yc,al (by omega),aCw];unfold Vo aK3;rw[aJ hi,aJ a]
 .rw[Bu,aC,aa,VC,al (by omega)]
def aCx {l:List bZ}(b:l.length<=2097152):ia F0 (iJ F0) F0.n (fS (l.length:Int) 0 l)=some (((List.range l.length).all fun i=>(List.range l.length).all (Vo l i)),()):=by
 rw[er (fun m k=>ia F0 (iJ F0) m (fS (l.length:Int) k l)) l.length (fun i=>(List.range l.length).all (Vo l i)) (some (true,())) (some (false,())) (fun m k a=>?_) (fun m=>?_) _ (by rw[bz];omega),rG]
 .rw[Bv,aM a,ae,an a,ab,aV a,aFR b _ _ a,Yd]
 .rw[Bv,aC,aa,VD]
def aCy {w:ah}(h:kt w){b:List bZ}(g:b.length<=1048576){R:Option (Bool×Unit)}(e:fT F0 (.exit 2) (rD (E4 w.1 w.2.2.2.1 b))=R) :
  eC F0 (fT F0) F0.n (dv w.2.2.2.1 (w.2.2.2.1.length:Int) 0 w.1.1 w.1.2 w.2.1 w.2.2.1 w.2.2.2.1 w.2.2.2.2 b)=R:=by
 have j:=h.n;refine cv (fun n i (a:List bZ)=>eC F0 (fT F0) n (dv w.2.2.2.1 (w.2.2.2.1.length:Int) i w.1.1 w.1.2 w.2.1 w.2.2.1 w.2.2.2.1 w.2.2.2.2 a)) w.2.2.2.1.length (fun k a=>a=E4 w.1 (w.2.2.2.1.take k) b) _ (fun n k a c d=>.inr ⟨E4 w.1 (w.2.2.2.1.take (k+1)) b,?_,rfl⟩) (fun n a d=>?_) _ 0 b (aR _) rfl (by rw[bz];omega)
 .have f:=YA w.1 (w.2.2.2.1.take k) b;rw[<-d,bB]at f;rw[Bw,aM c,ae,an c,ab,aV c,show((w.1.1,w.1.2):Int×Int)=w.1 from rfl,adG (h.nb _ (bJ c)),ai,ar (by omega) (by omega) (by rw[cR];omega),ab,ar (by omega) (by omega) (by rw[cR];omega),ab,al (by omega),ei c,agF,<-d];exact aFP (fun a=>eC F0 (fT F0) n (dv w.2.2.2.1 (w.2.2.2.1.length:Int) ((k+1:Nat):Int) w.1.1 w.1.2 w.2.1 w.2.2.1 w.2.2.2.1 w.2.2.2.2 a)) w.1 w.2.2.2.1[k] a
 .rw[Bw,aC,aa,d,kl];exact e
def ann {w:ah}(h:kt w):v8 F0 w=some (Zv w,()):=by
 have hlen:(aD w).length<=1048576:=bY (j9 w.2.1 w.2.2.1.length) h.r;have f:=aCv h;rw[adq,gP h,ai,nu h,ai];dsimp only;have key:lz F0 (l0 F0) F0.n (iK ((aD w).length:Int) 0 w.1.1 w.1.2 w.2.1 w.2.2.1 w.2.2.2.1 w.2.2.2.2 [] (aD w))=some (((List.range (Ms w).length).all fun i=>(List.range (Ms w).length).all (Vo (Ms w) i)),()):=by
  refine cv (fun n i (a:List bZ)=>lz F0 (l0 F0) n (iK ((aD w).length:Int) i w.1.1 w.1.2 w.2.1 w.2.2.1 w.2.2.2.1 w.2.2.2.2 a (aD w))) (aD w).length (fun k a=>a=((aD w).take k).map (Yz w)) _ (fun n k a b c=>.inr ⟨((aD w).take (k+1)).map (Yz w),?_,rfl⟩) (fun n a c=>?_) _ 0 [] (aR _) rfl (by rw[bz];omega)
  .obtain⟨g,e,d⟩:=o9 b;have f:a.length<=1048576:=by rw[c,pj,bB];omega
   have j:Yz w (g:Int)=(w.2.2.1[g]).2.2.2.1.2.2.1:=by unfold Yz;rw[gz,aJ d]
   rw[Bx,aM b,ae,an b,ab,aV b,e,an d,ab,ar (by omega) (by omega) (by rw[cR];omega),ab,al (by omega),aV d,ei b,aFQ,<-c,e,j]
  .rw[Bx,aC,aa,VF,c,kl];exact aCy h (by rw[pj];omega) (by rw[VE];exact aCx f)
 rw[key];unfold Zv;cases fg w<;>rfl
end Go.Am.Tryz
