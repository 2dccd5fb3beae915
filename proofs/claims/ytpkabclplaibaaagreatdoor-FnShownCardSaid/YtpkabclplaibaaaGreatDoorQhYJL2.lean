/- No condition. -/
import Derived.Test.YtpkabclplaibaaaGreatDoorQhYJL1
import Derived.Test.YtpkabclplaibaaaGreatDoorQhAmWf
set_option linter.all false
namespace Go.Am.Tryz
open Go.Am
def ae9 (a b:List Int):List Int:=b.foldl I4 (a.foldl I4 [])
def lW:∀(l a:List Int),(l.foldl I4 a).length<=a.length+l.length
 |[],a=>by simp
 |x::l,a=>by have b:=lW l (I4 a x);have c:=La a x;rw[List.foldl_cons,aR];omega
def akD (a b:List Int):(ae9 a b).length<=a.length+b.length:=by unfold ae9;have d:=lW b (a.foldl I4 []);have c:=lW a [];rw[bo]at c;omega
def abq {γ:Type}(X:Nat->Int->List Int->Option γ)(l a:List Int)(R:Option γ)(f:a.length+l.length<=1048576)(c:∀n k xs (h:k<l.length),xs.length<=1048575->X (n+1) (k:Int) xs=X n ((k+1:Nat):Int) (I4 xs l[k]))
  (d:∀n,X (n+1) (l.length:Int) (l.foldl I4 a)=R) (n:Nat) (e:l.length<n):X n 0 a=R:=by
 refine b9 X l.length (fun k xs=>xs=(l.take k).foldl I4 a) R (fun n k xs b h=>.inr ⟨I4 xs l[k],c n k xs b ?_,?_⟩) (fun n xs h=>?_) n 0 a (a1 _) rfl (by omega)
 .have:=lW (l.take k) a;rw[h];rw[bQ]at this;omega
 .rw[dQ b,List.foldl_append,<-h];rfl
 .rw[gq]at h;rw[h];exact d n
def afa {a b:List Int}(h:a.length+b.length<=1048576):AN F0 a b=some (ae9 a b,()):=by
 rw[UX];have d:=lW a [];rw[bo]at d;refine abq (fun n i xs=>se F0 (uB F0) n (mz a b i xs)) a [] _ (by rw[bo];omega) (fun n k xs c e=>?_) (fun n=>?_) _ (by rw[b1];omega)
 .rw[y0,bp c,ae,aE c,ab,cB c,CL (by omega),av,an (by omega)]
 .rw[y0,aO,aa,Oz];refine abq (fun n i xs=>sd F0 (uA F0) n (my b i xs)) b (a.foldl I4 []) _ (by omega) (fun n k xs c e=>?_) (fun n=>?_) _ (by rw[b1];omega)
  .rw[yZ,bp c,ae,aE c,ab,cB c,CL (by omega),av,an (by omega)]
  .rw[yZ,aO,aa,Oy];rfl
def gS {i n:Int}(a:0<=i)(h:i<n):b5 i n=true:=by simp[b5];omega
def akE {c:Int×Int}{view s:Int}(b:bF c=true)(d:0<=view)(e:0<=s)(h:s<=c.1-1):cp c view (SM c view s)=s:=by
 have i:=cj b;have f:=V2 (view%c.1+s) (show c.1≠0 by omega);have j:=V0 (view%c.1+s) (show 0<c.1 by omega);unfold SM;rw[aj ⟨b,d,e,h⟩];unfold cp;rw[aj ⟨b,d,f,by omega⟩];obtain⟨n,a⟩:=c;dsimp only at *;have g:n=4\/n=5\/n=6\/n=7:=by omega
 rcases g with rfl|rfl|rfl|rfl<;>omega
def amw (c:Int×Int)(view:Int):cp c view (-1)=-1:=by unfold cp;rw[ag (fun h=>by omega)]
def ads {c:Int×Int}{view i:Int}(h:0<=cp c view i):bF c=true/\0<=view/\cp c view i<=c.1-1:=by
 unfold cp at h ⊢;by_cases a:bF c=true/\0<=view/\0<=i/\i<=c.1-1
 .rw[aj a];have b:=cj a.1;have d:=V0 (i+c.1-view%c.1) (show 0<c.1 by omega);exact⟨a.1,a.2.1,by omega⟩
 .rw[ag a]at h;omega
def aoi {c:Int×Int}{view i:Int}(h:0<=cp c view i):cp c view (SN c view i)<cp c view i:=by
 have a:=ads h;have d:=cj a.1;unfold SN;by_cases b:cp c view i<=0
 .rw[aj b,amw];omega
 .have hd1:0<=(cp c view i-1)/c.2:=Int.ediv_nonneg (by omega) (by omega);have e:(cp c view i-1)/c.2<=cp c view i-1:=Int.ediv_le_self c.2 (by omega);rw[ag b,akE a.1 a.2.1 hd1 (by omega)];omega
def Hf (c:Int×Int)(view:Int):Nat->Int->List Int
 |0,_=>[]|k+1,i=>if 0<=cp c view i then i::Hf c view k (SN c view i) else []
def abr (c:Int×Int)(view i:Int):List Int:=Hf c view 8 i
def TV (c:Int×Int)(view:Int):∀(k:Nat) (i:Int),(Hf c view k i).length<=k
 |0,_=>bq _|k+1,i=>by
  unfold Hf;split
  .have:=TV c view k (SN c view i);rw[aR];omega
  .exact a1 _
def akF (c:Int×Int)(view i:Int):(abr c view i).length<=8:=TV c view 8 i
def afb (c:Int×Int)(view:Int){γ:Type}(J:Ex->St->Option γ):∀(k:Nat) (i:Int) (xs:List Int) (n:Nat),cp c view i<k->xs.length+k<=1000->k<n ->
  G8 F0 J n (AO view i c.1 c.2 xs)=J (.exit 0) (EY (xs++Hf c view k i))
 |0,i,xs,n,a,b,d=>by obtain⟨n,rfl⟩:∃m,n=m+1:=⟨n-1,by omega⟩;rw[H9,show((c.1,c.2):Int×Int)=c from rfl,Le,av];dsimp only;rw[a6 (show ¬cp c view i>=0 by omega),aa,Hf,fo]
 |k+1,i,xs,n,a,b,d=>by
  obtain⟨n,rfl⟩:∃m,n=m+1:=⟨n-1,by omega⟩;rw[H9,show((c.1,c.2):Int×Int)=c from rfl,Le,av];unfold Hf;dsimp only;by_cases h:0<=cp c view i
  .have e:=aoi h;rw[aW (show cp c view i>=0 from h),ae,aj h,aC (by omega) (by omega) (by rw[b2];omega),ab,amv,av];dsimp only;rw[afb c view J k (SN c view i) (xs++[i]) n (by omega) (by rw[aB,b2];omega) (by omega),ha];rfl
  .rw[a6 (show ¬cp c view i>=0 from h),aa,ag h,fo]
def aoj (c:Int×Int)(view i:Int):Qp F0 c view i=some (abr c view i,()):=by have a:=abp c view i;rw[aeU,afb c view _ 8 i [] _ (by omega) (by rw[bo];omega) (by rw[b1];omega),XQ,nD];rfl
def cmn (b a:List Int):Nat:=a.countP fun x=>decide (x∈b)
def amx (b a:List Int)(x:Int):cmn b (a++[x])=cmn b a+if x∈b then 1 else 0:=by
 unfold cmn;rw[List.countP_append,List.countP_singleton];by_cases h:x∈b
 .simp[h]
 .simp[h]
def apY (b a:List Int):cmn b a<=a.length:=List.countP_le_length
def ahv {a b:List Int}(f:a.length<=1048576)(g:b.length<=1048576):DS F0 a b=some ((cmn b a:Int),()):=by
 rw[XR];refine b9 (fun n i (q:Int)=>vG F0 (yt F0) n (oX a b q i)) a.length (fun k q=>q=(cmn b (a.take k):Int)) _ (fun n k q c d=>.inr ⟨(cmn b (a.take (k+1)):Int),?_,rfl⟩) (fun n q d=>?_) _ 0 0 (a1 _) rfl (by rw[b1];omega)
 .have e:=apY b (a.take k);rw[bQ]at e;rw[Cr,bp c,ae,aE c,ab,cB c,dP (by omega),av,dQ c,amx,d,an (by omega)];dsimp only;rw[aae];by_cases h:a[k]∈b
  .rw[aW h,ae,av,aj h];dsimp only;rw[an (by omega)]
  .rw[a6 h,aa,av,ag h];dsimp only;rw[aD (by omega) (by omega),Int.add_zero];rfl
 .rw[Cr,aO,aa,Qr,d,gq]
def Srt (l:List Int):Prop:=l.Pairwise (·< ·)
def afc {i x:Int}:∀{l:List Int},x∈Vz i l↔x=i\/x∈l
 |[]=>by simp[Vz]
 |y::l=>by
  unfold Vz;split
  .rw[c7]
  .rw[c7,afc,c7];constructor
   .rintro(h|h|h)
    .exact .inr (.inl h)
    .exact .inl h
    .exact .inr (.inr h)
   .rintro(h|h|h)
    .exact .inr (.inl h)
    .exact .inl h
    .exact .inr (.inr h)
def afd {i x:Int}{l:List Int}:x∈I4 l i↔x=i\/x∈l:=by
 unfold I4;split
 .rename_i h;exact⟨.inr,fun a=>a.elim (fun e=>e▸h) id⟩
 .exact afc
structure ar3 (c:Int×Int) (view:Int) (c9:List Int) (k:Nat) (xs:List (List Int)):Prop where
 len:(xs.length:Int)=c.1
 srt:∀i,0<=i->i<c.1->Srt (bd xs i [])
 mem:∀i x,0<=i->i<c.1->x∈bd xs i []->x∈c9/\0<=x/\x<c.1
 up:∀x,x∈c9->0<=x->x<c.1->(k:Int)<=cp c view x->∃a:Int,0<=a/\a<max k 1/\x∈bd xs (SM c view a) []
abbrev bC:=Int×Int×ct×ByteArray
abbrev cH:=ByteArray×ct
abbrev cq:=Int×Int×cH×ct×ct×Int×dW
abbrev ll:=Int×cq
abbrev au:=Int×Int×Int×bC×List dW×List ct×(List Int×Int)×List ll
abbrev np:=Int×List Int
abbrev eb:=Int×ByteArray×Int
abbrev aq:=(Int×Int)×List Int×List au×List np×List eb
def abt {b:ByteArray}(h:b.size<=1048576):b.data.toList.length<=1073741824:=aL (Rw (show b.data.toList.length=b.size from rfl)) (by omega)
def Br {b:ByteArray}(h:b.size<=1048576):dz F0 b=some (bR b.data.toList,()):=He (abt h)
def eT {b:ByteArray}(h:b.size<=1048576):bY F0 b=some (bE b.data.toList,()):=YT (abt h)
def Bs (q:ct):Prop:=q.2.1.size<=1048576/\q.2.2.length<=1048576
def fg (c:Int×Int)(q:ct):Bool:=adq c (q.1,q.2.1.data.toList,q.2.2)
def Hg {q:ct}(h:Bs q)(c:Int×Int):gk F0 c q=some (fg c q,()):=ae7 (v:=q.1) (l:=q.2.1.data.toList) (s:=q.2.2) (abt h.1) (aL h.2 (by omega)) c
def cl (c:Int×Int)(s:bC):Bool:=fR 0 60 s.1&&(fR 0 60 s.2.1&&(fg c s.2.2.1&&bR s.2.2.2.data.toList))
def td (s:bC):Prop:=Bs s.2.2.1/\s.2.2.2.size<=1048576
def uT {s:bC}(h:td s)(c:Int×Int):ft F0 c s=some (cl c s,()):=by rw[Xo,ch,av,ch,av,Hg h.1,av,Br h.2,av];unfold cl;cases fR 0 60 s.1<;>cases fR 0 60 s.2.1<;>cases fg c s.2.2.1<;>rfl
def bH {U:Type}{a:List U}{k:Nat}(h:k<a.length)(d:U):a.getD k d=a[k]:=by simp[List.getD,h]
def Q1 {U:Type}(d:U)(p:U->Bool)(q:U->U->Bool)(l:List U):Bool:=(List.range l.length).all fun k=>p (l.getD k d)&&(decide (k=0) || q (l.getD (k-1) d) (l.getD k d))
def afe {V:Type}{k:Nat}(a b:Bool)(x y:V)(c:V)(d:0<k->c=br (!b) x y) :
  br (!a) x (br (decide ((k:Int)>0)) c y)=if (a&&(decide (k=0) || b))=true then y else x:=by
 cases a with
 |false=>rfl
 |true =>
  rw[bc,aa,yJ];by_cases h:k=0
  .subst h;rfl
  .rw[aW (show(k:Int)>0 by omega),ae,a6 h,yI,d (by omega)];cases b<;>rfl
def w7:dW:=(0,0,0,0)
def w8 (a b:dW):Bool:=decide (a.1<b.1) || ((a.1==b.1)&&decide (a.2.2.2<b.2.2.2))
def Q2 (a b:dW):nK F0 a b=some (w8 a b,()):=by rw[R0];unfold w8;cases decide (a.1<b.1)<;>cases (a.1==b.1)<;>rfl
def nA (p:List dW):Bool:=Q1 w7 e4 w8 p&&decide ((p.length:Int)<=12)
def YV {p:List dW}(h:p.length<=1048576):wz F0 p=some (nA p,()):=by
 rw[Xp,E5 (fun m k=>nL F0 (ot F0) m (ka p k)) p.length (fun k=>e4 (p.getD k w7)&&(decide (k=0) || w8 (p.getD (k-1) w7) (p.getD k w7))) (some (decide ((p.length:Int)<=12),())) (some (false,())) (fun m k a=>?_) (fun m=>?_) _ (by rw[b1];omega)]
 .unfold nA Q1;cases (List.range p.length).all _<;>rfl
 .rw[B5,bp a,ae,aE a,ab,cB a,Gv,av,bH a,R1,an (by omega),ab];refine afe _ (w8 (p.getD (k-1) w7) p[k]) _ _ _ fun b=>?_
  rw[Q0 b (by omega),aE (show k-1<p.length by omega),ab,cB (show k-1<p.length by omega),Q2,av,bH (show k-1<p.length by omega)]
 .rw[B5,aO,aa,P3]
def dR (b:ByteArray):Bool:=b.toList==ah.toList
def j0 (c:Int×Int)(p:ct):Bool :=
 bF c&&(fR 1 60 p.1&&(nn c.1 p.2.2&&(!((p.2.2.length:Int)==0)&&(dR p.2.1 || (bR p.2.1.data.toList&&(bE p.2.1.data.toList==p.1))))))
def Hh {p:ct}(h:Bs p)(c:Int×Int):gD F0 c p=some (j0 c p,()):=by rw[Xq,e7,av,ch,av,SL (aL h.2 (by omega)),av,Br h.1,av,eT h.1,av];unfold j0 dR;cases bF c<;>cases fR 1 60 p.1<;>cases nn c.1 p.2.2<;>cases ((p.2.2.length:Int)==0)<;>cases (p.2.1.toList==ah.toList)<;>cases bR p.2.1.data.toList<;>rfl
def cI:ct:=(0,ah,[])
def nc (a b:ct):Bool:=decide (a.1<b.1) || ((a.1==b.1)&&Op.bytesLess a.2.1.toList b.2.1.toList)
def NM (a b:ct):lH F0 a b=some (nc a b,()):=by rw[P4];unfold nc;cases decide (a.1<b.1)<;>cases (a.1==b.1)<;>rfl
def fl (c:Int×Int)(l:List ct):Bool:=Q1 cI (j0 c) nc l&&decide ((l.length:Int)<=20)
def TW {l:List ct}(h:l.length<=1048576)(b:∀q∈l,Bs q)(c:Int×Int):jE F0 c l=some (fl c l,()):=by
 rw[Ur,E5 (fun m k=>lI F0 (mn F0) m (il l k c.1 c.2)) l.length (fun k=>j0 c (l.getD k cI)&&(decide (k=0) || nc (l.getD (k-1) cI) (l.getD k cI))) (some (decide ((l.length:Int)<=20),())) (some (false,())) (fun m k a=>?_) (fun m=>?_) _ (by rw[b1];omega)]
 .unfold fl Q1;cases (List.range l.length).all _<;>rfl
 .rw[yO,bp a,ae,aE a,ab,cB a,show((c.1,c.2):Int×Int)=c from rfl,Hh (b _ (dH a)),av,bH a,P5,an (by omega),ab];refine afe _ (nc (l.getD (k-1) cI) l[k]) _ _ _ fun d=>?_
  rw[Q0 d (by omega),aE (show k-1<l.length by omega),ab,cB (show k-1<l.length by omega),NM,av,bH (show k-1<l.length by omega)]
 .rw[yO,aO,aa,On]
def gh (d:List Int×Int):Bool:=decide ((d.1.length:Int)<=100000)&&fR 0 d.1.length d.2
def CN (d:List Int×Int):jj F0 d=some (gh d,()):=by rw[Xr,ch,av];unfold gh;cases decide ((d.1.length:Int)<=100000)<;>rfl
def YW {a b:List Int}(j:a.length<=1048576)(l:b.length<=1048576):wA F0 a b=some (decide (a=b),()):=by
 rw[Xs,E5 (fun m k=>vn F0 (ov F0) m (ou a b k)) (min a.length b.length) (fun k=>a.getD k 0==b.getD k 0) (some ((a.length:Int)==(b.length:Int),())) (some (false,())) (fun m k n=>?_) (fun m=>?_) _ (by rw[b1];omega)]
 .by_cases c:a=b
  .rw[aW c,aj (gb.2 fun k _=>by rw[c];exact Mx (b.getD k 0)),c,Mx]
  .rw[a6 c];by_cases e:a.length=b.length
   .rw[ag];intro f;refine c (List.ext_getElem e fun k g i=>?_);have:=gb.1 f k (gd.2 (by omega));simpa [List.getD,g,i]using this
   .rw[cC.2 (show(a.length:Int)≠(b.length:Int) by omega)];cases (List.range (min a.length b.length)).all _<;>rfl
 .rw[B6,bp (show k<a.length by omega),ae,bp (show k<b.length by omega),ae,aE (show k<a.length by omega),ab,aE (show k<b.length by omega),ab,jv,jv,R2,an (by omega),amq];by_cases d:a.getD k 0=b.getD k 0
  .simp[d]
  .simp[d]
 .rw[B6,P6];rcases Tj a.length b.length with h|h
  .rw[Rt (by omega),aO,aa]
  .rw[Nat.min_eq_right h,aO,aa];cases decide ((b.length:Int)<(a.length:Int))<;>rfl
def uU (a b:ct):Bool:=(a.1==b.1)&&((a.2.1.toList==b.2.1.toList)&&decide (a.2.2=b.2.2))
def SP {a b:ct}(c:Bs a)(d:Bs b):pU F0 a b=some (uU a b,()):=by rw[Xt,YW c.2 d.2,av];unfold uU;cases (a.1==b.1)<;>cases (a.2.1.toList==b.2.1.toList)<;>rfl
def aff {a b:ct}(c:Bs a)(d:Bs b):Ay F0 a b=some (uU a b,()):=by rw[Us,YW c.2 d.2,av];unfold uU;cases (a.1==b.1)<;>cases (a.2.1.toList==b.2.1.toList)<;>rfl
def Bt (a b:cH):Bool:=(a.1.toList==b.1.toList)&&uU a.2 b.2
def aat {a b:cH}(c:Bs a.2)(d:Bs b.2):rN F0 a b=some (Bt a b,()):=by rw[P7,SP c d,av];unfold Bt;cases (a.1.toList==b.1.toList)<;>rfl
def adt (a b:dW):Bool:=(a.1==b.1)&&((a.2.1==b.2.1)&&((a.2.2.1==b.2.2.1)&&((a.2.2.2==b.2.2.2)&&true)))
def Hi (a b:cq):Bool:=(a.1==b.1)&&((a.2.1==b.2.1)&&(Bt a.2.2.1 b.2.2.1&&(uU a.2.2.2.1 b.2.2.2.1&&(uU a.2.2.2.2.1 b.2.2.2.2.1&&((a.2.2.2.2.2.1==b.2.2.2.2.2.1)&&adt a.2.2.2.2.2.2 b.2.2.2.2.2.2)))))
def iX (m:cq):Prop:=m.2.2.1.1.size<=1048576/\Bs m.2.2.1.2/\Bs m.2.2.2.1/\Bs m.2.2.2.2.1
def afg {a b:cq}(c:iX a)(d:iX b):gE F0 a b=some (Hi a b,()):=by rw[Uu,aat c.2.1 d.2.1,av,aff c.2.2.1 d.2.2.1,av,SP c.2.2.2 d.2.2.2,av];unfold Hi adt;dsimp only;generalize ((a.2.2.2.2.2.2.1==b.2.2.2.2.2.2.1)&&((a.2.2.2.2.2.2.2.1==b.2.2.2.2.2.2.2.1)&&((a.2.2.2.2.2.2.2.2.1==b.2.2.2.2.2.2.2.2.1)&&((a.2.2.2.2.2.2.2.2.2==b.2.2.2.2.2.2.2.2.2)&&true))))=t;cases (a.1==b.1)<;>cases (a.2.1==b.2.1)<;>cases Bt a.2.2.1 b.2.2.1<;>cases uU a.2.2.2.1 b.2.2.2.1<;>cases uU a.2.2.2.2.1 b.2.2.2.2.1<;>cases (a.2.2.2.2.2.1==b.2.2.2.2.2.1)<;>rfl
def named (m:cq):cq :=
 if (m.1==1)=true then (m.1,0,m.2.2.1,cI,cI,0,w7)
 else if (m.1==2)=true then (m.1,0,(ah,cI),m.2.2.2.1,cI,0,w7)
 else if (m.1==3)=true then (m.1,m.2.1,(ah,cI),cI,m.2.2.2.2.1,m.2.2.2.2.2.1,w7)
 else if (m.1==4)=true then (m.1,0,(ah,cI),cI,cI,0,m.2.2.2.2.2.2)
 else (m.1,0,(ah,cI),cI,cI,0,w7)
def e8:Bs cI:=⟨a1 _,a1 _⟩
def aok {m:cq}(h:iX m):iX (named m):=by
 unfold named;split
 .exact⟨h.1,h.2.1,e8,e8⟩
 .split
  .exact⟨a1 _,e8,h.2.2.1,e8⟩
  .split
   .exact⟨a1 _,e8,e8,h.2.2.2⟩
   .split
    .exact⟨a1 _,e8,e8,e8⟩
    .exact⟨a1 _,e8,e8,e8⟩
def afh {m:cq}(h:iX m):Az F0 m=some (Hi (named m) m,()):=by
 have a:=afg (aok h) h;rw[Uw];unfold named cI w7 at a;unfold named cI w7;by_cases b:(m.1==1)=true
 .rw[aj b]at a ⊢;rw[b,ae,a,av]
 .rw[ag b]at a ⊢;rw[Mw.2 b,aa];by_cases c:(m.1==2)=true
  .rw[aj c]at a ⊢;rw[c,ae,a,av]
  .rw[ag c]at a ⊢;rw[Mw.2 c,aa];by_cases d:(m.1==3)=true
   .rw[aj d]at a ⊢;rw[d,ae,a,av]
   .rw[ag d]at a ⊢;rw[Mw.2 d,aa];by_cases e:(m.1==4)=true
    .rw[aj e]at a ⊢;rw[e,ae,a,av]
    .rw[ag e]at a ⊢;rw[Mw.2 e,aa,a,av]
def fS (l:List UInt8):Nat->Nat
 |0=>0|k+1=>if (((l.getD k 0).toNat:Int) != 47)=true then fS l k else k+1
def afi (l:List UInt8):∀k,fS l k<=k
 |0=>bq _|k+1=>by
  unfold fS;split
  .exact Nat.le_succ_of_le (afi l k)
  .exact bq _
def apZ {h n:Nat}(a:h<=n):I5 0 (h:Int) (n:Int)=true:=LO (l:=0) (a1 _) a
def upL (l:List UInt8):List UInt8:=if bR l=true then l.take (fS l l.length-1) else []
def ajD (l:List UInt8){γ:Type}(J:Ex->St->Option γ):∀(k n:Nat),k<=l.length->k<=1073741824->k<n->Dw F0 J n (vo (tx l) (k:Int))=J (.exit 0) (rO (tx l) (fS l k:Int))
 |0,n,a,b,c=>by obtain⟨n,rfl⟩:∃m,n=m+1:=⟨n-1,by omega⟩;rw[FE];rfl
 |k+1,n,a,b,c=>by
  obtain⟨n,rfl⟩:∃m,n=m+1:=⟨n-1,by omega⟩;rw[FE,aW (show((k+1:Nat):Int)>0 by omega),ae,Q0 (by omega) (by omega),show k+1-1=k from rfl,ao,aE (by omega),ab,QR];unfold fS;by_cases h:(((l.getD k 0).toNat:Int) != 47)=true
  .rw[h,ae,aj rfl,ajD l J k n (by omega) (by omega) (by omega)]
  .rw[Mw.2 h,aa,ag (by decide)]
def amy {l:List UInt8}(h:l.length<=1048576):iq F0 (tx l)=some (tx (upL l),()):=by
 rw[acY,He (by omega),av];unfold upL;dsimp only;cases bR l with
 |false=>rfl
 |true =>
  have c:=afi l l.length;rw[bc,aa,ao,ajD l _ l.length _ (bq _) (by omega) (by rw[b1];omega),Uy,aj rfl,MY];have b:br (decide (ak ((fS l l.length:Int)-1)>0)) (some (ak ((fS l l.length:Int)-1),())) (some ((0:Int),()))=some (((fS l l.length-1:Nat):Int),()):=by
   rw[aD (by omega) (by omega)];by_cases a:(fS l l.length:Int)-1>0
   .rw[aW a,ae,show(fS l l.length:Int)-1=((fS l l.length-1:Nat):Int) by omega]
   .rw[a6 a,aa,show fS l l.length-1=0 by omega];rfl
  rw[b,av];dsimp only;rw[ao,apZ (by omega),ab,wc,show(0:Int).toNat=0 from rfl,TT,V3,Rv]
def ahw {c x:UInt8}{l:List UInt8}{ps:List (List UInt8)}(h:parts c (x::l)=[]::ps):x=c:=by
 unfold parts at h;split at h
 .assumption
 .split at h
  .cases (we h).1
  .cases (we h).1
def ahx {l:List UInt8}(h:bR l=true)(b:l≠[]):∃t,l=47::t:=by
 cases l with
 |nil=>exact absurd rfl b
 |cons x t =>
  refine⟨t,?_⟩;unfold bR bZ at h;rw[ag b]at h;cases a:parts 47 (x::t) with
  |nil=>exact absurd a (CJ _ _)
  |cons c g =>
   rw[a]at h;dsimp only at h;split at h
   .cases h
   .rename_i d;have e:c=[]:=ad7 fun f=>d (.inl f)
    subst e;rw[ahw a]
def abu {t:List UInt8}:∀k,0<k->0<fS (47::t) k
 |0,h=>absurd h (Ti _)|1,_=>by unfold fS;rw[show((((47::t).getD 0 0:UInt8).toNat:Int) != 47)=false from rfl,ag (by decide)];exact V9 _
 |k+2,_=>by
  unfold fS;split
  .exact abu (k+1) (V9 _)
  .exact V9 _
def Q3 {b:ByteArray}(h:b.size<=1048576):iq F0 b=some (tx (upL b.data.toList),()):=amy (l:=b.data.toList) h
def fZ (c:Int×Int)(b:cH):Bool:=fg c b.2&&(bR b.1.data.toList&&(!dR b.1&&((tx (upL b.1.data.toList)).toList==b.2.2.1.toList)))
def w9 {b:cH}(a:b.1.size<=1048576)(d:Bs b.2)(c:Int×Int):jF F0 c b=some (fZ c b,()):=by rw[Uz,Hg d,av,Br a,av,Q3 a,av];unfold fZ dR;cases fg c b.2<;>cases bR b.1.data.toList<;>cases (b.1.toList==ah.toList)<;>rfl
def dS (c:Int×Int)(m:cq):Bool:=bF c&&(Hi (named m) m&&(if (m.1==1)=true then fZ c m.2.2.1 else if (m.1==2)=true then j0 c m.2.2.2.1&& !dR m.2.2.2.1.2.1
 else if (m.1==3)=true then fR 1 60 m.2.1&&(fg c m.2.2.2.2.1&&fR 0 (ak (c.1-1)) m.2.2.2.2.2.1) else (m.1==4)&&e4 m.2.2.2.2.2.2))
def Bu {m:cq}(h:iX m)(c:Int×Int):dL F0 c m=some (dS c m,()):=by rw[Z5,e7,av,afh h,av,w9 h.1 h.2.1,av,Hh h.2.2.1,av,ch,av,Hg h.2.2.2,av,ch,av,Gv,av];unfold dS dR;dsimp only;cases bF c<;>cases Hi (named m) m<;>cases (m.1==1)<;>cases (m.1==2)<;>cases (m.1==3)<;>cases (m.1==4)<;>cases j0 c m.2.2.2.1<;>cases fR 1 60 m.2.1<;>cases fg c m.2.2.2.2.1<;>rfl
def Hj (c:Int×Int)(r:Int)(p:ll):Bool:=dS c p.2&&(fR 0 (ak (c.1-1)) p.1&& !(p.1==r))
def Gy (c:Int×Int)(r:au):Bool :=
 bF c&&(fR 0 (ak (c.1-1)) r.1&&(fR 1 60 r.2.1&&(fR 0 60 r.2.2.1&&(cl c r.2.2.2.1&&(nA r.2.2.2.2.1&&(fl c r.2.2.2.2.2.1&&(gh r.2.2.2.2.2.2.1&&(!decide ((r.2.2.2.2.2.2.2.length:Int)>30)&&r.2.2.2.2.2.2.2.all (Hj c r.1)))))))))
structure akG (r:au):Prop where
 s:td r.2.2.2.1
 p:r.2.2.2.2.1.length<=1048576
 t:r.2.2.2.2.2.1.length<=1048576
 tq:∀q∈r.2.2.2.2.2.1,Bs q
 h:r.2.2.2.2.2.2.2.length<=1048576
 hm:∀q∈r.2.2.2.2.2.2.2,iX q.2
def ap0:ll:=(0,0,0,(ah,cI),cI,cI,0,w7)
def YX (b:Bool):(if b=true then some (true,()) else some (false,()))=some (b,()):=by cases b<;>rfl
def eU {r:au}(h:akG r)(c:Int×Int):cQ F0 c r=some (Gy c r,()):=by
 have b:=h.h;rw[Z6,e7,av,ch,av,ch,av,ch,av,uT h.s,av,YV h.p,av,TW h.t h.tq,av,CN,av,
  E5 (fun m k=>AE F0 (rR F0) m (rP k c.1 c.2 r.1 r.2.1 r.2.2.1 r.2.2.2.1.1 r.2.2.2.1.2.1 r.2.2.2.1.2.2.1.1 r.2.2.2.1.2.2.1.2.1 r.2.2.2.1.2.2.1.2.2 r.2.2.2.1.2.2.2 r.2.2.2.2.1 r.2.2.2.2.2.1 r.2.2.2.2.2.2.1.1 r.2.2.2.2.2.2.1.2 r.2.2.2.2.2.2.2)) r.2.2.2.2.2.2.2.length
   (fun k=>Hj c r.1 (r.2.2.2.2.2.2.2.getD k ap0)) (some (true,())) (some (false,())) (fun m k a=>?_) (fun m=>?_) _ (by rw[b1];omega),YS,YX]
 .unfold Gy;cases bF c<;>cases fR 0 (ak (c.1-1)) r.1<;>cases fR 1 60 r.2.1<;>cases fR 0 60 r.2.2.1<;>cases cl c r.2.2.2.1<;>cases nA r.2.2.2.2.1<;>cases fl c r.2.2.2.2.2.1<;>cases gh r.2.2.2.2.2.2.1<;>cases decide ((r.2.2.2.2.2.2.2.length:Int)>30)<;>rfl
 .rw[Dx,bp a,ae,aE a,ab,cB a,show((c.1,c.2):Int×Int)=c from rfl,Bu (h.hm _ (dH a)),av,ab,ch,av,ab,bH a,UA,an (by omega)];unfold Hj;cases dS c (r.2.2.2.2.2.2.2[k]).2<;>cases fR 0 (ak (c.1-1)) (r.2.2.2.2.2.2.2[k]).1<;>cases ((r.2.2.2.2.2.2.2[k]).1==r.1)<;>rfl
 .rw[Dx,aO,aa,R3]
def amz {lo a x:Int}:fR lo a x=decide (lo<=x/\x<=a):=by unfold fR;by_cases b:lo<=x<;>by_cases c:x<=a<;>simp[b,c]
def Q4:Nat->List Int->Nat->Int->Option (Int×Nat)
 |0,_,_,_=>none|_+1,[],_,_=>none|j+1,x::xs,k,n=>if x<128 then (if (k≠0/\x=0)\/n+x*128 ^ k>2147483647 then none else some (n+x*128 ^ k,k+1)) else Q4 j xs (k+1) (n+x%128*128 ^ k)
def aq2 (a:Nat):Option (Int×Nat)->Int×Int×Bool×Unit
 |some (v,c)=>(v,((a+c:Nat):Int),true,())|none=>(0,0,false,())
def ap1 {k:Nat}(h:k<=4):(2:Int) ^ (min (ak (7*(k:Int))).toNat 64)=128 ^ k:=by
 have:k=0\/k=1\/k=2\/k=3\/k=4:=by omega
 rcases this with rfl|rfl|rfl|rfl|rfl<;>rfl
def adu {k:Nat}(h:k<=4):(1:Int)<=128 ^ k/\(128:Int) ^ k<=268435456:=by
 have:k=0\/k=1\/k=2\/k=3\/k=4:=by omega
 rcases this with rfl|rfl|rfl|rfl|rfl<;>decide
def amA {d P:Int}(a:0<=d)(b:d<=127)(c:1<=P):0<=d*P/\d*P<=127*P:=⟨Int.mul_nonneg a (by omega),Int.mul_le_mul_of_nonneg_right b (by omega)⟩
def ap2 {i n:Nat}(d:Nat)(h:n<2 ^ i):n ||| d*2 ^ i=n+d*2 ^ i:=by rw[Nat.or_comm,<-Nat.shiftLeft_eq,<-Nat.shiftLeft_add_eq_or_of_lt h,Nat.add_comm]
def ap3 {k:Nat}(a:k<=4){n d:Int}(b:0<=n)(c:n<128 ^ k)(f:0<=d)(j:d<=127):((BitVec.ofInt 64 n ||| BitVec.ofInt 64 (d*128 ^ k)).toNat:Int)=n+d*128 ^ k:=by
 obtain⟨m,rfl⟩:=Int.eq_ofNat_of_zero_le b;obtain⟨e,rfl⟩:=Int.eq_ofNat_of_zero_le f;have g:(128:Int) ^ k=((2 ^ (7*k):Nat):Int):=by rw[Nat.pow_mul];exact(Int.natCast_pow 128 k).symm
 have h:=adu a;rw[g]at c h ⊢;have i:m<2 ^ (7*k):=by omega
 have l:e*2 ^ (7*k)<=127*2 ^ (7*k):=tt _ (by omega);have o:2 ^ (7*k)<=268435456:=by omega
 rw[show(e:Int)*((2 ^ (7*k):Nat):Int)=((e*2 ^ (7*k):Nat):Int) from(Int.natCast_mul _ _).symm,BitVec.ofInt_natCast,BitVec.ofInt_natCast,BitVec.toNat_or,BitVec.toNat_ofNat,BitVec.toNat_ofNat,abX (by omega),abX (by omega),ap2 e i];omega
def ep (b:List Int):Prop:=b.length<=1048576/\∀x∈b,0<=x/\x<=255
def afk {b:List Int}(l:ep b)(a:Nat)(t:a<=b.length):∀(j k:Nat),j+k=5->∀(c:Int) (m:Nat),0<=c->c<128 ^ k->j<m ->
  vq F0 (oA F0) m (oz b (a:Int) c (k:Int))=some (aq2 a (Q4 j (b.drop (a+k)) k c))
 |0,k,u,c,m,o,p,v=>by obtain⟨m,rfl⟩:∃q,m=q+1:=⟨m-1,by omega⟩;rw[B9,a6 (by omega),aa,Qb];rfl
 |j+1,k,u,c,m,o,p,v=>by
  obtain⟨m,rfl⟩:∃q,m=q+1:=⟨m-1,by omega⟩;have B:=l.1;rw[B9,aW (by omega),ae,a6 (show ¬(a:Int)<0 by omega),aa,aD (n:=(b.length:Int)-k) (by omega) (by omega)];rcases Tj (a+k) b.length with hlt|w
  .have r:=l.2 b[a+k] (dH hlt);have y:=adu (k:=k) (by omega);rw[a6 (show ¬(a:Int)>=(b.length:Int)-k by omega),aa,show ak ((a:Int)+(k:Int))=((a+k:Nat):Int) by rw[aD (by omega) (by omega)];omega,aE hlt,ab,
    aW (show 0<=ak (7*(k:Int)) by rw[aD (by omega) (by omega)];omega),ab,cB hlt,ap1 (by omega),VZ hlt]
   generalize b[a+k]=x at r ⊢;rw[aD (n:=x) (by omega) (by omega),ad6 (by omega),uk,uk];have z:=amA (d:=x%128) (P:=128 ^ k) (by omega) (by omega) y.1;rw[aD (n:=x%128*128 ^ k) (by omega) (by omega),ap3 (by omega) o p (by omega) (by omega),aD (n:=c+x%128*128 ^ k) (by omega) (by omega)];unfold Q4;by_cases g:x<128
   .have e:x%128=x:=Int.emod_eq_of_lt r.1 g;rw[e]at z ⊢;rw[aW g,ae,aj g,aD (n:=((a+k:Nat):Int)+1) (by omega) (by omega)];by_cases s:k=0
    .subst s;rw[show decide (((0:Nat):Int)>0)=false from rfl,aa];by_cases f:c+x*128 ^ 0>2147483647
     .rw[aW f,ae,aj (.inr f)];rfl
     .rw[a6 f,aa,ag (fun h=>h.elim (fun h=>h.1 rfl) f)];rfl
    .rw[aW (show(k:Int)>0 by omega),ae];by_cases i:x=0
     .rw[show(x==0)=true from cS.2 i,ae,aj (.inl ⟨s,i⟩)];rfl
     .rw[cC.2 i,aa];by_cases f:c+x*128 ^ k>2147483647
      .rw[aW f,ae,aj (.inr f)];rfl
      .rw[a6 f,aa,ag (fun h=>h.elim (fun h=>i h.2) f)];rfl
   .rw[a6 g,aa,ag g,an (by omega)];have A:c+x%128*128 ^ k<128 ^ (k+1):=by rw[Rx];omega
    exact afk l a t j (k+1) (by omega) _ m (by omega) A (by omega)
  .rw[aW (show(a:Int)>=(b.length:Int)-k by omega),ae,uk,List.drop_eq_nil_of_le w];rfl
def ahy {b:List Int}(c:ep b){a:Nat}(d:a<=b.length):gF F0 b (a:Int)=some (aq2 a (Q4 5 (b.drop a) 0 0)):=by rw[Xy];exact afk c a d 5 0 rfl 0 _ (by omega) (by decide) (by rw[b1];omega)
def ajE:∀(j:Nat) (l:List Int) (k:Nat) (n:Int) (v:Int) (c:Nat),Q4 j l k n=some (v,c)->v<=2147483647/\k<c/\c<=k+l.length
 |0,_,_,_,_,_,h=>by cases h
 |_+1,[],_,_,_,_,h=>by cases h
 |j+1,x::l,k,n,v,c,h=>by
  unfold Q4 at h;split at h
  .split at h
   .cases h
   .rename_i a;cases h;exact⟨Int.not_lt.1 fun b=>a (.inr b),Nat.lt_succ_self _,by rw[aR];omega⟩
  .have:=ajE j l (k+1) _ v c h;rw[aR];exact⟨this.1,by omega,by omega⟩
def afl:∀(j:Nat) (l:List Int) (k:Nat) (n:Int) (v:Int) (c:Nat),(∀x∈l,0<=x)->0<=n->Q4 j l k n=some (v,c)->0<=v
 |0,_,_,_,_,_,_,_,h=>by cases h
 |_+1,[],_,_,_,_,_,_,h=>by cases h
 |j+1,x::l,k,n,v,c,a,f,h=>by
  have d:=a x tu;have b:(0:Int)<=128 ^ k:=Int.pow_nonneg (by omega);unfold Q4 at h;split at h
  .split at h
   .cases h
   .cases h;have:=Int.mul_nonneg d b;omega
  .have g:=Int.mul_nonneg (V2 x (show(128:Int)≠0 by decide)) b;exact afl j l (k+1) _ v c (fun y e=>a y (h8 _ e)) (by omega) h
abbrev LP:=Nat×Bool
abbrev cell (b:List Int)(s:LP):List Int×Int×Bool:=(b,(s.1:Int),s.2)
def uV (b:List Int)(a:Nat):Option (Int×Nat):=match Q4 5 (b.drop a) 0 0 with
 |some (v,c)=>some (v,a+c)|none=>none
def SQ:Option (Int×Nat)->Int×Int×Bool×Unit
 |some (v,a)=>(v,(a:Int),true,())|none=>(0,0,false,())
def Q5 {b:List Int}(c:ep b){a:Nat}(d:a<=b.length):gF F0 b (a:Int)=some (SQ (uV b a)):=by rw[ahy c d];unfold uV;cases Q4 5 (b.drop a) 0 0<;>rfl
def Q6 {b:List Int}(f:ep b){a:Nat}(j:a<=b.length){v:Int}{a':Nat}(h:uV b a=some (v,a')):0<=v/\v<=2147483647/\a<a'/\a'<=b.length:=by
 unfold uV at h;split at h
 .rename_i k c d;cases h;have e:=ajE _ _ _ _ _ _ d;have g:=afl _ _ _ _ _ _ (fun x i=>(f.2 x (abU i)).1) (I9 0) d;rw[bT]at e;exact⟨g,e.1,by omega,by omega⟩
 .cases h
def aV (b:List Int)(s:LP):Int×LP:=match uV b s.1 with
 |some (v,a)=>if s.2=true then (v,a,true) else (0,s.1,false)|none=>(0,s.1,false)
def nd {b:List Int}(c:ep b){s:LP}(d:s.1<=b.length):b7 F0 (cell b s)=some (((aV b s).1,()),cell b (aV b s).2,()):=by
 obtain⟨a,ok⟩:=s;rw[Xz,Q5 c d,av];unfold aV SQ;dsimp only;cases uV b a with
 |none=>rfl|some r=>cases ok<;>rfl
def gT {b:List Int}(d:ep b){s:LP}(c:s.1<=b.length):(aV b s).2.1<=b.length/\((aV b s).2.2=true->s.1<(aV b s).2.1)/\0<=(aV b s).1/\(aV b s).1<=2147483647:=by
 unfold aV;split
 .rename_i v a h;have:=Q6 d c h;split
  .exact⟨this.2.2.2,fun _=>this.2.2.1,this.1,this.2.1⟩
  .exact⟨c,(fun h=>by cases h),I9 _,by omega⟩
 .exact⟨c,(fun h=>by cases h),I9 _,by omega⟩
def adv (b:List Int)(a:Nat):Option (ByteArray×Nat):=match uV b a with
 |some (v,a)=>if v>(b.length:Int)-a then none else some (strOf ((b.take (a+v.toNat)).drop a),a+v.toNat)|none=>none
def amB:Option (ByteArray×Nat)->ByteArray×Int×Bool×Unit
 |some (v,a)=>(v,(a:Int),true,())|none=>(ah,0,false,())
def akH {b:List Int}(e:ep b){a:Nat}(f:a<=b.length) :
  br (!(SQ (uV b a)).2.2.1) (some (ah,0,false,())) (br (decide ((SQ (uV b a)).1>ak ((b.length:Int)-(SQ (uV b a)).2.1))) (some (ah,0,false,()))
   (ck (I5 (SQ (uV b a)).2.1 (ak ((SQ (uV b a)).2.1+(SQ (uV b a)).1)) (b.length:Int)) (some (strOf ((b.take (ak ((SQ (uV b a)).2.1+(SQ (uV b a)).1)).toNat).drop (SQ (uV b a)).2.1.toNat),ak ((SQ (uV b a)).2.1+(SQ (uV b a)).1),true,()))))=some (amB (adv b a)):=by
 have i:=e.1;unfold adv;cases g:uV b a with
 |none=>rfl
 |some r =>
  obtain⟨v,c⟩:=r;have h:=Q6 e f g;show br (!true) _ (br (decide (v>ak ((b.length:Int)-(c:Int)))) _ (ck (I5 (c:Int) (ak ((c:Int)+v)) (b.length:Int)) (some (strOf ((b.take (ak ((c:Int)+v)).toNat).drop (c:Int).toNat),ak ((c:Int)+v),true,()))))=some (amB (if v>(b.length:Int)-c then none else some (strOf ((b.take (c+v.toNat)).drop c),c+v.toNat)));rw[bc,aa,aD (n:=(b.length:Int)-c) (by omega) (by omega),aD (n:=(c:Int)+v) (by omega) (by omega)];by_cases d:v>(b.length:Int)-c
  .rw[aW d,ae,aj d];rfl
  .rw[a6 d,aa,ag d,show(c:Int)+v=((c+v.toNat:Nat):Int) by omega,LO (by omega) (by omega),ab];simp only[wc,amB]
def afm {b:List Int}(c:ep b){a:Nat}(d:a<=b.length):AF F0 b (a:Int)=some (amB (adv b a)):=by rw[UB,Q5 c d,av];exact akH c d
def aol {b:List Int}(c:ep b){a:Nat}(e:a<=b.length){v:ByteArray}{a':Nat}(h:adv b a=some (v,a')):v.size<=1048576/\a<a'/\a'<=b.length:=by
 have i:=c.1;unfold adv at h;split at h
 .rename_i f d g;have j:=Q6 c e g;split at h
  .cases h
  .rename_i k;cases h;refine⟨?_,by omega,by omega⟩;show(((b.take (d+f.toNat)).drop d).map fun n=>UInt8.ofNat n.toNat).toArray.size<=1048576;rw[List.size_toArray,fB,bT,bQ];omega
 .cases h
def dv (b:List Int)(s:LP):ByteArray×LP:=match adv b s.1 with
 |some (v,a)=>if s.2=true then (v,a,true) else (ah,s.1,false)|none=>(ah,s.1,false)
def Q7 {b:List Int}(c:ep b){s:LP}(d:s.1<=b.length):jG F0 (cell b s)=some (((dv b s).1,()),cell b (dv b s).2,()):=by
 obtain⟨a,ok⟩:=s;rw[UD,afm c d,av];unfold dv amB;dsimp only;cases adv b a with
 |none=>rfl|some r=>cases ok<;>rfl
def Gz {b:List Int}(d:ep b){s:LP}(c:s.1<=b.length):(dv b s).2.1<=b.length/\(dv b s).1.size<=1048576:=by
 unfold dv;split
 .rename_i v a h;have:=aol d c h;split
  .exact⟨this.2.2,this.1⟩
  .exact⟨c,a1 _⟩
 .exact⟨c,a1 _⟩
def lX (b:List Int)(n:Int):Nat->Int->LP->List Int->List Int×LP
 |0,_,s,xs=>(xs,s)|f+1,i,s,xs=>if i<n/\s.2=true then lX b n f (i+1) (aV b s).2 (xs++[(aV b s).1]) else (xs,s)
def CO (b:List Int)(s:LP):List Int×LP:=lX b (aV b s).1 (b.length+2) 0 (aV b s).2 []
def afn {b:List Int}(e:ep b)(a:Int){γ:Type}(J:Ex->St->Option γ):∀(f:Nat) (i:Int) (s:LP) (xs:List Int) (m:Nat),s.1<=b.length->0<=i->i+f<=4194304->(s.2=true->b.length+2<=s.1+f)->xs.length+f<=4194304->f<m ->
  vu F0 J m (oC a i b (s.1:Int) s.2 xs)=J (.exit 0) (mq b ((lX b a f i s xs).2.1:Int) (lX b a f i s xs).2.2 (lX b a f i s xs).1)
 |0,i,s,xs,m,g,n,o,j,p,r=>by
  obtain⟨m,rfl⟩:∃q,m=q+1:=⟨m-1,by omega⟩;have c:s.2=false:=Mw.2 fun h=>by have:=j h;omega
  rw[Cb];unfold lX;dsimp only;rw[c,aa];cases decide (i<a)<;>rfl
 |f+1,i,s,xs,m,g,n,o,j,p,r=>by
  obtain⟨m,rfl⟩:∃q,m=q+1:=⟨m-1,by omega⟩;rw[Cb];unfold lX;by_cases d:i<a
  .rw[aW d,ae];cases c:s.2 with
   |false =>
    rw[aa,ag (fun h=>by cases h.2),c]
   |true =>
    have k:=nd e g;have l:=gT e g;unfold cell at k;rw[c]at k;rw[ae,aj ⟨d,rfl⟩,k,av,aC (by omega) (by omega) (by rw[b2];omega),ab,aD (by omega) (by omega)];exact afn e a J f (i+1) (aV b s).2 (xs++[(aV b s).1]) m l.1 (by omega) (by omega) (fun h=>by have:=l.2.1 h;have:=j c;omega) (by rw[aB,b2];omega) (by omega)
  .rw[a6 d,aa,ag (fun h=>d h.1)]
def ajF {b:List Int}(a:ep b){s:LP}(c:s.1<=b.length):wC F0 (cell b s)=some (((CO b s).1,()),cell b (CO b s).2,()):=by have e:=a.1;have d:=gT a c;rw[XA,nd a c,av];refine(afn a (aV b s).1 (yl F0) (b.length+2) 0 (aV b s).2 [] _ d.1 (I9 _) (by omega) (fun _=>by omega) (by rw[bo];omega) (by rw[b1];omega)).trans ?_;rw[Qc];rfl
def ahz (b:List Int)(n:Int)(f:Nat)(i:Int){s:LP}(h:s.2=false)(xs:List Int):lX b n f i s xs=(xs,s):=by
 cases f with
 |zero=>rfl
 |succ f =>
  unfold lX;rw[ag (fun a=>by rw[h]at a;cases a.2)]
def abv {b:List Int}(d:ep b)(n:Int):∀(f:Nat) (i:Int) (s:LP) (xs:List Int),s.1<=b.length->(lX b n f i s xs).2.1<=b.length/\((lX b n f i s xs).2.2=true->(lX b n f i s xs).1.length+s.1<=xs.length+(lX b n f i s xs).2.1)
 |0,i,s,xs,a=>⟨a,fun _=>bq _⟩
 |f+1,i,s,xs,a=>by
  unfold lX;split
  .have e:=gT d a;have g:=abv d n f (i+1) (aV b s).2 (xs++[(aV b s).1]) e.1;refine⟨g.1,fun h=>?_⟩;cases c:(aV b s).2.2 with
   |false =>
    rw[ahz b n f (i+1) c,c]at h;cases h
   |true =>
    have k:=e.2.1 c;have j:=g.2 h;rw[aB,b2]at j;omega
  .exact⟨a,fun _=>bq _⟩
def afo {b:List Int}(a:ep b){s:LP}(c:s.1<=b.length):(CO b s).2.1<=b.length/\((CO b s).2.2=true->(CO b s).1.length<=1048576):=by have g:=a.1;have d:=gT a c;have h:=abv a (aV b s).1 (b.length+2) 0 (aV b s).2 [] d.1;refine⟨h.1,fun e=>?_⟩;have f:=h.2 e;have i:=h.1;rw[bo]at f;unfold CO;omega
def Ba (b:List Int)(s:LP):ct×LP:=(((aV b s).1,(dv b (aV b s).2).1,(CO b (dv b (aV b s).2).2).1),(CO b (dv b (aV b s).2).2).2)
def ahA {b:List Int}(a:ep b){s:LP}(c:s.1<=b.length):um F0 (cell b s)=some (((Ba b s).1,()),cell b (Ba b s).2,()):=by have d:=(gT a c).1;have e:=(Gz a d).1;rw[Z7,nd a c,av,Q7 a d,av,ajF a e,av];rfl
def VO {b:List Int}(a:ep b){s:LP}(e:s.1<=b.length):(Ba b s).2.1<=b.length/\((Ba b s).2.2=true->Bs (Ba b s).1):=by have f:=(gT a e).1;have c:=Gz a f;have d:=afo a c.1;exact⟨d.1,fun h=>⟨c.2,d.2 h⟩⟩
def adw:cq:=(0,0,(ah,cI),cI,cI,0,w7)
def MB (c:Int×Int)(b:List Int)(m:cq)(s:LP):cq×Bool:=if s.2=true/\(s.1:Int)=(b.length:Int)/\dS c m=true then (m,true) else (adw,false)
def Q8 {c:Int×Int}{b:List Int}{m:cq}{s:LP}(h:s.2=true->iX m) :
  br (!s.2) (some (adw,false,())) (br ((s.1:Int) != (b.length:Int)) (some (adw,false,())) ((dL F0 c m).bind fun d=>br (!d.1) (some (adw,false,())) (some (m,true,()))))=some ((MB c b m s).1,(MB c b m s).2,()):=by
 unfold MB;cases e:s.2 with
 |false =>
  rw[ag (fun h=>by cases h.1)];rfl
 |true =>
  rw[bc,aa,Bu (h e),av];by_cases a:(s.1:Int)=(b.length:Int)
  .rw[show((s.1:Int) != (b.length:Int))=false from aaI.2 a,aa];cases f:dS c m with
   |false =>
    rw[ag (fun h=>by cases h.2.2)];rfl
   |true =>
    rw[aj ⟨rfl,a,rfl⟩];rfl
  .rw[GD.2 a,ae,ag (fun h=>a h.2.1)]
def l1 (b:List Int):Int×LP:=aV b (0,true)
def ap4 (b:List Int):cq×LP:=(((l1 b).1,0,((dv b (l1 b).2).1,(Ba b (dv b (l1 b).2).2).1),cI,cI,0,w7),(Ba b (dv b (l1 b).2).2).2)
def ap5 (b:List Int):cq×LP :=
 (((l1 b).1,0,(ah,cI),((aV b (l1 b).2).1,(dv b (aV b (l1 b).2).2).1,(CO b (dv b (aV b (l1 b).2).2).2).1),cI,0,w7),(CO b (dv b (aV b (l1 b).2).2).2).2)
def ap6 (b:List Int):cq×LP :=
 (((l1 b).1,(aV b (l1 b).2).1,(ah,cI),cI,(Ba b (aV b (aV b (l1 b).2).2).2).1,(aV b (aV b (l1 b).2).2).1,w7),(Ba b (aV b (aV b (l1 b).2).2).2).2)
def ap7 (b:List Int):cq×LP :=
 (((l1 b).1,0,(ah,cI),cI,cI,0,(aV b (l1 b).2).1,(aV b (aV b (l1 b).2).2).1,(aV b (aV b (aV b (l1 b).2).2).2).1,(aV b (aV b (aV b (aV b (l1 b).2).2).2).2).1),(aV b (aV b (aV b (aV b (l1 b).2).2).2).2).2)
def aq3 (b:List Int):cq×LP:=(((l1 b).1,0,(ah,cI),cI,cI,0,w7),(l1 b).2)
def TX (b:List Int):cq×LP:=if ((l1 b).1==1)=true then ap4 b else if ((l1 b).1==2)=true then ap5 b else if ((l1 b).1==3)=true then ap6 b else if ((l1 b).1==4)=true then ap7 b else aq3 b
def CP (c:Int×Int)(b:List Int):cq×Bool:=MB c b (TX b).1 (TX b).2
def abw {b:List Int}(a:ep b)(c:Int×Int):Cd F0 c b=some ((CP c b).1,(CP c b).2,()):=by
 have v:b7 F0 (b,0,true)=some (((l1 b).1,()),cell b (l1 b).2,()):=nd a (s:=(0,true)) (a1 _);have i:(l1 b).2.1<=b.length:=(gT a (s:=(0,true)) (a1 _)).1;have j:=(gT a i).1;have k:=(gT a j).1;have w:=(gT a k).1;have t0:=Gz a i;have t1:=Gz a j;have l:=VO a t0.1;have n:=VO a k;have o:=afo a t1.1;rw[Z8,v,av];unfold CP TX;dsimp only;by_cases p:((l1 b).1==1)=true
 .rw[p,ae,aj rfl,Q7 a i,av,ahA a t0.1,av];unfold ap4;generalize Ba b (dv b (l1 b).2).2=e at l ⊢;generalize dv b (l1 b).2=f at t0 ⊢;generalize l1 b=d;exact Q8 (c:=c) (b:=b) (m:=(d.1,0,(f.1,e.1),cI,cI,0,w7)) (s:=e.2) fun h=>⟨t0.2,l.2 h,e8,e8⟩
 .rw[Mw.2 p,aa,ag (by decide)];by_cases q:((l1 b).1==2)=true
  .rw[q,ae,aj rfl,nd a i,av,Q7 a j,av,ajF a t1.1,av];unfold ap5;generalize CO b (dv b (aV b (l1 b).2).2).2=g at o ⊢;generalize dv b (aV b (l1 b).2).2=e at t1 ⊢;generalize aV b (l1 b).2=f;generalize l1 b=d;exact Q8 (c:=c) (b:=b) (m:=(d.1,0,(ah,cI),(f.1,e.1,g.1),cI,0,w7)) (s:=g.2) fun h=>⟨a1 _,e8,⟨t1.2,o.2 h⟩,e8⟩
  .rw[Mw.2 q,aa,ag (by decide)];by_cases r:((l1 b).1==3)=true
   .rw[r,ae,aj rfl,nd a i,av,nd a j,av,ahA a k,av];unfold ap6;generalize Ba b (aV b (aV b (l1 b).2).2).2=g at n ⊢;generalize aV b (aV b (l1 b).2).2=e;generalize aV b (l1 b).2=f;generalize l1 b=d;exact Q8 (c:=c) (b:=b) (m:=(d.1,f.1,(ah,cI),cI,g.1,e.1,w7)) (s:=g.2) fun h=>⟨a1 _,e8,e8,n.2 h⟩
   .rw[Mw.2 r,aa,ag (by decide)];by_cases t:((l1 b).1==4)=true
    .rw[t,ae,aj rfl,nd a i,av,nd a j,av,nd a k,av,nd a w,av];unfold ap7;generalize aV b (aV b (aV b (aV b (l1 b).2).2).2).2=u;generalize aV b (aV b (aV b (l1 b).2).2).2=g;generalize aV b (aV b (l1 b).2).2=e;generalize aV b (l1 b).2=f;generalize l1 b=d;exact Q8 (c:=c) (b:=b) (m:=(d.1,0,(ah,cI),cI,cI,0,f.1,e.1,g.1,u.1)) (s:=u.2) fun h=>⟨a1 _,e8,e8,e8⟩
    .rw[Mw.2 t,aa,ag (by decide)];unfold aq3;generalize l1 b=d;exact Q8 (c:=c) (b:=b) (m:=(d.1,0,(ah,cI),cI,cI,0,w7)) (s:=d.2) fun h=>⟨a1 _,e8,e8,e8⟩
structure OY (w:aq):Prop where
 l:w.2.1.length<=1048576
 r:w.2.2.1.length<=1048576
 rl:∀x∈w.2.2.1,akG x
 n:w.2.2.2.1.length<=1048576
 nb:∀x∈w.2.2.2.1,ep x.2
 s:w.2.2.2.2.length<=1048576
 st:∀x∈w.2.2.2.2,x.2.1.size<=1048576
def ahB (c:Int×Int):Dz F0 c=some (Lc c,()):=by
 rw[Xw,e7,av];unfold Lc;dsimp only;cases h:bF c with
 |false=>rfl
 |true =>
  have:=cj h;have a:=amr this.1 this.2.1;have e:ak (c.1-1)=c.1-1:=aD (by omega) (by omega);rw[bc,aa,e,aD (n:=Int.tdiv (c.1-1) 3) (by omega) (by omega),aj rfl]
def TY:au:=(0,0,0,(0,0,cI,ah),[],[],([],0),[])
def ahC:np:=(0,[])
def YY:eb:=(0,ah,0)
def ajG (c:Int×Int)(l:List au)(k:Nat):Bool:=Gy c (l.getD k TY)&&((l.getD k TY).1==(k:Int))
def adx (c:Int×Int)(l:List np)(k:Nat):Bool:=(CP c (l.getD k ahC).2).2&&fR 0 (ak (c.1-1)) (l.getD k ahC).1
def ady (c:Int×Int)(l:List eb)(k:Nat):Bool:=fR 0 (ak (c.1-1)) (l.getD k YY).2.2&&(bR (l.getD k YY).2.1.data.toList&&(bE (l.getD k YY).2.1.data.toList==(l.getD k YY).1))
def ahD (w:aq):Bool:=(List.range w.2.2.1.length).all (ajG w.1 w.2.2.1)
def Q9 (w:aq):Bool:=(List.range w.2.2.2.1.length).all (adx w.1 w.2.2.2.1)
def Hk (w:aq):Bool:=(List.range w.2.2.2.2.length).all (ady w.1 w.2.2.2.2)
def VP (w:aq):Bool :=
 bF w.1&&(nn w.1.1 w.2.1&&(!decide ((w.2.1.length:Int)>Lc w.1)&&(!((w.2.2.1.length:Int) != w.1.1)&&(!decide ((w.2.2.2.1.length:Int)>60)&&(!decide ((w.2.2.2.2.length:Int)>300)&&(ahD w&&(Q9 w&&Hk w)))))))
def ajH (a b:Bool):(if a=true then some (b,()) else some (false,()))=some (a&&b,()):=by cases a<;>rfl
def ahE {w:aq}(h:OY w):lJ F0 (iv F0) F0.n (iu 0 w.1.1 w.1.2 w.2.1 w.2.2.1 w.2.2.2.1 w.2.2.2.2)=some (Hk w,()):=by
 have d:=h.s;rw[E5 (fun m k=>lJ F0 (iv F0) m (iu k w.1.1 w.1.2 w.2.1 w.2.2.1 w.2.2.2.1 w.2.2.2.2)) w.2.2.2.2.length (ady w.1 w.2.2.2.2) (some (true,())) (some (false,())) (fun m k a=>?_) (fun m=>?_) _ (by rw[b1];omega),YX]
 .rfl
 .have c:=h.st _ (dH a);rw[yR,bp a,ae,aE a,ab,cB a,ch,av,Br c,av,eT c,av,Qf,an (by omega)];unfold ady;rw[bH a];dsimp only;cases fR 0 (ak (w.1.1-1)) (w.2.2.2.2[k]).2.2<;>cases bR (w.2.2.2.2[k]).2.1.data.toList<;>try rfl
  by_cases b:bE (w.2.2.2.2[k]).2.1.data.toList=(w.2.2.2.2[k]).1
  .rw[show(bE (w.2.2.2.2[k]).2.1.data.toList != (w.2.2.2.2[k]).1)=false from aaI.2 b,show(bE (w.2.2.2.2[k]).2.1.data.toList==(w.2.2.2.2[k]).1)=true from cS.2 b];rfl
  .rw[GD.2 b,cC.2 b];rfl
 .rw[yR,aO,aa,Oo]
def ahF {w:aq}(h:OY w):lK F0 (ix F0) F0.n (iw 0 w.1.1 w.1.2 w.2.1 w.2.2.1 w.2.2.2.1 w.2.2.2.2)=some (Q9 w&&Hk w,()):=by
 have b:=h.n;rw[E5 (fun m k=>lK F0 (ix F0) m (iw k w.1.1 w.1.2 w.2.1 w.2.2.1 w.2.2.2.1 w.2.2.2.2)) w.2.2.2.1.length (adx w.1 w.2.2.2.1) (some (Hk w,())) (some (false,())) (fun m k a=>?_) (fun m=>?_) _ (by rw[b1];omega),ajH]
 .rfl
 .rw[yS,bp a,ae,aE a,ab,cB a,show((w.1.1,w.1.2):Int×Int)=w.1 from rfl,abw (h.nb _ (dH a)),av,ab,ch,av,Qg,an (by omega)];unfold adx;rw[bH a];dsimp only;cases (CP w.1 (w.2.2.2.1[k]).2).2<;>cases fR 0 (ak (w.1.1-1)) (w.2.2.2.1[k]).1<;>rfl
 .rw[yS,aO,aa,Oq,ahE h]
def akI {w:aq}(h:OY w):lL F0 (iz F0) F0.n (iy 0 w.1.1 w.1.2 w.2.1 w.2.2.1 w.2.2.2.1 w.2.2.2.2)=some (ahD w&&(Q9 w&&Hk w),()):=by
 have c:=h.r;rw[E5 (fun m k=>lL F0 (iz F0) m (iy k w.1.1 w.1.2 w.2.1 w.2.2.1 w.2.2.2.1 w.2.2.2.2)) w.2.2.1.length (ajG w.1 w.2.2.1) (some (Q9 w&&Hk w,())) (some (false,())) (fun m k a=>?_) (fun m=>?_) _ (by rw[b1];omega),ajH]
 .rfl
 .rw[yT,bp a,ae,aE a,ab,cB a,ab,show((w.1.1,w.1.2):Int×Int)=w.1 from rfl,eU (h.rl _ (dH a)),av,Qh,an (by omega)];unfold ajG;rw[bH a];dsimp only;by_cases b:(w.2.2.1[k]).1=(k:Int)
  .rw[show((w.2.2.1[k]).1 != (k:Int))=false from aaI.2 b,show((w.2.2.1[k]).1==(k:Int))=true from cS.2 b,aa,Bool.and_true];cases Gy w.1 w.2.2.1[k]<;>rfl
  .rw[GD.2 b,cC.2 b,ae,Bool.and_false];rfl
 .rw[yT,aO,aa,Ot,ahF h]
def afp {w:aq}(h:OY w):rU F0 w=some (VP w,()):=by rw[UE,e7,av,SL (aL h.l (by omega)),av,ahB,av,akI h];unfold VP;cases bF w.1<;>cases nn w.1.1 w.2.1<;>cases decide ((w.2.1.length:Int)>Lc w.1)<;>cases ((w.2.2.1.length:Int) != w.1.1)<;>cases decide ((w.2.2.2.1.length:Int)>60)<;>cases decide ((w.2.2.2.2.length:Int)>300)<;>rfl
def lY (l:List UInt8):Int:=if bR l=true then ((bZ l).1.length:Int) else -1
def ahG {l:List UInt8}(h:l.length<=1073741824):w4 F0 (tx l)=some (lY l,()):=by rw[Yx,Gx h,av];unfold lY bR;dsimp only;cases (bZ l).2<;>rfl
def afq {l:List UInt8}(h:l.length<=1073741824):wX F0 (tx l)=some (lY l,()):=by rw[Yr,aht h,av];unfold lY bR;dsimp only;cases (bZ l).2<;>rfl
def afr (l:List UInt8):-1<=lY l/\lY l<=30:=by unfold lY;have:=w6 l;split<;>omega
def Hl (r:au):List Int:=[r.2.1,r.2.2.2.1.1,r.2.2.2.1.2.1,r.2.2.2.1.2.2.1.1,lY r.2.2.2.1.2.2.2.data.toList,(r.2.2.2.2.1.length:Int)+r.2.2.2.2.2.1.length+r.2.2.2.2.2.2.2.length]
def ahH (r:au):List UInt8:=Lib.join ((r.1::Hl r).map Lib.itoa) [32]
structure YZ (r:au):Prop where
 i1:pg r.1
 i2:pg r.2.1
 i3:pg r.2.2.2.1.1
 i4:pg r.2.2.2.1.2.1
 i5:pg r.2.2.2.1.2.2.1.1
 d:r.2.2.2.1.2.2.2.size<=1048576
 p:r.2.2.2.2.1.length<=1048576
 t:r.2.2.2.2.2.1.length<=1048576
 h:r.2.2.2.2.2.2.2.length<=1048576
def YZ.ints {r:au}(h:YZ r):∀x∈r.1::Hl r,pg x:=by
 have b:=afr r.2.2.2.1.2.2.2.data.toList;have c:=h.p;have d:=h.t;have e:=h.h;intro x a;simp only[Hl,c7,Te,Ja]at a;rcases a with rfl|rfl|rfl|rfl|rfl|rfl|rfl
 .exact h.i1
 .exact h.i2
 .exact h.i3
 .exact h.i4
 .exact h.i5
 .exact⟨by omega,by omega⟩
 .exact⟨by omega,by omega⟩
def afs {r:au}(h:YZ r):Gt F0 r=some ((r.2.2.2.2.1.length:Int)+r.2.2.2.2.2.1.length+r.2.2.2.2.2.2.2.length,()):=by have a:=h.p;have b:=h.t;have c:=h.h;rw[adh,aD (n:=(r.2.2.2.2.1.length:Int)+(r.2.2.2.2.2.1.length:Int)) (by omega) (by omega),aD (by omega) (by omega)]
def abx {r:au}(h:YZ r):Gr F0 r=some ((r.2.2.2.2.1.length:Int)+r.2.2.2.2.2.1.length+r.2.2.2.2.2.2.2.length,()):=by have a:=h.p;have b:=h.t;have c:=h.h;rw[adg,aD (n:=(r.2.2.2.2.1.length:Int)+(r.2.2.2.2.2.1.length:Int)) (by omega) (by omega),aD (by omega) (by omega)]
def Y0 {a:List Int}(h:∀x∈a,pg x)(s:UInt8):(Lib.join (a.map Lib.itoa) [s]).length<=22*a.length:=by
 have:=VJ (QN h) s
 rwa [fB]at this
def akJ (b:ByteArray)(h:b.size<=1048576):w4 F0 b=some (lY b.data.toList,()):=ahG (l:=b.data.toList) (aL (Rw (show b.data.toList.length=b.size from rfl)) (by omega))
def ahI (b:ByteArray)(h:b.size<=1048576):wX F0 b=some (lY b.data.toList,()):=afq (l:=b.data.toList) (aL (Rw (show b.data.toList.length=b.size from rfl)) (by omega))
def akK {s:List Int}(c:∀x∈s,pg x)(e:s.length<=1048576)(b:UInt8):lT F0 s (tx [b])=some (tx (Lib.join (s.map Lib.itoa) [b]),()):=by
 rw[KS];refine aoc (fun n i (d:List ByteArray)=>nV F0 (pd F0) n (kj (tx [b]) s (s.length:Int) i d)) s (fun n=>tx (Lib.itoa n)) _ (fun n k a d f=>?_) (fun n=>?_) _ (by rw[b1];omega)
 .rw[jX,bp a,ae,aE a,ab,cB a,iR (c _ (dH a)),av];dsimp only;rw[aC (by omega) (by omega) (by simp only[aR,bo];omega),ab,an (by omega)]
 .have g:=Y0 c b;rw[jX,aO,aa,Eu,uP (QO s) (by rw[fB];omega) (by omega),av]
def Ra {r:au}(h:YZ r):sW F0 r=some (tx (ahH r),()):=by rw[Vs,ahI _ h.d,av,abx h,av];have:=akK h.ints (by simp[Hl]) 32;rw[show ByteArray.mk #[32]=tx [32] from rfl];dsimp only;rw[show lT F0 [r.1,r.2.1,r.2.2.2.1.1,r.2.2.2.1.2.1,r.2.2.2.1.2.2.1.1,lY r.2.2.2.1.2.2.2.data.toList,(r.2.2.2.2.1.length:Int)+r.2.2.2.2.2.1.length+r.2.2.2.2.2.2.2.length] (tx [32])=some (tx (ahH r),()) from this,av]
def TZ {r:au}(h:YZ r):s8 F0 r=some (tx (ahH r),()):=by
 rw[Vv,akJ _ h.d,av,afs h,av,dc h.i1,av];dsimp only;show lV F0 (mW F0) F0.n (iQ (tx (Lib.itoa r.1)) 0 (Hl r))=_;have hint:=h.ints;have hlen:(Hl r).length=6:=rfl;unfold ahH;generalize Hl r=s at hint hlen;refine b9 (fun n i (d:ByteArray)=>lV F0 (mW F0) n (iQ d i s)) s.length (fun k d=>d=tx (Lib.join ((r.1::s.take k).map Lib.itoa) [32])) _ (fun n k d c e=>.inr ⟨_,?_,rfl⟩) (fun n d e=>?_) _ 0 _ (a1 _) (by simp[Lib.join_one]) (by rw[b1];omega)
 .subst e;have b:=hint s[k] (h8 _ (dH c));have g:=dC b;have f:=Y0 (a:=r.1::s.take k) (fun x b=>hint x (by
   rcases c7.1 b with rfl|b
   .exact tu
   .exact h8 _ (Bw b))) 32
  rw[aR,bQ]at f;rw[Ab,bp c,ae,show ByteArray.mk #[32]=tx [32] from rfl,aT (by rw[ao,ao,b2];omega),ab,aE c,ab,cB c,dc b,av];dsimp only;rw[aP,aT (by rw[ao,ao,aB,b2];omega),ab,aP,an (by omega),dQ c,<-pE,My,List.map_singleton,RM (by simp)]
 .subst e;rw[Ab,aO,aa,OR,gq]
def Y1 {r:au}(h:YZ r):(ahH r).length<=154:=by have:=Y0 h.ints 32;exact this
def IQ:List au->List UInt8
 |[]=>[]|r::l=>ahH r++10::IQ l
def aft (a b:Nat):List UInt8:=[110,101,116,32]++Lib.itoa (a:Int)++[32,115,97,105,100,32]++Lib.itoa (b:Int)++[10]
def te (w:aq):List UInt8:=IQ w.2.2.1++aft w.2.2.2.1.length w.2.2.2.2.length
def OZ:∀(l:List au) (r:au),IQ (l++[r])=IQ l++(ahH r++[10])
 |[],r=>by simp[IQ]
 |x::l,r=>by simp only[pE,IQ];rw[OZ l r];simp
def Bv:∀{l:List au},(∀r∈l,YZ r)->(IQ l).length<=155*l.length
 |[],_=>by simp[IQ]
 |r::l,h=>by
  have b:=Y1 (h r tu);have c:=Bv (l:=l) fun x a=>h x (h8 _ a)
  simp only[IQ,aB,aR];omega
def aau {w:aq}(d:∀r∈w.2.2.1,YZ r)(g:w.2.2.1.length<=1048576)(h:w.2.2.2.1.length<=1048576)(j:w.2.2.2.2.length<=1048576):s9 F0 w=some (tx (te w),()):=by
 rw[QL];refine b9 (fun n i (b:ByteArray)=>mZ F0 (pC F0) n (jZ b i w.1.1 w.1.2 w.2.1 w.2.2.1 w.2.2.2.1 w.2.2.2.2)) w.2.2.1.length (fun k b=>b=tx (IQ (w.2.2.1.take k))) _ (fun n k b a e=>.inr ⟨_,?_,rfl⟩) (fun n b e=>?_) _ 0 _ (a1 _) rfl (by rw[b1];omega)
 .subst e;have c:=d _ (dH a);have m:=Y1 c;have f:=Bv (l:=w.2.2.1.take k) fun x c=>d x (Bw c)
  rw[bQ]at f;rw[tP,bp a,ae,aE a,ab,cB a,TZ c,av];dsimp only;rw[show ByteArray.mk #[10]=tx [10] from rfl,aT (by rw[ao,ao];omega),ab,aP,aT (by rw[ao,ao,aB,b2];omega),ab,aP,an (by omega),dQ a,OZ,ha]
 .subst e;have f:=Bv d;have i1:pg (w.2.2.2.1.length:Int):=⟨by omega,by omega⟩;have i2:pg (w.2.2.2.2.length:Int):=⟨by omega,by omega⟩;have o:=dC i1;have p:=dC i2;rw[gq,tP,aO,aa,KX,show ByteArray.mk #[110,101,116,32]=tx [110,101,116,32] from rfl,show ByteArray.mk #[32,115,97,105,100,32]=tx [32,115,97,105,100,32] from rfl,show ByteArray.mk #[10]=tx [10] from rfl];have q:([110,101,116,32]:List UInt8).length=4:=rfl;have s:([32,115,97,105,100,32]:List UInt8).length=6:=rfl;have t:([10]:List UInt8).length=1:=rfl;rw[aT (by rw[ao,ao];omega),ab,dc i1,av];dsimp only;rw[aP,aT (by rw[ao,ao,aB];omega),ab,aP,aT (by rw[ao,ao,aB,aB];omega),ab,dc i2,av];dsimp only;rw[aP,aT (by rw[ao,ao,aB,aB,aB];omega),ab,aP,aT (by rw[ao,ao,aB,aB,aB,aB];omega),ab,aP];simp only[te,aft,ha]
def Y2 {w:aq}(d:∀r∈w.2.2.1,YZ r)(g:w.2.2.1.length<=1048576)(h:w.2.2.2.1.length<=1048576)(j:w.2.2.2.2.length<=1048576):sX F0 w=some (tx (te w),()):=by
 rw[QI];refine b9 (fun n i (b:ByteArray)=>mT F0 (pB F0) n (jY b w.2.2.1 (w.2.2.1.length:Int) i w.1.1 w.1.2 w.2.1 w.2.2.1 w.2.2.2.1 w.2.2.2.2)) w.2.2.1.length (fun k b=>b=tx (IQ (w.2.2.1.take k))) _ (fun n k b a e=>.inr ⟨_,?_,rfl⟩) (fun n b e=>?_) _ 0 _ (a1 _) rfl (by rw[b1];omega)
 .subst e;have c:=d _ (dH a);have m:=Y1 c;have f:=Bv (l:=w.2.2.1.take k) fun x c=>d x (Bw c)
  rw[bQ]at f;rw[tO,bp a,ae,aE a,ab,cB a,Ra c,av];dsimp only;rw[show ByteArray.mk #[10]=tx [10] from rfl,aT (by rw[ao,ao,b2];omega),ab,aP,aT (by rw[ao,ao,aB,b2];omega),ab,aP,an (by omega),dQ a,OZ]
 .subst e;have f:=Bv d;have i1:pg (w.2.2.2.1.length:Int):=⟨by omega,by omega⟩;have i2:pg (w.2.2.2.2.length:Int):=⟨by omega,by omega⟩;have o:=dC i1;have p:=dC i2;rw[gq,tO,aO,aa,KV,show ByteArray.mk #[110,101,116,32]=tx [110,101,116,32] from rfl,show ByteArray.mk #[32,115,97,105,100,32]=tx [32,115,97,105,100,32] from rfl,show ByteArray.mk #[10]=tx [10] from rfl];have q:([110,101,116,32]:List UInt8).length=4:=rfl;have s:([32,115,97,105,100,32]:List UInt8).length=6:=rfl;have t:([10]:List UInt8).length=1:=rfl;rw[aT (by rw[ao,ao];omega),ab,iR i1,av];dsimp only;rw[aP,aT (by rw[ao,ao,aB];omega),ab,aP,aT (by rw[ao,ao,aB,aB];omega),ab,iR i2,av];dsimp only;rw[aP,aT (by rw[ao,ao,aB,aB,aB];omega),ab,aP,aT (by rw[ao,ao,aB,aB,aB,aB];omega),ab,aP];simp only[te,aft,ha]
def xt (l:List Int):Nat->List Int
 |0=>[]|k+1=>xt l k++if (k:Int)∈l then [] else [(k:Int)]
def O0 (l:List Int):∀k,(xt l k).length<=k
 |0=>bq _|k+1=>by
  have:=O0 l k;unfold xt;split
  .rw[fo];omega
  .rw[aB,b2];omega
def aby (l:List Int):∀k,∀x∈xt l k,0<=x/\x<k
 |0,x,h=>by cases h
 |k+1,x,h=>by
  unfold xt at h;rcases en.1 h with a|a
  .have:=aby l k x a;omega
  .split at a
   .cases a
   .rw[fA.1 a];omega
def tf (w:aq):List Int:=xt w.2.1 w.2.2.1.length
def afu {V:Type}(X:List Int->V)(l xs:List Int)(k:Int):br (!decide (k∈l)) (X (xs++[k])) (X xs)=X (xs++if k∈l then [] else [k]):=by
 by_cases h:k∈l
 .rw[aW h,aj h,fo];rfl
 .rw[a6 h,ag h];rfl
def Y3 {w:aq}(h:OY w):wO F0 w=some (tf w,()):=by
 have e:=h.r;have f:=h.l;rw[X6];refine b9 (fun n i (a:List Int)=>ky F0 (o2 F0) n (gn i w.1.1 w.1.2 w.2.1 w.2.2.1 w.2.2.2.1 w.2.2.2.2 a)) w.2.2.1.length (fun k a=>a=xt w.2.1 k) _ (fun n k a c b=>.inr ⟨xt w.2.1 (k+1),?_,rfl⟩) (fun n a b=>?_) _ 0 [] (a1 _) rfl (by rw[b1];omega)
 .have d:=O0 w.2.1 k;rw[<-b]at d;rw[Cx,bp c,ae,dP (by omega),av,aC (by omega) (by omega) (by rw[b2];omega),ab,an (by omega)];dsimp only;rw[afu (fun a=>ky F0 (o2 F0) n (gn ((k+1:Nat):Int) w.1.1 w.1.2 w.2.1 w.2.2.1 w.2.2.2.1 w.2.2.2.2 a)),b];rfl
 .rw[Cx,aO,aa,Qz,b];rfl
def aom (s t:ByteArray):Bool:=bR s.data.toList&&(bR t.data.toList&&(decide ((s.size:Int)>=(t.size:Int))&&(((s.extract 0 t.size).toList==t.toList)&&(((s.size:Int)==(t.size:Int)) || (gf s (t.size:Int)==47)))))
def afv {s t:ByteArray}(b:s.size<=1048576)(c:t.size<=1048576):AM F0 s t=some (aom s t,()):=by
 rw[UR,Br b,av,Br c,av];unfold aom;dsimp only;cases bR s.data.toList<;>cases bR t.data.toList<;>try rfl
 rw[bc,aa,aa,yJ,yJ];by_cases d:t.size<=s.size
 .rw[a6 (show ¬(t.size:Int)>(s.size:Int) by omega),aa,aW (show(s.size:Int)>=(t.size:Int) by omega),yJ,apZ d,ab,wc,show(0:Int).toNat=0 from rfl];cases ((s.extract 0 t.size).toList==t.toList)<;>try rfl
  rw[bc,aa,yJ];by_cases a:(s.size:Int)=(t.size:Int)
  .rw[show((s.size:Int)==(t.size:Int))=true from cS.2 a];rfl
  .rw[cC.2 a,aa,aE (by omega),ab];rfl
 .rw[aW (show(t.size:Int)>(s.size:Int) by omega),ae,a6 (show ¬(s.size:Int)>=(t.size:Int) by omega)];rfl
end Go.Am.Tryz
