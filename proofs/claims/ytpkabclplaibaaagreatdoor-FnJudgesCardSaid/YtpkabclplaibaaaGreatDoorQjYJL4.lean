/- No condition. -/
import Derived.Test.YtpkabclplaibaaaGreatDoorQjYJL3
set_option linter.all false
namespace Go.Am.Tryz
open Go.Am
def ay5 {U V γ:Type}(X:Nat->Int->List V->Option γ)(a:List U)(f:U->V)(R:Option γ)
  (d:∀n k xs (h:k<a.length),xs.length=k->X (n+1) (k:Int) xs=X n ((k+1:Nat):Int) (xs++[f a[k]])) (e:∀n,X (n+1) (a.length:Int) (a.map f)=R) (n:Nat) (g:a.length<n):X n 0 []=R:=by
 refine ca X a.length (fun k xs=>xs=(a.take k).map f) R (fun n k xs b h=>.inr ⟨_,d n k xs b (by rw[h,n1,cp];omega),?_⟩) (fun n xs h=>?_) n 0 [] (aX _) rfl (by omega)
 .rw[de b,agz,h];rfl
 .rw[h,jr];exact e n
def avO {U γ:Type}(X:Nat->Int->List U->Option γ)(a:List U)(R:Option γ)
  (b:∀n k xs (h:k<a.length),xs.length=k->X (n+1) (k:Int) xs=X n ((k+1:Nat):Int) (xs++[a[k]])) (d:∀n,X (n+1) (a.length:Int) a=R) (n:Nat) (e:a.length<n):X n 0 []=R :=
 ay5 X a id R b (fun n=>by rw[List.map_id];exact d n) n e
def avP {U γ:Type}(X:Nat->Int->List U->Option γ)(a:List U)(p:U->Bool)(R:Option γ)
  (d:∀n k xs (h:k<a.length),xs.length<=k->X (n+1) (k:Int) xs=X n ((k+1:Nat):Int) (if p a[k]=true then xs++[a[k]] else xs)) (e:∀n,X (n+1) (a.length:Int) (a.filter p)=R) (n:Nat) (g:a.length<n):X n 0 []=R:=by
 refine ca X a.length (fun k xs=>xs=(a.take k).filter p) R (fun n k xs b h=>.inr ⟨_,d n k xs b (by rw[h];exact aR (apO _ _) (by rw[cp];omega)),?_⟩) (fun n xs h=>?_) n 0 [] (aX _) rfl (by omega)
 .rw[de b,List.filter_append,h];cases f:p a[k]<;>simp[f]
 .rw[h,jr];exact e n
def pH {q:b0}(h:q.2.2.length<=1048576):hO F0 q=some (q,()):=by rw[ah7,aE (a:=0) (by omega) (by omega) (by omega),ad];rfl
def lY {q:b0}(h:q.2.2.length<=1048576):fE F0 q=some (q,()):=by rw[ae4,aE (a:=0) (by omega) (by omega) (by omega),ad];rfl
def LP {s:bK}(h:oN s):ma F0 s=some (s,()):=by rw[ae7,pH h.1.2,ao]
def aba {l:List b0}(h:l.length<=1048576)(b:∀q∈l,Bu q):fF F0 l=some (l,()):=by
 rw[ab2];refine avO (fun n k xs=>tu F0 (wD F0) n (oj l k xs)) l _ (fun n k xs a d=>?_) (fun n=>?_) _ (by rw[bj];omega)
 .rw[Dl,aK a,ae,al a,ad,aM a,lY (b _ (cB a)).2,ao,aE (by omega) (by omega) (by simp only[bG,bd];omega),ad,ag (by omega)]
 .rw[Dl,az,aa,U8]
def LQ {d:List Int×Int}(h:d.1.length<=1048576):hy F0 d=some (d,()):=by rw[ae8,aE (a:=0) (by omega) (by omega) (by omega),ad];rfl
def atQ {b:cK}(h:b.2.2.2.length<=1048576):Kl F0 b=some (b,()):=by rw[aia,pH h,ao]
def aes {m:cq}(h:kk m):wF F0 m=some (m,()):=by rw[ae9,atQ h.2.1.2,ao,lY h.2.2.1.2,ao,pH h.2.2.2.2,ao]
def abb {l:List oM}(h:l.length<=1048576)(b:∀q∈l,kk q.2):si F0 l=some (l,()):=by
 rw[ab3];refine avO (fun n k xs=>tA F0 (wG F0) n (om l k xs)) l _ (fun n k xs a d=>?_) (fun n=>?_) _ (by rw[bj];omega)
 .rw[Dm,aK a,ae,al a,ad,ad,aM a,aes (b _ (cB a)),ao,aE (by omega) (by omega) (by simp only[bG,bd];omega),ad,ag (by omega)]
 .rw[Dm,az,aa,U9]
structure ay6 (r:ay):Prop where
 l:aga r
 d:cF r.2.2.2.2.2.2.1.1
def dA {r:ay}(h:ay6 r):aV F0 r=some (r,()):=by rw[afa,LP h.l.s,ao,aE (a:=0) (by omega) (by omega) (by have:=h.l.p;omega),ad,aba h.l.t h.l.tq,ao,LQ h.d.1,ao,abb h.l.h h.l.hm,ao];rfl
structure akd (w:aj):Prop where
 l:dy w
 b:∀r∈w.2.2.1,cF r.2.2.2.2.2.2.1.1
def akd.rep {w:aj}(h:akd w){r:ay}(a:r∈w.2.2.1):ay6 r:=⟨h.l.rl r a,h.b r a⟩
def arz {w:aj}(h:akd w):GK F0 w=some (w,()):=by
 have e:=h.l.l;have f:=h.l.r;have g:=h.l.n;have i:=h.l.s;rw[afw,aE (a:=0) (by omega) (by omega) (by omega),ad,aE (a:=0) (by omega) (by omega) (by omega),ad];refine avO (fun n k xs=>xU F0 (Bb F0) n (q7 w k 0 0 w.1.1 w.1.2 [] [] [] [] ([]++w.2.1) xs [] ([]++w.2.2.2.2))) w.2.2.1 _ (fun n k xs b d=>?_) (fun n=>?_) _ (by rw[bj];omega)
 .rw[Fo,aK b,ae,al b,ad,aM b,dA (h.rep (cB b)),ao,aE (by omega) (by omega) (by simp only[bG,bd];omega),ad,ag (by omega)]
 .rw[Fo,az,aa,XX];refine avO (fun n k xs=>xJ F0 (Ba F0) n (q5 w k 0 0 w.1.1 w.1.2 [] [] [] [] ([]++w.2.1) w.2.2.1 xs ([]++w.2.2.2.2))) w.2.2.2.1 _ (fun n k xs b d=>?_) (fun n=>?_) _ (by rw[bj];omega)
  .have j:=(h.l.nb _ (cB b)).1;rw[Fm,aK b,ae,al b,ad,ad,aM b,aE (a:=0) (by omega) (by omega) (by omega),ad,aE (by omega) (by omega) (by simp only[bG,bd];omega),ad,ag (by omega)];rfl
  .rw[Fm,az,aa,XW];rfl
def wrap_u8 {n:Int}(a:0<=n)(b:n<=255):IntKind.wrap .u8 n=n:=by simp[IntKind.wrap,IntKind.signed,IntKind.bits];omega
def arA:∀(k:Nat) (v:Int) (xs:List Int) (n:Nat),0<=v->v<128 ^ (k+1)->xs.length+k<=1000->k<n->k<=4->Ca F0 (Ey F0) n (tB v xs)=some (xs++aa8 k v,())
 |0,v,xs,n,a,d,e,f,g=>by obtain⟨n,rfl⟩:∃m,n=m+1:=⟨n-1,by omega⟩;have h:(128:Int) ^ (0+1)=128:=rfl;rw[It,aT (show ¬v>127 by omega),aa,Ko,aE (by omega) (by omega) (by first|omega|(simp only[aW,bG,bd];omega)|(rw[b7,cp];omega)),ad,wrap_u8 a (by omega)];rfl
 |k+1,v,xs,n,a,d,e,f,g=>by
  obtain⟨n,rfl⟩:∃m,n=m+1:=⟨n-1,by omega⟩;have i:=TX (k:=k) (by omega);have h:(128:Int) ^ (k+1)=128 ^ k*128:=VF _ _;have j:(128:Int) ^ (k+1+1)=128 ^ (k+1)*128:=VF _ _;rw[It];unfold aa8;by_cases b:v<128
  .rw[aT (show ¬v>127 by omega),aa,Ko,aE (by omega) (by omega) (by first|omega|(simp only[aW,bG,bd];omega)|(rw[b7,cp];omega)),ad,wrap_u8 a (by omega),an b]
  .rw[aS (show v>127 by omega),ae,aE (by omega) (by omega) (by first|omega|(simp only[aW,bG,bd];omega)|(rw[b7,cp];omega)),ad,apM a,aB (n:=v/128) (by omega) (by omega),al0 a,
    aB (n:=v%128+128) (by omega) (by omega),wrap_u8 (by omega) (by omega),arA k (v/128) (xs++[v%128+128]) n (by omega) (by omega) (by rw[aW,ej];omega) (by omega) (by omega),ah b,mP]
   rfl
def gM (v:Int):dv F0 v=some (aC v,()):=by
 have b:(128:Int) ^ (4+1)=34359738368:=by decide
 rw[aid,cE,ao,ajJ];unfold aC;by_cases a:0<=v/\v<=2147483647
 .rw[aS a,aZ,aa,an a,arA 4 v [] F0.n a.1 (by omega) (by simp) (by rw[bj];omega) (by omega)];rfl
 .rw[aT a,gQ,ae,ah a]
def LR {s:ByteArray}(h:s.size<=1048576):mb F0 s=some (iQ s,()):=by have:=cG (s.size:Int);have a:=T4 s;rw[afh,gM,ao,aS (show(s.size:Int)<=F0.mem by rw[ayn];omega),ad,aE (by omega) (by omega) (by first|omega|(simp only[aW,bG,bd];omega)|(rw[b7,cp];omega)),ad];rfl
def abc (l:List Int):(kr l).length<=5*l.length:=by
 induction l with
 |nil=>exact bu _
 |cons x l a =>
  have:=cG x;show(aC x++kr l).length<=_;rw[aW,bG];omega
def atS (l:List Int)(x:Int):kr (l++[x])=kr l++aC x:=by simp[kr]
def avQ {γ:Type}(X:Nat->Int->List Int->Option γ)(l pre:List Int)(R:Option γ)(e:l.length<=1048576)(f:pre.length<=1048576)
  (b:∀n k xs (h:k<l.length),xs.length<=10485760->X (n+1) (k:Int) xs=X n ((k+1:Nat):Int) (xs++aC l[k])) (d:∀n,X (n+1) (l.length:Int) (pre++kr l)=R) (n:Nat) (g:l.length<n):X n 0 pre=R:=by
 refine ca X l.length (fun k xs=>xs=pre++kr (l.take k)) R (fun n k xs a h=>.inr ⟨_,b n k xs a (by have:=abc (l.take k);rw[cp]at this;rw[h,aW];omega),?_⟩) (fun n xs h=>?_) n 0 pre (aX _) (by simp[kr]) (by omega)
 .rw[de a,atS,h,mP]
 .rw[h,jr];exact d n
def T8 {l:List Int}(h:l.length<=1048576):q3 F0 l=some (kr l,()):=by
 rw[afp];refine avQ (fun n k xs=>w4 F0 (A7 F0) n (q2 l k xs)) l [] _ h (by simp) (fun n k xs a b=>?_) (fun n=>?_) _ (by rw[bj];omega)
 .have:=cG l[k];rw[Fj,aK a,ae,al a,ad,aM a,gM,ao,aE (by omega) (by omega) (by first|omega|(simp only[aW,bG,bd];omega)|(rw[b7,cp];omega)),ad,ag (by omega)]
 .rw[Fj,az,aa,XT];rfl
def qcB (c:Int×Int)(q:b0):List Int:=if fe c q=true then uN q else []
def agq {s:ByteArray}(h:s.size<=1048576):(iQ s).length<=1048581:=by have:=T5 s;omega
def T9 {q:b0}(h:Bu q)(c:Int×Int):p6 F0 c q=some (qcB c q,()):=by
 have d:=cG q.1;have e:=agq h.1;have f:=cG (q.2.2.length:Int);have g:=h.2;rw[afi,O2 h,ao];unfold qcB;cases b:fe c q with
 |false=>rw[gQ,ae,ah (by decide)]
 |true =>
  have i:=yY b;rw[aZ,aa,an rfl,gM,ao,LR h.1,ao,aE (by omega) (by omega) (by first|omega|(simp only[aW,bG,bd];omega)|(rw[b7,cp];omega)),ad,gM,ao,aE (by omega) (by omega) (by first|omega|(simp only[aW,bG,bd];omega)|(rw[b7,cp];omega)),ad];refine avQ (fun n k xs=>wN F0 (A0 F0) n (p5 k q.1 q.2.1 q.2.2 xs)) q.2.2 _ _ h.2 (by have:=T5 q.2.1;simp only[aW];omega) (fun n k xs a j=>?_) (fun n=>?_) _ (by rw[bj];omega)
  .have:=cG q.2.2[k];rw[Fc,aK a,ae,al a,ad,aM a,gM,ao,aE (by omega) (by omega) (by first|omega|(simp only[aW,bG,bd];omega)|(rw[b7,cp];omega)),ad,ag (by omega)]
  .rw[Fc,az,aa,XO];simp[uN,By]
def atT {c:Int×Int}{q:b0}:(qcB c q).length<=6000:=by
 unfold qcB;split
 .rename_i h;have:=yY h;have:=T6 this.1;omega
 .exact aX _
def atU (c:Int×Int)(s:bK):List Int:=if b2 c s=true then T7 s else []
def alN {s:bK}(h:oN s)(c:Int×Int):wO F0 c s=some (atU c s,()):=by
 have d:=cG s.1;have e:=cG s.2.1;have f:=atT (c:=c) (q:=s.2.2.1);have g:=agq h.2;rw[ZT,Bv h,ao];unfold atU;cases a:b2 c s with
 |false=>rw[gQ,ae,ah (by decide)]
 |true =>
  have b:=(fK a).2.2.1;rw[aZ,aa,an rfl,gM,ao,gM,ao,aE (by omega) (by omega) (by first|omega|(simp only[aW,bG,bd];omega)|(rw[b7,cp];omega)),ad,T9 h.1,ao,aE (by omega) (by omega) (by first|omega|(simp only[aW,bG,bd];omega)|(rw[b7,cp];omega)),ad,LR h.2,ao,aE (by omega) (by omega) (by first|omega|(simp only[aW,bG,bd];omega)|(rw[b7,cp];omega)),ad];simp[T7,qcB,b]
def adm (c:Int×Int)(s:bK):List Int:=if b2 c s=true then Jz s else []
def alO {s:bK}(h:oN s)(c:Int×Int):wP F0 c s=some (adm c s,()):=by
 rw[ZV,alN h,ao];unfold adm atU;cases a:b2 c s with
 |false=>rfl
 |true =>
  have b:=am2 a;have d:=cG ((T7 s).length:Int);simp only[gg];rw[show(((T7 s).length:Int)==0)=false from bX.2 (by omega),aa,gM,ao,aE (by omega) (by omega) (by first|omega|(simp only[aW,bG,bd];omega)|(rw[b7,cp];omega)),ad,aE (by omega) (by omega) (by first|omega|(simp only[aW,bG,bd];omega)|(rw[b7,cp];omega)),ad];simp[Jz]
def ake (c:Int×Int)(m:cq):List Int:=if dZ c m=true then N9 m else []
def atV {c:Int×Int}{m:cq}(h:dZ c m=true):(m.1=1/\fe c m.2.2.1.2=true)\/m.1=2\/(m.1=3/\fe c m.2.2.2.2.1=true)\/m.1=4:=by
 unfold dZ at h;simp only[aD]at h;obtain⟨f,_,a⟩:=h;by_cases b:m.1=1
 .rw[an (by simpa using b)]at a;simp only[gw,aD]at a;exact .inl ⟨b,a.1⟩
 .by_cases d:m.1=2
  .exact .inr (.inl d)
  .by_cases e:m.1=3
   .rw[ah (by simpa using b),ah (by simpa using d),an (by simpa using e)]at a;simp only[aD]at a;exact .inr (.inr (.inl ⟨e,a.2.1⟩))
   .rw[ah (by simpa using b),ah (by simpa using d),ah (by simpa using e)]at a;simp only[aD,cH]at a;exact .inr (.inr (.inr a.1))
def abd {m:cq}(h:kk m)(c:Int×Int):sn F0 c m=some (ake c m,()):=by
 rw[acj,HA h,ao];unfold ake;cases e:dZ c m with
 |false=>rw[gQ,ae,ah (by decide)]
 |true =>
  have g:=cG m.1;rw[aZ,aa,an rfl,gM,ao];unfold N9;rcases atV e with ⟨k,b⟩|k|⟨k,b⟩|k
  .have a:=agq h.1;have d:=atT (c:=c) (q:=m.2.2.1.2);rw[show(m.1==1)=true by simpa using k,ae,LR h.1,ao,aE (by omega) (by omega) (by first|omega|(simp only[aW,bG,bd];omega)|(rw[b7,cp];omega)),ad,T9 h.2.1,ao,aE (by omega) (by omega) (by first|omega|(simp only[aW,bG,bd];omega)|(rw[b7,cp];omega)),ad,an k];simp[qcB,b]
  .have a:=cG m.2.2.2.1.1;have d:=agq h.2.2.1.1;have i:=cG (m.2.2.2.1.2.2.length:Int);have j:=abc m.2.2.2.1.2.2;have f:=h.2.2.1.2;rw[show(m.1==1)=false by simp[k],aa,show(m.1==2)=true by simp[k],ae,gM,ao,aE (by omega) (by omega) (by first|omega|(simp only[aW,bG,bd];omega)|(rw[b7,cp];omega)),ad,LR h.2.2.1.1,ao,aE (by omega) (by omega) (by first|omega|(simp only[aW,bG,bd];omega)|(rw[b7,cp];omega)),ad,gM,ao,
    aE (by omega) (by omega) (by first|omega|(simp only[aW,bG,bd];omega)|(rw[b7,cp];omega)),ad,T8 f,ao,aE (by omega) (by omega) (by first|omega|(simp only[aW,bG,bd];omega)|(rw[b7,cp];omega)),ad,ah (by omega),an k]
   simp[uN,By]
  .have a:=abc [m.2.1,m.2.2.2.2.2.1];have d:=atT (c:=c) (q:=m.2.2.2.2.1);simp only[bG,bd]at a;rw[show(m.1==1)=false by simp[k],aa,show(m.1==2)=false by simp[k],aa,show(m.1==3)=true by simp[k],ae,T8 (by simp),ao,aE (by omega) (by omega) (by first|omega|(simp only[aW,bG,bd];omega)|(rw[b7,cp];omega)),ad,T9 h.2.2.2,ao,aE (by omega) (by omega) (by first|omega|(simp only[aW,bG,bd];omega)|(rw[b7,cp];omega)),ad,ah (by omega),ah (by omega),an k];simp[kr,qcB,b]
  .have a:=abc [m.2.2.2.2.2.2.1,m.2.2.2.2.2.2.2.1,m.2.2.2.2.2.2.2.2.1,m.2.2.2.2.2.2.2.2.2];simp only[bG,bd]at a;rw[show(m.1==1)=false by simp[k],aa,show(m.1==2)=false by simp[k],aa,show(m.1==3)=false by simp[k],aa,T8 (by simp),ao,aE (by omega) (by omega) (by first|omega|(simp only[aW,bG,bd];omega)|(rw[b7,cp];omega)),ad,ah (by omega),ah (by omega),ah (by omega)];simp[kr]
def sE (a b:Int):Int:=if b>a then b else a
def Hi (a b:Int):Int:=if a<b then a else b
def Bz (a b:Int):c9 F0 a b=some (sE a b,()):=by
 rw[V3];unfold sE;by_cases h:a>b
 .rw[aS h,ae,ah (by omega)]
 .rw[aT h,aa];by_cases d:b>a
  .rw[an d]
  .rw[ah d,show a=b by omega]
def UO (a b:Int):bA F0 a b=some (Hi a b,()):=by
 rw[ak8];unfold Hi;by_cases h:a<b
 .rw[aS h,ae,an h]
 .rw[aT h,aa,ah h]
def ay7 {b:ByteArray}(h:b.size<=1048576):oX F0 b=some ((bS b.data.toList).1,(bS b.data.toList).2,()):=UE (W6 h)
def agr (a b:b0):b0:=if a.1>b.1 then a else b
def arB {a b:b0}(d:Bu a)(e:Bu b):GB F0 a b=some (agr a b,()):=by
 rw[afb,pH d.2,ao,pH e.2,ao];unfold agr;by_cases h:a.1>b.1
 .rw[aS h,ae,an h]
 .rw[aT h,aa,ah h]
def abe (ss:List W3):Bool:=decide (3<=ss.length)&&(((ss.getD (ss.length-1) (0,[])).1==ak ((ss.getD (ss.length-2) (0,[])).1+1))&&((ss.getD (ss.length-2) (0,[])).1==ak ((ss.getD (ss.length-3) (0,[])).1+1)))
def adn (b:ByteArray):Bool:=abe (bS b.data.toList).1
def upB (b:ByteArray):ByteArray:=tx (upL b.data.toList)
def aAX (l:List UInt8):(upL l).length<=l.length:=by
 unfold upL;split
 .rw[cp];omega
 .exact aX _
def Ua (b:ByteArray):(upB b).size<=b.size:=by unfold upB;rw[bc];exact aAX _
def axc {b:ByteArray}(h:b.size<=1048576):cc F0 (tx (upL b.data.toList))=some (bm (upL b.data.toList),()):=by have:=gv (b:=upB b) (aR (Ua b) h);rw[show(upB b).data.toList=upL b.data.toList from hx _]at this;exact this
def rE (b:ByteArray):ByteArray×Bool:=if adn b=true then (upB (upB b),true) else (ai,false)
def arC {V:Type}{ss:List W3}(g:ss.length<=30)(x y:Option V) :
  br (decide ((ss.length:Int)<3)) y (ck (bh (ak ((ss.length:Int)-1)) (ss.length:Int)) (ck (bh (ak ((ss.length:Int)-2)) (ss.length:Int)) (br ((aJ ss (ak ((ss.length:Int)-1)) (0,[])).1 != (ak ((aJ ss (ak ((ss.length:Int)-2)) (0,[])).1+1))) y
   (ck (bh (ak ((ss.length:Int)-2)) (ss.length:Int)) (ck (bh (ak ((ss.length:Int)-3)) (ss.length:Int)) (br ((aJ ss (ak ((ss.length:Int)-2)) (0,[])).1 != (ak ((aJ ss (ak ((ss.length:Int)-3)) (0,[])).1+1))) y x))))))=if abe ss=true then x else y:=by
 unfold abe;by_cases h:3<=ss.length
 .rw[aT (show ¬(ss.length:Int)<3 by omega),aa,aS h,kO];have a:ak ((ss.length:Int)-1)=((ss.length-1:Nat):Int):=by rw[aB (by omega) (by omega)];omega
  have b:ak ((ss.length:Int)-2)=((ss.length-2:Nat):Int):=by rw[aB (by omega) (by omega)];omega
  have d:ak ((ss.length:Int)-3)=((ss.length-3:Nat):Int):=by rw[aB (by omega) (by omega)];omega
  rw[a,b,d,al (by omega),ad,al (by omega),ad,al (by omega),ad,ad,kS,kS,kS];cases e:((ss.getD (ss.length-1) (0,[])).1==ak ((ss.getD (ss.length-2) (0,[])).1+1))<;>cases f:((ss.getD (ss.length-2) (0,[])).1==ak ((ss.getD (ss.length-3) (0,[])).1+1))<;>simp only[bne,e,f]<;>rfl
 .rw[aS (show(ss.length:Int)<3 by omega),ae,aT h];rfl
def arD {b:ByteArray}(h:b.size<=1048576):GC F0 b=some ((rE b).1,(rE b).2,()):=by
 have d:kY F0 (tx (upL b.data.toList))=some (upB (upB b),()):=aaV (b:=upB b) (aR (Ua b) h);rw[afd,ay7 h,ao,arC (vk _),aaV h,ao,d,ao];unfold rE adn;cases a:abe (bS b.data.toList).1 with
 |true =>
  have:(bS b.data.toList).2=true:=by
   cases e:(bS b.data.toList).2 with
   |true=>rfl|false=>rw[TR e]at a;cases a
  rw[this];rfl
 |false=>cases (bS b.data.toList).2<;>rfl
def see (c:Int×Int)(s:bK)(q:b0):bK :=
 if b2 c s=true/\fe c q=true then (s.1,sE s.2.1 (bm (upL q.2.1.data.toList)),agr q s.2.2.1,if (rE q.2.1).2=true/\ajQ (rE q.2.1).1 s.2.2.2=true then (rE q.2.1).1 else s.2.2.2) else s
def apm (b:ByteArray):(rE b).1.size<=b.size:=by
 unfold rE;split
 .exact aR (Ua _) (Ua _)
 .exact aX _
def ags {s:bK}{q:b0}(b:oN s)(a:Bu q)(c:Int×Int):Is F0 c s q=some (see c s q,()):=by have d:=apm q.2.1;rw[aqw,LP b,ao,Bv b,ao,O2 a,ao,arB a b.1,ao,aaV a.1,ao,axc a.1,ao,Bz,ao,arD a.1,ao,T0 (aR d a.1) b.2,ao];unfold see sE;cases b2 c s<;>cases fe c q<;>cases (rE q.2.1).2<;>cases ajQ (rE q.2.1).1 s.2.2.2<;>simp[ae,aa]
def CY (c:Int×Int)(s:bK)(b:cK):Bool:=b2 c s&&(gw c b&&(decide (bm b.1.data.toList>s.1)&&decide (b.2.1>=s.2.1)))
def aet {s:bK}{b:cK}(d:oN s)(a:b.1.size<=1048576)(e:Bu b.2)(c:Int×Int):wJ F0 c s b=some (CY c s b,()):=by rw[afg,Bv d,ao,DX a e,ao,gv a,ao];unfold CY;cases b2 c s<;>cases gw c b<;>cases decide (bm b.1.data.toList>s.1)<;>rfl
def atW (c:Int×Int)(s:bK)(b:cK):bK×Bool:=if CY c s b=true then ((bm b.1.data.toList,s.2),true) else (s,false)
def arE {s:bK}{b:cK}(a:oN s)(d:b.1.size<=1048576)(e:Bu b.2)(c:Int×Int):Hv F0 c s b=some ((atW c s b).1,(atW c s b).2,()):=by rw[aor,LP a,ao,aet a d e,ao,gv d,ao];unfold atW;cases CY c s b<;>rfl
abbrev As:=List Int×Int
def abf (d:As)(b:List Int):As×Bool:=if gL d=true/\d.1.length+b.length<=100000 then ((d.1++b,d.2),true) else (d,false)
def dJ {d:As}:gL d=true↔d.1.length<=100000/\0<=d.2/\d.2<=d.1.length:=by unfold gL ga;simp only[aD,bJ];omega
def atX {d:As}{b:List Int}(e:d.1.length<=1048576)(i:b.length<=1048576):Kq F0 d b=some ((abf d b).1,(abf d b).2,()):=by
 rw[aie,LQ e,ao,aE (by omega) (by omega) (by first|omega|(simp only[aW,bG,bd];omega)|(rw[b7,cp];omega)),ad,Jv,ao,Jv,ao,ao];unfold abf;cases h:gL d with
 |false=>rfl
 |true =>
  have f:=dJ.1 h;by_cases a:d.1.length+b.length<=100000
  .have:gL (d.1++b,d.2)=true:=dJ.2 ⟨by dsimp only;rw[aW];exact a,f.2.1,by dsimp only;rw[aW];omega⟩;rw[this,an ⟨rfl,a⟩];rfl
  .have:gL (d.1++b,d.2)=false:=by
    cases g:gL (d.1++b,d.2) with
    |false=>rfl
    |true =>
     have:=(dJ.1 g).1;dsimp only at this;rw[aW]at this;exact absurd this a
   rw[this,ah (fun h=>a h.2)];rfl
def DZ (d:As):As:=if gL d=true then (d.1,(d.1.length:Int)) else d
def ay8 {d:As}(a:d.1.length<=1048576):Uw F0 d=some (DZ d,()):=by rw[aow,LQ a,ao,Jv,ao];unfold DZ;cases gL d<;>rfl
def Xb (d:As)(mR:Int):Int:=d.2+sE 0 (Hi mR ((d.1.length:Int)-d.2))
def JA (d:As)(mR:Int):As:=if gL d=true then (d.1.take (Xb d mR).toNat,Xb d mR) else d
def arF {d:As}(h:gL d=true)(mR:Int):d.2<=Xb d mR/\Xb d mR<=d.1.length:=by have:=dJ.1 h;unfold Xb sE Hi;split<;>split<;>omega
def atY {d:As}(e:d.1.length<=1048576)(mR:Int):KP F0 d mR=some (JA d mR,()):=by
 rw[aiH,LQ e,ao,Jv,ao,UO,ao,Bz,ao];unfold JA;cases h:gL d with
 |false=>rfl
 |true =>
  have i:=dJ.1 h;have b:=arF h mR;have f:ak ((d.1.length:Int)-d.2)=(d.1.length:Int)-d.2:=aB (by omega) (by omega);have g:ak (d.2+sE 0 (Hi mR ((d.1.length:Int)-d.2)))=Xb d mR:=aB (by unfold Xb at b;omega) (by unfold Xb at b;omega);rw[aZ,aa,an rfl];dsimp only;rw[f,g,YF (by omega) (by omega) b.2,ad,aE (a:=0) (by omega) (by omega) (by first|omega|(simp only[aW,bG,bd];omega)|(rw[b7,cp];omega)),ad];rfl
def akf (s:bK):Int:=Hi 60 (sE (sE s.1 (ak (s.2.2.1.1+1))) 1)
def aCt (c:Int×Int)(r:ay):ay:=(r.1,akf (ff c r.2.2.2.2.2.2.1.1).1,0,(ff c r.2.2.2.2.2.2.1.1).1,[],[],(r.2.2.2.2.2.2.1.1.take (ff c r.2.2.2.2.2.2.1.1).2,((ff c r.2.2.2.2.2.2.1.1).2:Int)),[])
def arG (c:Int×Int){b:List Int}(e:cF b):∀(f:Nat) (s:bK) (a:Nat),a<=b.length->(FZ c b f s a).2<=b.length
 |0,s,a,d=>d|f+1,s,a,d=>by
  cases h:QW c b a with
  |none=>rw[iH h];exact d
  |some z =>
   obtain⟨g,i⟩:=z;rw[Jx h];exact arG c e f g i (arj e d h).2.1
def aeu (c:Int×Int){b:List Int}(a:cF b):(ff c b).2<=b.length:=arG c a _ _ _ (aX _)
def ay9 {r:ay}(h:ay6 r){c:Int×Int}(b:rQ c r=true):Ns F0 c r=some (aCt c r,()):=by have d:=aeu c h.d;have e:=h.d.1;rw[aoy,fx h.l,ao,b,aZ,aa,aa5 h.d,ao,Bz,ao,Bz,ao,UO,ao];dsimp only;rw[YF (by omega) (by omega) (by omega),ad,aE (a:=0) (by omega) (by omega) (by first|omega|(simp only[aW,bG,bd];omega)|(rw[b7,cp];omega)),ad];rfl
def sameAt (a b:b0):Bool:=(a.1==b.1)&&(a.2.1.toList==b.2.1.toList)
def am3 (a b:b0):b0:=(a.1,a.2.1,aqQ a.2.2 b.2.2)
def apn {a b:b0}(h:a.2.2.length+b.2.2.length<=1048576):Cb F0 a b=some (if sameAt a b=true then am3 a b else b1,sameAt a b,()):=by rw[ab6,aqR h,ao];unfold sameAt am3 bne;cases (a.1==b.1)<;>cases (a.2.1.toList==b.2.1.toList)<;>rfl
def lN (p:b0):List b0->List b0
 |[]=>[p]|x::l=>if j8 x p=true then x::lN p l else if sameAt x p=true then am3 x p::l else p::x::l
def cL (c:Int×Int)(l:List b0)(p:b0):List b0×Bool:=if iF c p=true/\e9 c (lN p l)=true then (lN p l,true) else (l,false)
def akg (p:b0):∀l:List b0,(lN p l).length<=l.length+1
 |[]=>bu _|x::l=>by
  have:=akg p l;unfold lN;split
  .simp only[bG];omega
  .split<;>simp
def Ub (p:b0):∀(k:Nat) (l:List b0),(∀x∈l.take k,j8 x p=true)->lN p l=l.take k++lN p (l.drop k)
 |0,l,_=>rfl|k+1,[],_=>rfl|k+1,x::l,h=>by rw[lN,an (h x (by simp)),Ub p k l fun y a=>h y (by simp[a])];rfl
def alQ (l:List b0):Prop:=l.length<=1000/\∀q∈l,q.2.1.size<=1048576/\q.2.2.length<=1000
def alQ.l {l:List b0}(h:alQ l){q:b0}(a:q∈l):Bu q:=⟨(h.2 q a).1,aR (h.2 q a).2 (by omega)⟩
def aAY {a b:b0}(d:a.2.1.size<=1048576/\a.2.2.length<=1000)(e:b.2.2.length<=1000):Bu (am3 a b):=⟨d.1,by have:=awG a.2.2 b.2.2;show(aqQ a.2.2 b.2.2).length<=_;omega⟩
def arH {p:b0}(b:p.2.1.size<=1048576/\p.2.2.length<=1000):∀{l:List b0},alQ l->∀q∈lN p l,Bu q
 |[],_,q,a=>by rw[h7.1 a];exact⟨b.1,by omega⟩
 |x::l,h,q,a=>by
  have e:=h.2 x JL;have d:alQ l:=⟨by have:=h.1;rw[bG]at this;omega,fun y f=>h.2 y (rH _ f)⟩;unfold lN at a;split at a
  .rcases dK.1 a with rfl|a
   .exact h.l JL
   .exact arH b d q a
  .split at a
   .rcases dK.1 a with rfl|a
    .exact aAY e b.2
    .exact d.l a
   .rcases dK.1 a with rfl|a
    .exact⟨b.1,by omega⟩
    .exact h.l a
def atZ {V:Type}(c:Int×Int)(l:List b0)(p:b0)(x y:Option V):br (!e9 c (lN p l)) y (br (!iF c p) y x)=if iF c p=true/\e9 c (lN p l)=true then x else y:=by cases e9 c (lN p l)<;>cases iF c p<;>rfl
def yZ {l:List b0}(h:alQ l){p:b0}(m:p.2.1.size<=1048576/\p.2.2.length<=1000)(c:Int×Int):dW F0 c l p=some ((cL c l p).1,(cL c l p).2,()):=by
 have D:=h.1;have A:Bu p:=⟨m.1,by omega⟩;have E:=akg p l;have cX:l6 F0 (c.1,c.2) (lN p l)=some (e9 c (lN p l),()):=aen (by omega) (arH m h) c;rw[ab8];refine ca (fun n k (z:Bool×List b0)=>gD F0 (wS F0) n (eK l z.1 k c.1 c.2 p.1 p.2.1 p.2.2 z.2)) l.length
  (fun k z=>(z.1=false/\z.2=l.take k/\∀x∈l.take k,j8 x p=true)\/(z.1=true/\z.2++l.drop k=lN p l)) _ (fun n k z b i=>.inr ?_) (fun n z i=>?_) F0.n 0 (false,[]) (aX _) (.inl ⟨rfl,rfl,fun x o=>by simp at o⟩) (by rw[bj];omega)
 .have o:=h.2 _ (cB b);have s:l.drop k=l[k]::l.drop (k+1):=adx b;rcases i with ⟨d,a,g⟩|⟨d,a⟩
  .have B:z.2.length<=1000:=by rw[a,cp];omega
   have e:=Ub p k l g;rw[s,lN]at e;rw[d,jG,aK b,ae,al b,ad,aM b,lY (by omega),ao];dsimp only;rw[show((p.1,p.2.1,p.2.2):b0)=p from rfl,W7,ao,apn (by omega),ao,lY (q:=p) (by omega),ao];cases t:j8 l[k] p with
   |true =>
    refine⟨(false,z.2++[l[k]]),?_,.inl ⟨rfl,?_,?_⟩⟩
    .rw[gQ,ae,aZ,aa,aE (by omega) (by omega) (by first|omega|(simp only[aW,bG,bd];omega)|(rw[b7,cp];omega)),ad,ag (by omega)]
    .show z.2++[l[k]]=_;rw[de b,a]
    .intro x u;rw[de b]at u;rcases fM.1 u with j|j
     .exact g x j
     .rw[h7.1 j];exact t
   |false =>
    rw[t,ah (by decide)]at e;cases f:sameAt l[k] p with
    |true =>
     rw[f,an rfl]at e;refine⟨(true,z.2++[am3 l[k] p]),?_,.inr ⟨rfl,?_⟩⟩
     .rw[gQ,ae,ae,an rfl,ae,aE (by omega) (by omega) (by first|omega|(simp only[aW,bG,bd];omega)|(rw[b7,cp];omega)),ad,ag (by omega)]
     .show(z.2++[am3 l[k] p])++_=_;rw[e,a,mP];rfl
    |false =>
     rw[f,ah (by decide)]at e;refine⟨(true,z.2++[p]++[l[k]]),?_,.inr ⟨rfl,?_⟩⟩
     .rw[gQ,ae,ae,aa,aE (by omega) (by omega) (by first|omega|(simp only[aW,bG,bd];omega)|(rw[b7,cp];omega)),ad,aE (by omega) (by omega) (by first|omega|(simp only[aW,bG,bd];omega)|(rw[b7,cp];omega)),ad,ag (by omega)]
     .show(z.2++[p]++[l[k]])++_=_;rw[e,a,mP,mP];rfl
  .have B:z.2.length<=1001:=by have:=Au List.length a;rw[aW]at this;omega
   refine⟨(true,z.2++[l[k]]),?_,.inr ⟨rfl,?_⟩⟩
   .rw[d,jG,aK b,ae,al b,ad,aM b,lY (by omega),ao];dsimp only;rw[aZ,aa,aE (by omega) (by omega) (by first|omega|(simp only[aW,bG,bd];omega)|(rw[b7,cp];omega)),ad,ag (by omega)]
   .show(z.2++[l[k]])++_=_;rw[mP,<-a,s];rfl
 .have v:jC F0 (c.1,c.2) (p.1,p.2.1,p.2.2)=some (iF c p,()):=O3 A c;have w:fF F0 l=some (l,()):=aba (by omega) fun q C=>h.l C
  have y:br (!e9 c (lN p l)) (some (l,false,())) (br (!iF c p) (some (l,false,())) (some (lN p l,true,())))=some ((cL c l p).1,(cL c l p).2,()):=by rw[atZ];unfold cL;split<;>rfl
  rcases i with ⟨d,a,g⟩|⟨d,a⟩
  .have f:=Ub p l.length l g;rw[abo,jr]at f;rw[jr]at a;rw[d,jG,az,aa,Fg,gQ,ae,show((p.1,(p.2.1,p.2.2)):b0)=p from rfl,lY (by omega),ao,a,aE (by omega) (by omega) (by first|omega|(simp only[aW,bG,bd];omega)|(rw[b7,cp];omega)),ad,
    show l++[p]=lN p l from f.symm,cX,ao,v,ao,w,ao]
   exact y
  .rw[abo,gO]at a;rw[d,jG,az,aa,Fg,aZ,aa,a,cX,ao,v,ao,w,ao];exact y
def avR {γ:Type}(X:Nat->Int->Option γ)(L:Nat)(p:Nat->Bool)(E:Nat->Option γ)(b:∀n k,k<L->X (n+1) (k:Int)=if p k=true then X n ((k+1:Nat):Int) else E k)(d:∀n,X (n+1) (L:Int)=E L) :
  ∀(j k n:Nat),k+j=L->(∀i,i<k->p i=true)->j<n->∃i,i<=L/\(∀j,j<i->p j=true)/\(i<L->p i=false)/\X n (k:Int)=E i
 |0,k,n+1,f,a,g=>⟨L,bu _,fun j s=>a j (by omega),fun h=>absurd h (adC _),by rw[show k=L by omega];exact d n⟩
 |j+1,k,n+1,f,a,g=>by
  cases h:p k with
  |true =>
   obtain⟨i,l,m,o,q⟩:=avR X L p E b d j (k+1) n (by omega) (fun i t=>by
    by_cases e:i=k
    .rw[e];exact h
    .exact a i (by omega)) (by omega)
   exact⟨i,l,m,o,by rw[b n k (by omega),h,an rfl];exact q⟩
  |false=>exact⟨k,by omega,a,fun _=>h,by rw[b n k (by omega),h,ah (by decide)]⟩
def iI (l:List b0)(view:Int)(name:ByteArray):b0:=match l.find? fun x=>(x.1==view)&&(x.2.1.toList==name.toList) with
 |some x=>x|none=>(view,name,[])
def axd {U:Type}{p:U->Bool}{l:List U}{k:Nat}(a:k<l.length):(l.drop k).find? p=if p l[k]=true then some l[k] else (l.drop (k+1)).find? p:=by rw[adx a,List.find?_cons];cases p l[k]<;>rfl
def Pj {l:List b0}(h:l.length<=1048576)(f:∀q∈l,Bu q)(view:Int)(name:ByteArray):nF F0 l view name=some (iI l view name,()):=by
 rw[abY];refine ca (fun n k (z:Unit)=>nh F0 (oa F0) n (jF l view name k 0 ai [])) l.length (fun k _=>l.find? (fun x=>(x.1==view)&&(x.2.1.toList==name.toList))=(l.drop k).find? fun x=>(x.1==view)&&(x.2.1.toList==name.toList)) _ (fun n k z b a=>?_) (fun n z a=>?_) F0.n 0 () (aX _) rfl (by rw[bj];omega)
 .rw[axd b]at a;rw[Df,aK b,ae,al b,ad,ad,ad,aM b,lY (f _ (cB b)).2,ao,XL,ag (by omega)];cases d:(l[k].1==view) with
  |false =>
   rw[d,YW,ah (by decide)]at a;exact .inr ⟨(),aa _ _,a⟩
  |true =>
   cases e:(l[k].2.1.toList==name.toList) with
   |false =>
    rw[d,e,kO,ah (by decide)]at a;exact .inr ⟨(),by rw[ae,aa],a⟩
   |true =>
    rw[d,e,kO,an rfl]at a;refine .inl ?_;unfold iI;rw[a];rfl
 .rw[abo]at a;rw[Df,az,aa,U5];unfold iI;rw[a];rfl
def apo (l:List b0)(view:Int):List b0:=l.filter fun x=>decide (x.1>=view)
def alR {l:List b0}(h:l.length<=1048576)(b:∀q∈l,Bu q)(view:Int):wY F0 l view=some (apo l view,()):=by
 rw[Z2];refine avP (fun n k xs=>lh F0 (uC F0) n (ij l view k xs)) l (fun x=>decide (x.1>=view)) _ (fun n k xs a d=>?_) (fun n=>?_) _ (by rw[bj];omega)
 .rw[z6,aK a,ae,al a,ad,ad,aM a,lY (b _ (cB a)).2,ao,aE (by omega) (by omega) (by first|omega|(simp only[aW,bG,bd];omega)|(rw[b7,cp];omega)),ad,ag (by omega)];cases decide (l[k].1>=view)<;>rfl
 .rw[z6,az,aa,SB];rfl
def arI {a b c:ez}(d:sB a b=true)(e:sB b c=true):sB a c=true:=by simp only[sB,kl,aD,bJ,cH]at *;omega
def am4 {U:Type}(d:U)(p:U->Bool)(q:U->U->Bool)(l:List U):TV d p q l=true↔(∀k (h:k<l.length),p l[k]=true)/\∀k (h:k+1<l.length),q l[k] l[k+1]=true:=by
 unfold TV;rw[fL];constructor
 .intro h;refine⟨fun k a=>?_,fun k a=>?_⟩
  .have:=h k (gP.2 a);rw[aL a,aD]at this;exact this.1
  .have:=h (k+1) (gP.2 a);rw[aL a,show k+1-1=k from rfl,aL (show k<l.length by omega),aD,kl]at this;rcases this.2 with b|b
   .exact absurd (C2 b) (by omega)
   .exact b
 .intro h k a;have a:=gP.1 a;rw[aL a,aD,kl];refine⟨h.1 k a,?_⟩;cases k with
  |zero=>exact .inl (aS rfl)|succ k=>rw[show k+1-1=k from rfl,aL (show k<l.length by omega)];exact .inr (h.2 k a)
def aza {U:Type}{q:U->U->Bool}(g:∀a b c,q a b=true->q b c=true->q a c=true){l:List U}(h:∀k (h:k+1<l.length),q l[k] l[k+1]=true){i:Nat}:∀(j:Nat) (d:i<j) (f:j<l.length),q (l[i]'(by omega)) l[j]=true
 |0,d,_=>absurd d (YU _)|j+1,d,f=>by
  by_cases e:i=j
  .subst e;exact h i f
  .exact g _ _ _ (aza g h j (by omega) (by omega)) (h j f)
def CZ (x:ez):List ez->List ez
 |[]=>[x]|y::l=>if sB y x=true then y::CZ x l else x::y::l
def oO (l:List ez)(x:ez):List ez×Bool:=if mJ (CZ x l)=true then (CZ x l,true) else (l,false)
def Uc (x:ez):∀l:List ez,(CZ x l).length=l.length+1
 |[]=>rfl|y::l=>by
  unfold CZ;split
  .rw[bG,Uc x l,bG]
  .rfl
def akh {x:ez}:∀{l:List ez} {i:Nat},i<=l.length->(∀a (h:a<l.length),a<i->sB l[a] x=true)->(∀h:i<l.length,sB l[i] x=false)->CZ x l=l.take i++[x]++l.drop i
 |[],i,b,_,_=>by rw[show i=0 by simpa using b];rfl
 |y::l,0,_,_,d=>by have:=d (by simp);rw[CZ,ah (by rw[show sB y x=false from this];decide)];rfl
 |y::l,i+1,b,e,d=>by have f:sB y x=true:=e 0 (by simp) (by omega);rw[CZ,an f,akh (l:=l) (i:=i) (by simpa using b) (fun a g j=>e (a+1) (by simpa using g) (by omega)) (fun h=>d (by simpa using h))];rfl
set_option maxRecDepth 20000 in
def Ud {l:List ez}(h:l.length<=1000000)(x:ez):qJ F0 l x=some ((oO l x).1,(oO l x).2,()):=by
 rw[afm];obtain⟨i,e,f,g,j⟩:=avR (γ:=List ez×Bool×Unit) (fun n k=>wX F0 (qc F0) n (p9 l k x.1 x.2.1 x.2.2.1 x.2.2.2)) l.length (fun k=>sB (l.getD k ny) x) (fun k=>qc F0 (.exit 0) (ot l (k:Int) x.1 x.2.1 x.2.2.1 x.2.2.2))
  (fun n k b=>by
   rw[Fh,aK b,ae,al b,ad,aM b,show((x.1,x.2.1,x.2.2.1,x.2.2.2):ez)=x from rfl,aaU,ao,ag (by omega),aL b];cases v:sB l[k] x with
   |true=>rw[ae,an rfl]|false=>rw[aa,ah (by decide)])
  (fun n=>by rw[Fh,az,aa]) l.length 0 F0.n (by omega) (fun i d=>absurd d (YU _)) (by rw[bj];omega)
 have m:=akh (x:=x) e (fun o q s=>by have:=f o s;rw[aL q]at this;exact this) (fun d=>by have:=g d;rw[aL d]at this;exact this);have w:=Uc x l;refine Eq.trans j ?_;have t:(l.take (i:Int).toNat).drop (0:Int).toNat=l.take i:=by rw[oR];rfl
 have u:(l.take (l.length:Int).toNat).drop (i:Int).toNat=l.drop i:=by rw[oR,oR,jr]
 have y:(l.take i).length<=l.length:=by rw[cp];omega
 have z:(l.drop i).length<=l.length:=by rw[b7];omega
 rw[XS,t,u,vr,ayI e,ad,aE (a:=0) (by omega) (by omega) (by first|omega|(simp only[aW,bG,bd];omega)|(rw[b7,cp];omega)),ad,aE (by omega) (by omega) (by first|omega|(simp only[aW,bG,bd];omega)|(rw[b7,cp];omega)),ad,UG e (bu _),ad,aE (by omega) (by omega) (by first|omega|(simp only[aW,bG,bd];omega)|(rw[b7,cp];omega)),ad,show((x.1,(x.2.1,(x.2.2.1,x.2.2.2))):ez)=x from rfl,<-m,ajD (by omega),ao,
  aE (a:=0) (by omega) (by omega) (by first|omega|(simp only[aW,bG,bd];omega)|(rw[b7,cp];omega)),ad]
 unfold oO;cases mJ (CZ x l)<;>rfl
def lO:n0->Nat->List ez->List ez
 |_,_,[]=>[]|_,0,_=>[]|l,n+1,x::p=>if aj0 (r3 l x).2=true then x::lO (r3 l x).1 n p else lO l (n+1) p
def alS (l:n0):∀p:List ez,lO l 0 p=[]
 |[]=>rfl|_::_=>rfl
def alT {l:n0}{n:Nat}{p:List ez}{k:Nat}(a:k<p.length):lO l (n+1) (p.drop k)=if aj0 (r3 l p[k]).2=true then p[k]::lO (r3 l p[k]).1 n (p.drop (k+1)) else lO l (n+1) (p.drop (k+1)):=by rw[adx a,lO]
def ado {p:List ez}(d:p.length<=1048576):∀(j k:Nat) (xs:List ez) (l:n0) (n:Nat),k+j=p.length->xs.length<=2->af7 l->j<n ->
  iW F0 (wA F0) n (gm p (k:Int) xs l.1 l.2)=some (xs++lO l (2-xs.length) (p.drop k),())
 |0,k,xs,l,n+1,g,e,a,h=>by
  obtain rfl:k=p.length:=by omega
  rw[Dg,az,aa,Fa,abo];cases 2-xs.length<;>simp[lO]
 |j+1,k,xs,l,n+1,g,e,a,h=>by
  have b:k<p.length:=by omega
  rw[Dg,aK b,ae,Fa];by_cases o:xs.length<2
  .obtain⟨m,f⟩:∃m,2-xs.length=m+1:=⟨1-xs.length,by omega⟩;have i:H9 F0 (l.1,l.2) p[k]=some ((r3 l p[k]).1,(r3 l p[k]).2,()):=aoZ (l:=l) (by have:=a.1;omega) (by have:=a.2;omega) _;rw[aS (show(xs.length:Int)<2 by omega),ae,al b,ad,aM b,i,ao,ad,aE (by omega) (by omega) (by first|omega|(simp only[aW,bG,bd];omega)|(rw[b7,cp];omega)),ad,ag (by omega),f,alT b];dsimp only;rw[ado d j (k+1) (xs++[p[k]]) (r3 l p[k]).1 n (by omega) (by simp;omega) (aDj a _) (by omega),ado d j (k+1) xs l n (by omega) e a (by omega),f,show 2-(xs++[p[k]]).length=m by simp;omega];unfold aj0;cases (r3 l p[k]).2==0<;>cases (r3 l p[k]).2==4<;>simp[br]
  .rw[aT (show ¬(xs.length:Int)<2 by omega),aa,show 2-xs.length=0 by omega,alS,gO]
def apq {p:List ez}(b:p.length<=1048576){l:n0}(a:af7 l):nG F0 p l=some (lO l 2 p,()):=by rw[ab0,Yp (by have:=a.1;omega) (by have:=a.2;omega),ao];exact ado b p.length 0 [] l F0.n (by omega) (by simp) a (by rw[bj];omega)
def Pk:∀(p:List ez) (l:n0) (n:Nat),(lO l n p).length<=n
 |[],l,n=>by cases n<;>exact aX _
 |x::p,l,0=>bu _|x::p,l,n+1=>by
  unfold lO;split
  .rw[bG];have:=Pk p (r3 l x).1 n;omega
  .exact Pk p l (n+1)
def arJ (p:List ez)(l:n0):List ez:=p.filter fun x=>(r3 l x).2 != 2
def apr {p:List ez}(e:p.length<=1048576){l:n0}(b:l.1.length<=1048576)(d:l.2.length<=1048576):Ci F0 p l=some (arJ p l,()):=by
 rw[acf];refine avP (fun n k xs=>ni F0 (wZ F0) n (jH p k l.1 l.2 xs)) p (fun x=>(r3 l x).2 != 2) _ (fun n k xs a f=>?_) (fun n=>?_) _ (by rw[bj];omega)
 .rw[Dp,aK a,ae,al a,ad,ad,aM a,show((l.1,l.2):n0)=l from rfl,aoZ b d,ao,aE (by omega) (by omega) (by first|omega|(simp only[aW,bG,bd];omega)|(rw[b7,cp];omega)),ad,ag (by omega)];cases (r3 l p[k]).2 != 2<;>rfl
 .rw[Dp,az,aa,Va];rfl
def hH (c:Int×Int)(view i:Int):List Int:=if 0<=cJ c view i then ((List.range c.1.toNat).filter fun k:Nat=>decide (i∈amM c view (k:Int))).map fun k:Nat=>(k:Int) else []
def arK {c:Int×Int}(a:bq c=true)(view i:Int):(hH c view i).length<=7:=by
 have:=ch a;unfold hH;split
 .rw[n1];have:=apO (fun k:Nat=>decide (i∈amM c view (k:Int))) (List.range c.1.toNat);rw[al5]at this;omega
 .exact aX _
def azb {γ:Type}(X:Nat->Int->List Int->Option γ)(N:Nat)(p:Nat->Bool)(R:Option γ)(a:∀n k xs,k<N->xs.length<=k->X (n+1) (k:Int) xs=X n ((k+1:Nat):Int) (if p k=true then xs++[(k:Int)] else xs))
  (b:∀n,X (n+1) (N:Int) (((List.range N).filter p).map fun k:Nat=>(k:Int))=R) (n:Nat) (f:N<n):X n 0 []=R:=by
 refine ca X N (fun k xs=>xs=((List.range k).filter p).map fun k:Nat=>(k:Int)) R (fun n k xs d h=>.inr ⟨_,a n k xs d (by rw[h,n1];exact aR (apO _ _) (by rw[al5];omega)),?_⟩) (fun n xs h=>?_) n 0 [] (aX _) rfl (by omega)
 .rw[List.range_succ,List.filter_append,agz,h];cases e:p k<;>simp[e]
 .rw[h];exact b n
def axe {c:Int×Int}(b:bq c=true)(view i:Int):OH F0 c view i=some (hH c view i,()):=by
 have e:=ch b;have f:(c.1.toNat:Int)=c.1:=by omega
 rw[ala,gK,ao,b,aZ,aa];unfold hH;by_cases a:0<=cJ c view i
 .rw[an a];refine azb (fun n k xs=>wT F0 (Ix F0) n (pa view i k c.1 c.2 xs)) c.1.toNat (fun k:Nat=>decide (i∈amM c view (k:Int))) _ (fun n k xs g h=>?_) (fun n=>?_) F0.n (by rw[bj];omega)
  .rw[wU,aS (show(k:Int)<c.1 by omega),ae,show((c.1,c.2):Int×Int)=c from rfl,TU,ao,aS (show cJ c view i>=0 from a),ae,aAA,ao,eg (by have:=awI c view k;dsimp only;omega),ao,aE (by omega) (by omega) (by first|omega|(simp only[aW,bG,bd];omega)|(rw[b7,cp];omega)),ad,ag (by omega)];dsimp only;cases decide (i∈amM c view (k:Int))<;>rfl
  .rw[wU,aT (show ¬(c.1.toNat:Int)<c.1 by omega),aa,M9]
 .obtain⟨m,d⟩:∃m,F0.n=m+1:=⟨F0.n-1,by rw[bj]⟩;rw[ah a,d,wU,aS (show(0:Int)<c.1 by omega),ae,show((c.1,c.2):Int×Int)=c from rfl,TU,ao,aT (show ¬cJ c view i>=0 from a),aa,M9]
def YK {c:Int×Int}{q:b0}(h:fe c q=true):Bu q:=⟨(yY h).1.n,(yY h).1.w⟩
def Oa {c:Int×Int}{q:b0}(h:iF c q=true):q.2.1.size<=1048576/\q.2.2.length<=1000:=⟨(UN h).1.n,aR (UN h).2.1 (by omega)⟩
def arL {c:Int×Int}{s:bK}(h:b2 c s=true):oN s:=⟨YK (fK h).2.2.1,aR (jq (fK h).2.2.2) (by omega)⟩
def UP {c:Int×Int}{b:cK}(h:gw c b=true):b.1.size<=1048576/\Bu b.2:=by simp only[gw,aD]at h;exact⟨aR (jq h.2.1) (by omega),YK h.1⟩
def eb:Bu b1:=⟨aX _,aX _⟩
def aps {c:Int×Int}{m:cq}(h:dZ c m=true):kk m:=by
 unfold dZ at h;simp only[aD]at h;obtain⟨i,f,a⟩:=h;have g:=YH f;rw[<-g];by_cases b:m.1=1
 .rw[an (by simpa using b)]at a;have:=UP a;simp only[named,b];exact⟨this.1,this.2,eb,eb⟩
 .by_cases d:m.1=2
  .rw[ah (by simpa using b),an (by simpa using d)]at a;simp only[aD]at a;have:=Oa a.1;simp only[named,d];exact⟨aX _,eb,⟨this.1,by show m.2.2.2.1.2.2.length<=_;omega⟩,eb⟩
  .by_cases e:m.1=3
   .rw[ah (by simpa using b),ah (by simpa using d),an (by simpa using e)]at a;simp only[aD]at a;simp only[named,e];exact⟨aX _,eb,eb,YK a.2.1⟩
   .rw[ah (by simpa using b),ah (by simpa using d),ah (by simpa using e)]at a;simp only[aD,cH]at a;simp only[named,a.1];exact⟨aX _,eb,eb,eb⟩
def am5 {U:Type}{d:U}{p:U->Bool}{q:U->U->Bool}{l:List U}(h:TV d p q l=true):∀x∈l,p x=true:=fun x a=>by obtain⟨k,b,rfl⟩:=agC a;exact((am4 d p q l).1 h).1 k b
def C0 {c:Int×Int}{l:List b0}(h:e9 c l=true):alQ l:=by simp only[e9,aD,bJ]at h;exact⟨by omega,fun q a=>Oa (am5 h.1 q a)⟩
def YL {l:List ez}(h:mJ l=true):l.length<=12/\∀x∈l,gf x=true:=by simp only[mJ,aD,bJ]at h;exact⟨by omega,am5 h.1⟩
structure azc (c:Int×Int) (r:ay):Prop where
 cf:bq c=true
 i:ga 0 (ak (c.1-1)) r.1=true
 v:ga 1 60 r.2.1=true
 a:ga 0 60 r.2.2.1=true
 s:b2 c r.2.2.2.1=true
 p:mJ r.2.2.2.2.1=true
 t:e9 c r.2.2.2.2.2.1=true
 d:gL r.2.2.2.2.2.2.1=true
 n:r.2.2.2.2.2.2.2.length<=30
 h:∀x∈r.2.2.2.2.2.2.2,Jw c r.1 x=true
def Ob {c:Int×Int}{r:ay}:rQ c r=true↔azc c r:=by
 unfold rQ;simp only[aD,agx,asv,fL];constructor
 .rintro⟨a,b,d,e,f,g,i,j,l,k⟩;exact⟨a,b,d,e,f,g,i,j,by omega,k⟩
 .intro h;exact⟨h.cf,h.i,h.v,h.a,h.s,h.p,h.t,h.d,by have:=h.n;omega,h.h⟩
structure aY (c:Int×Int) (r:ay):Prop where
 f:azc c r
 b:∀x∈r.2.2.2.2.2.2.1.1,0<=x/\x<=255
def aY.ok {c:Int×Int}{r:ay}(h:aY c r):rQ c r=true:=Ob.2 h.f
def arM {c:Int×Int}{i:Int}{x:oM}(h:Jw c i x=true):dZ c x.2=true:=by simp only[Jw,aD]at h;exact h.1
def azc.l {c:Int×Int}{r:ay}(h:azc c r):aga r :=
 ⟨arL h.s,aR (YL h.p).1 (by omega),aR (C0 h.t).1 (by omega),fun q a=>(C0 h.t).l a,aR h.n (by omega),fun q a=>aps (arM (h.h q a))⟩
def aY.bt {c:Int×Int}{r:ay}(h:aY c r):ay6 r:=⟨h.f.l,⟨aR (dJ.1 h.f.d).1 (by omega),h.b⟩⟩
def aY.l {c:Int×Int}{r:ay}(h:aY c r):aga r:=h.f.l
def adp (c:Int×Int)(r:ay)(a:Int)(m:cq):Bool:=decide (r.2.2.2.2.2.2.2.length<30)&&(dZ c m&&(ga 0 (ak (c.1-1)) a&& !(a==r.1)))
def Pl (r:ay)(p:oM):ay:=(r.1,r.2.1,r.2.2.1,r.2.2.2.1,r.2.2.2.2.1,r.2.2.2.2.2.1,r.2.2.2.2.2.2.1,r.2.2.2.2.2.2.2++[p])
def EW (c:Int×Int)(r:ay)(a:Int)(m:cq):ay×Bool:=if adp c r a m=true then (Pl r (a,m),true) else (r,false)
def LS {r:ay}(d:r.2.2.2.2.2.2.2.length<=1048576){m:cq}(b:kk m)(c:Int×Int)(a:Int):eL F0 c r a m=some (((EW c r a m).1,(EW c r a m).2,()),()):=by
 rw[afl,HA b,ao,cE,ao,aes b,ao,aE (by omega) (by omega) (by first|omega|(simp only[aW,bG,bd];omega)|(rw[b7,cp];omega)),ad];unfold EW adp;by_cases h:r.2.2.2.2.2.2.2.length<30
 .rw[aT (show ¬(r.2.2.2.2.2.2.2.length:Int)>=30 by omega),aS h];cases dZ c m<;>cases ga 0 (ak (c.1-1)) a<;>cases (a==r.1)<;>rfl
 .rw[aS (show(r.2.2.2.2.2.2.2.length:Int)>=30 by omega),aT h];rfl
def at0 {c:Int×Int}{r:ay}(h:azc c r)(a:Int)(m:cq):rQ c (Pl r (a,m))=adp c r a m:=by
 unfold adp;by_cases f:r.2.2.2.2.2.2.2.length<30
 .rw[aS f,kO];have e:(dZ c m&&(ga 0 (ak (c.1-1)) a&& !(a==r.1)))=Jw c r.1 (a,m):=rfl;rw[e];cases g:Jw c r.1 (a,m) with
  |true=>exact Ob.2 ⟨h.cf,h.i,h.v,h.a,h.s,h.p,h.t,h.d,by simp[Pl];omega,fun x b=>by
    rcases fM.1 b with b|b
    .exact h.h x b
    .rw[h7.1 b];exact g⟩
  |false =>
   cases d:rQ c (Pl r (a,m)) with
   |false=>rfl
   |true =>
    have:=(Ob.1 d).h (a,m) (by simp[Pl]);exact absurd this (by show ¬Jw c r.1 (a,m)=true;rw[g];decide)
 .rw[aT f];cases d:rQ c (Pl r (a,m)) with
  |false=>rfl
  |true =>
   have:=(Ob.1 d).n;simp[Pl]at this;omega
def aY.told {c:Int×Int}{r:ay}(h:aY c r)(a:Int)(m:cq):aY c (EW c r a m).1:=by
 unfold EW;cases b:adp c r a m with
 |false=>exact h
 |true =>
  have:=at0 h.f a m;rw[b]at this;exact⟨Ob.1 this,h.b⟩
def put (r:ay)(s:bK):ay:=(r.1,r.2.1,r.2.2.1,s,r.2.2.2.2.1,r.2.2.2.2.2.1,(r.2.2.2.2.2.2.1.1++Jz s,r.2.2.2.2.2.2.1.2),r.2.2.2.2.2.2.2)
def y0 (c:Int×Int)(r:ay)(s:bK):ay×Bool :=
 if nz r.2.2.2.1 s=true then (r,true) else if b2 c s=true/\r.2.2.2.2.2.2.1.1.length+(Jz s).length<=100000 then (put r s,true) else (r,false)
def at1 (c:Int×Int)(s:bK):(adm c s).length<=12010:=by
 unfold adm;split
 .rename_i h;exact(axa h).2
 .exact aX _
def at2 {c:Int×Int}{r:ay}{s:bK}(h:nz r.2.2.2.1 s=true):y0 c r s=(r,true):=an h
def axf {c:Int×Int}{r:ay}{s:bK}(h:nz r.2.2.2.1 s=false)(a:b2 c s=true)(b:r.2.2.2.2.2.2.1.1.length+(Jz s).length<=100000):y0 c r s=(put r s,true):=by unfold y0;rw[h,ah (by decide),an ⟨a,b⟩]
def arN {c:Int×Int}{r:ay}{s:bK}(h:nz r.2.2.2.1 s=false)(a:¬(b2 c s=true/\r.2.2.2.2.2.2.1.1.length+(Jz s).length<=100000)):y0 c r s=(r,false):=by unfold y0;rw[h,ah (by decide),ah a]
def arO {d:As}{b:List Int}(h:gL d=true)(a:d.1.length+b.length<=100000):abf d b=((d.1++b,d.2),true):=an ⟨h,a⟩
def aAZ {d:As}{b:List Int}(a:¬d.1.length+b.length<=100000):abf d b=(d,false):=ah fun h=>a h.2
def aki {c:Int×Int}{s:bK}(h:b2 c s=true):adm c s=Jz s:=an h
def axg {c:Int×Int}{s:bK}(h:b2 c s=false):adm c s=[]:=ah (by rw[h];decide)
def Pm {c:Int×Int}{r:ay}(h:aY c r){s:bK}(b:oN s):dV F0 c r s=some (if (y0 c r s).2=true then ((y0 c r s).1,true,LM) else (LM,false,r)):=by
 have f:=at1 c s;have g:=h.bt.d.1;have i:=(dJ.1 h.f.d).1;rw[ab5,aa6 h.l.s b,ao,alO b,ao,atX g (aR f (by omega)),ao,Bv b,ao,LP b,ao];cases d:nz r.2.2.2.1 s with
 |true =>
  rw[at2 d];rfl
 |false =>
  cases a:b2 c s with
  |false =>
   rw[arN d (fun h=>by rw[a]at h;cases h.1),axg a,arO h.f.d (by rw[bd];omega)];rfl
  |true =>
   by_cases e:r.2.2.2.2.2.2.1.1.length+(Jz s).length<=100000
   .rw[axf d a e,aki a,arO h.f.d e];rfl
   .rw[arN d (fun h=>e h.2),aki a,aAZ e];rfl
def aY.put {c:Int×Int}{r:ay}(h:aY c r){s:bK}(a:b2 c s=true)(b:r.2.2.2.2.2.2.1.1.length+(Jz s).length<=100000):aY c (put r s):=by
 refine⟨⟨h.f.cf,h.f.i,h.f.v,h.f.a,a,h.f.p,h.f.t,dJ.2 ⟨?_,(dJ.1 h.f.d).2.1,?_⟩,h.f.n,h.f.h⟩,eB h.b (ary s)⟩
 .show(r.2.2.2.2.2.2.1.1++Jz s).length<=_;rw[aW];exact b
 .show r.2.2.2.2.2.2.1.2<=((r.2.2.2.2.2.2.1.1++Jz s).length:Int);have:=(dJ.1 h.f.d).2.2;rw[aW];omega
def aY.wrote {c:Int×Int}{r:ay}(h:aY c r)(s:bK):aY c (y0 c r s).1:=by
 unfold y0;split
 .exact h
 .split
  .rename_i a;exact h.put a.1 a.2
  .exact h
def at3 {b:ByteArray}(h:(rE b).2=true):bF (rE b).1.data.toList=true:=by
 unfold rE at h ⊢;split at h
 .rename_i a;rw[an a];have e:bF b.data.toList=true:=by
   unfold adn at a;cases d:(bS b.data.toList).2 with
   |true=>exact d|false=>rw[TR d]at a;cases a
  show bF (upB (upB b)).data.toList=true;unfold upB;rw[hx,hx];exact ay0 (ay0 e)
 .cases h
def azd {c:Int×Int}{s:bK}(h:b2 c s=true)(q:b0):b2 c (see c s q)=true:=by
 unfold see;split
 .rename_i a;obtain⟨b,g,d,e⟩:=fK h;have i:=rA (upL q.2.1.data.toList);simp only[b2,ga,aD,bJ];refine⟨b,?_,?_,?_⟩
  .unfold sE;split<;>omega
  .unfold agr;split
   .exact a.2
   .exact d
  .split
   .rename_i f;exact at3 f.1
   .exact e
 .exact h
def abg (r:ay)(v:Int):ay:=(r.1,sE r.2.1 v,r.2.2)
def aY.raised {c:Int×Int}{r:ay}(h:aY c r){v:Int}(a:v<=60):aY c (abg r v):=by refine⟨⟨h.f.cf,h.f.i,?_,h.f.a,h.f.s,h.f.p,h.f.t,h.f.d,h.f.n,h.f.h⟩,h.b⟩;have:=h.f.v;simp only[ga,aD,bJ]at this;show ga 1 60 (sE r.2.1 v)=true;simp only[ga,aD,bJ];unfold sE;split<;>omega
def Hj (v:Int)(q:b0)(dE:Int):cq:=(3,v,(ai,b1),b1,q,dE,ny)
def Hk (p:b0):cq:=(2,0,(ai,b1),p,b1,0,ny)
def arP (b:cK):cq:=(1,0,b,b1,b1,0,ny)
def UQ {v:Int}{q:b0}(h:Bu q)(dE:Int):kk (Hj v q dE):=⟨aX _,eb,eb,h⟩
def UR {p:b0}(h:Bu p):kk (Hk p):=⟨aX _,eb,h,eb⟩
def YM {b:cK}(a:b.1.size<=1048576)(d:Bu b.2):kk (arP b):=⟨a,d,eb,eb⟩
def written (c:Int×Int)(r:ay)(q:b0):ay×Bool:=y0 c r (see c r.2.2.2.1 q)
def LU (c:Int×Int)(r:ay)(q:b0):ay×Bool :=
 if (written c r q).2=true then
  if ak (q.1+1)>60 then ((written c r q).1,true)
  else if eD c (ak (q.1+1))=r.1 then (abg (written c r q).1 (ak (q.1+1)),true)
  else EW c (abg (written c r q).1 (ak (q.1+1))) (eD c (ak (q.1+1))) (Hj (ak (q.1+1)) q r.1)
 else (r,false)
def akj {c:Int×Int}{r:ay}{s:bK}:(y0 c r s).1.1=r.1:=by
 unfold y0;split
 .rfl
 .split<;>rfl
def alU (c:Int×Int)(p:b0):Bool:= !dY p.2.1&&fe c p
def axh (b:ByteArray):dY b=decide (b.data.toList=[]):=by
 cases h:dY b with
 |true=>rw[aS ((Jy b).1 h)]
 |false =>
  rw[aT];intro a;rw[(Jy b).2 a]at h;cases h
def axi {p:b0}(h:Bu p)(c:Int×Int):Dn F0 c p=some (if alU c p=true then p else b1,alU c p,()):=by
 have:=atm (v:=p.1) (l:=p.2.1.data.toList) (s:=p.2.2) (W6 h.1) (aR h.2 (by omega)) c;rw[show((p.1,tx p.2.1.data.toList,p.2.2):b0)=p from rfl]at this;rw[this];unfold alU fe ao3;rw[axh];by_cases a:p.2.1.data.toList=[]
 .rw[ah (fun b=>b.1 a),aS a];rfl
 .rw[aT a];cases d:af9 c (p.1,p.2.1.data.toList,p.2.2) with
  |true=>rw[an ⟨a,rfl⟩];rfl|false=>rw[ah (fun b=>by cases b.2)];rfl
def aY.w {c:Int×Int}{r:ay}(h:aY c r)(q:b0):aY c (written c r q).1:=h.wrote _
def avS {c:Int×Int}{r:ay}(h:aY c r)(q:b0):oN (see c r.2.2.2.1 q):=arL (azd h.f.s q)
def at4 {c:Int×Int}{r:ay}(h:aY c r){p:b0}(d:Bu p):Ku F0 c r p=some (if alU c p=true then ((LU c r p).1,(LU c r p).2,()) else (r,false,()),()):=by
 rw[aij,axi d,ao];cases g:alU c p with
 |false=>rfl
 |true =>
  dsimp only;rw[aZ,aa,an rfl,an rfl,ags h.l.s d,ao,Pm h (avS h p),ao];have e:aY c (written c r p).1:=h.w p;unfold LU;unfold written at e ⊢;generalize y0 c r (see c r.2.2.2.1 p)=W at e ⊢;cases i:W.2 with
  |false=>rw[ah (by decide),ah (by decide)];rfl
  |true =>
   have f:eL F0 c (W.1.1,sE W.1.2.1 (ak (p.1+1)),W.1.2.2) (eD c (ak (p.1+1))) (3,ak (p.1+1),(ai,0,ai,[]),(0,ai,[]),p,r.1,0,0,0,0)=some (((EW c (abg W.1 (ak (p.1+1))) (eD c (ak (p.1+1))) (Hj (ak (p.1+1)) p r.1)).1,(EW c (abg W.1 (ak (p.1+1))) (eD c (ak (p.1+1))) (Hj (ak (p.1+1)) p r.1)).2,()),()) :=
    LS (r:=abg W.1 (ak (p.1+1))) (aR e.f.n (by omega)) (UQ (v:=ak (p.1+1)) d r.1) c (eD c (ak (p.1+1)))
   rw[an rfl,an rfl];simp only[ao,Ju,Bz,f,ae];by_cases a:ak (p.1+1)>60
   .rw[aS a,ae,an a]
   .rw[aT a,aa,ah a];by_cases b:eD c (ak (p.1+1))=r.1
    .rw[an b,cH.2 b,ae];rfl
    .rw[ah b,bX.2 b,aa]
def aY.aA0 {c:Int×Int}{r:ay}(h:aY c r)(q:b0):aY c (LU c r q).1:=by
 unfold LU;split
 .split
  .exact h.w q
  .split
   .exact(h.w q).raised (by omega)
   .exact((h.w q).raised (by omega)).told _ _
 .exact h
def ks (c:Int×Int)(r:ay)(view:Int)(name:ByteArray)(push:Bool):ay×Bool :=
 if (iI r.2.2.2.2.2.1 view name).2.2.length=0\/dY name=true then (r,false)
 else if eD c view=r.1 then
  if alU c (iI r.2.2.2.2.2.1 view name)=true/\(LU c r (iI r.2.2.2.2.2.1 view name)).2=true then ((LU c r (iI r.2.2.2.2.2.1 view name)).1,true) else (r,false)
 else if push=false/\cmn (iI r.2.2.2.2.2.1 view name).2.2 (hH c view r.1)<(hH c view r.1).length then (r,false)
 else EW c r (ac3 c view r.1) (Hk (iI r.2.2.2.2.2.1 view name))
section
variable {c:Int×Int} {r:ay} {view:Int} {name:ByteArray} {push:Bool} {p:b0} (hP:iI r.2.2.2.2.2.1 view name=p)
include hP
def apt (h:p.2.2.length=0\/dY name=true):ks c r view name push=(r,false):=by subst hP;exact an h
def avT (a:¬(p.2.2.length=0\/dY name=true))(b:eD c view=r.1)(h:alU c p=true/\(LU c r p).2=true):ks c r view name push=((LU c r p).1,true):=by subst hP;unfold ks;rw[ah a,an b,an h]
def apu (a:¬(p.2.2.length=0\/dY name=true))(b:eD c view=r.1)(h:¬(alU c p=true/\(LU c r p).2=true)):ks c r view name push=(r,false):=by subst hP;unfold ks;rw[ah a,an b,ah h]
def avU (a:¬(p.2.2.length=0\/dY name=true))(b:¬eD c view=r.1)(h:push=false/\cmn p.2.2 (hH c view r.1)<(hH c view r.1).length):ks c r view name push=(r,false):=by subst hP;unfold ks;rw[ah a,ah b,an h]
def apv (a:¬(p.2.2.length=0\/dY name=true))(b:¬eD c view=r.1)(h:¬(push=false/\cmn p.2.2 (hH c view r.1)<(hH c view r.1).length)):ks c r view name push=EW c r (ac3 c view r.1) (Hk p):=by subst hP;unfold ks;rw[ah a,ah b,ah h]
end
def aze {l:List b0}(a:∀q∈l,Bu q){name:ByteArray}(b:name.size<=1048576)(view:Int):Bu (iI l view name):=by
 unfold iI;cases h:l.find? (fun x=>(x.1==view)&&(x.2.1.toList==name.toList)) with
 |none=>exact⟨b,aX _⟩|some x=>exact a x (VB h)
def aY.apw {c:Int×Int}{r:ay}(h:aY c r)(view:Int)(name:ByteArray)(push:Bool):aY c (ks c r view name push).1:=by
 unfold ks;split
 .exact h
 .split
  .split
   .exact h.aA0 _
   .exact h
  .split
   .exact h
   .exact h.told _ _
def Pn {c:Int×Int}{r:ay}(h:aY c r)(view:Int){name:ByteArray}(n:name.size<=1048576)(push:Bool) :
  ∃x,nI F0 c r view name push=some ((x,(ks c r view name push).2,()),())/\((ks c r view name push).2=true->x=(ks c r view name push).1):=by
 have g:=aze h.l.tq n view;have s:=arK h.f.cf view r.1;have o:=LS (r:=r) (aR h.f.n (by omega)) (UR g) c (ac3 c view r.1);have q:((eL F0 c r (ac3 c view r.1) (2,0,(ai,0,ai,[]),iI r.2.2.2.2.2.1 view name,(0,ai,[]),0,0,0,0,0)).bind fun i=>some ((i.1.1,i.1.2.1,()),()))=some (((EW c r (ac3 c view r.1) (Hk (iI r.2.2.2.2.2.1 view name))).1,(EW c r (ac3 c view r.1) (Hk (iI r.2.2.2.2.2.1 view name))).2,()),()):=by refine Eq.trans (Au (fun x=>Option.bind x _) o) ?_;rfl
 rw[ab9,Pj h.l.t h.l.tq,ao,Ju,ao,at4 h g,ao,axe h.f.cf,ao,atn (a:=hH c view r.1) (by omega) g.2,ao,ayF];simp only[ao,q];generalize hP:iI r.2.2.2.2.2.1 view name=p at *;by_cases j:p.2.2.length=0
 .rw[apt hP (.inl j),show((p.2.2.length:Int)==0)=true from cH.2 (by omega),ae];exact⟨r,rfl,fun h=>by cases h⟩
 .rw[show((p.2.2.length:Int)==0)=false from bX.2 (by omega),aa];cases f:dY name with
  |true =>
   rw[apt hP (.inr f),show(name.toList==ai.toList)=true from f,ae];exact⟨r,rfl,fun h=>by cases h⟩
  |false =>
   have e:¬(p.2.2.length=0\/dY name=true):=fun b=>b.elim j (by rw[f];decide)
   rw[show(name.toList==ai.toList)=false from f,aa];by_cases d:eD c view=r.1
   .rw[cH.2 d,ae];cases k:alU c p with
    |false =>
     rw[apu hP e d (fun b=>by rw[k]at b;cases b.1)];exact⟨r,rfl,fun h=>by cases h⟩
    |true =>
     cases l:(LU c r p).2 with
     |false =>
      rw[apu hP e d (fun b=>by rw[l]at b;cases b.2)];exact⟨_,rfl,fun h=>by cases h⟩
     |true =>
      rw[avT hP e d ⟨k,l⟩];exact⟨_,rfl,fun _=>rfl⟩
   .rw[bX.2 d,aa];cases push with
    |true =>
     rw[apv hP e d (fun b=>by cases b.1)];exact⟨_,rfl,fun _=>rfl⟩
    |false =>
     by_cases m:cmn p.2.2 (hH c view r.1)<(hH c view r.1).length
     .rw[avU hP e d ⟨rfl,m⟩,gQ,ae,aS (show(cmn p.2.2 (hH c view r.1):Int)<(hH c view r.1).length by omega),ae];exact⟨r,rfl,fun h=>by cases h⟩
     .rw[apv hP e d (fun b=>m b.2),gQ,ae,aT (show ¬(cmn p.2.2 (hH c view r.1):Int)<(hH c view r.1).length by omega),aa];exact⟨_,rfl,fun _=>rfl⟩
def axj {c:Int×Int}{r:ay}(h:aY c r)(view:Int){name:ByteArray}(a:name.size<=1048576)(push:Bool):OI F0 c r view name push=some (if (ks c r view name push).2=true then ((ks c r view name push).1,true,()) else (r,false,())):=by
 obtain⟨x,b,d⟩:=Pn h view a push;rw[alh,fx h.l,ao,h.ok,aZ,aa,dA h.bt,ao,b,ao,ao];cases e:(ks c r view name push).2 with
 |true=>rw[d e];rfl|false=>rfl
def avV:cK:=(ai,b1)
def JB (q:b0)(view:Int)(l:List ez):ByteArray:=tx (Pe q.2.1.data.toList view l)
def gd (c:Int×Int)(q:b0)(view:Int)(l:List ez):cK×Bool:=if gw c (JB q view l,q)=true/\bm (JB q view l).data.toList=view then ((JB q view l,q),true) else (avV,false)
def at5 {c:Int×Int}{q:b0}(a:fe c q=true){view:Int}(b:Hx view){l:List ez}(d:l.length<=100):(JB q view l).size<=1048576:=by have e:=(yY a).2.2;have f:=UK (up:=q.2.1.data.toList) b l;unfold JB;rw[bc];have:q.2.1.data.toList.length=q.2.1.size:=rfl;omega
def agt (a b:Int):(a != b)= !decide (a=b):=by
 by_cases h:a=b
 .simp[h]
 .simp[h]
def abh {c:Int×Int}{q:b0}(a:fe c q=true){view:Int}(d:Hx view){l:List ez}(f:l.length<=100):hQ F0 c q view l=some ((gd c q view l).1,(gd c q view l).2,()):=by
 have j:=(yY a).2.2;have e:=at5 a d f;have g:eY F0 q.2.1 view l=some (JB q view l,()):=Pf (up:=q.2.1.data.toList) (by show q.2.1.size<=_;omega) d (by omega);rw[MW,g,ao,pH (YK a).2,ao,DX (b:=(JB q view l,q)) e (YK a),ao,gv e,ao];unfold gd;dsimp only;rw[agt];cases gw c (JB q view l,q) with
 |false=>rw[ah (fun h=>by cases h.1)];rfl
 |true =>
  by_cases h:bm (JB q view l).data.toList=view
  .rw[an ⟨rfl,h⟩,aS h];rfl
  .rw[ah (fun i=>h i.2),aT h];rfl
def arQ {c:Int×Int}{q:b0}{view:Int}{l:List ez}(h:(gd c q view l).2=true):gw c (gd c q view l).1=true/\bm (gd c q view l).1.1.data.toList=view/\(gd c q view l).1.2=q:=by
 unfold gd at h ⊢;split at h
 .rename_i a;rw[an a];exact⟨a.1,a.2,rfl⟩
 .cases h
def akk (c:Int×Int)(l:List b0)(view:Int):Bool:=decide (((iI l view ai).2.2.length:Int)>=Js c)
def azf (c:Int×Int)(r:ay):Bool:=decide (eD c r.2.1=r.1)&&(!decide (r.2.2.1>=r.2.1)&&(decide (r.2.2.2.1.2.2.1.1=ak (r.2.1-1)) || akk c r.2.2.2.2.2.1 r.2.1))
def apx (r:ay):List ez:=lO (uM ajz (N8 r.2.2.2.1.2.2.1.2.1)) 2 r.2.2.2.2.1
def ask (c:Int×Int)(r:ay):cK×Bool:=if azf c r=true then gd c r.2.2.2.1.2.2.1 r.2.1 (apx r) else (avV,false)
def aY.view {c:Int×Int}{r:ay}(h:aY c r):1<=r.2.1/\r.2.1<=60:=by have:=h.f.v;simp only[ga,aD,bJ]at this;exact this
def azg (a b:Int):decide (a<b)= !decide (a>=b):=by
 by_cases h:a<b
 .rw[aS h,aT (by omega)];rfl
 .rw[aT h,aS (by omega)];rfl
def at6 (r:ay):(apx r).length<=2:=Pk _ _ _
def avW {c:Int×Int}{r:ay}(h:aY c r):Si F0 c r=some ((ask c r).1,(ask c r).2,()):=by have g:=h.view;have a:=(fK h.f.s).2.2.1;have b:af7 (uM ajz (N8 r.2.2.2.1.2.2.1.2.1)):=UF T2;have d:=abh (c:=c) (q:=r.2.2.2.1.2.2.1) a (view:=r.2.1) ⟨by omega,by omega⟩ (l:=apx r) (by have:=at6 r;omega);have e:nG F0 r.2.2.2.2.1 (uM ajz (N8 r.2.2.2.1.2.2.1.2.1))=some (apx r,()):=apq h.l.p b;have f:Bu r.2.2.2.1.2.2.1:=h.l.s.1;rw[aqu,fx h.l,ao,h.ok,aZ,aa,Ju,ao,Pj h.l.t h.l.tq,ao,Yr,ao,Ml,ao,ajZ f.1,ao,Yq T2 (aR (sD _) (by omega))];simp only[ao,e,d];unfold ask azf akk;rw[agt,agt,azg];cases decide (eD c r.2.1=r.1)<;>cases decide (r.2.2.1>=r.2.1)<;>cases decide (r.2.2.2.1.2.2.1.1=ak (r.2.1-1))<;>cases decide (((iI r.2.2.2.2.2.1 r.2.1 ai).2.2.length:Int)>=Js c)<;>rfl
def aCu {c:Int×Int}{r:ay}(h:(ask c r).2=true):azf c r=true/\gw c (ask c r).1=true/\bm (ask c r).1.1.data.toList=r.2.1/\(ask c r).1.2=r.2.2.2.1.2.2.1:=by
 unfold ask at h ⊢;split at h
 .rename_i a;rw[an a];exact⟨a,arQ h⟩
 .cases h
def akl (r:ay):ay:=(r.1,r.2.1,r.2.2.1,r.2.2.2.1,r.2.2.2.2.1,r.2.2.2.2.2.1,DZ r.2.2.2.2.2.2.1,[])
def arR {c:Int×Int}{r:ay}(h:aY c r):GJ F0 c r=some (akl r,r.2.2.2.2.2.2.2,()):=by rw[afu,dA h.bt,ao,fx h.l,ao,h.ok,aZ,aa,ay8 h.bt.d.1,ao,abb h.l.h h.l.hm,ao];rfl
def arS {d:As}(h:gL d=true):gL (DZ d)=true:=by unfold DZ;rw[an h];have:=dJ.1 h;exact dJ.2 ⟨this.1,by dsimp only;omega,by dsimp only;omega⟩
def apy (d:As):(DZ d).1=d.1:=by unfold DZ;split<;>rfl
def aY.akl {c:Int×Int}{r:ay}(h:aY c r):aY c (akl r) :=
 ⟨⟨h.f.cf,h.f.i,h.f.v,h.f.a,h.f.s,h.f.p,h.f.t,arS h.f.d,aX _,fun x a=>by cases a⟩,by show ∀x∈(DZ r.2.2.2.2.2.2.1).1,_;rw[apy];exact h.b⟩
def uu (r:ay)(v:Int):ay:=(r.1,v,r.2.2)
def mM (r:ay)(t:List b0):ay:=(r.1,r.2.1,r.2.2.1,r.2.2.2.1,r.2.2.2.2.1,t,r.2.2.2.2.2.2)
def aY.uu {c:Int×Int}{r:ay}(h:aY c r){v:Int}(a:1<=v)(b:v<=60):aY c (uu r v) :=
 ⟨⟨h.f.cf,h.f.i,by show ga 1 60 v=true;simp[ga,a,b],h.f.a,h.f.s,h.f.p,h.f.t,h.f.d,h.f.n,h.f.h⟩,h.b⟩
def aY.mM {c:Int×Int}{r:ay}(h:aY c r){t:List b0}(a:e9 c t=true):aY c (mM r t) :=
 ⟨⟨h.f.cf,h.f.i,h.f.v,h.f.a,h.f.s,h.f.p,a,h.f.d,h.f.n,h.f.h⟩,h.b⟩
def BA {c:Int×Int}{l:List b0}(h:e9 c l=true)(p:b0):e9 c (cL c l p).1=true:=by
 unfold cL;split
 .rename_i a;exact a.2
 .exact h
def one (v:Int)(name:ByteArray)(i:Int):b0:=(v,name,[i])
def Xc (c:Int×Int)(r:ay):ay×Bool :=
 if r.2.1>=60 then (r,false)
 else if eD c (ak (r.2.1+1))=r.1 then
  if (cL c r.2.2.2.2.2.1 (one (ak (r.2.1+1)) ai r.1)).2=true then (mM (uu r (ak (r.2.1+1))) (cL c r.2.2.2.2.2.1 (one (ak (r.2.1+1)) ai r.1)).1,true) else (r,false)
 else if (EW c (uu r (ak (r.2.1+1))) (eD c (ak (r.2.1+1))) (Hj (ak (r.2.1+1)) r.2.2.2.1.2.2.1 r.1)).2=true then ((EW c (uu r (ak (r.2.1+1))) (eD c (ak (r.2.1+1))) (Hj (ak (r.2.1+1)) r.2.2.2.1.2.2.1 r.1)).1,true) else (r,false)
def azh {c:Int×Int}{r:ay}(h:aY c r):Ux F0 c r=some ((Xc c r).1,(Xc c r).2,()):=by
 have f:=h.view;have g:=(fK h.f.s).2.2.1;have d:dW F0 c r.2.2.2.2.2.1 (ak (r.2.1+1),ai,[r.1])=some ((cL c r.2.2.2.2.2.1 (one (ak (r.2.1+1)) ai r.1)).1,(cL c r.2.2.2.2.2.1 (one (ak (r.2.1+1)) ai r.1)).2,()):=yZ (C0 h.f.t) ⟨aX _,by show 1<=1000;omega⟩ c;have e:eL F0 c (r.1,ak (r.2.1+1),r.2.2) (eD c (ak (r.2.1+1))) (3,ak (r.2.1+1),(ai,0,ai,[]),(0,ai,[]),r.2.2.2.1.2.2.1,r.1,0,0,0,0)=some (((EW c (uu r (ak (r.2.1+1))) (eD c (ak (r.2.1+1))) (Hj (ak (r.2.1+1)) r.2.2.2.1.2.2.1 r.1)).1,(EW c (uu r (ak (r.2.1+1))) (eD c (ak (r.2.1+1))) (Hj (ak (r.2.1+1)) r.2.2.2.1.2.2.1 r.1)).2,()),()) :=
  LS (r:=uu r (ak (r.2.1+1))) h.l.h (UQ h.l.s.1 r.1) c _
 rw[aoA,dA h.bt,ao,fx h.l,ao,h.ok,aZ,aa,Ju,ao];simp only[ao,d,e];unfold Xc;by_cases a:r.2.1>=60
 .rw[an a,aS a,ae]
 .rw[ah a,aT a,aa];by_cases b:eD c (ak (r.2.1+1))=r.1
  .rw[an b,cH.2 b,ae];cases (cL c r.2.2.2.2.2.1 (one (ak (r.2.1+1)) ai r.1)).2<;>rfl
  .rw[ah b,bX.2 b,aa];cases (EW c (uu r (ak (r.2.1+1))) (eD c (ak (r.2.1+1))) (Hj (ak (r.2.1+1)) r.2.2.2.1.2.2.1 r.1)).2<;>rfl
def aY.aDn {c:Int×Int}{r:ay}(h:aY c r):aY c (Xc c r).1:=by
 have b:=h.view;unfold Xc;split
 .exact h
 .rename_i d;have e:ak (r.2.1+1)=r.2.1+1:=aB (by omega) (by omega);have a:=h.uu (v:=ak (r.2.1+1)) (by omega) (by omega);split
  .split
   .exact a.mM (BA h.f.t _)
   .exact h
  .split
   .exact a.told _ _
   .exact h
def Mn (c:Int×Int)(r:ay)(m:cq):Nat->Nat->ay->ay×Bool
 |0,_,a=>(a,true)|j+1,k,a=>if (k:Int)=r.1 then Mn c r m j (k+1) a else if (EW c a (k:Int) m).2=true then Mn c r m j (k+1) (EW c a (k:Int) m).1 else (r,false)
def agu (c:Int×Int)(r:ay)(m:cq):ay×Bool:=Mn c r m c.1.toNat 0 r
def akm {c:Int×Int}{r:ay}(h:aY c r)(m:cq):∀(j k:Nat) (o:ay),aY c o->aY c (Mn c r m j k o).1
 |0,_,_,a=>a|j+1,k,o,a=>by
  unfold Mn;split
  .exact akm h m j (k+1) o a
  .split
   .exact akm h m j (k+1) _ (a.told _ _)
   .exact h
def aY.aA1 {c:Int×Int}{r:ay}(h:aY c r)(m:cq):aY c (agu c r m).1:=akm h m _ _ _ h
def adq {c:Int×Int}{r:ay}(h:aY c r){m:cq}(d:kk m):∀(j k:Nat) (z:ay) (n:Nat),(k:Int)+j=c.1->aY c z->j<n->c.1<=100 ->
  pc F0 (q4 F0) n (lk (k:Int) c.1 c.2 r.1 r.2.1 r.2.2.1 r.2.2.2.1.1 r.2.2.2.1.2.1 r.2.2.2.1.2.2.1.1 r.2.2.2.1.2.2.1.2.1 r.2.2.2.1.2.2.1.2.2 r.2.2.2.1.2.2.2 r.2.2.2.2.1 r.2.2.2.2.2.1 r.2.2.2.2.2.2.1.1 r.2.2.2.2.2.2.1.2 r.2.2.2.2.2.2.2 m.1 m.2.1 m.2.2.1.1 m.2.2.1.2.1 m.2.2.1.2.2.1 m.2.2.1.2.2.2 m.2.2.2.1.1 m.2.2.2.1.2.1 m.2.2.2.1.2.2 m.2.2.2.2.1.1 m.2.2.2.2.1.2.1 m.2.2.2.2.1.2.2 m.2.2.2.2.2.1 m.2.2.2.2.2.2.1 m.2.2.2.2.2.2.2.1 m.2.2.2.2.2.2.2.2.1 m.2.2.2.2.2.2.2.2.2 0 0 0 0 0 0 ai ai 0 z.1 z.2.1 z.2.2.1 z.2.2.2.1.1 z.2.2.2.1.2.1 z.2.2.2.1.2.2.1.1 z.2.2.2.1.2.2.1.2.1 z.2.2.2.1.2.2.2 z.2.2.2.2.2.2.1.2 [] [] [] [] [] z.2.2.2.1.2.2.1.2.2 z.2.2.2.2.1 z.2.2.2.2.2.1 z.2.2.2.2.2.2.1.1 z.2.2.2.2.2.2.2)
   = some ((Mn c r m j k z).1,(Mn c r m j k z).2,())
 |0,k,z,n+1,f,a,g,e=>by rw[Fl,aT (show ¬(k:Int)<c.1 by omega),aa,XV];rfl
 |j+1,k,z,n+1,f,a,g,e=>by
  have i:=LS (r:=z) a.l.h d c (k:Int);have l:=dA h.bt;rw[Fl,aS (show(k:Int)<c.1 by omega),ae,show((c.1,c.2):Int×Int)=c from rfl];refine Eq.trans (Au (fun x=>br ((k:Int)==r.1) _ (Option.bind x _)) i) ?_;rw[ao];dsimp only;unfold Mn;by_cases b:(k:Int)=r.1
  .rw[an b,cH.2 b,ae,ag (by omega)];exact adq h d j (k+1) z n (by omega) a (by omega) e
  .rw[ah b,bX.2 b,aa];cases o:(EW c z (k:Int) m).2 with
   |true =>
    rw[aZ,aa,an rfl,ag (by omega)];exact adq h d j (k+1) _ n (by omega) (a.told _ _) (by omega) e
   |false =>
    rw[gQ,ae,ah (by decide)];refine Eq.trans (Au (fun x=>Option.bind x _) l) ?_;rw[ao,Z9]
def arT {c:Int×Int}{r:ay}(h:aY c r){m:cq}(a:kk m):xx F0 c r m=some ((agu c r m).1,(agu c r m).2,()):=by have b:=ch h.f.cf;rw[afs,dA h.bt,ao,fx h.l,ao,h.ok,aZ,aa];exact adq h a c.1.toNat 0 r F0.n (by omega) h (by rw[bj];omega) (by omega)
def abi {U:Type}{d:U}{p:U->Bool}{q:U->U->Bool}(j:∀a b c,q a b=true->q b c=true->q a c=true){l:List U}(h:TV d p q l=true)(f:U->Bool):TV d p q (l.filter f)=true:=by
 rw[am4]at h ⊢;have m:l.Pairwise fun a b=>q a b=true:=List.pairwise_iff_getElem.2 fun i n g o s=>aza j h.2 n s o
 have t:=m.filter f;refine⟨fun k e=>?_,fun k e=>List.pairwise_iff_getElem.1 t k (k+1) (by omega) e (by omega)⟩;have u:=(List.mem_filter.1 (cB e)).1;obtain⟨i,g,v⟩:=agC u;rw[<-v];exact h.1 i g
def akn:∀{a b c:List UInt8},Op.bytesLess a b=true->Op.bytesLess b c=true->Op.bytesLess a c=true
 |[],[],_,h,_=>by cases h
 |_::_,[],_,h,_=>by cases h
 |_,_::_,[],_,h=>by cases h
 |[],_::_,_::_,_,_=>rfl|x::a,y::b,z::c,e,d=>by
  simp only[Op.bytesLess,kl,aD,bJ,cH]at e d ⊢;rcases e with e|⟨rfl,e⟩
  .rcases d with d|⟨rfl,d⟩
   .exact .inl (UInt8.lt_trans e d)
   .exact .inl e
  .rcases d with d|⟨rfl,d⟩
   .exact .inl d
   .exact .inr ⟨rfl,akn e d⟩
def alV (a b c:b0)(e:j8 a b=true)(d:j8 b c=true):j8 a c=true:=by
 simp only[j8,kl,aD,bJ,cH]at *;rcases e with e|⟨g,e⟩
 .rcases d with d|⟨f,d⟩
  .exact .inl (by omega)
  .exact .inl (by omega)
 .rcases d with d|⟨f,d⟩
  .exact .inl (by omega)
  .exact .inr ⟨by omega,akn e d⟩
def ako {c:Int×Int}{l:List b0}(h:e9 c l=true)(f:b0->Bool):e9 c (l.filter f)=true:=by simp only[e9,aD,bJ]at h ⊢;have:=apO f l;exact⟨abi alV h.1 f,by omega⟩
def alW {l:List ez}(h:mJ l=true)(f:ez->Bool):mJ (l.filter f)=true:=by simp only[mJ,aD,bJ]at h ⊢;have:=apO f l;exact⟨abi (q:=sB) (fun a b c d e=>arI d e) h.1 f,by omega⟩
def at7 {l:List ez}(h:mJ l=true)(x:ez):mJ (oO l x).1=true:=by
 unfold oO;split
 .rename_i a;exact a
 .exact h
def LV (b:cK):Int:=bm b.1.data.toList
def own (c:Int×Int)(r:ay)(name:ByteArray):ay×Bool :=
 if (cL c r.2.2.2.2.2.1 (one (bm name.data.toList) name r.1)).2=true then ((ks c (mM r (cL c r.2.2.2.2.2.1 (one (bm name.data.toList) name r.1)).1) (bm name.data.toList) name false).1,true) else (r,false)
def aA2 {c:Int×Int}{r:ay}{a:Int}{m:cq}(h:(EW c r a m).2=false):(EW c r a m).1=r:=by
 unfold EW at h ⊢;cases b:adp c r a m with
 |true=>rw[b,an rfl]at h;cases h|false=>rfl
def arU {c:Int×Int}{r:ay}{view:Int}{name:ByteArray}{push:Bool}(h:(ks c r view name push).2=false):(ks c r view name push).1=r:=by
 by_cases a:(iI r.2.2.2.2.2.1 view name).2.2.length=0\/dY name=true
 .rw[apt rfl a]
 .by_cases d:eD c view=r.1
  .by_cases b:alU c (iI r.2.2.2.2.2.1 view name)=true/\(LU c r (iI r.2.2.2.2.2.1 view name)).2=true
   .rw[avT rfl a d b]at h;cases h
   .rw[apu rfl a d b]
  .by_cases b:push=false/\cmn (iI r.2.2.2.2.2.1 view name).2.2 (hH c view r.1)<(hH c view r.1).length
   .rw[avU rfl a d b]
   .rw[apv rfl a d b]at h ⊢;exact aA2 h
def aY.owned {c:Int×Int}{r:ay}(h:aY c r)(name:ByteArray):aY c (own c r name).1:=by
 unfold own;split
 .exact(h.mM (BA h.f.t _)).apw _ _ _
 .exact h
def aua {c:Int×Int}{r:ay}(h:aY c r){name:ByteArray}(a:name.size<=1048576):lT F0 c r name=some (((own c r name).1,(own c r name).2,()),()):=by
 have e:dW F0 c r.2.2.2.2.2.1 (bm name.data.toList,name,[r.1])=some ((cL c r.2.2.2.2.2.1 (one (bm name.data.toList) name r.1)).1,(cL c r.2.2.2.2.2.1 (one (bm name.data.toList) name r.1)).2,()):=yZ (C0 h.f.t) ⟨a,by show 1<=1000;omega⟩ c;have b:=h.mM (BA h.f.t (one (bm name.data.toList) name r.1));have f:aV F0 (r.1,r.2.1,r.2.2.1,r.2.2.2.1,r.2.2.2.2.1,(cL c r.2.2.2.2.2.1 (one (bm name.data.toList) name r.1)).1,r.2.2.2.2.2.2)=some (mM r (cL c r.2.2.2.2.2.1 (one (bm name.data.toList) name r.1)).1,()):=dA b.bt;obtain⟨x,g,i⟩:=Pn b (bm name.data.toList) a false;rw[aip,gv a];simp only[ao,e,f,g,gv a];unfold own;cases j:(cL c r.2.2.2.2.2.1 (one (bm name.data.toList) name r.1)).2 with
 |false=>rfl
 |true =>
  rw[an rfl,aZ,aa];cases d:(ks c (mM r (cL c r.2.2.2.2.2.1 (one (bm name.data.toList) name r.1)).1) (bm name.data.toList) name false).2 with
  |true=>rw[i d];rfl|false=>rw[arU d];rfl
def F1 (r:ay)(b:cK):ay:=if LV b>=r.2.1 then uu r (LV b) else r
def y1 (c:Int×Int)(r:ay)(b:cK):Bool:=decide (LV b>=r.2.1)&&CY c (see c r.2.2.2.1 b.2) b
def Po (c:Int×Int)(r:ay)(b:cK):bK:=if y1 c r b=true then (LV b,(see c r.2.2.2.1 b.2).2) else see c r.2.2.2.1 b.2
def Ue (c:Int×Int)(r:ay)(b:cK)(a:Bool)(W:ay×Bool):ay×Bool :=
 if W.2=true then (if a=true then (if (own c W.1 b.1).2=true then ((own c W.1 b.1).1,true) else (r,false)) else (W.1,true)) else (r,false)
def rF (c:Int×Int)(r:ay)(b:cK):ay×Bool:=Ue c r b (y1 c r b) (y0 c (F1 r b) (Po c r b))
def aY.F1 {c:Int×Int}{r:ay}(h:aY c r)(b:cK):aY c (F1 r b):=by
 unfold Tryz.F1;have:=h.view;have a:=rA b.1.data.toList;split
 .exact h.uu (by unfold LV at *;omega) (by unfold LV at *;omega)
 .exact h
def azi {c:Int×Int}{r:ay}(h:aY c r)(b:cK):oN (Po c r b):=by
 have:=avS h b.2;unfold Po;split
 .exact this
 .exact this
def aY.Ue {c:Int×Int}{r:ay}(h:aY c r)(b:cK)(d:Bool){W:ay×Bool}(a:aY c W.1):aY c (Ue c r b d W).1:=by
 unfold Tryz.Ue;split
 .split
  .split
   .exact a.owned _
   .exact h
  .exact a
 .exact h
def aY.akp {c:Int×Int}{r:ay}(h:aY c r)(b:cK):aY c (rF c r b).1:=h.Ue b _ ((h.F1 b).wrote _)
def aub {c:Int×Int}{r:ay}{b:cK}(g:b.1.size<=1048576)(a:Bool){W:ay×Bool}(i:aY c W.1)(x:ay) :
  ((some (if W.2=true then (W.1,true,LM) else (LM,false,x)):Option (ay×Bool×ay)).bind fun d=>br d.2.1 (br a ((lT F0 c d.1 b.1).bind fun e=>br (!e.1.2.1) (some (r,false,())) (some (e.1.1,true,()))) (some (d.1,true,()))) (some (r,false,())))=some ((Ue c r b a W).1,(Ue c r b a W).2,()):=by
 have f:=aua i g;obtain⟨j,k⟩:=W;unfold Ue;cases k with
 |false=>rfl
 |true =>
  cases a with
  |false=>rfl
  |true =>
   dsimp only at f ⊢;rw[an rfl,an rfl,an rfl,ao];dsimp only;rw[ae,ae,f,ao];cases h:(own c j b.1).2<;>rfl
def azj {c:Int×Int}{s:bK}{b:cK}(h:CY c s b=true):atW c s b=((LV b,s.2),true):=an h
def aCv {c:Int×Int}{r:ay}{b:cK}(a:LV b>=r.2.1)(d:CY c (see c r.2.2.2.1 b.2) b=true):y1 c r b=true/\Po c r b=(LV b,(see c r.2.2.2.1 b.2).2):=by
 have:y1 c r b=true:=by unfold y1;rw[aS a,d];rfl
 exact⟨this,an this⟩
def aBS {c:Int×Int}{r:ay}{b:cK}(h:¬(LV b>=r.2.1/\CY c (see c r.2.2.2.1 b.2) b=true)):y1 c r b=false/\Po c r b=see c r.2.2.2.1 b.2:=by
 have:y1 c r b=false:=by
  unfold y1;by_cases a:LV b>=r.2.1
  .cases d:CY c (see c r.2.2.2.1 b.2) b with
   |true=>exact absurd ⟨a,d⟩ h|false=>rw[YX]
  .rw[aT a];rfl
 exact⟨this,ah (by rw[this];decide)⟩
def Xd {c:Int×Int}{r:ay}(h:aY c r){b:cK}(l:gw c b=true):pb F0 c r b=some ((rF c r b).1,(rF c r b).2,()):=by
 obtain⟨d,g⟩:=UP l;have m:=avS h b.2;have n:=aet (c:=c) m d g;have o:=arE (c:=c) m d g;have q:=Pm (h.F1 b) (azi h b);have s:aY c (y0 c (F1 r b) (Po c r b)).1:=(h.F1 b).wrote _;have t:=aub (r:=r) d (y1 c r b) s (F1 r b);rw[Z1,dA h.bt,ao,fx h.l,ao,h.ok,aZ,aa,DX d g,ao,l,aZ,aa,ags h.l.s g,gv d];simp only[ao,n,o];rw[show bm b.1.data.toList=LV b from rfl];show _=some ((Ue c r b (y1 c r b) (y0 c (F1 r b) (Po c r b))).1,(Ue c r b (y1 c r b) (y0 c (F1 r b) (Po c r b))).2,());rw[<-t,<-q];by_cases a:LV b>=r.2.1
 .have i:F1 r b=(r.1,LV b,r.2.2):=an a;rw[aS a,ae,ae];cases k:CY c (see c r.2.2.2.1 b.2) b with
  |true =>
   obtain⟨e,f⟩:=aCv a k;rw[e,f,i,azj k,ae]
  |false =>
   obtain⟨e,f⟩:=aBS (c:=c) (r:=r) (b:=b) (fun j=>by rw[k]at j;cases j.2);rw[e,f,i,aa]
 .have i:F1 r b=r:=ah a;obtain⟨e,f⟩:=aBS (c:=c) (r:=r) (b:=b) (fun j=>a j.1);rw[aT a,aa,aa,e,f,i];rfl
def aDo (r:ay)(p:b0):Bool:= !dY p.2.1&& !decide (p.1<r.2.1)
def D0 (c:Int×Int)(r:ay)(p:b0):ay×Bool :=
 if aDo r p=true/\(cL c r.2.2.2.2.2.1 p).2=true then ((ks c (mM r (cL c r.2.2.2.2.2.1 p).1) p.1 p.2.1 false).1,true) else (r,false)
def aY.axk {c:Int×Int}{r:ay}(h:aY c r)(p:b0):aY c (D0 c r p).1:=by
 unfold D0;split
 .exact(h.mM (BA h.f.t _)).apw _ _ _
 .exact h
def aCw {c:Int×Int}{p:b0}(h:iF c p=true):Bu p:=⟨(Oa h).1,by have:=(Oa h).2;omega⟩
def apz {c:Int×Int}{r:ay}(h:aY c r){p:b0}(a:iF c p=true):Cg F0 c r p=some ((D0 c r p).1,(D0 c r p).2,()):=by
 have e:=yZ (C0 h.f.t) (Oa a) c;have b:=h.mM (BA h.f.t p);have f:aV F0 (r.1,r.2.1,r.2.2.1,r.2.2.2.1,r.2.2.2.2.1,(cL c r.2.2.2.2.2.1 p).1,r.2.2.2.2.2.2)=some (mM r (cL c r.2.2.2.2.2.1 p).1,()):=dA b.bt;obtain⟨x,g,i⟩:=Pn b p.1 (Oa a).1 false;rw[aca,dA h.bt,ao,fx h.l,ao,h.ok,aZ,aa,O3 (aCw a),ao,a,aZ,aa];simp only[ao,e,f,g];unfold D0 aDo dY;cases (p.2.1.toList==ai.toList)<;>cases decide (p.1<r.2.1)
 .cases j:(cL c r.2.2.2.2.2.1 p).2 with
  |false=>rfl
  |true =>
   rw[an ⟨rfl,rfl⟩];cases d:(ks c (mM r (cL c r.2.2.2.2.2.1 p).1) p.1 p.2.1 false).2 with
   |true=>rw[i d];rfl|false=>rw[arU d];rfl
 .rfl
 .rfl
 .rfl
def aDp (q:b0):Int:=Hi 60 (ak (q.1+1))
def Mo (c:Int×Int)(r:ay)(view:Int):Bool:=decide (eD c view=r.1)&&decide (view>=r.2.1)
def Uf (l:Bool)(o:ay)(view:Int)(q:b0):ay:=if l=true then abg (abg o (aDp q)) view else abg o (aDp q)
def BB (imp:Bool)(c:Int×Int)(r:ay)(view:Int)(q:b0)(dE:Int)(o:ay):ay×Bool :=
 if Mo c r view=true then
  if (cL c o.2.2.2.2.2.1 (one view ai dE)).2=true then
   (Uf (akk c (cL c o.2.2.2.2.2.1 (one view ai dE)).1 view) (mM o (cL c o.2.2.2.2.2.1 (one view ai dE)).1) view q,true)
  else (r,false)
 else (Uf (imp&&akk c o.2.2.2.2.2.1 view) o view q,true)
def D7 (imp:Bool)(c:Int×Int)(r:ay)(view:Int)(q:b0)(dE:Int):ay×Bool:=if (written c r q).2=true then BB imp c r view q dE (written c r q).1 else (r,false)
def am6 {imp:Bool}{c:Int×Int}{r:ay}{view:Int}{q:b0}{dE:Int}{o:ay}(h:Mo c r view=false):BB imp c r view q dE o=(Uf (imp&&akk c o.2.2.2.2.2.1 view) o view q,true):=ah (by rw[h];decide)
def auc {imp:Bool}{c:Int×Int}{r:ay}{view:Int}{q:b0}{dE:Int}{o:ay}(h:Mo c r view=true)(a:(cL c o.2.2.2.2.2.1 (one view ai dE)).2=false):BB imp c r view q dE o=(r,false):=by unfold BB;rw[an h,ah (by rw[a];decide)]
def aud {imp:Bool}{c:Int×Int}{r:ay}{view:Int}{q:b0}{dE:Int}{o:ay}(h:Mo c r view=true)(a:(cL c o.2.2.2.2.2.1 (one view ai dE)).2=true) :
  BB imp c r view q dE o=(Uf (akk c (cL c o.2.2.2.2.2.1 (one view ai dE)).1 view) (mM o (cL c o.2.2.2.2.2.1 (one view ai dE)).1) view q,true):=by
 unfold BB;rw[an h,an a]
def avX (x:Int):Hi 60 x<=60:=by unfold Hi;split<;>omega
def US (x:Int):Hi x 60=Hi 60 x:=by unfold Hi;split<;>split<;>omega
def axl (a b c:Int):sE (sE a b) c=sE (sE a c) b:=by
 unfold sE
 repeat' split
 all_goals omega
def aY.Uf {c:Int×Int}{o:ay}(h:aY c o)(l:Bool){view:Int}(a:view<=60)(q:b0):aY c (Uf l o view q):=by
 unfold Tryz.Uf;split
 .exact(h.raised (avX _)).raised a
 .exact h.raised (avX _)
def aY.BB {c:Int×Int}{r o:ay}(h:aY c r)(a:aY c o)(imp:Bool){view:Int}(b:view<=60)(q:b0)(dE:Int):aY c (BB imp c r view q dE o).1:=by
 unfold Tryz.BB;split
 .split
  .exact(a.mM (BA a.f.t _)).Uf _ b q
  .exact h
 .exact a.Uf _ b q
def aY.axm {c:Int×Int}{r:ay}(h:aY c r)(imp:Bool){view:Int}(a:view<=60)(q:b0)(dE:Int):aY c (D7 imp c r view q dE).1:=by
 unfold D7;split
 .exact h.BB (h.w q) imp a q dE
 .exact h
def apA {c:Int×Int}{r:ay}(h:aY c r){view:Int}(m:ga 1 60 view=true){q:b0}(e:fe c q=true){dE:Int}(n:ga 0 (ak (c.1-1)) dE=true) :
  Ch F0 c r view q dE=some ((D7 false c r view q dE).1,(D7 false c r view q dE).2,()):=by
 have i:=YK e;have d:aY c (written c r q).1:=h.w q;rw[acd,dA h.bt,ao,fx h.l,ao,h.ok,aZ,aa,cE,ao,m,aZ,aa,O2 i,ao,e,aZ,aa,cE,ao,n,aZ,aa,ags h.l.s i];simp only[ao];rw[Pm h (avS h q),ao];unfold D7;unfold written at d ⊢;generalize y0 c r (see c r.2.2.2.1 q)=W at d ⊢;obtain⟨a,o⟩:=W;dsimp only at d ⊢;cases o with
 |false=>rfl
 |true =>
  have s:dW F0 c a.2.2.2.2.2.1 (view,ai,[dE])=some ((cL c a.2.2.2.2.2.1 (one view ai dE)).1,(cL c a.2.2.2.2.2.1 (one view ai dE)).2,()):=yZ (C0 d.f.t) ⟨aX _,by show 1<=1000;omega⟩ c;have j:=BA d.f.t (one view ai dE);have t:=Pj (l:=(cL c a.2.2.2.2.2.1 (one view ai dE)).1) (aR (C0 j).1 (by omega)) (fun q e=>(C0 j).l e) view ai;show _=some ((BB false c r view q dE a).1,(BB false c r view q dE a).2,());rw[an rfl];simp only[ao,Ju,s,t,Yr,Bz,UO,ae];by_cases f:eD c view=r.1
  .rw[cH.2 f,ae];by_cases g:view>=r.2.1
   .have b:Mo c r view=true:=by unfold Mo;rw[aS f,aS g];rfl
    rw[aS g,ae];cases k:(cL c a.2.2.2.2.2.1 (one view ai dE)).2 with
    |false=>rw[auc b k];rfl
    |true =>
     rw[aud b k,aZ,aa];unfold akk;cases u:decide (((iI (cL c a.2.2.2.2.2.1 (one view ai dE)).1 view ai).2.2.length:Int)>=Js c) with
     |false=>rw[aa,US];rfl|true=>rw[ae,US,axl];rfl
   .have b:Mo c r view=false:=by unfold Mo;rw[aT g,YX]
    rw[am6 b,aT g,aa,US];rfl
  .have b:Mo c r view=false:=by unfold Mo;rw[aT f,YW]
   rw[am6 b,bX.2 f,aa,US];rfl
def UT (r:ay)(p:List ez):ay:=(r.1,r.2.1,r.2.2.1,r.2.2.2.1,p,r.2.2.2.2.2)
def akq (r:ay)(x:ez):ay×Bool:=(UT r (oO r.2.2.2.2.1 x).1,(oO r.2.2.2.2.1 x).2)
def aY.UT {c:Int×Int}{r:ay}(h:aY c r){p:List ez}(a:mJ p=true):aY c (UT r p) :=
 ⟨⟨h.f.cf,h.f.i,h.f.v,h.f.a,h.f.s,a,h.f.t,h.f.d,h.f.n,h.f.h⟩,h.b⟩
def aY.aA3 {c:Int×Int}{r:ay}(h:aY c r)(x:ez):aY c (akq r x).1:=h.UT (at7 h.f.p x)
def aue {l:List ez}{x:ez}(h:(oO l x).2=false):(oO l x).1=l:=by
 unfold oO at h ⊢;cases a:mJ (CZ x l) with
 |true=>rw[a,an rfl]at h;cases h|false=>rfl
def auf {c:Int×Int}{r:ay}(h:aY c r)(x:ez):Kz F0 c r x=some ((akq r x).1,(akq r x).2,()):=by
 have b:=(YL h.f.p).1;rw[air,dA h.bt,ao,fx h.l,ao,h.ok,aZ,aa,Ud (by omega),ao];unfold akq;cases a:(oO r.2.2.2.2.1 x).2 with
 |true=>rfl|false=>rw[aue a];rfl
def Xe (imp:Bool)(c:Int×Int)(r:ay)(m:cq):ay×Bool :=
 if m.1=1 then rF c r m.2.2.1 else if m.1=2 then D0 c r m.2.2.2.1 else if m.1=3 then D7 imp c r m.2.1 m.2.2.2.2.1 m.2.2.2.2.2.1 else akq r m.2.2.2.2.2.2
def abj (r:ay):ay:=mM r (apo r.2.2.2.2.2.1 (ak (r.2.1-1)))
def finish (c:Int×Int)(r:ay):ay:=UT (abj r) (arJ r.2.2.2.2.1 (ka c (abj r)))
def YN (imp:Bool)(c:Int×Int)(r:ay)(m:cq):ay×Bool:=if dZ c m=true/\(Xe imp c r m).2=true then (finish c (Xe imp c r m).1,true) else (r,false)
def aY.abj {c:Int×Int}{r:ay}(h:aY c r):aY c (abj r):=h.mM (ako h.f.t _)
def aY.finish {c:Int×Int}{r:ay}(h:aY c r):aY c (finish c r):=h.abj.UT (alW h.f.p _)
def apB (c:Int×Int)(r:ay):(ka c r).1.length<=4/\(ka c r).2.length<=4:=by
 unfold ka;split
 .have:=UF T2 (xs:=N8 r.2.2.2.1.2.2.2);exact⟨agK this.1,agK this.2⟩
 .exact⟨aX _,aX _⟩
structure aEi (c:Int×Int) (m:cq):Prop where
 k:m.1=1\/m.1=2\/m.1=3\/m.1=4
 b:m.1=1->gw c m.2.2.1=true
 p:m.1=2->iF c m.2.2.2.1=true/\dY m.2.2.2.1.2.1=false
 v:m.1=3->ga 1 60 m.2.1=true/\fe c m.2.2.2.2.1=true/\ga 0 (ak (c.1-1)) m.2.2.2.2.2.1=true
 t:m.1=4->gf m.2.2.2.2.2.2=true
 s:named m=m
def apC {c:Int×Int}{m:cq}(h:dZ c m=true):aEi c m:=by
 unfold dZ at h;simp only[aD]at h;obtain⟨i,g,a⟩:=h;have d:=YH g;by_cases b:m.1=1
 .rw[an (by simpa using b)]at a;exact⟨.inl b,fun _=>a,fun h=>by omega,fun h=>by omega,fun h=>by omega,d⟩
 .by_cases e:m.1=2
  .rw[ah (by simpa using b),an (by simpa using e)]at a;simp only[aD,agx]at a;exact⟨.inr (.inl e),fun h=>by omega,fun _=>a,fun h=>by omega,fun h=>by omega,d⟩
  .by_cases f:m.1=3
   .rw[ah (by simpa using b),ah (by simpa using e),an (by simpa using f)]at a;simp only[aD]at a;exact⟨.inr (.inr (.inl f)),fun h=>by omega,fun h=>by omega,fun _=>a,fun h=>by omega,d⟩
   .rw[ah (by simpa using b),ah (by simpa using e),ah (by simpa using f)]at a;simp only[aD,cH]at a;exact⟨.inr (.inr (.inr a.1)),fun h=>by omega,fun h=>by omega,fun h=>by omega,fun _=>a.2,d⟩
def aY.azk {c:Int×Int}{r:ay}(h:aY c r)(imp:Bool){m:cq}(a:dZ c m=true):aY c (Xe imp c r m).1:=by
 have b:=apC a;unfold Xe;split
 .exact h.akp _
 .split
  .exact h.axk _
  .split
   .rename_i d;have:=(b.v d).1;simp only[ga,aD,bJ]at this;exact h.axm imp this.2 _ _
   .exact h.aA3 _
def aY.heard {c:Int×Int}{r:ay}(h:aY c r)(imp:Bool)(m:cq):aY c (YN imp c r m).1:=by
 unfold YN;split
 .rename_i a;exact(h.azk imp a.1).finish
 .exact h
def arV {c:Int×Int}{r:ay}(h:aY c r){m:cq}(b:dZ c m=true):GI F0 c r m=some ((Xe false c r m).1,(Xe false c r m).2,()):=by
 have a:=apC b;rw[afn];unfold Xe;rcases a.k with k|k|k|k
 .rw[cH.2 k,ae,an k,Xd h (a.b k),ao]
 .rw[bX.2 (show m.1≠1 by omega),aa,cH.2 k,ae,ah (by omega),an k,apz h (a.p k).1,ao]
 .rw[bX.2 (show m.1≠1 by omega),aa,bX.2 (show m.1≠2 by omega),aa,cH.2 k,ae,ah (by omega),ah (by omega),an k,apA h (a.v k).1 (a.v k).2.1 (a.v k).2.2,ao]
 .rw[bX.2 (show m.1≠1 by omega),aa,bX.2 (show m.1≠2 by omega),aa,bX.2 (show m.1≠3 by omega),aa,ah (by omega),ah (by omega),ah (by omega),auf h,ao]
def arW {c:Int×Int}{r:ay}(h:aY c r){m:cq}(e:kk m):Nd F0 c r m=some ((YN false c r m).1,(YN false c r m).2,()):=by
 rw[aov,fx h.l,ao,h.ok,aZ,aa,HA e,ao,dA h.bt,ao];unfold YN;cases d:dZ c m with
 |false=>rfl
 |true =>
  rw[arV h d,ao];have b:=h.azk false d;generalize Xe false c r m=X at b ⊢;obtain⟨a,ok⟩:=X;dsimp only at b ⊢;cases ok with
  |false=>rfl
  |true =>
   have f:A6 F0 c (a.1,a.2.1,a.2.2.1,a.2.2.2.1,a.2.2.2.2.1,apo a.2.2.2.2.2.1 (ak (a.2.1-1)),a.2.2.2.2.2.2)=some (ka c (abj a),()):=amZ b.abj.l c;have i:=apB c (abj a);have g:=apr (p:=a.2.2.2.2.1) b.l.p (l:=ka c (abj a)) (by omega) (by omega);rw[alR b.l.t b.l.tq,ao,f,ao,g,ao];rfl
end Go.Am.Tryz
