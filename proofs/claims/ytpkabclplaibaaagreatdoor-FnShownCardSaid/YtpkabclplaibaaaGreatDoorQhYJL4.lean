/- No condition. -/
import Derived.Test.YtpkabclplaibaaaGreatDoorQhYJL3
set_option linter.all false
namespace Go.Am.Tryz
open Go.Am
def amL {U V γ:Type}(X:Nat->Int->List V->Option γ)(a:List U)(f:U->V)(R:Option γ)
  (d:∀n k xs (h:k<a.length),xs.length=k->X (n+1) (k:Int) xs=X n ((k+1:Nat):Int) (xs++[f a[k]])) (e:∀n,X (n+1) (a.length:Int) (a.map f)=R) (n:Nat) (g:a.length<n):X n 0 []=R:=by
 refine b9 X a.length (fun k xs=>xs=(a.take k).map f) R (fun n k xs b h=>.inr ⟨_,d n k xs b (by rw[h,fB,bQ];omega),?_⟩) (fun n xs h=>?_) n 0 [] (a1 _) rfl (by omega)
 .rw[dQ b,My,h];rfl
 .rw[h,gq];exact e n
def ajM {U γ:Type}(X:Nat->Int->List U->Option γ)(a:List U)(R:Option γ)
  (b:∀n k xs (h:k<a.length),xs.length=k->X (n+1) (k:Int) xs=X n ((k+1:Nat):Int) (xs++[a[k]])) (d:∀n,X (n+1) (a.length:Int) a=R) (n:Nat) (e:a.length<n):X n 0 []=R :=
 amL X a id R b (fun n=>by rw[List.map_id];exact d n) n e
def ajN {U γ:Type}(X:Nat->Int->List U->Option γ)(a:List U)(p:U->Bool)(R:Option γ)
  (d:∀n k xs (h:k<a.length),xs.length<=k->X (n+1) (k:Int) xs=X n ((k+1:Nat):Int) (if p a[k]=true then xs++[a[k]] else xs)) (e:∀n,X (n+1) (a.length:Int) (a.filter p)=R) (n:Nat) (g:a.length<n):X n 0 []=R:=by
 refine b9 X a.length (fun k xs=>xs=(a.take k).filter p) R (fun n k xs b h=>.inr ⟨_,d n k xs b (by rw[h];exact aL (ad9 _ _) (by rw[bQ];omega)),?_⟩) (fun n xs h=>?_) n 0 [] (a1 _) rfl (by omega)
 .rw[dQ b,List.filter_append,h];cases f:p a[k]<;>simp[f]
 .rw[h,gq];exact e n
def l0 {q:ct}(h:q.2.2.length<=1048576):fv F0 q=some (q,()):=by rw[XC,aC (a:=0) (by omega) (by omega) (by omega),ab];rfl
def js {q:ct}(h:q.2.2.length<=1048576):ew F0 q=some (q,()):=by rw[UG,aC (a:=0) (by omega) (by omega) (by omega),ab];rfl
def ED {s:bC}(h:td s):jI F0 s=some (s,()):=by rw[UJ,l0 h.1.2,av]
def Rf {l:List ct}(h:l.length<=1048576)(b:∀q∈l,Bs q):ey F0 l=some (l,()):=by
 rw[Sa];refine ajM (fun n k xs=>oO F0 (r0 F0) n (k1 l k xs)) l _ (fun n k xs a d=>?_) (fun n=>?_) _ (by rw[b1];omega)
 .rw[wJ,bp a,ae,aE a,ab,cB a,js (b _ (dH a)).2,av,aC (by omega) (by omega) (by simp only[aR,bo];omega),ab,an (by omega)]
 .rw[wJ,aO,aa,Mk]
def EE {d:List Int×Int}(h:d.1.length<=1048576):fk F0 d=some (d,()):=by rw[UK,aC (a:=0) (by omega) (by omega) (by omega),ab];rfl
def ahO {b:cH}(h:b.2.2.2.length<=1048576):DI F0 b=some (b,()):=by rw[XF,l0 h,av]
def T1 {m:cq}(h:iX m):r2 F0 m=some (m,()):=by rw[UL,ahO h.2.1.2,av,js h.2.2.1.2,av,l0 h.2.2.2.2,av]
def Rg {l:List ll}(h:l.length<=1048576)(b:∀q∈l,iX q.2):nP F0 l=some (l,()):=by
 rw[Sb];refine ajM (fun n k xs=>oS F0 (r3 F0) n (k2 l k xs)) l _ (fun n k xs a d=>?_) (fun n=>?_) _ (by rw[b1];omega)
 .rw[wK,bp a,ae,aE a,ab,ab,cB a,T1 (b _ (dH a)),av,aC (by omega) (by omega) (by simp only[aR,bo];omega),ab,an (by omega)]
 .rw[wK,aO,aa,Ml]
structure amM (r:au):Prop where
 l:akG r
 d:ep r.2.2.2.2.2.2.1.1
def c5 {r:au}(h:amM r):aK F0 r=some (r,()):=by rw[UM,ED h.l.s,av,aC (a:=0) (by omega) (by omega) (by have:=h.l.p;omega),ab,Rf h.l.t h.l.tq,av,EE h.d.1,av,Rg h.l.h h.l.hm,av];rfl
structure Zg (w:aq):Prop where
 l:OY w
 b:∀r∈w.2.2.1,ep r.2.2.2.2.2.2.1.1
def Zg.rep {w:aq}(h:Zg w){r:au}(a:r∈w.2.2.1):amM r:=⟨h.l.rl r a,h.b r a⟩
def afK {w:aq}(h:Zg w):AT F0 w=some (w,()):=by
 have e:=h.l.l;have f:=h.l.r;have g:=h.l.n;have i:=h.l.s;rw[Va,aC (a:=0) (by omega) (by omega) (by omega),ab,aC (a:=0) (by omega) (by omega) (by omega),ab];refine ajM (fun n k xs=>sD F0 (uH F0) n (mK w k 0 0 w.1.1 w.1.2 [] [] [] [] ([]++w.2.1) xs [] ([]++w.2.2.2.2))) w.2.2.1 _ (fun n k xs b d=>?_) (fun n=>?_) _ (by rw[b1];omega)
 .rw[y9,bp b,ae,aE b,ab,cB b,c5 (h.rep (dH b)),av,aC (by omega) (by omega) (by simp only[aR,bo];omega),ab,an (by omega)]
 .rw[y9,aO,aa,OG];refine ajM (fun n k xs=>sC F0 (uG F0) n (mJ w k 0 0 w.1.1 w.1.2 [] [] [] [] ([]++w.2.1) w.2.2.1 xs ([]++w.2.2.2.2))) w.2.2.2.1 _ (fun n k xs b d=>?_) (fun n=>?_) _ (by rw[b1];omega)
  .have j:=(h.l.nb _ (dH b)).1;rw[y8,bp b,ae,aE b,ab,ab,cB b,aC (a:=0) (by omega) (by omega) (by omega),ab,aC (by omega) (by omega) (by simp only[aR,bo];omega),ab,an (by omega)];rfl
  .rw[y8,aO,aa,OF];rfl
def wrap_u8 {n:Int}(a:0<=n)(b:n<=255):IntKind.wrap .u8 n=n:=by simp[IntKind.wrap,IntKind.signed,IntKind.bits];omega
def afL:∀(k:Nat) (v:Int) (xs:List Int) (n:Nat),0<=v->v<128 ^ (k+1)->xs.length+k<=1000->k<n->k<=4->vB F0 (yp F0) n (oT v xs)=some (xs++Rc k v,())
 |0,v,xs,n,a,d,e,f,g=>by obtain⟨n,rfl⟩:∃m,n=m+1:=⟨n-1,by omega⟩;have h:(128:Int) ^ (0+1)=128:=rfl;rw[Cm,a6 (show ¬v>127 by omega),aa,DL,aC (by omega) (by omega) (by first|omega|(simp only[aB,aR,bo];omega)|(rw[bT,bQ];omega)),ab,wrap_u8 a (by omega)];rfl
 |k+1,v,xs,n,a,d,e,f,g=>by
  obtain⟨n,rfl⟩:∃m,n=m+1:=⟨n-1,by omega⟩;have i:=adu (k:=k) (by omega);have h:(128:Int) ^ (k+1)=128 ^ k*128:=Rx _ _;have j:(128:Int) ^ (k+1+1)=128 ^ (k+1)*128:=Rx _ _;rw[Cm];unfold Rc;by_cases b:v<128
  .rw[a6 (show ¬v>127 by omega),aa,DL,aC (by omega) (by omega) (by first|omega|(simp only[aB,aR,bo];omega)|(rw[bT,bQ];omega)),ab,wrap_u8 a (by omega),aj b]
  .rw[aW (show v>127 by omega),ae,aC (by omega) (by omega) (by first|omega|(simp only[aB,aR,bo];omega)|(rw[bT,bQ];omega)),ab,aiE a,aD (n:=v/128) (by omega) (by omega),ad6 a,
    aD (n:=v%128+128) (by omega) (by omega),wrap_u8 (by omega) (by omega),afL k (v/128) (xs++[v%128+128]) n (by omega) (by omega) (by rw[aB,b2];omega) (by omega) (by omega),ag b,ha]
   rfl
def e9 (v:Int):c4 F0 v=some (ay v,()):=by
 have b:(128:Int) ^ (4+1)=34359738368:=by decide
 rw[XI,ch,av,amz];unfold ay;by_cases a:0<=v/\v<=2147483647
 .rw[aW a,bc,aa,aj a,afL 4 v [] F0.n a.1 (by omega) (by simp) (by rw[b1];omega) (by omega)];rfl
 .rw[a6 a,h9,ae,ag a]
def EF {s:ByteArray}(h:s.size<=1048576):jJ F0 s=some (ga s,()):=by have:=cm (s.size:Int);have a:=Li s;rw[UU,e9,av,aW (show(s.size:Int)<=F0.mem by rw[apP];omega),ab,aC (by omega) (by omega) (by first|omega|(simp only[aB,aR,bo];omega)|(rw[bT,bQ];omega)),ab];rfl
def Rh (l:List Int):(ho l).length<=5*l.length:=by
 induction l with
 |nil=>exact bq _
 |cons x l a =>
  have:=cm x;show(ay x++ho l).length<=_;rw[aB,aR];omega
def ahP (l:List Int)(x:Int):ho (l++[x])=ho l++ay x:=by simp[ho]
def ajO {γ:Type}(X:Nat->Int->List Int->Option γ)(l pre:List Int)(R:Option γ)(e:l.length<=1048576)(f:pre.length<=1048576)
  (b:∀n k xs (h:k<l.length),xs.length<=10485760->X (n+1) (k:Int) xs=X n ((k+1:Nat):Int) (xs++ay l[k])) (d:∀n,X (n+1) (l.length:Int) (pre++ho l)=R) (n:Nat) (g:l.length<n):X n 0 pre=R:=by
 refine b9 X l.length (fun k xs=>xs=pre++ho (l.take k)) R (fun n k xs a h=>.inr ⟨_,b n k xs a (by have:=Rh (l.take k);rw[bQ]at this;rw[h,aB];omega),?_⟩) (fun n xs h=>?_) n 0 pre (a1 _) (by simp[ho]) (by omega)
 .rw[dQ a,ahP,h,ha]
 .rw[h,gq];exact d n
def Lm {l:List Int}(h:l.length<=1048576):mH F0 l=some (ho l,()):=by
 rw[U3];refine ajO (fun n k xs=>su F0 (uD F0) n (mG l k xs)) l [] _ h (by simp) (fun n k xs a b=>?_) (fun n=>?_) _ (by rw[b1];omega)
 .have:=cm l[k];rw[y5,bp a,ae,aE a,ab,cB a,e9,av,aC (by omega) (by omega) (by first|omega|(simp only[aB,aR,bo];omega)|(rw[bT,bQ];omega)),ab,an (by omega)]
 .rw[y5,aO,aa,OC];rfl
def qcB (c:Int×Int)(q:ct):List Int:=if fg c q=true then pD q else []
def VT {s:ByteArray}(h:s.size<=1048576):(ga s).length<=1048581:=by have:=Lj s;omega
def Ln {q:ct}(h:Bs q)(c:Int×Int):mx F0 c q=some (qcB c q,()):=by
 have d:=cm q.1;have e:=VT h.1;have f:=cm (q.2.2.length:Int);have g:=h.2;rw[UW,Hg h,av];unfold qcB;cases b:fg c q with
 |false=>rw[h9,ae,ag (by decide)]
 |true =>
  have i:=th b;rw[bc,aa,aj rfl,e9,av,EF h.1,av,aC (by omega) (by omega) (by first|omega|(simp only[aB,aR,bo];omega)|(rw[bT,bQ];omega)),ab,e9,av,aC (by omega) (by omega) (by first|omega|(simp only[aB,aR,bo];omega)|(rw[bT,bQ];omega)),ab];refine ajO (fun n k xs=>r9 F0 (ux F0) n (mw k q.1 q.2.1 q.2.2 xs)) q.2.2 _ _ h.2 (by have:=Lj q.2.1;simp only[aB];omega) (fun n k xs a j=>?_) (fun n=>?_) _ (by rw[b1];omega)
  .have:=cm q.2.2[k];rw[yY,bp a,ae,aE a,ab,cB a,e9,av,aC (by omega) (by omega) (by first|omega|(simp only[aB,aR,bo];omega)|(rw[bT,bQ];omega)),ab,an (by omega)]
  .rw[yY,aO,aa,Ox];simp[pD,uY]
def ahQ {c:Int×Int}{q:ct}:(qcB c q).length<=6000:=by
 unfold qcB;split
 .rename_i h;have:=th h;have:=Lk this.1;omega
 .exact a1 _
def ahR (c:Int×Int)(s:bC):List Int:=if cl c s=true then Ll s else []
def aaw {s:bC}(h:td s)(c:Int×Int):sa F0 c s=some (ahR c s,()):=by
 have d:=cm s.1;have e:=cm s.2.1;have f:=ahQ (c:=c) (q:=s.2.2.1);have g:=VT h.2;rw[Qk,uT h,av];unfold ahR;cases a:cl c s with
 |false=>rw[h9,ae,ag (by decide)]
 |true =>
  have b:=(ez a).2.2.1;rw[bc,aa,aj rfl,e9,av,e9,av,aC (by omega) (by omega) (by first|omega|(simp only[aB,aR,bo];omega)|(rw[bT,bQ];omega)),ab,Ln h.1,av,aC (by omega) (by omega) (by first|omega|(simp only[aB,aR,bo];omega)|(rw[bT,bQ];omega)),ab,EF h.2,av,aC (by omega) (by omega) (by first|omega|(simp only[aB,aR,bo];omega)|(rw[bT,bQ];omega)),ab];simp[Ll,qcB,b]
def SY (c:Int×Int)(s:bC):List Int:=if cl c s=true then CS s else []
def aax {s:bC}(h:td s)(c:Int×Int):sc F0 c s=some (SY c s,()):=by
 rw[Qm,aaw h,av];unfold SY ahR;cases a:cl c s with
 |false=>rfl
 |true =>
  have b:=abC a;have d:=cm ((Ll s).length:Int);simp only[eJ];rw[show(((Ll s).length:Int)==0)=false from cC.2 (by omega),aa,e9,av,aC (by omega) (by omega) (by first|omega|(simp only[aB,aR,bo];omega)|(rw[bT,bQ];omega)),ab,aC (by omega) (by omega) (by first|omega|(simp only[aB,aR,bo];omega)|(rw[bT,bQ];omega)),ab];simp[CS]
def Zh (c:Int×Int)(m:cq):List Int:=if dS c m=true then GA m else []
def ahS {c:Int×Int}{m:cq}(h:dS c m=true):(m.1=1/\fg c m.2.2.1.2=true)\/m.1=2\/(m.1=3/\fg c m.2.2.2.2.1=true)\/m.1=4:=by
 unfold dS at h;simp only[az]at h;obtain⟨f,_,a⟩:=h;by_cases b:m.1=1
 .rw[aj (by simpa using b)]at a;simp only[fZ,az]at a;exact .inl ⟨b,a.1⟩
 .by_cases d:m.1=2
  .exact .inr (.inl d)
  .by_cases e:m.1=3
   .rw[ag (by simpa using b),ag (by simpa using d),aj (by simpa using e)]at a;simp only[az]at a;exact .inr (.inr (.inl ⟨e,a.2.1⟩))
   .rw[ag (by simpa using b),ag (by simpa using d),ag (by simpa using e)]at a;simp only[az,cS]at a;exact .inr (.inr (.inr a.1))
def Ri {m:cq}(h:iX m)(c:Int×Int):nR F0 c m=some (Zh c m,()):=by
 rw[Ss,Bu h,av];unfold Zh;cases e:dS c m with
 |false=>rw[h9,ae,ag (by decide)]
 |true =>
  have g:=cm m.1;rw[bc,aa,aj rfl,e9,av];unfold GA;rcases ahS e with ⟨k,b⟩|k|⟨k,b⟩|k
  .have a:=VT h.1;have d:=ahQ (c:=c) (q:=m.2.2.1.2);rw[show(m.1==1)=true by simpa using k,ae,EF h.1,av,aC (by omega) (by omega) (by first|omega|(simp only[aB,aR,bo];omega)|(rw[bT,bQ];omega)),ab,Ln h.2.1,av,aC (by omega) (by omega) (by first|omega|(simp only[aB,aR,bo];omega)|(rw[bT,bQ];omega)),ab,aj k];simp[qcB,b]
  .have a:=cm m.2.2.2.1.1;have d:=VT h.2.2.1.1;have i:=cm (m.2.2.2.1.2.2.length:Int);have j:=Rh m.2.2.2.1.2.2;have f:=h.2.2.1.2;rw[show(m.1==1)=false by simp[k],aa,show(m.1==2)=true by simp[k],ae,e9,av,aC (by omega) (by omega) (by first|omega|(simp only[aB,aR,bo];omega)|(rw[bT,bQ];omega)),ab,EF h.2.2.1.1,av,aC (by omega) (by omega) (by first|omega|(simp only[aB,aR,bo];omega)|(rw[bT,bQ];omega)),ab,e9,av,
    aC (by omega) (by omega) (by first|omega|(simp only[aB,aR,bo];omega)|(rw[bT,bQ];omega)),ab,Lm f,av,aC (by omega) (by omega) (by first|omega|(simp only[aB,aR,bo];omega)|(rw[bT,bQ];omega)),ab,ag (by omega),aj k]
   simp[pD,uY]
  .have a:=Rh [m.2.1,m.2.2.2.2.2.1];have d:=ahQ (c:=c) (q:=m.2.2.2.2.1);simp only[aR,bo]at a;rw[show(m.1==1)=false by simp[k],aa,show(m.1==2)=false by simp[k],aa,show(m.1==3)=true by simp[k],ae,Lm (by simp),av,aC (by omega) (by omega) (by first|omega|(simp only[aB,aR,bo];omega)|(rw[bT,bQ];omega)),ab,Ln h.2.2.2,av,aC (by omega) (by omega) (by first|omega|(simp only[aB,aR,bo];omega)|(rw[bT,bQ];omega)),ab,ag (by omega),ag (by omega),aj k];simp[ho,qcB,b]
  .have a:=Rh [m.2.2.2.2.2.2.1,m.2.2.2.2.2.2.2.1,m.2.2.2.2.2.2.2.2.1,m.2.2.2.2.2.2.2.2.2];simp only[aR,bo]at a;rw[show(m.1==1)=false by simp[k],aa,show(m.1==2)=false by simp[k],aa,show(m.1==3)=false by simp[k],aa,Lm (by simp),av,aC (by omega) (by omega) (by first|omega|(simp only[aB,aR,bo];omega)|(rw[bT,bQ];omega)),ab,ag (by omega),ag (by omega),ag (by omega)];simp[ho]
def nW (a b:Int):Int:=if b>a then b else a
def Bb (a b:Int):Int:=if a<b then a else b
def uZ (a b:Int):cO F0 a b=some (nW a b,()):=by
 rw[MY];unfold nW;by_cases h:a>b
 .rw[aW h,ae,ag (by omega)]
 .rw[a6 h,aa];by_cases d:b>a
  .rw[aj d]
  .rw[ag d,show a=b by omega]
def LW (a b:Int):bh F0 a b=some (Bb a b,()):=by
 rw[aaa];unfold Bb;by_cases h:a<b
 .rw[aW h,ae,aj h]
 .rw[a6 h,aa,ag h]
def amN {b:ByteArray}(h:b.size<=1048576):jy F0 b=some ((bZ b.data.toList).1,(bZ b.data.toList).2,()):=Gx (abt h)
def VU (a b:ct):ct:=if a.1>b.1 then a else b
def afM {a b:ct}(d:Bs a)(e:Bs b):AK F0 a b=some (VU a b,()):=by
 rw[UN,l0 d.2,av,l0 e.2,av];unfold VU;by_cases h:a.1>b.1
 .rw[aW h,ae,aj h]
 .rw[a6 h,aa,ag h]
def Rj (ss:List NL):Bool:=decide (3<=ss.length)&&(((ss.getD (ss.length-1) (0,[])).1==ak ((ss.getD (ss.length-2) (0,[])).1+1))&&((ss.getD (ss.length-2) (0,[])).1==ak ((ss.getD (ss.length-3) (0,[])).1+1)))
def SZ (b:ByteArray):Bool:=Rj (bZ b.data.toList).1
def upB (b:ByteArray):ByteArray:=tx (upL b.data.toList)
def aoy (l:List UInt8):(upL l).length<=l.length:=by
 unfold upL;split
 .rw[bQ];omega
 .exact a1 _
def Lo (b:ByteArray):(upB b).size<=b.size:=by unfold upB;rw[ao];exact aoy _
def akU {b:ByteArray}(h:b.size<=1048576):bY F0 (tx (upL b.data.toList))=some (bE (upL b.data.toList),()):=by have:=eT (b:=upB b) (aL (Lo b) h);rw[show(upB b).data.toList=upL b.data.toList from dB _]at this;exact this
def nh (b:ByteArray):ByteArray×Bool:=if SZ b=true then (upB (upB b),true) else (ah,false)
def afN {V:Type}{ss:List NL}(g:ss.length<=30)(x y:Option V) :
  br (decide ((ss.length:Int)<3)) y (ck (b5 (ak ((ss.length:Int)-1)) (ss.length:Int)) (ck (b5 (ak ((ss.length:Int)-2)) (ss.length:Int)) (br ((bd ss (ak ((ss.length:Int)-1)) (0,[])).1 != (ak ((bd ss (ak ((ss.length:Int)-2)) (0,[])).1+1))) y
   (ck (b5 (ak ((ss.length:Int)-2)) (ss.length:Int)) (ck (b5 (ak ((ss.length:Int)-3)) (ss.length:Int)) (br ((bd ss (ak ((ss.length:Int)-2)) (0,[])).1 != (ak ((bd ss (ak ((ss.length:Int)-3)) (0,[])).1+1))) y x))))))=if Rj ss=true then x else y:=by
 unfold Rj;by_cases h:3<=ss.length
 .rw[a6 (show ¬(ss.length:Int)<3 by omega),aa,aW h,yJ];have a:ak ((ss.length:Int)-1)=((ss.length-1:Nat):Int):=by rw[aD (by omega) (by omega)];omega
  have b:ak ((ss.length:Int)-2)=((ss.length-2:Nat):Int):=by rw[aD (by omega) (by omega)];omega
  have d:ak ((ss.length:Int)-3)=((ss.length-3:Nat):Int):=by rw[aD (by omega) (by omega)];omega
  rw[a,b,d,aE (by omega),ab,aE (by omega),ab,aE (by omega),ab,ab,jv,jv,jv];cases e:((ss.getD (ss.length-1) (0,[])).1==ak ((ss.getD (ss.length-2) (0,[])).1+1))<;>cases f:((ss.getD (ss.length-2) (0,[])).1==ak ((ss.getD (ss.length-3) (0,[])).1+1))<;>simp only[bne,e,f]<;>rfl
 .rw[aW (show(ss.length:Int)<3 by omega),ae,a6 h];rfl
def afO {b:ByteArray}(h:b.size<=1048576):AL F0 b=some ((nh b).1,(nh b).2,()):=by
 have d:iq F0 (tx (upL b.data.toList))=some (upB (upB b),()):=Q3 (b:=upB b) (aL (Lo b) h);rw[UP,amN h,av,afN (w6 _),Q3 h,av,d,av];unfold nh SZ;cases a:Rj (bZ b.data.toList).1 with
 |true =>
  have:(bZ b.data.toList).2=true:=by
   cases e:(bZ b.data.toList).2 with
   |true=>rfl|false=>rw[Lb e]at a;cases a
  rw[this];rfl
 |false=>cases (bZ b.data.toList).2<;>rfl
def see (c:Int×Int)(s:bC)(q:ct):bC :=
 if cl c s=true/\fg c q=true then (s.1,nW s.2.1 (bE (upL q.2.1.data.toList)),VU q s.2.2.1,if (nh q.2.1).2=true/\aom (nh q.2.1).1 s.2.2.2=true then (nh q.2.1).1 else s.2.2.2) else s
def adG (b:ByteArray):(nh b).1.size<=b.size:=by
 unfold nh;split
 .exact aL (Lo _) (Lo _)
 .exact a1 _
def VV {s:bC}{q:ct}(b:td s)(a:Bs q)(c:Int×Int):Cl F0 c s q=some (see c s q,()):=by have d:=adG q.2.1;rw[aeT,ED b,av,uT b,av,Hg a,av,afM a b.1,av,Q3 a.1,av,akU a.1,av,uZ,av,afO a.1,av,afv (aL d a.1) b.2,av];unfold see nW;cases cl c s<;>cases fg c q<;>cases (nh q.2.1).2<;>cases aom (nh q.2.1).1 s.2.2.2<;>simp[ae,aa]
def vZ (c:Int×Int)(s:bC)(b:cH):Bool:=cl c s&&(fZ c b&&(decide (bE b.1.data.toList>s.1)&&decide (b.2.1>=s.2.1)))
def T2 {s:bC}{b:cH}(d:td s)(a:b.1.size<=1048576)(e:Bs b.2)(c:Int×Int):r6 F0 c s b=some (vZ c s b,()):=by rw[UT,uT d,av,w9 a e,av,eT a,av];unfold vZ;cases cl c s<;>cases fZ c b<;>cases decide (bE b.1.data.toList>s.1)<;>rfl
def ahT (c:Int×Int)(s:bC)(b:cH):bC×Bool:=if vZ c s b=true then ((bE b.1.data.toList,s.2),true) else (s,false)
def afP {s:bC}{b:cH}(a:td s)(d:b.1.size<=1048576)(e:Bs b.2)(c:Int×Int):Bo F0 c s b=some ((ahT c s b).1,(ahT c s b).2,()):=by rw[ac0,ED a,av,T2 a d e,av,eT d,av];unfold ahT;cases vZ c s b<;>rfl
abbrev tQ:=List Int×Int
def Rk (d:tQ)(b:List Int):tQ×Bool:=if gh d=true/\d.1.length+b.length<=100000 then ((d.1++b,d.2),true) else (d,false)
def dd {d:tQ}:gh d=true↔d.1.length<=100000/\0<=d.2/\d.2<=d.1.length:=by unfold gh fR;simp only[az,bu];omega
def ahU {d:tQ}{b:List Int}(e:d.1.length<=1048576)(i:b.length<=1048576):DN F0 d b=some ((Rk d b).1,(Rk d b).2,()):=by
 rw[XJ,EE e,av,aC (by omega) (by omega) (by first|omega|(simp only[aB,aR,bo];omega)|(rw[bT,bQ];omega)),ab,CN,av,CN,av,av];unfold Rk;cases h:gh d with
 |false=>rfl
 |true =>
  have f:=dd.1 h;by_cases a:d.1.length+b.length<=100000
  .have:gh (d.1++b,d.2)=true:=dd.2 ⟨by dsimp only;rw[aB];exact a,f.2.1,by dsimp only;rw[aB];omega⟩;rw[this,aj ⟨rfl,a⟩];rfl
  .have:gh (d.1++b,d.2)=false:=by
    cases g:gh (d.1++b,d.2) with
    |false=>rfl
    |true =>
     have:=(dd.1 g).1;dsimp only at this;rw[aB]at this;exact absurd this a
   rw[this,ag (fun h=>a h.2)];rfl
def xx (d:tQ):tQ:=if gh d=true then (d.1,(d.1.length:Int)) else d
def amO {d:tQ}(a:d.1.length<=1048576):LL F0 d=some (xx d,()):=by rw[ac5,EE a,av,CN,av];unfold xx;cases gh d<;>rfl
def NQ (d:tQ)(j4:Int):Int:=d.2+nW 0 (Bb j4 ((d.1.length:Int)-d.2))
def CT (d:tQ)(j4:Int):tQ:=if gh d=true then (d.1.take (NQ d j4).toNat,NQ d j4) else d
def afQ {d:tQ}(h:gh d=true)(j4:Int):d.2<=NQ d j4/\NQ d j4<=d.1.length:=by have:=dd.1 h;unfold NQ nW Bb;split<;>split<;>omega
def ahV {d:tQ}(e:d.1.length<=1048576)(j4:Int):Ej F0 d j4=some (CT d j4,()):=by
 rw[Yb,EE e,av,CN,av,LW,av,uZ,av];unfold CT;cases h:gh d with
 |false=>rfl
 |true =>
  have i:=dd.1 h;have b:=afQ h j4;have f:ak ((d.1.length:Int)-d.2)=(d.1.length:Int)-d.2:=aD (by omega) (by omega);have g:ak (d.2+nW 0 (Bb j4 ((d.1.length:Int)-d.2)))=NQ d j4:=aD (by unfold NQ at b;omega) (by unfold NQ at b;omega);rw[bc,aa,aj rfl];dsimp only;rw[f,g,O5 (by omega) (by omega) b.2,ab,aC (a:=0) (by omega) (by omega) (by first|omega|(simp only[aB,aR,bo];omega)|(rw[bT,bQ];omega)),ab];rfl
def Zi (s:bC):Int:=Bb 60 (nW (nW s.1 (ak (s.2.2.1.1+1))) 1)
def aqd (c:Int×Int)(r:au):au:=(r.1,Zi (lZ c r.2.2.2.2.2.2.1.1).1,0,(lZ c r.2.2.2.2.2.2.1.1).1,[],[],(r.2.2.2.2.2.2.1.1.take (lZ c r.2.2.2.2.2.2.1.1).2,((lZ c r.2.2.2.2.2.2.1.1).2:Int)),[])
def afR (c:Int×Int){b:List Int}(e:ep b):∀(f:Nat) (s:bC) (a:Nat),a<=b.length->(Lg c b f s a).2<=b.length
 |0,s,a,d=>d|f+1,s,a,d=>by
  cases h:NN c b a with
  |none=>rw[uX h];exact d
  |some z =>
   obtain⟨g,i⟩:=z;rw[O3 h];exact afR c e f g i (amD e d h).2.1
def T3 (c:Int×Int){b:List Int}(a:ep b):(lZ c b).2<=b.length:=afR c a _ _ _ (a1 _)
def amP {r:au}(h:amM r){c:Int×Int}(b:Gy c r=true):Ge F0 c r=some (aqd c r,()):=by have d:=T3 c h.d;have e:=h.d.1;rw[ac7,eU h.l,av,b,bc,aa,adA h.d,av,uZ,av,uZ,av,LW,av];dsimp only;rw[O5 (by omega) (by omega) (by omega),ab,aC (a:=0) (by omega) (by omega) (by first|omega|(simp only[aB,aR,bo];omega)|(rw[bT,bQ];omega)),ab];rfl
def sameAt (a b:ct):Bool:=(a.1==b.1)&&(a.2.1.toList==b.2.1.toList)
def abD (a b:ct):ct:=(a.1,a.2.1,ae9 a.2.2 b.2.2)
def adH {a b:ct}(h:a.2.2.length+b.2.2.length<=1048576):vC F0 a b=some (if sameAt a b=true then abD a b else cI,sameAt a b,()):=by rw[Sf,afa h,av];unfold sameAt abD bne;cases (a.1==b.1)<;>cases (a.2.1.toList==b.2.1.toList)<;>rfl
def iT (p:ct):List ct->List ct
 |[]=>[p]|x::l=>if nc x p=true then x::iT p l else if sameAt x p=true then abD x p::l else p::x::l
def cr (c:Int×Int)(l:List ct)(p:ct):List ct×Bool:=if j0 c p=true/\fl c (iT p l)=true then (iT p l,true) else (l,false)
def Zj (p:ct):∀l:List ct,(iT p l).length<=l.length+1
 |[]=>bq _|x::l=>by
  have:=Zj p l;unfold iT;split
  .simp only[aR];omega
  .split<;>simp
def Lp (p:ct):∀(k:Nat) (l:List ct),(∀x∈l.take k,nc x p=true)->iT p l=l.take k++iT p (l.drop k)
 |0,l,_=>rfl|k+1,[],_=>rfl|k+1,x::l,h=>by rw[iT,aj (h x (by simp)),Lp p k l fun y a=>h y (by simp[a])];rfl
def aaz (l:List ct):Prop:=l.length<=1000/\∀q∈l,q.2.1.size<=1048576/\q.2.2.length<=1000
def aaz.l {l:List ct}(h:aaz l){q:ct}(a:q∈l):Bs q:=⟨(h.2 q a).1,aL (h.2 q a).2 (by omega)⟩
def aoz {a b:ct}(d:a.2.1.size<=1048576/\a.2.2.length<=1000)(e:b.2.2.length<=1000):Bs (abD a b):=⟨d.1,by have:=akD a.2.2 b.2.2;show(ae9 a.2.2 b.2.2).length<=_;omega⟩
def afS {p:ct}(b:p.2.1.size<=1048576/\p.2.2.length<=1000):∀{l:List ct},aaz l->∀q∈iT p l,Bs q
 |[],_,q,a=>by rw[fA.1 a];exact⟨b.1,by omega⟩
 |x::l,h,q,a=>by
  have e:=h.2 x tu;have d:aaz l:=⟨by have:=h.1;rw[aR]at this;omega,fun y f=>h.2 y (h8 _ f)⟩;unfold iT at a;split at a
  .rcases c7.1 a with rfl|a
   .exact h.l tu
   .exact afS b d q a
  .split at a
   .rcases c7.1 a with rfl|a
    .exact aoz e b.2
    .exact d.l a
   .rcases c7.1 a with rfl|a
    .exact⟨b.1,by omega⟩
    .exact h.l a
def ahW {V:Type}(c:Int×Int)(l:List ct)(p:ct)(x y:Option V):br (!fl c (iT p l)) y (br (!j0 c p) y x)=if j0 c p=true/\fl c (iT p l)=true then x else y:=by cases fl c (iT p l)<;>cases j0 c p<;>rfl
def ti {l:List ct}(h:aaz l){p:ct}(j:p.2.1.size<=1048576/\p.2.2.length<=1000)(c:Int×Int):dn F0 c l p=some ((cr c l p).1,(cr c l p).2,()):=by
 have C:=h.1;have y:Bs p:=⟨j.1,by omega⟩;have D:=Zj p l;have cR:jE F0 (c.1,c.2) (iT p l)=some (fl c (iT p l),()):=TW (by omega) (afS j h) c;rw[Sh];refine b9 (fun n k (z:Bool×List ct)=>e3 F0 (sf F0) n (dM l z.1 k c.1 c.2 p.1 p.2.1 p.2.2 z.2)) l.length
  (fun k z=>(z.1=false/\z.2=l.take k/\∀x∈l.take k,nc x p=true)\/(z.1=true/\z.2++l.drop k=iT p l)) _ (fun n k z b i=>.inr ?_) (fun n z i=>?_) F0.n 0 (false,[]) (a1 _) (.inl ⟨rfl,rfl,fun x m=>by simp at m⟩) (by rw[b1];omega)
 .have m:=h.2 _ (dH b);have o:l.drop k=l[k]::l.drop (k+1):=VZ b;rcases i with ⟨d,a,g⟩|⟨d,a⟩
  .have A:z.2.length<=1000:=by rw[a,bQ];omega
   have e:=Lp p k l g;rw[o,iT]at e;rw[d,gH,bp b,ae,aE b,ab,cB b,js (by omega),av];dsimp only;rw[show((p.1,p.2.1,p.2.2):ct)=p from rfl,NM,av,adH (by omega),av,js (q:=p) (by omega),av];cases s:nc l[k] p with
   |true =>
    refine⟨(false,z.2++[l[k]]),?_,.inl ⟨rfl,?_,?_⟩⟩
    .rw[h9,ae,bc,aa,aC (by omega) (by omega) (by first|omega|(simp only[aB,aR,bo];omega)|(rw[bT,bQ];omega)),ab,an (by omega)]
    .show z.2++[l[k]]=_;rw[dQ b,a]
    .intro x t;rw[dQ b]at t;rcases en.1 t with h4|h4
     .exact g x h4
     .rw[fA.1 h4];exact s
   |false =>
    rw[s,ag (by decide)]at e;cases f:sameAt l[k] p with
    |true =>
     rw[f,aj rfl]at e;refine⟨(true,z.2++[abD l[k] p]),?_,.inr ⟨rfl,?_⟩⟩
     .rw[h9,ae,ae,aj rfl,ae,aC (by omega) (by omega) (by first|omega|(simp only[aB,aR,bo];omega)|(rw[bT,bQ];omega)),ab,an (by omega)]
     .show(z.2++[abD l[k] p])++_=_;rw[e,a,ha];rfl
    |false =>
     rw[f,ag (by decide)]at e;refine⟨(true,z.2++[p]++[l[k]]),?_,.inr ⟨rfl,?_⟩⟩
     .rw[h9,ae,ae,aa,aC (by omega) (by omega) (by first|omega|(simp only[aB,aR,bo];omega)|(rw[bT,bQ];omega)),ab,aC (by omega) (by omega) (by first|omega|(simp only[aB,aR,bo];omega)|(rw[bT,bQ];omega)),ab,an (by omega)]
     .show(z.2++[p]++[l[k]])++_=_;rw[e,a,ha,ha];rfl
  .have A:z.2.length<=1001:=by have:=C2 List.length a;rw[aB]at this;omega
   refine⟨(true,z.2++[l[k]]),?_,.inr ⟨rfl,?_⟩⟩
   .rw[d,gH,bp b,ae,aE b,ab,cB b,js (by omega),av];dsimp only;rw[bc,aa,aC (by omega) (by omega) (by first|omega|(simp only[aB,aR,bo];omega)|(rw[bT,bQ];omega)),ab,an (by omega)]
   .show(z.2++[l[k]])++_=_;rw[ha,<-a,o];rfl
 .have u:gD F0 (c.1,c.2) (p.1,p.2.1,p.2.2)=some (j0 c p,()):=Hh y c;have v:ey F0 l=some (l,()):=Rf (by omega) fun q B=>h.l B
  have w:br (!fl c (iT p l)) (some (l,false,())) (br (!j0 c p) (some (l,false,())) (some (iT p l,true,())))=some ((cr c l p).1,(cr c l p).2,()):=by rw[ahW];unfold cr;split<;>rfl
  rcases i with ⟨d,a,g⟩|⟨d,a⟩
  .have f:=Lp p l.length l g;rw[aaM,gq]at f;rw[gq]at a;rw[d,gH,aO,aa,y1,h9,ae,show((p.1,(p.2.1,p.2.2)):ct)=p from rfl,js (by omega),av,a,aC (by omega) (by omega) (by first|omega|(simp only[aB,aR,bo];omega)|(rw[bT,bQ];omega)),ab,
    show l++[p]=iT p l from f.symm,cR,av,u,av,v,av]
   exact w
  .rw[aaM,fo]at a;rw[d,gH,aO,aa,y1,bc,aa,a,cR,av,u,av,v,av];exact w
def ajP {γ:Type}(X:Nat->Int->Option γ)(L:Nat)(p:Nat->Bool)(E:Nat->Option γ)(b:∀n k,k<L->X (n+1) (k:Int)=if p k=true then X n ((k+1:Nat):Int) else E k)(d:∀n,X (n+1) (L:Int)=E L) :
  ∀(j k n:Nat),k+j=L->(∀i,i<k->p i=true)->j<n->∃i,i<=L/\(∀j,j<i->p j=true)/\(i<L->p i=false)/\X n (k:Int)=E i
 |0,k,n+1,f,a,g=>⟨L,bq _,fun j s=>a j (by omega),fun h=>absurd h (Ti _),by rw[show k=L by omega];exact d n⟩
 |j+1,k,n+1,f,a,g=>by
  cases h:p k with
  |true =>
   obtain⟨i,l,m,o,q⟩:=ajP X L p E b d j (k+1) n (by omega) (fun i t=>by
    by_cases e:i=k
    .rw[e];exact h
    .exact a i (by omega)) (by omega)
   exact⟨i,l,m,o,by rw[b n k (by omega),h,aj rfl];exact q⟩
  |false=>exact⟨k,by omega,a,fun _=>h,by rw[b n k (by omega),h,ag (by decide)]⟩
def fT (l:List ct)(view:Int)(name:ByteArray):ct:=match l.find? fun x=>(x.1==view)&&(x.2.1.toList==name.toList) with
 |some x=>x|none=>(view,name,[])
def akV {U:Type}{p:U->Bool}{l:List U}{k:Nat}(a:k<l.length):(l.drop k).find? p=if p l[k]=true then some l[k] else (l.drop (k+1)).find? p:=by rw[VZ a,List.find?_cons];cases p l[k]<;>rfl
def Hr {l:List ct}(h:l.length<=1048576)(f:∀q∈l,Bs q)(view:Int)(name:ByteArray):ks F0 l view name=some (fT l view name,()):=by
 rw[R6];refine b9 (fun n k (z:Unit)=>kg F0 (kV F0) n (gG l view name k 0 ah [])) l.length (fun k _=>l.find? (fun x=>(x.1==view)&&(x.2.1.toList==name.toList))=(l.drop k).find? fun x=>(x.1==view)&&(x.2.1.toList==name.toList)) _ (fun n k z b a=>?_) (fun n z a=>?_) F0.n 0 () (a1 _) rfl (by rw[b1];omega)
 .rw[akV b]at a;rw[wE,bp b,ae,aE b,ab,ab,ab,cB b,js (f _ (dH b)).2,av,Ou,an (by omega)];cases d:(l[k].1==view) with
  |false =>
   rw[d,Bool.false_and,ag (by decide)]at a;exact .inr ⟨(),aa _ _,a⟩
  |true =>
   cases e:(l[k].2.1.toList==name.toList) with
   |false =>
    rw[d,e,yJ,ag (by decide)]at a;exact .inr ⟨(),by rw[ae,aa],a⟩
   |true =>
    rw[d,e,yJ,aj rfl]at a;refine .inl ?_;unfold fT;rw[a];rfl
 .rw[aaM]at a;rw[wE,aO,aa,Mh];unfold fT;rw[a];rfl
def adI (l:List ct)(view:Int):List ct:=l.filter fun x=>decide (x.1>=view)
def aaA {l:List ct}(h:l.length<=1048576)(b:∀q∈l,Bs q)(view:Int):sn F0 l view=some (adI l view,()):=by
 rw[Qt];refine ajN (fun n k xs=>iI F0 (pz F0) n (fO l view k xs)) l (fun x=>decide (x.1>=view)) _ (fun n k xs a d=>?_) (fun n=>?_) _ (by rw[b1];omega)
 .rw[tI,bp a,ae,aE a,ab,ab,cB a,js (b _ (dH a)).2,av,aC (by omega) (by omega) (by first|omega|(simp only[aB,aR,bo];omega)|(rw[bT,bQ];omega)),ab,an (by omega)];cases decide (l[k].1>=view)<;>rfl
 .rw[tI,aO,aa,Kn];rfl
def afT {a b c:dW}(d:w8 a b=true)(e:w8 b c=true):w8 a c=true:=by simp only[w8,hh,az,bu,cS]at *;omega
def abE {U:Type}(d:U)(p:U->Bool)(q:U->U->Bool)(l:List U):Q1 d p q l=true↔(∀k (h:k<l.length),p l[k]=true)/\∀k (h:k+1<l.length),q l[k] l[k+1]=true:=by
 unfold Q1;rw[gb];constructor
 .intro h;refine⟨fun k a=>?_,fun k a=>?_⟩
  .have:=h k (gd.2 a);rw[bH a,az]at this;exact this.1
  .have:=h (k+1) (gd.2 a);rw[bH a,show k+1-1=k from rfl,bH (show k<l.length by omega),az,hh]at this;rcases this.2 with b|b
   .exact absurd (wb b) (by omega)
   .exact b
 .intro h k a;have a:=gd.1 a;rw[bH a,az,hh];refine⟨h.1 k a,?_⟩;cases k with
  |zero=>exact .inl (aW rfl)|succ k=>rw[show k+1-1=k from rfl,bH (show k<l.length by omega)];exact .inr (h.2 k a)
def amQ {U:Type}{q:U->U->Bool}(g:∀a b c,q a b=true->q b c=true->q a c=true){l:List U}(h:∀k (h:k+1<l.length),q l[k] l[k+1]=true){i:Nat}:∀(j:Nat) (d:i<j) (f:j<l.length),q (l[i]'(by omega)) l[j]=true
 |0,d,_=>absurd d (Tg _)|j+1,d,f=>by
  by_cases e:i=j
  .subst e;exact h i f
  .exact g _ _ _ (amQ g h j (by omega) (by omega)) (h j f)
def v7 (x:dW):List dW->List dW
 |[]=>[x]|y::l=>if w8 y x=true then y::v7 x l else x::y::l
def lq (l:List dW)(x:dW):List dW×Bool:=if nA (v7 x l)=true then (v7 x l,true) else (l,false)
def Lq (x:dW):∀l:List dW,(v7 x l).length=l.length+1
 |[]=>rfl|y::l=>by
  unfold v7;split
  .rw[aR,Lq x l,aR]
  .rfl
def Zk {x:dW}:∀{l:List dW} {i:Nat},i<=l.length->(∀a (h:a<l.length),a<i->w8 l[a] x=true)->(∀h:i<l.length,w8 l[i] x=false)->v7 x l=l.take i++[x]++l.drop i
 |[],i,b,_,_=>by rw[show i=0 by simpa using b];rfl
 |y::l,0,_,_,d=>by have:=d (by simp);rw[v7,ag (by rw[show w8 y x=false from this];decide)];rfl
 |y::l,i+1,b,e,d=>by have f:w8 y x=true:=e 0 (by simp) (by omega);rw[v7,aj f,Zk (l:=l) (i:=i) (by simpa using b) (fun a g j=>e (a+1) (by simpa using g) (by omega)) (fun h=>d (by simpa using h))];rfl
set_option maxRecDepth 20000 in
def Lr {l:List dW}(h:l.length<=1000000)(x:dW):mC F0 l x=some ((lq l x).1,(lq l x).2,()):=by
 rw[U0];obtain⟨i,e,f,g,j⟩:=ajP (γ:=List dW×Bool×Unit) (fun n k=>sk F0 (mB F0) n (mA l k x.1 x.2.1 x.2.2.1 x.2.2.2)) l.length (fun k=>w8 (l.getD k w7) x) (fun k=>mB F0 (.exit 0) (k5 l (k:Int) x.1 x.2.1 x.2.2.1 x.2.2.2))
  (fun n k b=>by
   rw[y3,bp b,ae,aE b,ab,cB b,show((x.1,x.2.1,x.2.2.1,x.2.2.2):dW)=x from rfl,Q2,av,an (by omega),bH b];cases v:w8 l[k] x with
   |true=>rw[ae,aj rfl]|false=>rw[aa,ag (by decide)])
  (fun n=>by rw[y3,aO,aa]) l.length 0 F0.n (by omega) (fun i d=>absurd d (Tg _)) (by rw[b1];omega)
 have m:=Zk (x:=x) e (fun o q s=>by have:=f o s;rw[bH q]at this;exact this) (fun d=>by have:=g d;rw[bH d]at this;exact this);have w:=Lq x l;refine Eq.trans j ?_;have t:(l.take (i:Int).toNat).drop (0:Int).toNat=l.take i:=by rw[wc];rfl
 have u:(l.take (l.length:Int).toNat).drop (i:Int).toNat=l.drop i:=by rw[wc,wc,gq]
 have y:(l.take i).length<=l.length:=by rw[bQ];omega
 have z:(l.drop i).length<=l.length:=by rw[bT];omega
 rw[OB,t,u,nD,apZ e,ab,aC (a:=0) (by omega) (by omega) (by first|omega|(simp only[aB,aR,bo];omega)|(rw[bT,bQ];omega)),ab,aC (by omega) (by omega) (by first|omega|(simp only[aB,aR,bo];omega)|(rw[bT,bQ];omega)),ab,LO e (bq _),ab,aC (by omega) (by omega) (by first|omega|(simp only[aB,aR,bo];omega)|(rw[bT,bQ];omega)),ab,show((x.1,(x.2.1,(x.2.2.1,x.2.2.2))):dW)=x from rfl,<-m,YV (by omega),av,
  aC (a:=0) (by omega) (by omega) (by first|omega|(simp only[aB,aR,bo];omega)|(rw[bT,bQ];omega)),ab]
 unfold lq;cases nA (v7 x l)<;>rfl
def iU:kJ->Nat->List dW->List dW
 |_,_,[]=>[]|_,0,_=>[]|l,n+1,x::p=>if amE (qJ l x).2=true then x::iU (qJ l x).1 n p else iU l (n+1) p
def aaB (l:kJ):∀p:List dW,iU l 0 p=[]
 |[]=>rfl|_::_=>rfl
def aaC {l:kJ}{n:Nat}{p:List dW}{k:Nat}(a:k<p.length):iU l (n+1) (p.drop k)=if amE (qJ l p[k]).2=true then p[k]::iU (qJ l p[k]).1 n (p.drop (k+1)) else iU l (n+1) (p.drop (k+1)):=by rw[VZ a,iU]
def S0 {p:List dW}(d:p.length<=1048576):∀(j k:Nat) (xs:List dW) (l:kJ) (n:Nat),k+j=p.length->xs.length<=2->YP l->j<n ->
  gl F0 (rX F0) n (eN p (k:Int) xs l.1 l.2)=some (xs++iU l (2-xs.length) (p.drop k),())
 |0,k,xs,l,n+1,g,e,a,h=>by
  obtain rfl:k=p.length:=by omega
  rw[wF,aO,aa,yV,aaM];cases 2-xs.length<;>simp[iU]
 |j+1,k,xs,l,n+1,g,e,a,h=>by
  have b:k<p.length:=by omega
  rw[wF,bp b,ae,yV];by_cases o:xs.length<2
  .obtain⟨m,f⟩:∃m,2-xs.length=m+1:=⟨1-xs.length,by omega⟩;have i:wx F0 (l.1,l.2) p[k]=some ((qJ l p[k]).1,(qJ l p[k]).2,()):=VM (l:=l) (by have:=a.1;omega) (by have:=a.2;omega) _;rw[aW (show(xs.length:Int)<2 by omega),ae,aE b,ab,cB b,i,av,ab,aC (by omega) (by omega) (by first|omega|(simp only[aB,aR,bo];omega)|(rw[bT,bQ];omega)),ab,an (by omega),f,aaC b];dsimp only;rw[S0 d j (k+1) (xs++[p[k]]) (qJ l p[k]).1 n (by omega) (by simp;omega) (apV a _) (by omega),S0 d j (k+1) xs l n (by omega) e a (by omega),f,show 2-(xs++[p[k]]).length=m by simp;omega];unfold amE;cases (qJ l p[k]).2==0<;>cases (qJ l p[k]).2==4<;>simp[br]
  .rw[a6 (show ¬(xs.length:Int)<2 by omega),aa,show 2-xs.length=0 by omega,aaB,fo]
def adJ {p:List dW}(b:p.length<=1048576){l:kJ}(a:YP l):kt F0 p l=some (iU l 2 p,()):=by rw[R8,OU (by have:=a.1;omega) (by have:=a.2;omega),av];exact S0 b p.length 0 [] l F0.n (by omega) (by simp) a (by rw[b1];omega)
def Hs:∀(p:List dW) (l:kJ) (n:Nat),(iU l n p).length<=n
 |[],l,n=>by cases n<;>exact a1 _
 |x::p,l,0=>bq _|x::p,l,n+1=>by
  unfold iU;split
  .rw[aR];have:=Hs p (qJ l x).1 n;omega
  .exact Hs p l (n+1)
def afU (p:List dW)(l:kJ):List dW:=p.filter fun x=>(qJ l x).2 != 2
def adK {p:List dW}(e:p.length<=1048576){l:kJ}(b:l.1.length<=1048576)(d:l.2.length<=1048576):vJ F0 p l=some (afU p l,()):=by
 rw[Sn];refine ajN (fun n k xs=>kh F0 (so F0) n (gI p k l.1 l.2 xs)) p (fun x=>(qJ l x).2 != 2) _ (fun n k xs a f=>?_) (fun n=>?_) _ (by rw[b1];omega)
 .rw[wM,bp a,ae,aE a,ab,ab,cB a,show((l.1,l.2):kJ)=l from rfl,VM b d,av,aC (by omega) (by omega) (by first|omega|(simp only[aB,aR,bo];omega)|(rw[bT,bQ];omega)),ab,an (by omega)];cases (qJ l p[k]).2 != 2<;>rfl
 .rw[wM,aO,aa,Mm];rfl
def fm (c:Int×Int)(view i:Int):List Int:=if 0<=cp c view i then ((List.range c.1.toNat).filter fun k:Nat=>decide (i∈abr c view (k:Int))).map fun k:Nat=>(k:Int) else []
def afV {c:Int×Int}(a:bF c=true)(view i:Int):(fm c view i).length<=7:=by
 have:=cj a;unfold fm;split
 .rw[fB];have:=ad9 (fun k:Nat=>decide (i∈abr c view (k:Int))) (List.range c.1.toNat);rw[aaL]at this;omega
 .exact a1 _
def amR {γ:Type}(X:Nat->Int->List Int->Option γ)(N:Nat)(p:Nat->Bool)(R:Option γ)(a:∀n k xs,k<N->xs.length<=k->X (n+1) (k:Int) xs=X n ((k+1:Nat):Int) (if p k=true then xs++[(k:Int)] else xs))
  (b:∀n,X (n+1) (N:Int) (((List.range N).filter p).map fun k:Nat=>(k:Int))=R) (n:Nat) (f:N<n):X n 0 []=R:=by
 refine b9 X N (fun k xs=>xs=((List.range k).filter p).map fun k:Nat=>(k:Int)) R (fun n k xs d h=>.inr ⟨_,a n k xs d (by rw[h,fB];exact aL (ad9 _ _) (by rw[aaL];omega)),?_⟩) (fun n xs h=>?_) n 0 [] (a1 _) rfl (by omega)
 .rw[List.range_succ,List.filter_append,My,h];cases e:p k<;>simp[e]
 .rw[h];exact b n
def akW {c:Int×Int}(b:bF c=true)(view i:Int):G9 F0 c view i=some (fm c view i,()):=by
 have e:=cj b;have f:(c.1.toNat:Int)=c.1:=by omega
 rw[aac,e7,av,b,bc,aa];unfold fm;by_cases a:0<=cp c view i
 .rw[aj a];refine amR (fun n k xs=>sg F0 (Cq F0) n (lM view i k c.1 c.2 xs)) c.1.toNat (fun k:Nat=>decide (i∈abr c view (k:Int))) _ (fun n k xs g h=>?_) (fun n=>?_) F0.n (by rw[b1];omega)
  .rw[sh,aW (show(k:Int)<c.1 by omega),ae,show((c.1,c.2):Int×Int)=c from rfl,Le,av,aW (show cp c view i>=0 from a),ae,aoj,av,dP (by have:=akF c view k;dsimp only;omega),av,aC (by omega) (by omega) (by first|omega|(simp only[aB,aR,bo];omega)|(rw[bT,bQ];omega)),ab,an (by omega)];dsimp only;cases decide (i∈abr c view (k:Int))<;>rfl
  .rw[sh,a6 (show ¬(c.1.toNat:Int)<c.1 by omega),aa,FW]
 .obtain⟨m,d⟩:∃m,F0.n=m+1:=⟨F0.n-1,by rw[b1]⟩;rw[ag a,d,sh,aW (show(0:Int)<c.1 by omega),ae,show((c.1,c.2):Int×Int)=c from rfl,Le,av,a6 (show ¬cp c view i>=0 from a),aa,FW]
def Pb {c:Int×Int}{q:ct}(h:fg c q=true):Bs q:=⟨(th h).1.n,(th h).1.w⟩
def GB {c:Int×Int}{q:ct}(h:j0 c q=true):q.2.1.size<=1048576/\q.2.2.length<=1000:=⟨(LV h).1.n,aL (LV h).2.1 (by omega)⟩
def afW {c:Int×Int}{s:bC}(h:cl c s=true):td s:=⟨Pb (ez h).2.2.1,aL (gp (ez h).2.2.2) (by omega)⟩
def LX {c:Int×Int}{b:cH}(h:fZ c b=true):b.1.size<=1048576/\Bs b.2:=by simp only[fZ,az]at h;exact⟨aL (gp h.2.1) (by omega),Pb h.1⟩
def dr:Bs cI:=⟨a1 _,a1 _⟩
def adL {c:Int×Int}{m:cq}(h:dS c m=true):iX m:=by
 unfold dS at h;simp only[az]at h;obtain⟨i,f,a⟩:=h;have g:=O7 f;rw[<-g];by_cases b:m.1=1
 .rw[aj (by simpa using b)]at a;have:=LX a;simp only[named,b];exact⟨this.1,this.2,dr,dr⟩
 .by_cases d:m.1=2
  .rw[ag (by simpa using b),aj (by simpa using d)]at a;simp only[az]at a;have:=GB a.1;simp only[named,d];exact⟨a1 _,dr,⟨this.1,by show m.2.2.2.1.2.2.length<=_;omega⟩,dr⟩
  .by_cases e:m.1=3
   .rw[ag (by simpa using b),ag (by simpa using d),aj (by simpa using e)]at a;simp only[az]at a;simp only[named,e];exact⟨a1 _,dr,dr,Pb a.2.1⟩
   .rw[ag (by simpa using b),ag (by simpa using d),ag (by simpa using e)]at a;simp only[az,cS]at a;simp only[named,a.1];exact⟨a1 _,dr,dr,dr⟩
def abF {U:Type}{d:U}{p:U->Bool}{q:U->U->Bool}{l:List U}(h:Q1 d p q l=true):∀x∈l,p x=true:=fun x a=>by obtain⟨k,b,rfl⟩:=aeb a;exact((abE d p q l).1 h).1 k b
def v8 {c:Int×Int}{l:List ct}(h:fl c l=true):aaz l:=by simp only[fl,az,bu]at h;exact⟨by omega,fun q a=>GB (abF h.1 q a)⟩
def Pc {l:List dW}(h:nA l=true):l.length<=12/\∀x∈l,e4 x=true:=by simp only[nA,az,bu]at h;exact⟨by omega,abF h.1⟩
structure amS (c:Int×Int) (r:au):Prop where
 cf:bF c=true
 i:fR 0 (ak (c.1-1)) r.1=true
 v:fR 1 60 r.2.1=true
 a:fR 0 60 r.2.2.1=true
 s:cl c r.2.2.2.1=true
 p:nA r.2.2.2.2.1=true
 t:fl c r.2.2.2.2.2.1=true
 d:gh r.2.2.2.2.2.2.1=true
 n:r.2.2.2.2.2.2.2.length<=30
 h:∀x∈r.2.2.2.2.2.2.2,Hj c r.1 x=true
def GC {c:Int×Int}{r:au}:Gy c r=true↔amS c r:=by
 unfold Gy;simp only[az,V1,agH,gb];constructor
 .rintro⟨a,b,d,e,f,g,i,j,l,k⟩;exact⟨a,b,d,e,f,g,i,j,by omega,k⟩
 .intro h;exact⟨h.cf,h.i,h.v,h.a,h.s,h.p,h.t,h.d,by have:=h.n;omega,h.h⟩
structure aQ (c:Int×Int) (r:au):Prop where
 f:amS c r
 b:∀x∈r.2.2.2.2.2.2.1.1,0<=x/\x<=255
def aQ.ok {c:Int×Int}{r:au}(h:aQ c r):Gy c r=true:=GC.2 h.f
def afX {c:Int×Int}{i:Int}{x:ll}(h:Hj c i x=true):dS c x.2=true:=by simp only[Hj,az]at h;exact h.1
def amS.l {c:Int×Int}{r:au}(h:amS c r):akG r :=
 ⟨afW h.s,aL (Pc h.p).1 (by omega),aL (v8 h.t).1 (by omega),fun q a=>(v8 h.t).l a,aL h.n (by omega),fun q a=>adL (afX (h.h q a))⟩
def aQ.bt {c:Int×Int}{r:au}(h:aQ c r):amM r:=⟨h.f.l,⟨aL (dd.1 h.f.d).1 (by omega),h.b⟩⟩
def aQ.l {c:Int×Int}{r:au}(h:aQ c r):akG r:=h.f.l
def S1 (c:Int×Int)(r:au)(a:Int)(m:cq):Bool:=decide (r.2.2.2.2.2.2.2.length<30)&&(dS c m&&(fR 0 (ak (c.1-1)) a&& !(a==r.1)))
def Ht (r:au)(p:ll):au:=(r.1,r.2.1,r.2.2.1,r.2.2.2.1,r.2.2.2.2.1,r.2.2.2.2.2.1,r.2.2.2.2.2.2.1,r.2.2.2.2.2.2.2++[p])
def yG (c:Int×Int)(r:au)(a:Int)(m:cq):au×Bool:=if S1 c r a m=true then (Ht r (a,m),true) else (r,false)
def EG {r:au}(d:r.2.2.2.2.2.2.2.length<=1048576){m:cq}(b:iX m)(c:Int×Int)(a:Int):dN F0 c r a m=some (((yG c r a m).1,(yG c r a m).2,()),()):=by
 rw[UZ,Bu b,av,ch,av,T1 b,av,aC (by omega) (by omega) (by first|omega|(simp only[aB,aR,bo];omega)|(rw[bT,bQ];omega)),ab];unfold yG S1;by_cases h:r.2.2.2.2.2.2.2.length<30
 .rw[a6 (show ¬(r.2.2.2.2.2.2.2.length:Int)>=30 by omega),aW h];cases dS c m<;>cases fR 0 (ak (c.1-1)) a<;>cases (a==r.1)<;>rfl
 .rw[aW (show(r.2.2.2.2.2.2.2.length:Int)>=30 by omega),a6 h];rfl
def ahX {c:Int×Int}{r:au}(h:amS c r)(a:Int)(m:cq):Gy c (Ht r (a,m))=S1 c r a m:=by
 unfold S1;by_cases f:r.2.2.2.2.2.2.2.length<30
 .rw[aW f,yJ];have e:(dS c m&&(fR 0 (ak (c.1-1)) a&& !(a==r.1)))=Hj c r.1 (a,m):=rfl;rw[e];cases g:Hj c r.1 (a,m) with
  |true=>exact GC.2 ⟨h.cf,h.i,h.v,h.a,h.s,h.p,h.t,h.d,by simp[Ht];omega,fun x b=>by
    rcases en.1 b with b|b
    .exact h.h x b
    .rw[fA.1 b];exact g⟩
  |false =>
   cases d:Gy c (Ht r (a,m)) with
   |false=>rfl
   |true =>
    have:=(GC.1 d).h (a,m) (by simp[Ht]);exact absurd this (by show ¬Hj c r.1 (a,m)=true;rw[g];decide)
 .rw[a6 f];cases d:Gy c (Ht r (a,m)) with
  |false=>rfl
  |true =>
   have:=(GC.1 d).n;simp[Ht]at this;omega
def aQ.told {c:Int×Int}{r:au}(h:aQ c r)(a:Int)(m:cq):aQ c (yG c r a m).1:=by
 unfold yG;cases b:S1 c r a m with
 |false=>exact h
 |true =>
  have:=ahX h.f a m;rw[b]at this;exact⟨GC.1 this,h.b⟩
def put (r:au)(s:bC):au:=(r.1,r.2.1,r.2.2.1,s,r.2.2.2.2.1,r.2.2.2.2.2.1,(r.2.2.2.2.2.2.1.1++CS s,r.2.2.2.2.2.2.1.2),r.2.2.2.2.2.2.2)
def tj (c:Int×Int)(r:au)(s:bC):au×Bool :=
 if CQ r.2.2.2.1 s=true then (r,true) else if cl c s=true/\r.2.2.2.2.2.2.1.1.length+(CS s).length<=100000 then (put r s,true) else (r,false)
def ahY (c:Int×Int)(s:bC):(SY c s).length<=12010:=by
 unfold SY;split
 .rename_i h;exact(akS h).2
 .exact a1 _
def ahZ {c:Int×Int}{r:au}{s:bC}(h:CQ r.2.2.2.1 s=true):tj c r s=(r,true):=aj h
def akX {c:Int×Int}{r:au}{s:bC}(h:CQ r.2.2.2.1 s=false)(a:cl c s=true)(b:r.2.2.2.2.2.2.1.1.length+(CS s).length<=100000):tj c r s=(put r s,true):=by unfold tj;rw[h,ag (by decide),aj ⟨a,b⟩]
def afY {c:Int×Int}{r:au}{s:bC}(h:CQ r.2.2.2.1 s=false)(a:¬(cl c s=true/\r.2.2.2.2.2.2.1.1.length+(CS s).length<=100000)):tj c r s=(r,false):=by unfold tj;rw[h,ag (by decide),ag a]
def afZ {d:tQ}{b:List Int}(h:gh d=true)(a:d.1.length+b.length<=100000):Rk d b=((d.1++b,d.2),true):=aj ⟨h,a⟩
def aoA {d:tQ}{b:List Int}(a:¬d.1.length+b.length<=100000):Rk d b=(d,false):=ag fun h=>a h.2
def Zl {c:Int×Int}{s:bC}(h:cl c s=true):SY c s=CS s:=aj h
def akY {c:Int×Int}{s:bC}(h:cl c s=false):SY c s=[]:=ag (by rw[h];decide)
def Hu {c:Int×Int}{r:au}(h:aQ c r){s:bC}(b:td s):dm F0 c r s=some (if (tj c r s).2=true then ((tj c r s).1,true,TY) else (TY,false,r)):=by
 have f:=ahY c s;have g:=h.bt.d.1;have i:=(dd.1 h.f.d).1;rw[Se,adB h.l.s b,av,aax b,av,ahU g (aL f (by omega)),av,uT b,av,ED b,av];cases d:CQ r.2.2.2.1 s with
 |true =>
  rw[ahZ d];rfl
 |false =>
  cases a:cl c s with
  |false =>
   rw[afY d (fun h=>by rw[a]at h;cases h.1),akY a,afZ h.f.d (by rw[bo];omega)];rfl
  |true =>
   by_cases e:r.2.2.2.2.2.2.1.1.length+(CS s).length<=100000
   .rw[akX d a e,Zl a,afZ h.f.d e];rfl
   .rw[afY d (fun h=>e h.2),Zl a,aoA e];rfl
def aQ.put {c:Int×Int}{r:au}(h:aQ c r){s:bC}(a:cl c s=true)(b:r.2.2.2.2.2.2.1.1.length+(CS s).length<=100000):aQ c (put r s):=by
 refine⟨⟨h.f.cf,h.f.i,h.f.v,h.f.a,a,h.f.p,h.f.t,dd.2 ⟨?_,(dd.1 h.f.d).2.1,?_⟩,h.f.n,h.f.h⟩,dA h.b (afJ s)⟩
 .show(r.2.2.2.2.2.2.1.1++CS s).length<=_;rw[aB];exact b
 .show r.2.2.2.2.2.2.1.2<=((r.2.2.2.2.2.2.1.1++CS s).length:Int);have:=(dd.1 h.f.d).2.2;rw[aB];omega
def aQ.wrote {c:Int×Int}{r:au}(h:aQ c r)(s:bC):aQ c (tj c r s).1:=by
 unfold tj;split
 .exact h
 .split
  .rename_i a;exact h.put a.1 a.2
  .exact h
def ah0 {b:ByteArray}(h:(nh b).2=true):bR (nh b).1.data.toList=true:=by
 unfold nh at h ⊢;split at h
 .rename_i a;rw[aj a];have e:bR b.data.toList=true:=by
   unfold SZ at a;cases d:(bZ b.data.toList).2 with
   |true=>exact d|false=>rw[Lb d]at a;cases a
  show bR (upB (upB b)).data.toList=true;unfold upB;rw[dB,dB];exact amG (amG e)
 .cases h
def amT {c:Int×Int}{s:bC}(h:cl c s=true)(q:ct):cl c (see c s q)=true:=by
 unfold see;split
 .rename_i a;obtain⟨b,g,d,e⟩:=ez h;have i:=na (upL q.2.1.data.toList);simp only[cl,fR,az,bu];refine⟨b,?_,?_,?_⟩
  .unfold nW;split<;>omega
  .unfold VU;split
   .exact a.2
   .exact d
  .split
   .rename_i f;exact ah0 f.1
   .exact e
 .exact h
def Rl (r:au)(v:Int):au:=(r.1,nW r.2.1 v,r.2.2)
def aQ.raised {c:Int×Int}{r:au}(h:aQ c r){v:Int}(a:v<=60):aQ c (Rl r v):=by refine⟨⟨h.f.cf,h.f.i,?_,h.f.a,h.f.s,h.f.p,h.f.t,h.f.d,h.f.n,h.f.h⟩,h.b⟩;have:=h.f.v;simp only[fR,az,bu]at this;show fR 1 60 (nW r.2.1 v)=true;simp only[fR,az,bu];unfold nW;split<;>omega
def Bc (v:Int)(q:ct)(c9:Int):cq:=(3,v,(ah,cI),cI,q,c9,w7)
def Bd (p:ct):cq:=(2,0,(ah,cI),p,cI,0,w7)
def af0 (b:cH):cq:=(1,0,b,cI,cI,0,w7)
def LY {v:Int}{q:ct}(h:Bs q)(c9:Int):iX (Bc v q c9):=⟨a1 _,dr,dr,h⟩
def LZ {p:ct}(h:Bs p):iX (Bd p):=⟨a1 _,dr,h,dr⟩
def Pd {b:cH}(a:b.1.size<=1048576)(d:Bs b.2):iX (af0 b):=⟨a,d,dr,dr⟩
def written (c:Int×Int)(r:au)(q:ct):au×Bool:=tj c r (see c r.2.2.2.1 q)
def EH (c:Int×Int)(r:au)(q:ct):au×Bool :=
 if (written c r q).2=true then
  if ak (q.1+1)>60 then ((written c r q).1,true)
  else if dE c (ak (q.1+1))=r.1 then (Rl (written c r q).1 (ak (q.1+1)),true)
  else yG c (Rl (written c r q).1 (ak (q.1+1))) (dE c (ak (q.1+1))) (Bc (ak (q.1+1)) q r.1)
 else (r,false)
def Zm {c:Int×Int}{r:au}{s:bC}:(tj c r s).1.1=r.1:=by
 unfold tj;split
 .rfl
 .split<;>rfl
def aaD (c:Int×Int)(p:ct):Bool:= !dR p.2.1&&fg c p
def akZ (b:ByteArray):dR b=decide (b.data.toList=[]):=by
 cases h:dR b with
 |true=>rw[aW ((CR b).1 h)]
 |false =>
  rw[a6];intro a;rw[(CR b).2 a]at h;cases h
def ak0 {p:ct}(h:Bs p)(c:Int×Int):wL F0 c p=some (if aaD c p=true then p else cI,aaD c p,()):=by
 have:=ahu (v:=p.1) (l:=p.2.1.data.toList) (s:=p.2.2) (abt h.1) (aL h.2 (by omega)) c;rw[show((p.1,tx p.2.1.data.toList,p.2.2):ct)=p from rfl]at this;rw[this];unfold aaD fg adr;rw[akZ];by_cases a:p.2.1.data.toList=[]
 .rw[ag (fun b=>b.1 a),aW a];rfl
 .rw[a6 a];cases d:adq c (p.1,p.2.1.data.toList,p.2.2) with
  |true=>rw[aj ⟨a,rfl⟩];rfl|false=>rw[ag (fun b=>by cases b.2)];rfl
def aQ.w {c:Int×Int}{r:au}(h:aQ c r)(q:ct):aQ c (written c r q).1:=h.wrote _
def ajQ {c:Int×Int}{r:au}(h:aQ c r)(q:ct):td (see c r.2.2.2.1 q):=afW (amT h.f.s q)
def ah1 {c:Int×Int}{r:au}(h:aQ c r){p:ct}(d:Bs p):DR F0 c r p=some (if aaD c p=true then ((EH c r p).1,(EH c r p).2,()) else (r,false,()),()):=by
 rw[XN,ak0 d,av];cases g:aaD c p with
 |false=>rfl
 |true =>
  dsimp only;rw[bc,aa,aj rfl,aj rfl,VV h.l.s d,av,Hu h (ajQ h p),av];have e:aQ c (written c r p).1:=h.w p;unfold EH;unfold written at e ⊢;generalize tj c r (see c r.2.2.2.1 p)=W at e ⊢;cases i:W.2 with
  |false=>rw[ag (by decide),ag (by decide)];rfl
  |true =>
   have f:dN F0 c (W.1.1,nW W.1.2.1 (ak (p.1+1)),W.1.2.2) (dE c (ak (p.1+1))) (3,ak (p.1+1),(ah,0,ah,[]),(0,ah,[]),p,r.1,0,0,0,0)=some (((yG c (Rl W.1 (ak (p.1+1))) (dE c (ak (p.1+1))) (Bc (ak (p.1+1)) p r.1)).1,(yG c (Rl W.1 (ak (p.1+1))) (dE c (ak (p.1+1))) (Bc (ak (p.1+1)) p r.1)).2,()),()) :=
    EG (r:=Rl W.1 (ak (p.1+1))) (aL e.f.n (by omega)) (LY (v:=ak (p.1+1)) d r.1) c (dE c (ak (p.1+1)))
   rw[aj rfl,aj rfl];simp only[av,CM,uZ,f,ae];by_cases a:ak (p.1+1)>60
   .rw[aW a,ae,aj a]
   .rw[a6 a,aa,ag a];by_cases b:dE c (ak (p.1+1))=r.1
    .rw[aj b,cS.2 b,ae];rfl
    .rw[ag b,cC.2 b,aa]
def aQ.aoB {c:Int×Int}{r:au}(h:aQ c r)(q:ct):aQ c (EH c r q).1:=by
 unfold EH;split
 .split
  .exact h.w q
  .split
   .exact(h.w q).raised (by omega)
   .exact((h.w q).raised (by omega)).told _ _
 .exact h
def ht (c:Int×Int)(r:au)(view:Int)(name:ByteArray)(push:Bool):au×Bool :=
 if (fT r.2.2.2.2.2.1 view name).2.2.length=0\/dR name=true then (r,false)
 else if dE c view=r.1 then
  if aaD c (fT r.2.2.2.2.2.1 view name)=true/\(EH c r (fT r.2.2.2.2.2.1 view name)).2=true then ((EH c r (fT r.2.2.2.2.2.1 view name)).1,true) else (r,false)
 else if push=false/\cmn (fT r.2.2.2.2.2.1 view name).2.2 (fm c view r.1)<(fm c view r.1).length then (r,false)
 else yG c r (SN c view r.1) (Bd (fT r.2.2.2.2.2.1 view name))
section
variable {c:Int×Int} {r:au} {view:Int} {name:ByteArray} {push:Bool} {p:ct} (hP:fT r.2.2.2.2.2.1 view name=p)
include hP
def adM (h:p.2.2.length=0\/dR name=true):ht c r view name push=(r,false):=by subst hP;exact aj h
def ajR (a:¬(p.2.2.length=0\/dR name=true))(b:dE c view=r.1)(h:aaD c p=true/\(EH c r p).2=true):ht c r view name push=((EH c r p).1,true):=by subst hP;unfold ht;rw[ag a,aj b,aj h]
def adN (a:¬(p.2.2.length=0\/dR name=true))(b:dE c view=r.1)(h:¬(aaD c p=true/\(EH c r p).2=true)):ht c r view name push=(r,false):=by subst hP;unfold ht;rw[ag a,aj b,ag h]
def ajS (a:¬(p.2.2.length=0\/dR name=true))(b:¬dE c view=r.1)(h:push=false/\cmn p.2.2 (fm c view r.1)<(fm c view r.1).length):ht c r view name push=(r,false):=by subst hP;unfold ht;rw[ag a,ag b,aj h]
def adO (a:¬(p.2.2.length=0\/dR name=true))(b:¬dE c view=r.1)(h:¬(push=false/\cmn p.2.2 (fm c view r.1)<(fm c view r.1).length)):ht c r view name push=yG c r (SN c view r.1) (Bd p):=by subst hP;unfold ht;rw[ag a,ag b,ag h]
end
def amU {l:List ct}(a:∀q∈l,Bs q){name:ByteArray}(b:name.size<=1048576)(view:Int):Bs (fT l view name):=by
 unfold fT;cases h:l.find? (fun x=>(x.1==view)&&(x.2.1.toList==name.toList)) with
 |none=>exact⟨b,a1 _⟩|some x=>exact a x (Mv h)
def aQ.adP {c:Int×Int}{r:au}(h:aQ c r)(view:Int)(name:ByteArray)(push:Bool):aQ c (ht c r view name push).1:=by
 unfold ht;split
 .exact h
 .split
  .split
   .exact h.aoB _
   .exact h
  .split
   .exact h
   .exact h.told _ _
def Hv {c:Int×Int}{r:au}(h:aQ c r)(view:Int){name:ByteArray}(n:name.size<=1048576)(push:Bool) :
  ∃x,kv F0 c r view name push=some ((x,(ht c r view name push).2,()),())/\((ht c r view name push).2=true->x=(ht c r view name push).1):=by
 have g:=amU h.l.tq n view;have s:=afV h.f.cf view r.1;have o:=EG (r:=r) (aL h.f.n (by omega)) (LZ g) c (SN c view r.1);have q:((dN F0 c r (SN c view r.1) (2,0,(ah,0,ah,[]),fT r.2.2.2.2.2.1 view name,(0,ah,[]),0,0,0,0,0)).bind fun i=>some ((i.1.1,i.1.2.1,()),()))=some (((yG c r (SN c view r.1) (Bd (fT r.2.2.2.2.2.1 view name))).1,(yG c r (SN c view r.1) (Bd (fT r.2.2.2.2.2.1 view name))).2,()),()):=by refine Eq.trans (C2 (fun x=>Option.bind x _) o) ?_;rfl
 rw[Si,Hr h.l.t h.l.tq,av,CM,av,ah1 h g,av,akW h.f.cf,av,ahv (a:=fm c view r.1) (by omega) g.2,av,amv];simp only[av,q];generalize hP:fT r.2.2.2.2.2.1 view name=p at *;by_cases j:p.2.2.length=0
 .rw[adM hP (.inl j),show((p.2.2.length:Int)==0)=true from cS.2 (by omega),ae];exact⟨r,rfl,fun h=>by cases h⟩
 .rw[show((p.2.2.length:Int)==0)=false from cC.2 (by omega),aa];cases f:dR name with
  |true =>
   rw[adM hP (.inr f),show(name.toList==ah.toList)=true from f,ae];exact⟨r,rfl,fun h=>by cases h⟩
  |false =>
   have e:¬(p.2.2.length=0\/dR name=true):=fun b=>b.elim j (by rw[f];decide)
   rw[show(name.toList==ah.toList)=false from f,aa];by_cases d:dE c view=r.1
   .rw[cS.2 d,ae];cases k:aaD c p with
    |false =>
     rw[adN hP e d (fun b=>by rw[k]at b;cases b.1)];exact⟨r,rfl,fun h=>by cases h⟩
    |true =>
     cases l:(EH c r p).2 with
     |false =>
      rw[adN hP e d (fun b=>by rw[l]at b;cases b.2)];exact⟨_,rfl,fun h=>by cases h⟩
     |true =>
      rw[ajR hP e d ⟨k,l⟩];exact⟨_,rfl,fun _=>rfl⟩
   .rw[cC.2 d,aa];cases push with
    |true =>
     rw[adO hP e d (fun b=>by cases b.1)];exact⟨_,rfl,fun _=>rfl⟩
    |false =>
     by_cases m:cmn p.2.2 (fm c view r.1)<(fm c view r.1).length
     .rw[ajS hP e d ⟨rfl,m⟩,h9,ae,aW (show(cmn p.2.2 (fm c view r.1):Int)<(fm c view r.1).length by omega),ae];exact⟨r,rfl,fun h=>by cases h⟩
     .rw[adO hP e d (fun b=>m b.2),h9,ae,a6 (show ¬(cmn p.2.2 (fm c view r.1):Int)<(fm c view r.1).length by omega),aa];exact⟨_,rfl,fun _=>rfl⟩
def ak1 {c:Int×Int}{r:au}(h:aQ c r)(view:Int){name:ByteArray}(a:name.size<=1048576)(push:Bool):Ha F0 c r view name push=some (if (ht c r view name push).2=true then ((ht c r view name push).1,true,()) else (r,false,())):=by
 obtain⟨x,b,d⟩:=Hv h view a push;rw[aak,eU h.l,av,h.ok,bc,aa,c5 h.bt,av,b,av,av];cases e:(ht c r view name push).2 with
 |true=>rw[d e];rfl|false=>rfl
def ajT:cH:=(ah,cI)
def CU (q:ct)(view:Int)(l:List dW):ByteArray:=tx (Hn q.2.1.data.toList view l)
def eI (c:Int×Int)(q:ct)(view:Int)(l:List dW):cH×Bool:=if fZ c (CU q view l,q)=true/\bE (CU q view l).data.toList=view then ((CU q view l,q),true) else (ajT,false)
def ah2 {c:Int×Int}{q:ct}(a:fg c q=true){view:Int}(b:pg view){l:List dW}(d:l.length<=100):(CU q view l).size<=1048576:=by have e:=(th a).2.2;have f:=LR (up:=q.2.1.data.toList) b l;unfold CU;rw[ao];have:q.2.1.data.toList.length=q.2.1.size:=rfl;omega
def VW (a b:Int):(a != b)= !decide (a=b):=by
 by_cases h:a=b
 .simp[h]
 .simp[h]
def Rm {c:Int×Int}{q:ct}(a:fg c q=true){view:Int}(d:pg view){l:List dW}(f:l.length<=100):fw F0 c q view l=some ((eI c q view l).1,(eI c q view l).2,()):=by
 have j:=(th a).2.2;have e:=ah2 a d f;have g:dX F0 q.2.1 view l=some (CU q view l,()):=Ho (up:=q.2.1.data.toList) (by show q.2.1.size<=_;omega) d (by omega);rw[FJ,g,av,l0 (Pb a).2,av,w9 (b:=(CU q view l,q)) e (Pb a),av,eT e,av];unfold eI;dsimp only;rw[VW];cases fZ c (CU q view l,q) with
 |false=>rw[ag (fun h=>by cases h.1)];rfl
 |true =>
  by_cases h:bE (CU q view l).data.toList=view
  .rw[aj ⟨rfl,h⟩,aW h];rfl
  .rw[ag (fun i=>h i.2),a6 h];rfl
def af1 {c:Int×Int}{q:ct}{view:Int}{l:List dW}(h:(eI c q view l).2=true):fZ c (eI c q view l).1=true/\bE (eI c q view l).1.1.data.toList=view/\(eI c q view l).1.2=q:=by
 unfold eI at h ⊢;split at h
 .rename_i a;rw[aj a];exact⟨a.1,a.2,rfl⟩
 .cases h
def Zn (c:Int×Int)(l:List ct)(view:Int):Bool:=decide (((fT l view ah).2.2.length:Int)>=OV c)
def amV (c:Int×Int)(r:au):Bool:=decide (dE c r.2.1=r.1)&&(!decide (r.2.2.1>=r.2.1)&&(decide (r.2.2.2.1.2.2.1.1=ak (r.2.1-1)) || Zn c r.2.2.2.2.2.1 r.2.1))
def adQ (r:au):List dW:=iU (uS ae5 (afy r.2.2.2.1.2.2.1.2.1)) 2 r.2.2.2.2.1
def ask (c:Int×Int)(r:au):cH×Bool:=if amV c r=true then eI c r.2.2.2.1.2.2.1 r.2.1 (adQ r) else (ajT,false)
def aQ.view {c:Int×Int}{r:au}(h:aQ c r):1<=r.2.1/\r.2.1<=60:=by have:=h.f.v;simp only[fR,az,bu]at this;exact this
def amW (a b:Int):decide (a<b)= !decide (a>=b):=by
 by_cases h:a<b
 .rw[aW h,a6 (by omega)];rfl
 .rw[a6 h,aW (by omega)];rfl
def ah3 (r:au):(adQ r).length<=2:=Hs _ _ _
def ajU {c:Int×Int}{r:au}(h:aQ c r):J6 F0 c r=some ((ask c r).1,(ask c r).2,()):=by have g:=h.view;have a:=(ez h.f.s).2.2.1;have b:YP (uS ae5 (afy r.2.2.2.1.2.2.1.2.1)):=VN adC;have d:=Rm (c:=c) (q:=r.2.2.2.1.2.2.1) a (view:=r.2.1) ⟨by omega,by omega⟩ (l:=adQ r) (by have:=ah3 r;omega);have e:kt F0 r.2.2.2.2.1 (uS ae5 (afy r.2.2.2.1.2.2.1.2.1))=some (adQ r,()):=adJ h.l.p b;have f:Bs r.2.2.2.1.2.2.1:=h.l.s.1;rw[aeR,eU h.l,av,h.ok,bc,aa,CM,av,Hr h.l.t h.l.tq,av,OW,av,E4,av,afz f.1,av,YQ adC (aL (Y4 _) (by omega))];simp only[av,e,d];unfold ask amV Zn;rw[VW,VW,amW];cases decide (dE c r.2.1=r.1)<;>cases decide (r.2.2.1>=r.2.1)<;>cases decide (r.2.2.2.1.2.2.1.1=ak (r.2.1-1))<;>cases decide (((fT r.2.2.2.2.2.1 r.2.1 ah).2.2.length:Int)>=OV c)<;>rfl
def aqe {c:Int×Int}{r:au}(h:(ask c r).2=true):amV c r=true/\fZ c (ask c r).1=true/\bE (ask c r).1.1.data.toList=r.2.1/\(ask c r).1.2=r.2.2.2.1.2.2.1:=by
 unfold ask at h ⊢;split at h
 .rename_i a;rw[aj a];exact⟨a,af1 h⟩
 .cases h
def Zo (r:au):au:=(r.1,r.2.1,r.2.2.1,r.2.2.2.1,r.2.2.2.2.1,r.2.2.2.2.2.1,xx r.2.2.2.2.2.2.1,[])
def af2 {c:Int×Int}{r:au}(h:aQ c r):AS F0 c r=some (Zo r,r.2.2.2.2.2.2.2,()):=by rw[U8,c5 h.bt,av,eU h.l,av,h.ok,bc,aa,amO h.bt.d.1,av,Rg h.l.h h.l.hm,av];rfl
def af3 {d:tQ}(h:gh d=true):gh (xx d)=true:=by unfold xx;rw[aj h];have:=dd.1 h;exact dd.2 ⟨this.1,by dsimp only;omega,by dsimp only;omega⟩
def adR (d:tQ):(xx d).1=d.1:=by unfold xx;split<;>rfl
def aQ.Zo {c:Int×Int}{r:au}(h:aQ c r):aQ c (Zo r) :=
 ⟨⟨h.f.cf,h.f.i,h.f.v,h.f.a,h.f.s,h.f.p,h.f.t,af3 h.f.d,a1 _,fun x a=>by cases a⟩,by show ∀x∈(xx r.2.2.2.2.2.2.1).1,_;rw[adR];exact h.b⟩
def pj (r:au)(v:Int):au:=(r.1,v,r.2.2)
def j1 (r:au)(t:List ct):au:=(r.1,r.2.1,r.2.2.1,r.2.2.2.1,r.2.2.2.2.1,t,r.2.2.2.2.2.2)
def aQ.pj {c:Int×Int}{r:au}(h:aQ c r){v:Int}(a:1<=v)(b:v<=60):aQ c (pj r v) :=
 ⟨⟨h.f.cf,h.f.i,by show fR 1 60 v=true;simp[fR,a,b],h.f.a,h.f.s,h.f.p,h.f.t,h.f.d,h.f.n,h.f.h⟩,h.b⟩
def aQ.j1 {c:Int×Int}{r:au}(h:aQ c r){t:List ct}(a:fl c t=true):aQ c (j1 r t) :=
 ⟨⟨h.f.cf,h.f.i,h.f.v,h.f.a,h.f.s,h.f.p,a,h.f.d,h.f.n,h.f.h⟩,h.b⟩
def u0 {c:Int×Int}{l:List ct}(h:fl c l=true)(p:ct):fl c (cr c l p).1=true:=by
 unfold cr;split
 .rename_i a;exact a.2
 .exact h
def one (v:Int)(name:ByteArray)(i:Int):ct:=(v,name,[i])
def NR (c:Int×Int)(r:au):au×Bool :=
 if r.2.1>=60 then (r,false)
 else if dE c (ak (r.2.1+1))=r.1 then
  if (cr c r.2.2.2.2.2.1 (one (ak (r.2.1+1)) ah r.1)).2=true then (j1 (pj r (ak (r.2.1+1))) (cr c r.2.2.2.2.2.1 (one (ak (r.2.1+1)) ah r.1)).1,true) else (r,false)
 else if (yG c (pj r (ak (r.2.1+1))) (dE c (ak (r.2.1+1))) (Bc (ak (r.2.1+1)) r.2.2.2.1.2.2.1 r.1)).2=true then ((yG c (pj r (ak (r.2.1+1))) (dE c (ak (r.2.1+1))) (Bc (ak (r.2.1+1)) r.2.2.2.1.2.2.1 r.1)).1,true) else (r,false)
def amX {c:Int×Int}{r:au}(h:aQ c r):LM F0 c r=some ((NR c r).1,(NR c r).2,()):=by
 have f:=h.view;have g:=(ez h.f.s).2.2.1;have d:dn F0 c r.2.2.2.2.2.1 (ak (r.2.1+1),ah,[r.1])=some ((cr c r.2.2.2.2.2.1 (one (ak (r.2.1+1)) ah r.1)).1,(cr c r.2.2.2.2.2.1 (one (ak (r.2.1+1)) ah r.1)).2,()):=ti (v8 h.f.t) ⟨a1 _,by show 1<=1000;omega⟩ c;have e:dN F0 c (r.1,ak (r.2.1+1),r.2.2) (dE c (ak (r.2.1+1))) (3,ak (r.2.1+1),(ah,0,ah,[]),(0,ah,[]),r.2.2.2.1.2.2.1,r.1,0,0,0,0)=some (((yG c (pj r (ak (r.2.1+1))) (dE c (ak (r.2.1+1))) (Bc (ak (r.2.1+1)) r.2.2.2.1.2.2.1 r.1)).1,(yG c (pj r (ak (r.2.1+1))) (dE c (ak (r.2.1+1))) (Bc (ak (r.2.1+1)) r.2.2.2.1.2.2.1 r.1)).2,()),()) :=
  EG (r:=pj r (ak (r.2.1+1))) h.l.h (LY h.l.s.1 r.1) c _
 rw[ac9,c5 h.bt,av,eU h.l,av,h.ok,bc,aa,CM,av];simp only[av,d,e];unfold NR;by_cases a:r.2.1>=60
 .rw[aj a,aW a,ae]
 .rw[ag a,a6 a,aa];by_cases b:dE c (ak (r.2.1+1))=r.1
  .rw[aj b,cS.2 b,ae];cases (cr c r.2.2.2.2.2.1 (one (ak (r.2.1+1)) ah r.1)).2<;>rfl
  .rw[ag b,cC.2 b,aa];cases (yG c (pj r (ak (r.2.1+1))) (dE c (ak (r.2.1+1))) (Bc (ak (r.2.1+1)) r.2.2.2.1.2.2.1 r.1)).2<;>rfl
def aQ.aq6 {c:Int×Int}{r:au}(h:aQ c r):aQ c (NR c r).1:=by
 have b:=h.view;unfold NR;split
 .exact h
 .rename_i d;have e:ak (r.2.1+1)=r.2.1+1:=aD (by omega) (by omega);have a:=h.pj (v:=ak (r.2.1+1)) (by omega) (by omega);split
  .split
   .exact a.j1 (u0 h.f.t _)
   .exact h
  .split
   .exact a.told _ _
   .exact h
def E6 (c:Int×Int)(r:au)(m:cq):Nat->Nat->au->au×Bool
 |0,_,a=>(a,true)|j+1,k,a=>if (k:Int)=r.1 then E6 c r m j (k+1) a else if (yG c a (k:Int) m).2=true then E6 c r m j (k+1) (yG c a (k:Int) m).1 else (r,false)
def VX (c:Int×Int)(r:au)(m:cq):au×Bool:=E6 c r m c.1.toNat 0 r
def Zp {c:Int×Int}{r:au}(h:aQ c r)(m:cq):∀(j k:Nat) (o:au),aQ c o->aQ c (E6 c r m j k o).1
 |0,_,_,a=>a|j+1,k,o,a=>by
  unfold E6;split
  .exact Zp h m j (k+1) o a
  .split
   .exact Zp h m j (k+1) _ (a.told _ _)
   .exact h
def aQ.aoC {c:Int×Int}{r:au}(h:aQ c r)(m:cq):aQ c (VX c r m).1:=Zp h m _ _ _ h
def S2 {c:Int×Int}{r:au}(h:aQ c r){m:cq}(d:iX m):∀(j k:Nat) (z:au) (n:Nat),(k:Int)+j=c.1->aQ c z->j<n->c.1<=100 ->
  lO F0 (mI F0) n (iJ (k:Int) c.1 c.2 r.1 r.2.1 r.2.2.1 r.2.2.2.1.1 r.2.2.2.1.2.1 r.2.2.2.1.2.2.1.1 r.2.2.2.1.2.2.1.2.1 r.2.2.2.1.2.2.1.2.2 r.2.2.2.1.2.2.2 r.2.2.2.2.1 r.2.2.2.2.2.1 r.2.2.2.2.2.2.1.1 r.2.2.2.2.2.2.1.2 r.2.2.2.2.2.2.2 m.1 m.2.1 m.2.2.1.1 m.2.2.1.2.1 m.2.2.1.2.2.1 m.2.2.1.2.2.2 m.2.2.2.1.1 m.2.2.2.1.2.1 m.2.2.2.1.2.2 m.2.2.2.2.1.1 m.2.2.2.2.1.2.1 m.2.2.2.2.1.2.2 m.2.2.2.2.2.1 m.2.2.2.2.2.2.1 m.2.2.2.2.2.2.2.1 m.2.2.2.2.2.2.2.2.1 m.2.2.2.2.2.2.2.2.2 0 0 0 0 0 0 ah ah 0 z.1 z.2.1 z.2.2.1 z.2.2.2.1.1 z.2.2.2.1.2.1 z.2.2.2.1.2.2.1.1 z.2.2.2.1.2.2.1.2.1 z.2.2.2.1.2.2.2 z.2.2.2.2.2.2.1.2 [] [] [] [] [] z.2.2.2.1.2.2.1.2.2 z.2.2.2.2.1 z.2.2.2.2.2.1 z.2.2.2.2.2.2.1.1 z.2.2.2.2.2.2.2)
   = some ((E6 c r m j k z).1,(E6 c r m j k z).2,())
 |0,k,z,n+1,f,a,g,e=>by rw[y7,a6 (show ¬(k:Int)<c.1 by omega),aa,OE];rfl
 |j+1,k,z,n+1,f,a,g,e=>by
  have i:=EG (r:=z) a.l.h d c (k:Int);have l:=c5 h.bt;rw[y7,aW (show(k:Int)<c.1 by omega),ae,show((c.1,c.2):Int×Int)=c from rfl];refine Eq.trans (C2 (fun x=>br ((k:Int)==r.1) _ (Option.bind x _)) i) ?_;rw[av];dsimp only;unfold E6;by_cases b:(k:Int)=r.1
  .rw[aj b,cS.2 b,ae,an (by omega)];exact S2 h d j (k+1) z n (by omega) a (by omega) e
  .rw[ag b,cC.2 b,aa];cases o:(yG c z (k:Int) m).2 with
   |true =>
    rw[bc,aa,aj rfl,an (by omega)];exact S2 h d j (k+1) _ n (by omega) (a.told _ _) (by omega) e
   |false =>
    rw[h9,ae,ag (by decide)];refine Eq.trans (C2 (fun x=>Option.bind x _) l) ?_;rw[av,QA]
def af4 {c:Int×Int}{r:au}(h:aQ c r){m:cq}(a:iX m):sB F0 c r m=some ((VX c r m).1,(VX c r m).2,()):=by have b:=cj h.f.cf;rw[U6,c5 h.bt,av,eU h.l,av,h.ok,bc,aa];exact S2 h a c.1.toNat 0 r F0.n (by omega) h (by rw[b1];omega) (by omega)
def Rn {U:Type}{d:U}{p:U->Bool}{q:U->U->Bool}(j:∀a b c,q a b=true->q b c=true->q a c=true){l:List U}(h:Q1 d p q l=true)(f:U->Bool):Q1 d p q (l.filter f)=true:=by
 rw[abE]at h ⊢;have m:l.Pairwise fun a b=>q a b=true:=List.pairwise_iff_getElem.2 fun i n g o s=>amQ j h.2 n s o
 have t:=m.filter f;refine⟨fun k e=>?_,fun k e=>List.pairwise_iff_getElem.1 t k (k+1) (by omega) e (by omega)⟩;have u:=(List.mem_filter.1 (dH e)).1;obtain⟨i,g,v⟩:=aeb u;rw[<-v];exact h.1 i g
def Zq:∀{a b c:List UInt8},Op.bytesLess a b=true->Op.bytesLess b c=true->Op.bytesLess a c=true
 |[],[],_,h,_=>by cases h
 |_::_,[],_,h,_=>by cases h
 |_,_::_,[],_,h=>by cases h
 |[],_::_,_::_,_,_=>rfl|x::a,y::b,z::c,e,d=>by
  simp only[Op.bytesLess,hh,az,bu,cS]at e d ⊢;rcases e with e|⟨rfl,e⟩
  .rcases d with d|⟨rfl,d⟩
   .exact .inl (UInt8.lt_trans e d)
   .exact .inl e
  .rcases d with d|⟨rfl,d⟩
   .exact .inl d
   .exact .inr ⟨rfl,Zq e d⟩
def aaE (a b c:ct)(e:nc a b=true)(d:nc b c=true):nc a c=true:=by
 simp only[nc,hh,az,bu,cS]at *;rcases e with e|⟨g,e⟩
 .rcases d with d|⟨f,d⟩
  .exact .inl (by omega)
  .exact .inl (by omega)
 .rcases d with d|⟨f,d⟩
  .exact .inl (by omega)
  .exact .inr ⟨by omega,Zq e d⟩
def Zr {c:Int×Int}{l:List ct}(h:fl c l=true)(f:ct->Bool):fl c (l.filter f)=true:=by simp only[fl,az,bu]at h ⊢;have:=ad9 f l;exact⟨Rn aaE h.1 f,by omega⟩
def aaF {l:List dW}(h:nA l=true)(f:dW->Bool):nA (l.filter f)=true:=by simp only[nA,az,bu]at h ⊢;have:=ad9 f l;exact⟨Rn (q:=w8) (fun a b c d e=>afT d e) h.1 f,by omega⟩
def ah4 {l:List dW}(h:nA l=true)(x:dW):nA (lq l x).1=true:=by
 unfold lq;split
 .rename_i a;exact a
 .exact h
def EI (b:cH):Int:=bE b.1.data.toList
def own (c:Int×Int)(r:au)(name:ByteArray):au×Bool :=
 if (cr c r.2.2.2.2.2.1 (one (bE name.data.toList) name r.1)).2=true then ((ht c (j1 r (cr c r.2.2.2.2.2.1 (one (bE name.data.toList) name r.1)).1) (bE name.data.toList) name false).1,true) else (r,false)
def aoD {c:Int×Int}{r:au}{a:Int}{m:cq}(h:(yG c r a m).2=false):(yG c r a m).1=r:=by
 unfold yG at h ⊢;cases b:S1 c r a m with
 |true=>rw[b,aj rfl]at h;cases h|false=>rfl
def af5 {c:Int×Int}{r:au}{view:Int}{name:ByteArray}{push:Bool}(h:(ht c r view name push).2=false):(ht c r view name push).1=r:=by
 by_cases a:(fT r.2.2.2.2.2.1 view name).2.2.length=0\/dR name=true
 .rw[adM rfl a]
 .by_cases d:dE c view=r.1
  .by_cases b:aaD c (fT r.2.2.2.2.2.1 view name)=true/\(EH c r (fT r.2.2.2.2.2.1 view name)).2=true
   .rw[ajR rfl a d b]at h;cases h
   .rw[adN rfl a d b]
  .by_cases b:push=false/\cmn (fT r.2.2.2.2.2.1 view name).2.2 (fm c view r.1)<(fm c view r.1).length
   .rw[ajS rfl a d b]
   .rw[adO rfl a d b]at h ⊢;exact aoD h
def aQ.owned {c:Int×Int}{r:au}(h:aQ c r)(name:ByteArray):aQ c (own c r name).1:=by
 unfold own;split
 .exact(h.j1 (u0 h.f.t _)).adP _ _ _
 .exact h
def ah5 {c:Int×Int}{r:au}(h:aQ c r){name:ByteArray}(a:name.size<=1048576):jo F0 c r name=some (((own c r name).1,(own c r name).2,()),()):=by
 have e:dn F0 c r.2.2.2.2.2.1 (bE name.data.toList,name,[r.1])=some ((cr c r.2.2.2.2.2.1 (one (bE name.data.toList) name r.1)).1,(cr c r.2.2.2.2.2.1 (one (bE name.data.toList) name r.1)).2,()):=ti (v8 h.f.t) ⟨a,by show 1<=1000;omega⟩ c;have b:=h.j1 (u0 h.f.t (one (bE name.data.toList) name r.1));have f:aK F0 (r.1,r.2.1,r.2.2.1,r.2.2.2.1,r.2.2.2.2.1,(cr c r.2.2.2.2.2.1 (one (bE name.data.toList) name r.1)).1,r.2.2.2.2.2.2)=some (j1 r (cr c r.2.2.2.2.2.1 (one (bE name.data.toList) name r.1)).1,()):=c5 b.bt;obtain⟨x,g,i⟩:=Hv b (bE name.data.toList) a false;rw[XT,eT a];simp only[av,e,f,g,eT a];unfold own;cases j:(cr c r.2.2.2.2.2.1 (one (bE name.data.toList) name r.1)).2 with
 |false=>rfl
 |true =>
  rw[aj rfl,bc,aa];cases d:(ht c (j1 r (cr c r.2.2.2.2.2.1 (one (bE name.data.toList) name r.1)).1) (bE name.data.toList) name false).2 with
  |true=>rw[i d];rfl|false=>rw[af5 d];rfl
def Ad (r:au)(b:cH):au:=if EI b>=r.2.1 then pj r (EI b) else r
def tk (c:Int×Int)(r:au)(b:cH):Bool:=decide (EI b>=r.2.1)&&vZ c (see c r.2.2.2.1 b.2) b
def Hw (c:Int×Int)(r:au)(b:cH):bC:=if tk c r b=true then (EI b,(see c r.2.2.2.1 b.2).2) else see c r.2.2.2.1 b.2
def Ls (c:Int×Int)(r:au)(b:cH)(a:Bool)(W:au×Bool):au×Bool :=
 if W.2=true then (if a=true then (if (own c W.1 b.1).2=true then ((own c W.1 b.1).1,true) else (r,false)) else (W.1,true)) else (r,false)
def ni (c:Int×Int)(r:au)(b:cH):au×Bool:=Ls c r b (tk c r b) (tj c (Ad r b) (Hw c r b))
def aQ.Ad {c:Int×Int}{r:au}(h:aQ c r)(b:cH):aQ c (Ad r b):=by
 unfold Tryz.Ad;have:=h.view;have a:=na b.1.data.toList;split
 .exact h.pj (by unfold EI at *;omega) (by unfold EI at *;omega)
 .exact h
def amY {c:Int×Int}{r:au}(h:aQ c r)(b:cH):td (Hw c r b):=by
 have:=ajQ h b.2;unfold Hw;split
 .exact this
 .exact this
def aQ.Ls {c:Int×Int}{r:au}(h:aQ c r)(b:cH)(d:Bool){W:au×Bool}(a:aQ c W.1):aQ c (Ls c r b d W).1:=by
 unfold Tryz.Ls;split
 .split
  .split
   .exact a.owned _
   .exact h
  .exact a
 .exact h
def aQ.Zs {c:Int×Int}{r:au}(h:aQ c r)(b:cH):aQ c (ni c r b).1:=h.Ls b _ ((h.Ad b).wrote _)
def ah6 {c:Int×Int}{r:au}{b:cH}(g:b.1.size<=1048576)(a:Bool){W:au×Bool}(i:aQ c W.1)(x:au) :
  ((some (if W.2=true then (W.1,true,TY) else (TY,false,x)):Option (au×Bool×au)).bind fun d=>br d.2.1 (br a ((jo F0 c d.1 b.1).bind fun e=>br (!e.1.2.1) (some (r,false,())) (some (e.1.1,true,()))) (some (d.1,true,()))) (some (r,false,())))=some ((Ls c r b a W).1,(Ls c r b a W).2,()):=by
 have f:=ah5 i g;obtain⟨j,k⟩:=W;unfold Ls;cases k with
 |false=>rfl
 |true =>
  cases a with
  |false=>rfl
  |true =>
   dsimp only at f ⊢;rw[aj rfl,aj rfl,aj rfl,av];dsimp only;rw[ae,ae,f,av];cases h:(own c j b.1).2<;>rfl
def amZ {c:Int×Int}{s:bC}{b:cH}(h:vZ c s b=true):ahT c s b=((EI b,s.2),true):=aj h
def aqf {c:Int×Int}{r:au}{b:cH}(a:EI b>=r.2.1)(d:vZ c (see c r.2.2.2.1 b.2) b=true):tk c r b=true/\Hw c r b=(EI b,(see c r.2.2.2.1 b.2).2):=by
 have:tk c r b=true:=by unfold tk;rw[aW a,d];rfl
 exact⟨this,aj this⟩
def apz {c:Int×Int}{r:au}{b:cH}(h:¬(EI b>=r.2.1/\vZ c (see c r.2.2.2.1 b.2) b=true)):tk c r b=false/\Hw c r b=see c r.2.2.2.1 b.2:=by
 have:tk c r b=false:=by
  unfold tk;by_cases a:EI b>=r.2.1
  .cases d:vZ c (see c r.2.2.2.1 b.2) b with
   |true=>exact absurd ⟨a,d⟩ h|false=>rw[Bool.and_false]
  .rw[a6 a];rfl
 exact⟨this,ag (by rw[this];decide)⟩
def NS {c:Int×Int}{r:au}(h:aQ c r){b:cH}(l:fZ c b=true):lN F0 c r b=some ((ni c r b).1,(ni c r b).2,()):=by
 obtain⟨d,g⟩:=LX l;have m:=ajQ h b.2;have n:=T2 (c:=c) m d g;have o:=afP (c:=c) m d g;have q:=Hu (h.Ad b) (amY h b);have s:aQ c (tj c (Ad r b) (Hw c r b)).1:=(h.Ad b).wrote _;have t:=ah6 (r:=r) d (tk c r b) s (Ad r b);rw[Qs,c5 h.bt,av,eU h.l,av,h.ok,bc,aa,w9 d g,av,l,bc,aa,VV h.l.s g,eT d];simp only[av,n,o];rw[show bE b.1.data.toList=EI b from rfl];show _=some ((Ls c r b (tk c r b) (tj c (Ad r b) (Hw c r b))).1,(Ls c r b (tk c r b) (tj c (Ad r b) (Hw c r b))).2,());rw[<-t,<-q];by_cases a:EI b>=r.2.1
 .have i:Ad r b=(r.1,EI b,r.2.2):=aj a;rw[aW a,ae,ae];cases k:vZ c (see c r.2.2.2.1 b.2) b with
  |true =>
   obtain⟨e,f⟩:=aqf a k;rw[e,f,i,amZ k,ae]
  |false =>
   obtain⟨e,f⟩:=apz (c:=c) (r:=r) (b:=b) (fun j=>by rw[k]at j;cases j.2);rw[e,f,i,aa]
 .have i:Ad r b=r:=ag a;obtain⟨e,f⟩:=apz (c:=c) (r:=r) (b:=b) (fun j=>a j.1);rw[a6 a,aa,aa,e,f,i];rfl
def aq7 (r:au)(p:ct):Bool:= !dR p.2.1&& !decide (p.1<r.2.1)
def xJ (c:Int×Int)(r:au)(p:ct):au×Bool :=
 if aq7 r p=true/\(cr c r.2.2.2.2.2.1 p).2=true then ((ht c (j1 r (cr c r.2.2.2.2.2.1 p).1) p.1 p.2.1 false).1,true) else (r,false)
def aQ.ak2 {c:Int×Int}{r:au}(h:aQ c r)(p:ct):aQ c (xJ c r p).1:=by
 unfold xJ;split
 .exact(h.j1 (u0 h.f.t _)).adP _ _ _
 .exact h
def aqg {c:Int×Int}{p:ct}(h:j0 c p=true):Bs p:=⟨(GB h).1,by have:=(GB h).2;omega⟩
def adS {c:Int×Int}{r:au}(h:aQ c r){p:ct}(a:j0 c p=true):vH F0 c r p=some ((xJ c r p).1,(xJ c r p).2,()):=by
 have e:=ti (v8 h.f.t) (GB a) c;have b:=h.j1 (u0 h.f.t p);have f:aK F0 (r.1,r.2.1,r.2.2.1,r.2.2.2.1,r.2.2.2.2.1,(cr c r.2.2.2.2.2.1 p).1,r.2.2.2.2.2.2)=some (j1 r (cr c r.2.2.2.2.2.1 p).1,()):=c5 b.bt;obtain⟨x,g,i⟩:=Hv b p.1 (GB a).1 false;rw[Sj,c5 h.bt,av,eU h.l,av,h.ok,bc,aa,Hh (aqg a),av,a,bc,aa];simp only[av,e,f,g];unfold xJ aq7 dR;cases (p.2.1.toList==ah.toList)<;>cases decide (p.1<r.2.1)
 .cases j:(cr c r.2.2.2.2.2.1 p).2 with
  |false=>rfl
  |true =>
   rw[aj ⟨rfl,rfl⟩];cases d:(ht c (j1 r (cr c r.2.2.2.2.2.1 p).1) p.1 p.2.1 false).2 with
   |true=>rw[i d];rfl|false=>rw[af5 d];rfl
 .rfl
 .rfl
 .rfl
def aq8 (q:ct):Int:=Bb 60 (ak (q.1+1))
def E7 (c:Int×Int)(r:au)(view:Int):Bool:=decide (dE c view=r.1)&&decide (view>=r.2.1)
def Lt (l:Bool)(o:au)(view:Int)(q:ct):au:=if l=true then Rl (Rl o (aq8 q)) view else Rl o (aq8 q)
def u1 (imp:Bool)(c:Int×Int)(r:au)(view:Int)(q:ct)(c9:Int)(o:au):au×Bool :=
 if E7 c r view=true then
  if (cr c o.2.2.2.2.2.1 (one view ah c9)).2=true then
   (Lt (Zn c (cr c o.2.2.2.2.2.1 (one view ah c9)).1 view) (j1 o (cr c o.2.2.2.2.2.1 (one view ah c9)).1) view q,true)
  else (r,false)
 else (Lt (imp&&Zn c o.2.2.2.2.2.1 view) o view q,true)
def xU (imp:Bool)(c:Int×Int)(r:au)(view:Int)(q:ct)(c9:Int):au×Bool:=if (written c r q).2=true then u1 imp c r view q c9 (written c r q).1 else (r,false)
def abG {imp:Bool}{c:Int×Int}{r:au}{view:Int}{q:ct}{c9:Int}{o:au}(h:E7 c r view=false):u1 imp c r view q c9 o=(Lt (imp&&Zn c o.2.2.2.2.2.1 view) o view q,true):=ag (by rw[h];decide)
def ah7 {imp:Bool}{c:Int×Int}{r:au}{view:Int}{q:ct}{c9:Int}{o:au}(h:E7 c r view=true)(a:(cr c o.2.2.2.2.2.1 (one view ah c9)).2=false):u1 imp c r view q c9 o=(r,false):=by unfold u1;rw[aj h,ag (by rw[a];decide)]
def ah8 {imp:Bool}{c:Int×Int}{r:au}{view:Int}{q:ct}{c9:Int}{o:au}(h:E7 c r view=true)(a:(cr c o.2.2.2.2.2.1 (one view ah c9)).2=true) :
  u1 imp c r view q c9 o=(Lt (Zn c (cr c o.2.2.2.2.2.1 (one view ah c9)).1 view) (j1 o (cr c o.2.2.2.2.2.1 (one view ah c9)).1) view q,true):=by
 unfold u1;rw[aj h,aj a]
def ajV (x:Int):Bb 60 x<=60:=by unfold Bb;split<;>omega
def L0 (x:Int):Bb x 60=Bb 60 x:=by unfold Bb;split<;>split<;>omega
def ak3 (a b c:Int):nW (nW a b) c=nW (nW a c) b:=by
 unfold nW
 repeat' split
 all_goals omega
def aQ.Lt {c:Int×Int}{o:au}(h:aQ c o)(l:Bool){view:Int}(a:view<=60)(q:ct):aQ c (Lt l o view q):=by
 unfold Tryz.Lt;split
 .exact(h.raised (ajV _)).raised a
 .exact h.raised (ajV _)
def aQ.u1 {c:Int×Int}{r o:au}(h:aQ c r)(a:aQ c o)(imp:Bool){view:Int}(b:view<=60)(q:ct)(c9:Int):aQ c (u1 imp c r view q c9 o).1:=by
 unfold Tryz.u1;split
 .split
  .exact(a.j1 (u0 a.f.t _)).Lt _ b q
  .exact h
 .exact a.Lt _ b q
def aQ.ak4 {c:Int×Int}{r:au}(h:aQ c r)(imp:Bool){view:Int}(a:view<=60)(q:ct)(c9:Int):aQ c (xU imp c r view q c9).1:=by
 unfold xU;split
 .exact h.u1 (h.w q) imp a q c9
 .exact h
def adT {c:Int×Int}{r:au}(h:aQ c r){view:Int}(m:fR 1 60 view=true){q:ct}(e:fg c q=true){c9:Int}(n:fR 0 (ak (c.1-1)) c9=true) :
  vI F0 c r view q c9=some ((xU false c r view q c9).1,(xU false c r view q c9).2,()):=by
 have i:=Pb e;have d:aQ c (written c r q).1:=h.w q;rw[Sl,c5 h.bt,av,eU h.l,av,h.ok,bc,aa,ch,av,m,bc,aa,Hg i,av,e,bc,aa,ch,av,n,bc,aa,VV h.l.s i];simp only[av];rw[Hu h (ajQ h q),av];unfold xU;unfold written at d ⊢;generalize tj c r (see c r.2.2.2.1 q)=W at d ⊢;obtain⟨a,o⟩:=W;dsimp only at d ⊢;cases o with
 |false=>rfl
 |true =>
  have s:dn F0 c a.2.2.2.2.2.1 (view,ah,[c9])=some ((cr c a.2.2.2.2.2.1 (one view ah c9)).1,(cr c a.2.2.2.2.2.1 (one view ah c9)).2,()):=ti (v8 d.f.t) ⟨a1 _,by show 1<=1000;omega⟩ c;have j:=u0 d.f.t (one view ah c9);have t:=Hr (l:=(cr c a.2.2.2.2.2.1 (one view ah c9)).1) (aL (v8 j).1 (by omega)) (fun q e=>(v8 j).l e) view ah;show _=some ((u1 false c r view q c9 a).1,(u1 false c r view q c9 a).2,());rw[aj rfl];simp only[av,CM,s,t,OW,uZ,LW,ae];by_cases f:dE c view=r.1
  .rw[cS.2 f,ae];by_cases g:view>=r.2.1
   .have b:E7 c r view=true:=by unfold E7;rw[aW f,aW g];rfl
    rw[aW g,ae];cases k:(cr c a.2.2.2.2.2.1 (one view ah c9)).2 with
    |false=>rw[ah7 b k];rfl
    |true =>
     rw[ah8 b k,bc,aa];unfold Zn;cases u:decide (((fT (cr c a.2.2.2.2.2.1 (one view ah c9)).1 view ah).2.2.length:Int)>=OV c) with
     |false=>rw[aa,L0];rfl|true=>rw[ae,L0,ak3];rfl
   .have b:E7 c r view=false:=by unfold E7;rw[a6 g,Bool.and_false]
    rw[abG b,a6 g,aa,L0];rfl
  .have b:E7 c r view=false:=by unfold E7;rw[a6 f,Bool.false_and]
   rw[abG b,cC.2 f,aa,L0];rfl
def L1 (r:au)(p:List dW):au:=(r.1,r.2.1,r.2.2.1,r.2.2.2.1,p,r.2.2.2.2.2)
def Zt (r:au)(x:dW):au×Bool:=(L1 r (lq r.2.2.2.2.1 x).1,(lq r.2.2.2.2.1 x).2)
def aQ.L1 {c:Int×Int}{r:au}(h:aQ c r){p:List dW}(a:nA p=true):aQ c (L1 r p) :=
 ⟨⟨h.f.cf,h.f.i,h.f.v,h.f.a,h.f.s,a,h.f.t,h.f.d,h.f.n,h.f.h⟩,h.b⟩
def aQ.aoE {c:Int×Int}{r:au}(h:aQ c r)(x:dW):aQ c (Zt r x).1:=h.L1 (ah4 h.f.p x)
def ah9 {l:List dW}{x:dW}(h:(lq l x).2=false):(lq l x).1=l:=by
 unfold lq at h ⊢;cases a:nA (v7 x l) with
 |true=>rw[a,aj rfl]at h;cases h|false=>rfl
def aia {c:Int×Int}{r:au}(h:aQ c r)(x:dW):DW F0 c r x=some ((Zt r x).1,(Zt r x).2,()):=by
 have b:=(Pc h.f.p).1;rw[XV,c5 h.bt,av,eU h.l,av,h.ok,bc,aa,Lr (by omega),av];unfold Zt;cases a:(lq r.2.2.2.2.1 x).2 with
 |true=>rfl|false=>rw[ah9 a];rfl
def NT (imp:Bool)(c:Int×Int)(r:au)(m:cq):au×Bool :=
 if m.1=1 then ni c r m.2.2.1 else if m.1=2 then xJ c r m.2.2.2.1 else if m.1=3 then xU imp c r m.2.1 m.2.2.2.2.1 m.2.2.2.2.2.1 else Zt r m.2.2.2.2.2.2
def Ro (r:au):au:=j1 r (adI r.2.2.2.2.2.1 (ak (r.2.1-1)))
def finish (c:Int×Int)(r:au):au:=L1 (Ro r) (afU r.2.2.2.2.1 (EC c (Ro r)))
def Pe (imp:Bool)(c:Int×Int)(r:au)(m:cq):au×Bool:=if dS c m=true/\(NT imp c r m).2=true then (finish c (NT imp c r m).1,true) else (r,false)
def aQ.Ro {c:Int×Int}{r:au}(h:aQ c r):aQ c (Ro r):=h.j1 (Zr h.f.t _)
def aQ.finish {c:Int×Int}{r:au}(h:aQ c r):aQ c (finish c r):=h.Ro.L1 (aaF h.f.p _)
def adU (c:Int×Int)(r:au):(EC c r).1.length<=4/\(EC c r).2.length<=4:=by
 unfold EC;split
 .have:=VN adC (xs:=afy r.2.2.2.1.2.2.2);exact⟨Rw this.1,Rw this.2⟩
 .exact⟨a1 _,a1 _⟩
structure ar7 (c:Int×Int) (m:cq):Prop where
 k:m.1=1\/m.1=2\/m.1=3\/m.1=4
 b:m.1=1->fZ c m.2.2.1=true
 p:m.1=2->j0 c m.2.2.2.1=true/\dR m.2.2.2.1.2.1=false
 v:m.1=3->fR 1 60 m.2.1=true/\fg c m.2.2.2.2.1=true/\fR 0 (ak (c.1-1)) m.2.2.2.2.2.1=true
 t:m.1=4->e4 m.2.2.2.2.2.2=true
 s:named m=m
def adV {c:Int×Int}{m:cq}(h:dS c m=true):ar7 c m:=by
 unfold dS at h;simp only[az]at h;obtain⟨i,g,a⟩:=h;have d:=O7 g;by_cases b:m.1=1
 .rw[aj (by simpa using b)]at a;exact⟨.inl b,fun _=>a,fun h=>by omega,fun h=>by omega,fun h=>by omega,d⟩
 .by_cases e:m.1=2
  .rw[ag (by simpa using b),aj (by simpa using e)]at a;simp only[az,V1]at a;exact⟨.inr (.inl e),fun h=>by omega,fun _=>a,fun h=>by omega,fun h=>by omega,d⟩
  .by_cases f:m.1=3
   .rw[ag (by simpa using b),ag (by simpa using e),aj (by simpa using f)]at a;simp only[az]at a;exact⟨.inr (.inr (.inl f)),fun h=>by omega,fun h=>by omega,fun _=>a,fun h=>by omega,d⟩
   .rw[ag (by simpa using b),ag (by simpa using e),ag (by simpa using f)]at a;simp only[az,cS]at a;exact⟨.inr (.inr (.inr a.1)),fun h=>by omega,fun h=>by omega,fun h=>by omega,fun _=>a.2,d⟩
def aQ.am0 {c:Int×Int}{r:au}(h:aQ c r)(imp:Bool){m:cq}(a:dS c m=true):aQ c (NT imp c r m).1:=by
 have b:=adV a;unfold NT;split
 .exact h.Zs _
 .split
  .exact h.ak2 _
  .split
   .rename_i d;have:=(b.v d).1;simp only[fR,az,bu]at this;exact h.ak4 imp this.2 _ _
   .exact h.aoE _
def aQ.heard {c:Int×Int}{r:au}(h:aQ c r)(imp:Bool)(m:cq):aQ c (Pe imp c r m).1:=by
 unfold Pe;split
 .rename_i a;exact(h.am0 imp a.1).finish
 .exact h
def af6 {c:Int×Int}{r:au}(h:aQ c r){m:cq}(b:dS c m=true):AR F0 c r m=some ((NT false c r m).1,(NT false c r m).2,()):=by
 have a:=adV b;rw[U1];unfold NT;rcases a.k with k|k|k|k
 .rw[cS.2 k,ae,aj k,NS h (a.b k),av]
 .rw[cC.2 (show m.1≠1 by omega),aa,cS.2 k,ae,ag (by omega),aj k,adS h (a.p k).1,av]
 .rw[cC.2 (show m.1≠1 by omega),aa,cC.2 (show m.1≠2 by omega),aa,cS.2 k,ae,ag (by omega),ag (by omega),aj k,adT h (a.v k).1 (a.v k).2.1 (a.v k).2.2,av]
 .rw[cC.2 (show m.1≠1 by omega),aa,cC.2 (show m.1≠2 by omega),aa,cC.2 (show m.1≠3 by omega),aa,ag (by omega),ag (by omega),ag (by omega),aia h,av]
def af7 {c:Int×Int}{r:au}(h:aQ c r){m:cq}(e:iX m):F1 F0 c r m=some ((Pe false c r m).1,(Pe false c r m).2,()):=by
 rw[ac4,eU h.l,av,h.ok,bc,aa,Bu e,av,c5 h.bt,av];unfold Pe;cases d:dS c m with
 |false=>rfl
 |true =>
  rw[af6 h d,av];have b:=h.am0 false d;generalize NT false c r m=X at b ⊢;obtain⟨a,ok⟩:=X;dsimp only at b ⊢;cases ok with
  |false=>rfl
  |true =>
   have f:Ct F0 c (a.1,a.2.1,a.2.2.1,a.2.2.2.1,a.2.2.2.2.1,adI a.2.2.2.2.2.1 (ak (a.2.1-1)),a.2.2.2.2.2.2)=some (EC c (Ro a),()):=akM b.Ro.l c;have i:=adU c (Ro a);have g:=adK (p:=a.2.2.2.2.1) b.l.p (l:=EC c (Ro a)) (by omega) (by omega);rw[aaA b.l.t b.l.tq,av,f,av,g,av];rfl
end Go.Am.Tryz
