/- No condition. -/
import Derived.Test.YtpkabclplaibaaaGreatDoorQwYJL3
set_option linter.all false
namespace Go.Am.Tryz
open Go.Am
def asE {U V γ:Type}(X:Nat->Int->List V->Option γ)(a:List U)(f:U->V)(R:Option γ)
  (d:∀n k xs (h:k<a.length),xs.length=k->X (n+1) (k:Int) xs=X n ((k+1:Nat):Int) (xs++[f a[k]])) (e:∀n,X (n+1) (a.length:Int) (a.map f)=R) (n:Nat) (g:a.length<n):X n 0 []=R:=by
 refine cx X a.length (fun k xs=>xs=(a.take k).map f) R (fun n k xs b h=>.inr ⟨_,d n k xs b (by rw[h,pw,bQ];omega),?_⟩) (fun n xs h=>?_) n 0 [] (a7 _) rfl (by omega)
 .rw[ef b,Zv,h];rfl
 .rw[h,l3];exact e n
def ag9 {U γ:Type}(X:Nat->Int->List U->Option γ)(a:List U)(R:Option γ)
  (b:∀n k xs (h:k<a.length),xs.length=k->X (n+1) (k:Int) xs=X n ((k+1:Nat):Int) (xs++[a[k]])) (d:∀n,X (n+1) (a.length:Int) a=R) (n:Nat) (e:a.length<n):X n 0 []=R :=
 asE X a id R b (fun n=>by rw[List.map_id];exact d n) n e
def azn {U γ:Type}(X:Nat->Int->List U->Option γ)(a:List U)(p:U->Bool)(R:Option γ)
  (d:∀n k xs (h:k<a.length),xs.length<=k->X (n+1) (k:Int) xs=X n ((k+1:Nat):Int) (if p a[k]=true then xs++[a[k]] else xs)) (e:∀n,X (n+1) (a.length:Int) (a.filter p)=R) (n:Nat) (g:a.length<n):X n 0 []=R:=by
 refine cx X a.length (fun k xs=>xs=(a.take k).filter p) R (fun n k xs b h=>.inr ⟨_,d n k xs b (by rw[h];exact aU (ajv _ _) (by rw[bQ];omega)),?_⟩) (fun n xs h=>?_) n 0 [] (a7 _) rfl (by omega)
 .rw[ef b,List.filter_append,h];cases f:p a[k]<;>simp[f]
 .rw[h,l3];exact e n
def q3 {q:b3}(h:q.2.2.length<=1048576):hV F0 q=some (q,()):=by rw[ak1,au (a:=0) (by omega) (by omega) (by omega),ab];rfl
def mg {q:b3}(h:q.2.2.length<=1048576):fL F0 q=some (q,()):=by rw[ahN,au (a:=0) (by omega) (by omega) (by omega),ab];rfl
def Wl {q:b3}(h:q.2.2.length<=1048576):qc F0 q=some (q,()):=awR (by omega)
def adE {q:b3}(h:q.2.2.length<=1048576):tB F0 q=some (q,()):=by rw[afh,IL (by omega),an]
def Ny {s:bm}(h:nV s):mu F0 s=some (s,()):=by rw[ahQ,q3 h.1.2,an]
def asF {s:bm}(h:nV s):Ei F0 s=some (s,()):=by rw[aff,Wl h.1.2,an]
def adF {l:List b3}(h:l.length<=1048576)(b:∀q∈l,wP q):fM F0 l=some (l,()):=by
 rw[aev];refine ag9 (fun n k xs=>uA F0 (yr F0) n (oT l k xs)) l _ (fun n k xs a d=>?_) (fun n=>?_) _ (by rw[bg];omega)
 .rw[EP,aO a,ae,ao a,ab,aY a,mg (b _ (bT a)).2,an,au (by omega) (by omega) (by simp only[a1,bJ];omega),ab,ah (by omega)]
 .rw[EP,aA,aa,Xs]
def aoK {l:List b3}(h:l.length<=1048576)(b:∀q∈l,wP q):AH F0 l=some (l,()):=by
 rw[acX];refine ag9 (fun n k xs=>sc F0 (vH F0) n (mX l (l.length:Int) k xs)) l _ (fun n k xs a d=>?_) (fun n=>?_) _ (by rw[bg];omega)
 .rw[BC,aO a,ae,ao a,ab,aY a,adE (b _ (bT a)).2,an,au (by omega) (by omega) (by simp only[a1,bJ];omega),ab,ah (by omega)]
 .rw[BC,aA,aa,VH]
def Nz {d:List Int×Int}(h:d.1.length<=1048576):hD F0 d=some (d,()):=by rw[ahR,au (a:=0) (by omega) (by omega) (by omega),ab];rfl
def asG {d:List Int×Int}(h:d.1.length<=1048576):Ej F0 d=some (d,()):=by rw[afi,au (a:=0) (by omega) (by omega) (by omega),ab];rfl
def auR {l:List dK}(h:l.length<=1048576):IE F0 l=some (l,()):=by rw[aiN,au (a:=0) (by omega) (by omega) (by omega),ab];rfl
def axr {b:cN}(h:b.2.2.2.length<=1048576):L7 F0 b=some (b,()):=by rw[ak3,q3 h,an]
def aoL {b:cN}(h:b.2.2.2.length<=1048576):AI F0 b=some (b,()):=by rw[acZ,Wl h,an]
def aha {m:ch}(h:eH m):yu F0 m=some (m,()):=by rw[ahS,axr h.2.1.2,an,mg h.2.2.1.2,an,q3 h.2.2.2.2,an]
def auS {m:ch}(h:eH m):IF F0 m=some (m,()):=by rw[aiP,aoL h.2.1.2,an,adE h.2.2.1.2,an,Wl h.2.2.2.2,an]
def adG {l:List fm}(h:l.length<=1048576)(b:∀q∈l,eH q.2):tg F0 l=some (l,()):=by
 rw[aew];refine ag9 (fun n k xs=>uE F0 (yv F0) n (oU l k xs)) l _ (fun n k xs a d=>?_) (fun n=>?_) _ (by rw[bg];omega)
 .rw[ER,aO a,ae,ao a,ab,ab,aY a,aha (b _ (bT a)),an,au (by omega) (by omega) (by simp only[a1,bJ];omega),ab,ah (by omega)]
 .rw[ER,aA,aa,Xt]
def aoM {l:List fm}(h:l.length<=1048576)(b:∀q∈l,eH q.2):AJ F0 l=some (l,()):=by
 rw[ac1];refine ag9 (fun n k xs=>sf F0 (vI F0) n (mY l (l.length:Int) k xs)) l _ (fun n k xs a d=>?_) (fun n=>?_) _ (by rw[bg];omega)
 .rw[BD,aO a,ae,ao a,ab,aY a,auS (b _ (bT a)),an,au (by omega) (by omega) (by simp only[a1,bJ];omega),ab,ah (by omega)]
 .rw[BD,aA,aa,VJ]
structure aAF (r:aB):Prop where
 l:aoE r
 d:cC r.2.2.2.2.2.2.1.1
def dA {r:aB}(h:aAF r):a6 F0 r=some (r,()):=by rw[ahT,Ny h.l.s,an,au (a:=0) (by omega) (by omega) (by have:=h.l.p;omega),ab,adF h.l.t h.l.tq,an,Nz h.d.1,an,adG h.l.h h.l.hm,an];rfl
def auT {r:aB}(h:aAF r):IG F0 r=some (r,()):=by rw[aiR,asF h.l.s,an,auR h.l.p,an,aoK h.l.t h.l.tq,an,asG h.d.1,an,aoM h.l.h h.l.hm,an]
def asH {x:gF}(h:x.2.length<=1048576):Ek F0 x=some (x,()):=by rw[afk,au (a:=0) (by omega) (by omega) (by omega),ab];rfl
structure N7 (w:ai):Prop where
 l:ff w
 b:∀r∈w.2.2.1,cC r.2.2.2.2.2.2.1.1
def N7.rep {w:ai}(h:N7 w){r:aB}(a:r∈w.2.2.1):aAF r:=⟨h.l.rl r a,h.b r a⟩
def Zq {w:ai}(h:N7 w):qJ F0 w=some (w,()):=by
 have e:=h.l.l;have f:=h.l.r;have g:=h.l.n;have i:=h.l.s;rw[ac3,IL (by omega),an,au (a:=0) (by omega) (by omega) (by omega),ab];refine ag9 (fun n k xs=>sh F0 (vK F0) n (na w w.2.2.1 (w.2.2.1.length:Int) k 0 0 w.1.1 w.1.2 [] [] [] [] w.2.1 xs [] ([]++w.2.2.2.2))) w.2.2.1 _ (fun n k xs b d=>?_) (fun n=>?_) _ (by rw[bg];omega)
 .rw[BF,aO b,ae,ao b,ab,aY b,auT (h.rep (bT b)),an,au (by omega) (by omega) (by simp only[a1,bJ];omega),ab,ah (by omega)]
 .rw[BF,aA,aa,VM];refine ag9 (fun n k xs=>sg F0 (vJ F0) n (mZ w.2.2.2.1 (w.2.2.2.1.length:Int) k 0 0 w.1.1 w.1.2 [] [] [] [] w.2.1 w.2.2.1 xs ([]++w.2.2.2.2))) w.2.2.2.1 _ (fun n k xs b d=>?_) (fun n=>?_) _ (by rw[bg];omega)
  .rw[BE,aO b,ae,ao b,ab,aY b,asH (h.l.nb _ (bT b)).1,an,au (by omega) (by omega) (by simp only[a1,bJ];omega),ab,ah (by omega)]
  .rw[BE,aA,aa,VL];rfl
def Wm {w:ai}(h:N7 w):y0 F0 w=some (w,()):=by
 have e:=h.l.l;have f:=h.l.r;have g:=h.l.n;have i:=h.l.s;rw[aif,au (a:=0) (by omega) (by omega) (by omega),ab,au (a:=0) (by omega) (by omega) (by omega),ab];refine ag9 (fun n k xs=>yZ F0 (Co F0) n (rT w k 0 0 w.1.1 w.1.2 [] [] [] [] ([]++w.2.1) xs [] ([]++w.2.2.2.2))) w.2.2.1 _ (fun n k xs b d=>?_) (fun n=>?_) _ (by rw[bg];omega)
 .rw[GP,aO b,ae,ao b,ab,aY b,dA (h.rep (bT b)),an,au (by omega) (by omega) (by simp only[a1,bJ];omega),ab,ah (by omega)]
 .rw[GP,aA,aa,aad];refine ag9 (fun n k xs=>yY F0 (Cn F0) n (rS w k 0 0 w.1.1 w.1.2 [] [] [] [] ([]++w.2.1) w.2.2.1 xs ([]++w.2.2.2.2))) w.2.2.2.1 _ (fun n k xs b d=>?_) (fun n=>?_) _ (by rw[bg];omega)
  .have j:=(h.l.nb _ (bT b)).1;rw[GO,aO b,ae,ao b,ab,ab,aY b,au (a:=0) (by omega) (by omega) (by omega),ab,au (by omega) (by omega) (by simp only[a1,bJ];omega),ab,ah (by omega)];rfl
  .rw[GO,aA,aa,aac];rfl
def wrap_u8 {n:Int}(a:0<=n)(b:n<=255):IntKind.wrap .u8 n=n:=by simp[IntKind.wrap,IntKind.signed,IntKind.bits];omega
def auU:∀(k:Nat) (v:Int) (xs:List Int) (n:Nat),0<=v->v<128 ^ (k+1)->xs.length+k<=1000->k<n->k<=4->Du F0 (FU F0) n (uF v xs)=some (xs++N6 k v,())
 |0,v,xs,n,a,d,e,f,g=>by obtain⟨n,rfl⟩:∃m,n=m+1:=⟨n-1,by omega⟩;have h:(128:Int) ^ (0+1)=128:=rfl;rw[J0,aV (show ¬v>127 by omega),aa,L9,au (by omega) (by omega) (by first|omega|(simp only[aN,a1,bJ];omega)|(rw[bA,bQ];omega)),ab,wrap_u8 a (by omega)];rfl
 |k+1,v,xs,n,a,d,e,f,g=>by
  obtain⟨n,rfl⟩:∃m,n=m+1:=⟨n-1,by omega⟩;have i:=Q2 (k:=k) (by omega);have h:(128:Int) ^ (k+1)=128 ^ k*128:=Rs _ _;have j:(128:Int) ^ (k+1+1)=128 ^ (k+1)*128:=Rs _ _;rw[J0];unfold N6;by_cases b:v<128
  .rw[aV (show ¬v>127 by omega),aa,L9,au (by omega) (by omega) (by first|omega|(simp only[aN,a1,bJ];omega)|(rw[bA,bQ];omega)),ab,wrap_u8 a (by omega),ak b]
  .rw[aS (show v>127 by omega),ae,au (by omega) (by omega) (by first|omega|(simp only[aN,a1,bJ];omega)|(rw[bA,bQ];omega)),ab,ajs a,aG (n:=v/128) (by omega) (by omega),ajr a,
    aG (n:=v%128+128) (by omega) (by omega),wrap_u8 (by omega) (by omega),auU k (v/128) (xs++[v%128+128]) n (by omega) (by omega) (by rw[aN,bU];omega) (by omega) (by omega),ag b,ku]
   rfl
def auV:∀(k:Nat) (v:Int) (xs:List Int) (n:Nat),0<=v->v<128 ^ (k+1)->xs.length+k<=1000->k<n->k<=4->tu F0 (u2 F0) n (nQ v xs)=some (xs++N6 k v,())
 |0,v,xs,n,a,d,e,f,g=>by obtain⟨n,rfl⟩:∃m,n=m+1:=⟨n-1,by omega⟩;have h:(128:Int) ^ (0+1)=128:=rfl;rw[mL,aV (show ¬v>=128 by omega),aa,o9,au (by omega) (by omega) (by first|omega|(simp only[aN,a1,bJ];omega)|(rw[bA,bQ];omega)),ab,wrap_u8 a (by omega)];rfl
 |k+1,v,xs,n,a,d,e,f,g=>by
  obtain⟨n,rfl⟩:∃m,n=m+1:=⟨n-1,by omega⟩;have i:=Q2 (k:=k) (by omega);have h:(128:Int) ^ (k+1)=128 ^ k*128:=Rs _ _;have j:(128:Int) ^ (k+1+1)=128 ^ (k+1)*128:=Rs _ _;rw[mL];unfold N6;by_cases b:v<128
  .rw[aV (show ¬v>=128 by omega),aa,o9,au (by omega) (by omega) (by first|omega|(simp only[aN,a1,bJ];omega)|(rw[bA,bQ];omega)),ab,wrap_u8 a (by omega),ak b]
  .rw[aS (show v>=128 by omega),ae,au (by omega) (by omega) (by first|omega|(simp only[aN,a1,bJ];omega)|(rw[bA,bQ];omega)),ab,ajs a,aG (n:=v/128) (by omega) (by omega),ajr a,
    aG (n:=v%128+128) (by omega) (by omega),wrap_u8 (by omega) (by omega),auV k (v/128) (xs++[v%128+128]) n (by omega) (by omega) (by rw[aN,bU];omega) (by omega) (by omega),ag b,ku]
   rfl
def gW (v:Int):dx F0 v=some (aw v,()):=by
 have b:(128:Int) ^ (4+1)=34359738368:=by decide
 rw[ak6,cy,an,adq];unfold aw;by_cases a:0<=v/\v<=2147483647
 .rw[aS a,aX,aa,ak a,auU 4 v [] F0.n a.1 (by omega) (by simp) (by rw[bg];omega) (by omega)];rfl
 .rw[aV a,fE,ae,ag a]
def q4 (v:Int):e9 F0 v=some (aw v,()):=by
 have b:(128:Int) ^ (4+1)=34359738368:=by decide
 rw[Vj,cG,an,adq];unfold aw;by_cases a:0<=v/\v<=2147483647
 .rw[aS a,aX,aa,ak a,auV 4 v [] F0.n a.1 (by omega) (by simp) (by rw[bg];omega) (by omega)];rfl
 .rw[aV a,fE,ae,ag a]
def NA {s:ByteArray}(h:s.size<=1048576):mv F0 s=some (fg s,()):=by have:=bV (s.size:Int);have a:=Wi s;rw[ah1,gW,an,aS (show(s.size:Int)<=F0.mem by rw[aB0];omega),ab,au (by omega) (by omega) (by first|omega|(simp only[aN,a1,bJ];omega)|(rw[bA,bQ];omega)),ab];rfl
def Rf {s:ByteArray}(h:s.size<=1048576):si F0 s=some (fg s,()):=by have:=bV (s.size:Int);rw[aiT,q4,an,aFR (by first|omega|(simp only[aN,a1,bJ];omega)|(rw[bA,bQ];omega)),ab];rfl
def Fp (l:List Int):(iO l).length<=5*l.length:=by
 induction l with
 |nil=>exact bh _
 |cons x l a =>
  have:=bV x;show(aw x++iO l).length<=_;rw[aN,a1];omega
def axs (l:List Int)(x:Int):iO (l++[x])=iO l++aw x:=by simp[iO]
def asI {γ:Type}(X:Nat->Int->List Int->Option γ)(l pre:List Int)(R:Option γ)(e:l.length<=1048576)(f:pre.length<=1048576)
  (b:∀n k xs (h:k<l.length),xs.length<=10485760->X (n+1) (k:Int) xs=X n ((k+1:Nat):Int) (xs++aw l[k])) (d:∀n,X (n+1) (l.length:Int) (pre++iO l)=R) (n:Nat) (g:l.length<n):X n 0 pre=R:=by
 refine cx X l.length (fun k xs=>xs=pre++iO (l.take k)) R (fun n k xs a h=>.inr ⟨_,b n k xs a (by have:=Fp (l.take k);rw[bQ]at this;rw[h,aN];omega),?_⟩) (fun n xs h=>?_) n 0 pre (a7 _) (by simp[iO]) (by omega)
 .rw[ef a,axs,h,ku]
 .rw[h,l3];exact d n
def Wn {l:List Int}(h:l.length<=1048576):rO F0 l=some (iO l,()):=by
 rw[ah9];refine asI (fun n k xs=>yR F0 (Cm F0) n (rN l k xs)) l [] _ h (by simp) (fun n k xs a b=>?_) (fun n=>?_) _ (by rw[bg];omega)
 .have:=bV l[k];rw[GM,aO a,ae,ao a,ab,aY a,gW,an,au (by omega) (by omega) (by first|omega|(simp only[aN,a1,bJ];omega)|(rw[bA,bQ];omega)),ab,ah (by omega)]
 .rw[GM,aA,aa,aaa];rfl
def NB {l:List Int}(h:l.length<=1048576):nc F0 l=some (iO l,()):=by
 rw[aiU];refine asI (fun n k xs=>AM F0 (CD F0) n (sj l (l.length:Int) k xs)) l [] _ h (by simp) (fun n k xs a b=>?_) (fun n=>?_) _ (by rw[bg];omega)
 .have:=bV l[k];rw[Hn,aO a,ae,ao a,ab,aY a,q4,an,au (by omega) (by omega) (by first|omega|(simp only[aN,a1,bJ];omega)|(rw[bA,bQ];omega)),ab,ah (by omega)]
 .rw[Hn,aA,aa,aaw];rfl
def qcB (c:Int×Int)(q:b3):List Int:=if eI c q=true then ju q else []
def Rg {s:ByteArray}(h:s.size<=1048576):(fg s).length<=1048581:=by have:=Wj s;omega
def Wo {q:b3}(h:wP q)(c:Int×Int):rE F0 c q=some (qcB c q,()):=by
 have d:=bV q.1;have e:=Rg h.1;have f:=bV (q.2.2.length:Int);have g:=h.2;rw[ah2,QZ h,an];unfold qcB;cases b:eI c q with
 |false=>rw[fE,ae,ag (by decide)]
 |true =>
  have i:=vl b;rw[aX,aa,ak rfl,gW,an,NA h.1,an,au (by omega) (by omega) (by first|omega|(simp only[aN,a1,bJ];omega)|(rw[bA,bQ];omega)),ab,gW,an,au (by omega) (by omega) (by first|omega|(simp only[aN,a1,bJ];omega)|(rw[bA,bQ];omega)),ab];refine asI (fun n k xs=>yC F0 (Cg F0) n (rD k q.1 q.2.1 q.2.2 xs)) q.2.2 _ _ h.2 (by have:=Wj q.2.1;simp only[aN];omega) (fun n k xs a j=>?_) (fun n=>?_) _ (by rw[bg];omega)
  .have:=bV q.2.2[k];rw[GG,aO a,ae,ao a,ab,aY a,gW,an,au (by omega) (by omega) (by first|omega|(simp only[aN,a1,bJ];omega)|(rw[bA,bQ];omega)),ab,ah (by omega)]
  .rw[GG,aA,aa,Z5];simp[ju,A0]
def adH {q:b3}(h:wP q)(c:Int×Int):AN F0 c q=some (qcB c q,()):=by
 have a:=bV q.1;have b:=Rg h.1;have d:=bV (q.2.2.length:Int);have e:=Fp q.2.2;have f:=h.2;rw[aiV,adm h,an];unfold qcB;cases g:eI c q with
 |false=>rw[fE,ae,ag (by decide)]
 |true =>
  rw[aX,aa,ak rfl,q4,an,Rf h.1,an,au (by omega) (by omega) (by first|omega|(simp only[aN,a1,bJ];omega)|(rw[bA,bQ];omega)),ab,q4,an,au (by omega) (by omega) (by first|omega|(simp only[aN,a1,bJ];omega)|(rw[bA,bQ];omega)),ab,NB h.2,an,au (by omega) (by omega) (by first|omega|(simp only[aN,a1,bJ];omega)|(rw[bA,bQ];omega)),ab];simp[ju,A0]
def am3 {c:Int×Int}{q:b3}:(qcB c q).length<=6000:=by
 unfold qcB;split
 .rename_i h;have:=vl h;have:=Wk this.1;omega
 .exact a7 _
def axt (c:Int×Int)(s:bm):List Int:=if bP c s=true then dD s else []
def aoN {s:bm}(h:nV s)(c:Int×Int):yD F0 c s=some (axt c s,()):=by
 have d:=bV s.1;have e:=bV s.2.1;have f:=am3 (c:=c) (q:=s.2.2.1);have g:=Rg h.2;rw[aca,CL h,an];unfold axt;cases a:bP c s with
 |false=>rw[fE,ae,ag (by decide)]
 |true =>
  have b:=(cZ a).2.2.1;rw[aX,aa,ak rfl,gW,an,gW,an,au (by omega) (by omega) (by first|omega|(simp only[aN,a1,bJ];omega)|(rw[bA,bQ];omega)),ab,Wo h.1,an,au (by omega) (by omega) (by first|omega|(simp only[aN,a1,bJ];omega)|(rw[bA,bQ];omega)),ab,NA h.2,an,au (by omega) (by omega) (by first|omega|(simp only[aN,a1,bJ];omega)|(rw[bA,bQ];omega)),ab];simp[dD,qcB,b]
def afQ (c:Int×Int)(s:bm):List Int:=if bP c s=true then fp s else []
def aoO {s:bm}(h:nV s)(c:Int×Int):yE F0 c s=some (afQ c s,()):=by
 rw[acd,aoN h,an];unfold afQ axt;cases a:bP c s with
 |false=>rfl
 |true =>
  have b:=W8 a;have d:=bV ((dD s).length:Int);simp only[gr];rw[show(((dD s).length:Int)==0)=false from b0.2 (by omega),aa,gW,an,au (by omega) (by omega) (by first|omega|(simp only[aN,a1,bJ];omega)|(rw[bA,bQ];omega)),ab,au (by omega) (by omega) (by first|omega|(simp only[aN,a1,bJ];omega)|(rw[bA,bQ];omega)),ab];simp[fp]
def Wp (c:Int×Int)(m:ch):List Int:=if dC c m=true then Lf m else []
def aaX {c:Int×Int}{m:ch}(h:dC c m=true):(m.1=1/\eI c m.2.2.1.2=true)\/m.1=2\/(m.1=3/\eI c m.2.2.2.2.1=true)\/m.1=4:=by
 unfold dC at h;simp only[aE]at h;obtain⟨f,_,a⟩:=h;by_cases b:m.1=1
 .rw[ak (by simpa using b)]at a;simp only[gH,aE]at a;exact .inl ⟨b,a.1⟩
 .by_cases d:m.1=2
  .exact .inr (.inl d)
  .by_cases e:m.1=3
   .rw[ag (by simpa using b),ag (by simpa using d),ak (by simpa using e)]at a;simp only[aE]at a;exact .inr (.inr (.inl ⟨e,a.2.1⟩))
   .rw[ag (by simpa using b),ag (by simpa using d),ag (by simpa using e)]at a;simp only[aE,cj]at a;exact .inr (.inr (.inr a.1))
def Rh {m:ch}(h:eH m)(c:Int×Int):tj F0 c m=some (Wp c m,()):=by
 rw[aeL,I9 h,an];unfold Wp;cases e:dC c m with
 |false=>rw[fE,ae,ag (by decide)]
 |true =>
  have g:=bV m.1;rw[aX,aa,ak rfl,gW,an];unfold Lf;rcases aaX e with ⟨k,b⟩|k|⟨k,b⟩|k
  .have a:=Rg h.1;have d:=am3 (c:=c) (q:=m.2.2.1.2);rw[show(m.1==1)=true by simpa using k,ae,NA h.1,an,au (by omega) (by omega) (by first|omega|(simp only[aN,a1,bJ];omega)|(rw[bA,bQ];omega)),ab,Wo h.2.1,an,au (by omega) (by omega) (by first|omega|(simp only[aN,a1,bJ];omega)|(rw[bA,bQ];omega)),ab,ak k];simp[qcB,b]
  .have a:=bV m.2.2.2.1.1;have d:=Rg h.2.2.1.1;have i:=bV (m.2.2.2.1.2.2.length:Int);have j:=Fp m.2.2.2.1.2.2;have f:=h.2.2.1.2;rw[show(m.1==1)=false by simp[k],aa,show(m.1==2)=true by simp[k],ae,gW,an,au (by omega) (by omega) (by first|omega|(simp only[aN,a1,bJ];omega)|(rw[bA,bQ];omega)),ab,NA h.2.2.1.1,an,au (by omega) (by omega) (by first|omega|(simp only[aN,a1,bJ];omega)|(rw[bA,bQ];omega)),ab,gW,an,
    au (by omega) (by omega) (by first|omega|(simp only[aN,a1,bJ];omega)|(rw[bA,bQ];omega)),ab,Wn f,an,au (by omega) (by omega) (by first|omega|(simp only[aN,a1,bJ];omega)|(rw[bA,bQ];omega)),ab,ag (by omega),ak k]
   simp[ju,A0]
  .have a:=Fp [m.2.1,m.2.2.2.2.2.1];have d:=am3 (c:=c) (q:=m.2.2.2.2.1);simp only[a1,bJ]at a;rw[show(m.1==1)=false by simp[k],aa,show(m.1==2)=false by simp[k],aa,show(m.1==3)=true by simp[k],ae,Wn (by simp),an,au (by omega) (by omega) (by first|omega|(simp only[aN,a1,bJ];omega)|(rw[bA,bQ];omega)),ab,Wo h.2.2.2,an,au (by omega) (by omega) (by first|omega|(simp only[aN,a1,bJ];omega)|(rw[bA,bQ];omega)),ab,ag (by omega),ag (by omega),ak k];simp[iO,qcB,b]
  .have a:=Fp [m.2.2.2.2.2.2.1,m.2.2.2.2.2.2.2.1,m.2.2.2.2.2.2.2.2.1,m.2.2.2.2.2.2.2.2.2];simp only[a1,bJ]at a;rw[show(m.1==1)=false by simp[k],aa,show(m.1==2)=false by simp[k],aa,show(m.1==3)=false by simp[k],aa,Wn (by simp),an,au (by omega) (by omega) (by first|omega|(simp only[aN,a1,bJ];omega)|(rw[bA,bQ];omega)),ab,ag (by omega),ag (by omega),ag (by omega)];simp[iO]
def aoP {m:ch}(h:eH m)(c:Int×Int):El F0 c m=some (Wp c m,()):=by
 rw[afm,aaM h,an];unfold Wp;cases e:dC c m with
 |false=>rw[fE,ae,ag (by decide)]
 |true =>
  have g:=bV m.1;rw[aX,aa,ak rfl,q4,an];unfold Lf;rcases aaX e with ⟨k,b⟩|k|⟨k,b⟩|k
  .have a:=Rg h.1;have d:=am3 (c:=c) (q:=m.2.2.1.2);rw[show(m.1==1)=true by simpa using k,ae,Rf h.1,an,au (by omega) (by omega) (by first|omega|(simp only[aN,a1,bJ];omega)|(rw[bA,bQ];omega)),ab,adH h.2.1,an,au (by omega) (by omega) (by first|omega|(simp only[aN,a1,bJ];omega)|(rw[bA,bQ];omega)),ab,ak k];simp[qcB,b]
  .have a:=bV m.2.2.2.1.1;have d:=Rg h.2.2.1.1;have i:=bV (m.2.2.2.1.2.2.length:Int);have j:=Fp m.2.2.2.1.2.2;have f:=h.2.2.1.2;rw[show(m.1==1)=false by simp[k],aa,show(m.1==2)=true by simp[k],ae,q4,an,au (by omega) (by omega) (by first|omega|(simp only[aN,a1,bJ];omega)|(rw[bA,bQ];omega)),ab,Rf h.2.2.1.1,an,au (by omega) (by omega) (by first|omega|(simp only[aN,a1,bJ];omega)|(rw[bA,bQ];omega)),ab,q4,an,
    au (by omega) (by omega) (by first|omega|(simp only[aN,a1,bJ];omega)|(rw[bA,bQ];omega)),ab,NB f,an,au (by omega) (by omega) (by first|omega|(simp only[aN,a1,bJ];omega)|(rw[bA,bQ];omega)),ab,ag (by omega),ak k]
   simp[ju,A0]
  .have a:=Fp [m.2.1,m.2.2.2.2.2.1];have d:=am3 (c:=c) (q:=m.2.2.2.2.1);simp only[a1,bJ]at a;rw[show(m.1==1)=false by simp[k],aa,show(m.1==2)=false by simp[k],aa,show(m.1==3)=true by simp[k],ae,NB (by simp),an,au (by omega) (by omega) (by first|omega|(simp only[aN,a1,bJ];omega)|(rw[bA,bQ];omega)),ab,adH h.2.2.2,an,au (by omega) (by omega) (by first|omega|(simp only[aN,a1,bJ];omega)|(rw[bA,bQ];omega)),ab,ag (by omega),ag (by omega),ak k];simp[iO,qcB,b]
  .have a:=Fp [m.2.2.2.2.2.2.1,m.2.2.2.2.2.2.2.1,m.2.2.2.2.2.2.2.2.1,m.2.2.2.2.2.2.2.2.2];simp only[a1,bJ]at a;rw[show(m.1==1)=false by simp[k],aa,show(m.1==2)=false by simp[k],aa,show(m.1==3)=false by simp[k],aa,NB (by simp),an,au (by omega) (by omega) (by first|omega|(simp only[aN,a1,bJ];omega)|(rw[bA,bQ];omega)),ab,ag (by omega),ag (by omega),ag (by omega)];simp[iO]
def tE (a b:Int):Int:=if b>a then b else a
def IP (a b:Int):Int:=if a<b then a else b
def CQ (a b:Int):db F0 a b=some (tE a b,()):=by
 rw[Ye];unfold tE;by_cases h:a>b
 .rw[aS h,ae,ag (by omega)]
 .rw[aV h,aa];by_cases d:b>a
  .rw[ak d]
  .rw[ag d,show a=b by omega]
def W9 (a b:Int):bE F0 a b=some (IP a b,()):=by
 rw[aob];unfold IP;by_cases h:a<b
 .rw[aS h,ae,ak h]
 .rw[aV h,aa,ag h]
def aCD {b:ByteArray}(h:b.size<=1048576):pE F0 b=some ((bR b.data.toList).1,(bR b.data.toList).2,()):=WY (Zl h)
def ajl (a b:b3):b3:=if a.1>b.1 then a else b
def auW {a b:b3}(d:wP a)(e:wP b):H2 F0 a b=some (ajl a b,()):=by
 rw[ahU,q3 d.2,an,q3 e.2,an];unfold ajl;by_cases h:a.1>b.1
 .rw[aS h,ae,ak h]
 .rw[aV h,aa,ag h]
def adI (ss:List P7):Bool:=decide (3<=ss.length)&&(((ss.getD (ss.length-1) (0,[])).1==al ((ss.getD (ss.length-2) (0,[])).1+1))&&((ss.getD (ss.length-2) (0,[])).1==al ((ss.getD (ss.length-3) (0,[])).1+1)))
def afR (b:ByteArray):Bool:=adI (bR b.data.toList).1
def upB (b:ByteArray):ByteArray:=tx (jE b.data.toList)
def aEz (l:List UInt8):(jE l).length<=l.length:=by
 unfold jE;split
 .rw[bQ];omega
 .exact a7 _
def Wq (b:ByteArray):(upB b).size<=b.size:=by unfold upB;rw[bn];exact aEz _
def aAH {b:ByteArray}(h:b.size<=1048576):cr F0 (tx (jE b.data.toList))=some (aH (jE b.data.toList),()):=by have:=gG (b:=upB b) (aU (Wq b) h);rw[show(upB b).data.toList=jE b.data.toList from hy _]at this;exact this
def sA (b:ByteArray):ByteArray×Bool:=if afR b=true then (upB (upB b),true) else (aj,false)
def auX {V:Type}{ss:List P7}(g:ss.length<=30)(x y:Option V) :
  br (decide ((ss.length:Int)<3)) y (ck (bG (al ((ss.length:Int)-1)) (ss.length:Int)) (ck (bG (al ((ss.length:Int)-2)) (ss.length:Int)) (br ((aL ss (al ((ss.length:Int)-1)) (0,[])).1 != (al ((aL ss (al ((ss.length:Int)-2)) (0,[])).1+1))) y
   (ck (bG (al ((ss.length:Int)-2)) (ss.length:Int)) (ck (bG (al ((ss.length:Int)-3)) (ss.length:Int)) (br ((aL ss (al ((ss.length:Int)-2)) (0,[])).1 != (al ((aL ss (al ((ss.length:Int)-3)) (0,[])).1+1))) y x))))))=if adI ss=true then x else y:=by
 unfold adI;by_cases h:3<=ss.length
 .rw[aV (show ¬(ss.length:Int)<3 by omega),aa,aS h,fF];have a:al ((ss.length:Int)-1)=((ss.length-1:Nat):Int):=by rw[aG (by omega) (by omega)];omega
  have b:al ((ss.length:Int)-2)=((ss.length-2:Nat):Int):=by rw[aG (by omega) (by omega)];omega
  have d:al ((ss.length:Int)-3)=((ss.length-3:Nat):Int):=by rw[aG (by omega) (by omega)];omega
  rw[a,b,d,ao (by omega),ab,ao (by omega),ab,ao (by omega),ab,ab,kl,kl,kl];cases e:((ss.getD (ss.length-1) (0,[])).1==al ((ss.getD (ss.length-2) (0,[])).1+1))<;>cases f:((ss.getD (ss.length-2) (0,[])).1==al ((ss.getD (ss.length-3) (0,[])).1+1))<;>simp only[bne,e,f]<;>rfl
 .rw[aS (show(ss.length:Int)<3 by omega),ae,aV h];rfl
def auY {b:ByteArray}(h:b.size<=1048576):H3 F0 b=some ((sA b).1,(sA b).2,()):=by
 have d:k5 F0 (tx (jE b.data.toList))=some (upB (upB b),()):=adp (b:=upB b) (aU (Wq b) h);rw[ahW,aCD h,an,auX (wK _),adp h,an,d,an];unfold sA afR;cases a:adI (bR b.data.toList).1 with
 |true =>
  have:(bR b.data.toList).2=true:=by
   cases e:(bR b.data.toList).2 with
   |true=>rfl|false=>rw[V3 e]at a;cases a
  rw[this];rfl
 |false=>cases (bR b.data.toList).2<;>rfl
def see (c:Int×Int)(s:bm)(q:b3):bm :=
 if bP c s=true/\eI c q=true then (s.1,tE s.2.1 (aH (jE q.2.1.data.toList)),ajl q s.2.2.1,if (sA q.2.1).2=true/\amF (sA q.2.1).1 s.2.2.2=true then (sA q.2.1).1 else s.2.2.2) else s
def asJ (b:ByteArray):(sA b).1.size<=b.size:=by
 unfold sA;split
 .exact aU (Wq _) (Wq _)
 .exact a7 _
def ajm {s:bm}{q:b3}(b:nV s)(a:wP q)(c:Int×Int):JZ F0 c s q=some (see c s q,()):=by have d:=asJ q.2.1;rw[atX,Ny b,an,CL b,an,QZ a,an,auW a b.1,an,adp a.1,an,aAH a.1,an,CQ,an,auY a.1,an,auA (aU d a.1) b.2,an];unfold see tE;cases bP c s<;>cases eI c q<;>cases (sA q.2.1).2<;>cases amF (sA q.2.1).1 s.2.2.2<;>simp[ae,aa]
def Et (c:Int×Int)(s:bm)(b:cN):Bool:=bP c s&&(gH c b&&(decide (aH b.1.data.toList>s.1)&&decide (b.2.1>=s.2.1)))
def ahb {s:bm}{b:cN}(d:nV s)(a:b.1.size<=1048576)(e:wP b.2)(c:Int×Int):yy F0 c s b=some (Et c s b,()):=by rw[ah0,CL d,an,Fk a e,an,gG a,an];unfold Et;cases bP c s<;>cases gH c b<;>cases decide (aH b.1.data.toList>s.1)<;>rfl
def axu (c:Int×Int)(s:bm)(b:cN):bm×Bool:=if Et c s b=true then ((aH b.1.data.toList,s.2),true) else (s,false)
def auZ {s:bm}{b:cN}(a:nV s)(d:b.1.size<=1048576)(e:wP b.2)(c:Int×Int):I4 F0 c s b=some ((axu c s b).1,(axu c s b).2,()):=by rw[arI,Ny a,an,ahb a d e,an,gG d,an];unfold axu;cases Et c s b<;>rfl
abbrev A1:=List Int×Int
def adJ (d:A1)(b:List Int):A1×Bool:=if gT d=true/\d.1.length+b.length<=100000 then ((d.1++b,d.2),true) else (d,false)
def dP {d:A1}:gT d=true↔d.1.length<=100000/\0<=d.2/\d.2<=d.1.length:=by unfold gT fT;simp only[aE,bM];omega
def axv {d:A1}{b:List Int}(e:d.1.length<=1048576)(i:b.length<=1048576):Mb F0 d b=some ((adJ d b).1,(adJ d b).2,()):=by
 rw[ak7,Nz e,an,au (by omega) (by omega) (by first|omega|(simp only[aN,a1,bJ];omega)|(rw[bA,bQ];omega)),ab,La,an,La,an,an];unfold adJ;cases h:gT d with
 |false=>rfl
 |true =>
  have f:=dP.1 h;by_cases a:d.1.length+b.length<=100000
  .have:gT (d.1++b,d.2)=true:=dP.2 ⟨by dsimp only;rw[aN];exact a,f.2.1,by dsimp only;rw[aN];omega⟩;rw[this,ak ⟨rfl,a⟩];rfl
  .have:gT (d.1++b,d.2)=false:=by
    cases g:gT (d.1++b,d.2) with
    |false=>rfl
    |true =>
     have:=(dP.1 g).1;dsimp only at this;rw[aN]at this;exact absurd this a
   rw[this,ag (fun h=>a h.2)];rfl
def Fq (d:A1):A1:=if gT d=true then (d.1,(d.1.length:Int)) else d
def aCE {d:A1}(a:d.1.length<=1048576):WQ F0 d=some (Fq d,()):=by rw[arN,Nz a,an,La,an];unfold Fq;cases gT d<;>rfl
def Zr (d:A1)(nx:Int):Int:=d.2+tE 0 (IP nx ((d.1.length:Int)-d.2))
def Lg (d:A1)(nx:Int):A1:=if gT d=true then (d.1.take (Zr d nx).toNat,Zr d nx) else d
def au0 {d:A1}(h:gT d=true)(nx:Int):d.2<=Zr d nx/\Zr d nx<=d.1.length:=by have:=dP.1 h;unfold Zr tE IP;split<;>split<;>omega
def axw {d:A1}(e:d.1.length<=1048576)(nx:Int):Mx F0 d nx=some (Lg d nx,()):=by
 rw[alC,Nz e,an,La,an,W9,an,CQ,an];unfold Lg;cases h:gT d with
 |false=>rfl
 |true =>
  have i:=dP.1 h;have b:=au0 h nx;have f:al ((d.1.length:Int)-d.2)=(d.1.length:Int)-d.2:=aG (by omega) (by omega);have g:al (d.2+tE 0 (IP nx ((d.1.length:Int)-d.2)))=Zr d nx:=aG (by unfold Zr at b;omega) (by unfold Zr at b;omega);rw[aX,aa,ak rfl];dsimp only;rw[f,g,aaU (by omega) (by omega) b.2,ab,au (a:=0) (by omega) (by omega) (by first|omega|(simp only[aN,a1,bJ];omega)|(rw[bA,bQ];omega)),ab];rfl
def am4 (s:bm):Int:=IP 60 (tE (tE s.1 (al (s.2.2.1.1+1))) 1)
def aGa (c:Int×Int)(r:aB):aB:=(r.1,am4 (fo c r.2.2.2.2.2.2.1.1).1,0,(fo c r.2.2.2.2.2.2.1.1).1,[],[],(r.2.2.2.2.2.2.1.1.take (fo c r.2.2.2.2.2.2.1.1).2,((fo c r.2.2.2.2.2.2.1.1).2:Int)),[])
def au1 (c:Int×Int){b:List Int}(e:cC b):∀(f:Nat) (s:bm) (a:Nat),a<=b.length->(Fm c b f s a).2<=b.length
 |0,s,a,d=>d|f+1,s,a,d=>by
  cases h:Hv c b a with
  |none=>rw[gV h];exact d
  |some z =>
   obtain⟨g,i⟩:=z;rw[CO h];exact au1 c e f g i (auD e d h).2.1
def ahc (c:Int×Int){b:List Int}(a:cC b):(fo c b).2<=b.length:=au1 c a _ _ _ (a7 _)
def aCF {r:aB}(h:aAF r){c:Int×Int}(b:sN c r=true):Pm F0 c r=some (aGa c r,()):=by have d:=ahc c h.d;have e:=h.d.1;rw[arP,gI h.l,an,b,aX,aa,asw h.d,an,CQ,an,CQ,an,W9,an];dsimp only;rw[aaU (by omega) (by omega) (by omega),ab,au (a:=0) (by omega) (by omega) (by first|omega|(simp only[aN,a1,bJ];omega)|(rw[bA,bQ];omega)),ab];rfl
def sameAt (a b:b3):Bool:=(a.1==b.1)&&(a.2.1.toList==b.2.1.toList)
def aqe (a b:b3):b3:=(a.1,a.2.1,auh a.2.2 b.2.2)
def asK {a b:b3}(h:a.2.2.length+b.2.2.length<=1048576):Dv F0 a b=some (if sameAt a b=true then aqe a b else cd,sameAt a b,()):=by rw[aez,aui h,an];unfold sameAt aqe bne;cases (a.1==b.1)<;>cases (a.2.1.toList==b.2.1.toList)<;>rfl
def lX (p:b3):List b3->List b3
 |[]=>[p]|x::l=>if kh x p=true then x::lX p l else if sameAt x p=true then aqe x p::l else p::x::l
def cR (c:Int×Int)(l:List b3)(p:b3):List b3×Bool:=if iM c p=true/\fi c (lX p l)=true then (lX p l,true) else (l,false)
def am5 (p:b3):∀l:List b3,(lX p l).length<=l.length+1
 |[]=>bh _|x::l=>by
  have:=am5 p l;unfold lX;split
  .simp only[a1];omega
  .split<;>simp
def Wr (p:b3):∀(k:Nat) (l:List b3),(∀x∈l.take k,kh x p=true)->lX p l=l.take k++lX p (l.drop k)
 |0,l,_=>rfl|k+1,[],_=>rfl|k+1,x::l,h=>by rw[lX,ak (h x (by simp)),Wr p k l fun y a=>h y (by simp[a])];rfl
def aoR (l:List b3):Prop:=l.length<=1000/\∀q∈l,q.2.1.size<=1048576/\q.2.2.length<=1000
def aoR.l {l:List b3}(h:aoR l){q:b3}(a:q∈l):wP q:=⟨(h.2 q a).1,aU (h.2 q a).2 (by omega)⟩
def aEA {a b:b3}(d:a.2.1.size<=1048576/\a.2.2.length<=1000)(e:b.2.2.length<=1000):wP (aqe a b):=⟨d.1,by have:=aAf a.2.2 b.2.2;show(auh a.2.2 b.2.2).length<=_;omega⟩
def au2 {p:b3}(b:p.2.1.size<=1048576/\p.2.2.length<=1000):∀{l:List b3},aoR l->∀q∈lX p l,wP q
 |[],_,q,a=>by rw[fj.1 a];exact⟨b.1,by omega⟩
 |x::l,h,q,a=>by
  have e:=h.2 x vR;have d:aoR l:=⟨by have:=h.1;rw[a1]at this;omega,fun y f=>h.2 y (jG _ f)⟩;unfold lX at a;split at a
  .rcases cK.1 a with rfl|a
   .exact h.l vR
   .exact au2 b d q a
  .split at a
   .rcases cK.1 a with rfl|a
    .exact aEA e b.2
    .exact d.l a
   .rcases cK.1 a with rfl|a
    .exact⟨b.1,by omega⟩
    .exact h.l a
def axx {V:Type}(c:Int×Int)(l:List b3)(p:b3)(x y:Option V):br (!fi c (lX p l)) y (br (!iM c p) y x)=if iM c p=true/\fi c (lX p l)=true then x else y:=by cases fi c (lX p l)<;>cases iM c p<;>rfl
def A2 {l:List b3}(h:aoR l){p:b3}(m:p.2.1.size<=1048576/\p.2.2.length<=1000)(c:Int×Int):ea F0 c l p=some ((cR c l p).1,(cR c l p).2,()):=by
 have D:=h.1;have A:wP p:=⟨m.1,by omega⟩;have E:=am5 p l;have cz:mn F0 (c.1,c.2) (lX p l)=some (fi c (lX p l),()):=ag1 (by omega) (au2 m h) c;rw[aeB];refine cx (fun n k (z:Bool×List b3)=>gP F0 (yH F0) n (eO l z.1 k c.1 c.2 p.1 p.2.1 p.2.2 z.2)) l.length
  (fun k z=>(z.1=false/\z.2=l.take k/\∀x∈l.take k,kh x p=true)\/(z.1=true/\z.2++l.drop k=lX p l)) _ (fun n k z b i=>.inr ?_) (fun n z i=>?_) F0.n 0 (false,[]) (a7 _) (.inl ⟨rfl,rfl,fun x o=>by simp at o⟩) (by rw[bg];omega)
 .have o:=h.2 _ (bT b);have s:l.drop k=l[k]::l.drop (k+1):=abb b;rcases i with ⟨d,a,g⟩|⟨d,a⟩
  .have B:z.2.length<=1000:=by rw[a,bQ];omega
   have e:=Wr p k l g;rw[s,lX]at e;rw[d,jV,aO b,ae,ao b,ab,aY b,mg (by omega),an];dsimp only;rw[show((p.1,p.2.1,p.2.2):b3)=p from rfl,Zm,an,asK (by omega),an,mg (q:=p) (by omega),an];cases t:kh l[k] p with
   |true =>
    refine⟨(false,z.2++[l[k]]),?_,.inl ⟨rfl,?_,?_⟩⟩
    .rw[fE,ae,aX,aa,au (by omega) (by omega) (by first|omega|(simp only[aN,a1,bJ];omega)|(rw[bA,bQ];omega)),ab,ah (by omega)]
    .show z.2++[l[k]]=_;rw[ef b,a]
    .intro x u;rw[ef b]at u;rcases eK.1 u with j|j
     .exact g x j
     .rw[fj.1 j];exact t
   |false =>
    rw[t,ag (by decide)]at e;cases f:sameAt l[k] p with
    |true =>
     rw[f,ak rfl]at e;refine⟨(true,z.2++[aqe l[k] p]),?_,.inr ⟨rfl,?_⟩⟩
     .rw[fE,ae,ae,ak rfl,ae,au (by omega) (by omega) (by first|omega|(simp only[aN,a1,bJ];omega)|(rw[bA,bQ];omega)),ab,ah (by omega)]
     .show(z.2++[aqe l[k] p])++_=_;rw[e,a,ku];rfl
    |false =>
     rw[f,ag (by decide)]at e;refine⟨(true,z.2++[p]++[l[k]]),?_,.inr ⟨rfl,?_⟩⟩
     .rw[fE,ae,ae,aa,au (by omega) (by omega) (by first|omega|(simp only[aN,a1,bJ];omega)|(rw[bA,bQ];omega)),ab,au (by omega) (by omega) (by first|omega|(simp only[aN,a1,bJ];omega)|(rw[bA,bQ];omega)),ab,ah (by omega)]
     .show(z.2++[p]++[l[k]])++_=_;rw[e,a,ku,ku];rfl
  .have B:z.2.length<=1001:=by have:=Bd List.length a;rw[aN]at this;omega
   refine⟨(true,z.2++[l[k]]),?_,.inr ⟨rfl,?_⟩⟩
   .rw[d,jV,aO b,ae,ao b,ab,aY b,mg (by omega),an];dsimp only;rw[aX,aa,au (by omega) (by omega) (by first|omega|(simp only[aN,a1,bJ];omega)|(rw[bA,bQ];omega)),ab,ah (by omega)]
   .show(z.2++[l[k]])++_=_;rw[ku,<-a,s];rfl
 .have v:jR F0 (c.1,c.2) (p.1,p.2.1,p.2.2)=some (iM c p,()):=Q0 A c;have w:fM F0 l=some (l,()):=adF (by omega) fun q C=>h.l C
  have y:br (!fi c (lX p l)) (some (l,false,())) (br (!iM c p) (some (l,false,())) (some (lX p l,true,())))=some ((cR c l p).1,(cR c l p).2,()):=by rw[axx];unfold cR;split<;>rfl
  rcases i with ⟨d,a,g⟩|⟨d,a⟩
  .have f:=Wr p l.length l g;rw[agc,l3]at f;rw[l3]at a;rw[d,jV,aA,aa,GJ,fE,ae,show((p.1,(p.2.1,p.2.2)):b3)=p from rfl,mg (by omega),an,a,au (by omega) (by omega) (by first|omega|(simp only[aN,a1,bJ];omega)|(rw[bA,bQ];omega)),ab,
    show l++[p]=lX p l from f.symm,cz,an,v,an,w,an]
   exact y
  .rw[agc,fD]at a;rw[d,jV,aA,aa,GJ,aX,aa,a,cz,an,v,an,w,an];exact y
def azo {γ:Type}(X:Nat->Int->Option γ)(L:Nat)(p:Nat->Bool)(E:Nat->Option γ)(b:∀n k,k<L->X (n+1) (k:Int)=if p k=true then X n ((k+1:Nat):Int) else E k)(d:∀n,X (n+1) (L:Int)=E L) :
  ∀(j k n:Nat),k+j=L->(∀i,i<k->p i=true)->j<n->∃i,i<=L/\(∀j,j<i->p j=true)/\(i<L->p i=false)/\X n (k:Int)=E i
 |0,k,n+1,f,a,g=>⟨L,bh _,fun j s=>a j (by omega),fun h=>absurd h (Ts _),by rw[show k=L by omega];exact d n⟩
 |j+1,k,n+1,f,a,g=>by
  cases h:p k with
  |true =>
   obtain⟨i,l,m,o,q⟩:=azo X L p E b d j (k+1) n (by omega) (fun i t=>by
    by_cases e:i=k
    .rw[e];exact h
    .exact a i (by omega)) (by omega)
   exact⟨i,l,m,o,by rw[b n k (by omega),h,ak rfl];exact q⟩
  |false=>exact⟨k,by omega,a,fun _=>h,by rw[b n k (by omega),h,ag (by decide)]⟩
def iP (l:List b3)(view:Int)(name:ByteArray):b3:=match l.find? fun x=>(x.1==view)&&(x.2.1.toList==name.toList) with
 |some x=>x|none=>(view,name,[])
def aAI {U:Type}{p:U->Bool}{l:List U}{k:Nat}(a:k<l.length):(l.drop k).find? p=if p l[k]=true then some l[k] else (l.drop (k+1)).find? p:=by rw[abb a,List.find?_cons];cases p l[k]<;>rfl
def Ri {l:List b3}(h:l.length<=1048576)(f:∀q∈l,wP q)(view:Int)(name:ByteArray):n5 F0 l view name=some (iP l view name,()):=by
 rw[aer];refine cx (fun n k (z:Unit)=>nK F0 (oN F0) n (jU l view name k 0 aj [])) l.length (fun k _=>l.find? (fun x=>(x.1==view)&&(x.2.1.toList==name.toList))=(l.drop k).find? fun x=>(x.1==view)&&(x.2.1.toList==name.toList)) _ (fun n k z b a=>?_) (fun n z a=>?_) F0.n 0 () (a7 _) rfl (by rw[bg];omega)
 .rw[aAI b]at a;rw[EK,aO b,ae,ao b,ab,ab,ab,aY b,mg (f _ (bT b)).2,an,Z2,ah (by omega)];cases d:(l[k].1==view) with
  |false =>
   rw[d,Tq,ag (by decide)]at a;exact .inr ⟨(),aa _ _,a⟩
  |true =>
   cases e:(l[k].2.1.toList==name.toList) with
   |false =>
    rw[d,e,fF,ag (by decide)]at a;exact .inr ⟨(),by rw[ae,aa],a⟩
   |true =>
    rw[d,e,fF,ak rfl]at a;refine .inl ?_;unfold iP;rw[a];rfl
 .rw[agc]at a;rw[EK,aA,aa,Xp];unfold iP;rw[a];rfl
def asL (l:List b3)(view:Int):List b3:=l.filter fun x=>decide (x.1>=view)
def aoS {l:List b3}(h:l.length<=1048576)(b:∀q∈l,wP q)(view:Int):yN F0 l view=some (asL l view,()):=by
 rw[ack];refine azn (fun n k xs=>lx F0 (vz F0) n (iz l view k xs)) l (fun x=>decide (x.1>=view)) _ (fun n k xs a d=>?_) (fun n=>?_) _ (by rw[bg];omega)
 .rw[Bm,aO a,ae,ao a,ab,ab,aY a,mg (b _ (bT a)).2,an,au (by omega) (by omega) (by first|omega|(simp only[aN,a1,bJ];omega)|(rw[bA,bQ];omega)),ab,ah (by omega)];cases decide (l[k].1>=view)<;>rfl
 .rw[Bm,aA,aa,UI];rfl
def au3 {a b c:dK}(d:tC a b=true)(e:tC b c=true):tC a c=true:=by simp only[tC,jH,aE,bM,cj]at *;omega
def aqf {U:Type}(d:U)(p:U->Bool)(q:U->U->Bool)(l:List U):V7 d p q l=true↔(∀k (h:k<l.length),p l[k]=true)/\∀k (h:k+1<l.length),q l[k] l[k+1]=true:=by
 unfold V7;rw[dh];constructor
 .intro h;refine⟨fun k a=>?_,fun k a=>?_⟩
  .have:=h k (dk.2 a);rw[aR a,aE]at this;exact this.1
  .have:=h (k+1) (dk.2 a);rw[aR a,show k+1-1=k from rfl,aR (show k<l.length by omega),aE,jH]at this;rcases this.2 with b|b
   .exact absurd (s3 b) (by omega)
   .exact b
 .intro h k a;have a:=dk.1 a;rw[aR a,aE,jH];refine⟨h.1 k a,?_⟩;cases k with
  |zero=>exact .inl (aS rfl)|succ k=>rw[show k+1-1=k from rfl,aR (show k<l.length by omega)];exact .inr (h.2 k a)
def aCG {U:Type}{q:U->U->Bool}(g:∀a b c,q a b=true->q b c=true->q a c=true){l:List U}(h:∀k (h:k+1<l.length),q l[k] l[k+1]=true){i:Nat}:∀(j:Nat) (d:i<j) (f:j<l.length),q (l[i]'(by omega)) l[j]=true
 |0,d,_=>absurd d (abd _)|j+1,d,f=>by
  by_cases e:i=j
  .subst e;exact h i f
  .exact g _ _ _ (aCG g h j (by omega) (by omega)) (h j f)
def Eu (x:dK):List dK->List dK
 |[]=>[x]|y::l=>if tC y x=true then y::Eu x l else x::y::l
def po (l:List dK)(x:dK):List dK×Bool:=if nn (Eu x l)=true then (Eu x l,true) else (l,false)
def Ws (x:dK):∀l:List dK,(Eu x l).length=l.length+1
 |[]=>rfl|y::l=>by
  unfold Eu;split
  .rw[a1,Ws x l,a1]
  .rfl
def am6 {x:dK}:∀{l:List dK} {i:Nat},i<=l.length->(∀a (h:a<l.length),a<i->tC l[a] x=true)->(∀h:i<l.length,tC l[i] x=false)->Eu x l=l.take i++[x]++l.drop i
 |[],i,b,_,_=>by rw[show i=0 by simpa using b];rfl
 |y::l,0,_,_,d=>by have:=d (by simp);rw[Eu,ag (by rw[show tC y x=false from this];decide)];rfl
 |y::l,i+1,b,e,d=>by have f:tC y x=true:=e 0 (by simp) (by omega);rw[Eu,ak f,am6 (l:=l) (i:=i) (by simpa using b) (fun a g j=>e (a+1) (by simpa using g) (by omega)) (fun h=>d (by simpa using h))];rfl
set_option maxRecDepth 20000 in
def Wt {l:List dK}(h:l.length<=1000000)(x:dK):rJ F0 l x=some ((po l x).1,(po l x).2,()):=by
 rw[ah6];obtain⟨i,e,f,g,j⟩:=azo (γ:=List dK×Bool×Unit) (fun n k=>yM F0 (rI F0) n (rH l k x.1 x.2.1 x.2.2.1 x.2.2.2)) l.length (fun k=>tC (l.getD k nW) x) (fun k=>rI F0 (.exit 0) (oX l (k:Int) x.1 x.2.1 x.2.2.1 x.2.2.2))
  (fun n k b=>by
   rw[GK,aO b,ae,ao b,ab,aY b,show((x.1,x.2.1,x.2.2.1,x.2.2.2):dK)=x from rfl,ado,an,ah (by omega),aR b];cases v:tC l[k] x with
   |true=>rw[ae,ak rfl]|false=>rw[aa,ag (by decide)])
  (fun n=>by rw[GK,aA,aa]) l.length 0 F0.n (by omega) (fun i d=>absurd d (abd _)) (by rw[bg];omega)
 have m:=am6 (x:=x) e (fun o q s=>by have:=f o s;rw[aR q]at this;exact this) (fun d=>by have:=g d;rw[aR d]at this;exact this);have w:=Ws x l;refine Eq.trans j ?_;have t:(l.take (i:Int).toNat).drop (0:Int).toNat=l.take i:=by rw[l2];rfl
 have u:(l.take (l.length:Int).toNat).drop (i:Int).toNat=l.drop i:=by rw[l2,l2,l3]
 have y:(l.take i).length<=l.length:=by rw[bQ];omega
 have z:(l.drop i).length<=l.length:=by rw[bA];omega
 rw[Z9,t,u,s4,aCn e,ab,au (a:=0) (by omega) (by omega) (by first|omega|(simp only[aN,a1,bJ];omega)|(rw[bA,bQ];omega)),ab,au (by omega) (by omega) (by first|omega|(simp only[aN,a1,bJ];omega)|(rw[bA,bQ];omega)),ab,WZ e (bh _),ab,au (by omega) (by omega) (by first|omega|(simp only[aN,a1,bJ];omega)|(rw[bA,bQ];omega)),ab,show((x.1,(x.2.1,(x.2.2.1,x.2.2.2))):dK)=x from rfl,<-m,amv (by omega),an,
  au (a:=0) (by omega) (by omega) (by first|omega|(simp only[aN,a1,bJ];omega)|(rw[bA,bQ];omega)),ab]
 unfold po;cases nn (Eu x l)<;>rfl
def aqg {l:hJ}{x:dK}(h:S6 (eJ l x).2=false):(eJ l x).1=l:=by
 revert h
 unfold eJ;split
 .split
  .intro _;rfl
  .split
   .intro _;rfl
   .split
    .intro h;cases h
    .split
     .intro h;cases h
     .intro _;rfl
 .intro _;rfl
def lY:hJ->Nat->List dK->List dK
 |_,_,[]=>[]|_,0,_=>[]|l,n+1,x::p=>if S6 (eJ l x).2=true then x::lY (eJ l x).1 n p else lY l (n+1) p
def aoT (l:hJ):∀p:List dK,lY l 0 p=[]
 |[]=>rfl|_::_=>rfl
def aoU {l:hJ}{n:Nat}{p:List dK}{k:Nat}(a:k<p.length):lY l (n+1) (p.drop k)=if S6 (eJ l p[k]).2=true then p[k]::lY (eJ l p[k]).1 n (p.drop (k+1)) else lY l (n+1) (p.drop (k+1)):=by rw[abb a,lY]
def afS {p:List dK}(d:p.length<=1048576):∀(j k:Nat) (xs:List dK) (l:hJ) (n:Nat),k+j=p.length->xs.length<=2->aaI l->j<n ->
  jx F0 (yo F0) n (gz p (k:Int) xs l.1 l.2)=some (xs++lY l (2-xs.length) (p.drop k),())
 |0,k,xs,l,n+1,g,e,a,h=>by
  obtain rfl:k=p.length:=by omega
  rw[EL,aA,aa,GC,agc];cases 2-xs.length<;>simp[lY]
 |j+1,k,xs,l,n+1,g,e,a,h=>by
  have b:k<p.length:=by omega
  rw[EL,aO b,ae,GC];by_cases o:xs.length<2
  .obtain⟨m,f⟩:∃m,2-xs.length=m+1:=⟨1-xs.length,by omega⟩;have i:JH F0 (l.1,l.2) p[k]=some ((eJ l p[k]).1,(eJ l p[k]).2,()):=ash (l:=l) (by have:=a.1;omega) (by have:=a.2;omega) _;rw[aS (show(xs.length:Int)<2 by omega),ae,ao b,ab,aY b,i,an,ab,au (by omega) (by omega) (by first|omega|(simp only[aN,a1,bJ];omega)|(rw[bA,bQ];omega)),ab,ah (by omega),f,aoU b];dsimp only;rw[afS d j (k+1) (xs++[p[k]]) (eJ l p[k]).1 n (by omega) (by simp;omega) (aFT a _) (by omega),afS d j (k+1) xs l n (by omega) e a (by omega),f,show 2-(xs++[p[k]]).length=m by simp;omega];unfold S6;cases (eJ l p[k]).2==0<;>cases (eJ l p[k]).2==4<;>simp[br]
  .rw[aV (show ¬(xs.length:Int)<2 by omega),aa,show 2-xs.length=0 by omega,aoT,fD]
def asM {p:List dK}(b:p.length<=1048576){l:hJ}(a:aaI l):n6 F0 p l=some (lY l 2 p,()):=by rw[aet,aaH (by have:=a.1;omega) (by have:=a.2;omega),an];exact afS b p.length 0 [] l F0.n (by omega) (by simp) a (by rw[bg];omega)
def Rj:∀(p:List dK) (l:hJ) (n:Nat),(lY l n p).length<=n
 |[],l,n=>by cases n<;>exact a7 _
 |x::p,l,0=>bh _|x::p,l,n+1=>by
  unfold lY;split
  .rw[a1];have:=Rj p (eJ l x).1 n;omega
  .exact Rj p l (n+1)
def au4 (p:List dK)(l:hJ):List dK:=p.filter fun x=>(eJ l x).2 != 2
def asN {p:List dK}(e:p.length<=1048576){l:hJ}(b:l.1.length<=1048576)(d:l.2.length<=1048576):DC F0 p l=some (au4 p l,()):=by
 rw[aeH];refine azn (fun n k xs=>nL F0 (yO F0) n (jW p k l.1 l.2 xs)) p (fun x=>(eJ l x).2 != 2) _ (fun n k xs a f=>?_) (fun n=>?_) _ (by rw[bg];omega)
 .rw[ET,aO a,ae,ao a,ab,ab,aY a,show((l.1,l.2):hJ)=l from rfl,ash b d,an,au (by omega) (by omega) (by first|omega|(simp only[aN,a1,bJ];omega)|(rw[bA,bQ];omega)),ab,ah (by omega)];cases (eJ l p[k]).2 != 2<;>rfl
 .rw[ET,aA,aa,Xu];rfl
def hM (c:Int×Int)(view i:Int):List Int:=if 0<=cP c view i then ((List.range c.1.toNat).filter fun k:Nat=>decide (i∈apX c view (k:Int))).map fun k:Nat=>(k:Int) else []
def au5 {c:Int×Int}(a:a8 c=true)(view i:Int):(hM c view i).length<=7:=by
 have:=bZ a;unfold hM;split
 .rw[pw];have:=ajv (fun k:Nat=>decide (i∈apX c view (k:Int))) (List.range c.1.toNat);rw[Lu]at this;omega
 .exact a7 _
def aCH {γ:Type}(X:Nat->Int->List Int->Option γ)(N:Nat)(p:Nat->Bool)(R:Option γ)(a:∀n k xs,k<N->xs.length<=k->X (n+1) (k:Int) xs=X n ((k+1:Nat):Int) (if p k=true then xs++[(k:Int)] else xs))
  (b:∀n,X (n+1) (N:Int) (((List.range N).filter p).map fun k:Nat=>(k:Int))=R) (n:Nat) (f:N<n):X n 0 []=R:=by
 refine cx X N (fun k xs=>xs=((List.range k).filter p).map fun k:Nat=>(k:Int)) R (fun n k xs d h=>.inr ⟨_,a n k xs d (by rw[h,pw];exact aU (ajv _ _) (by rw[Lu];omega)),?_⟩) (fun n xs h=>?_) n 0 [] (a7 _) rfl (by omega)
 .rw[List.range_succ,List.filter_append,Zv,h];cases e:p k<;>simp[e]
 .rw[h];exact b n
def aAJ {c:Int×Int}(b:a8 c=true)(view i:Int):QF F0 c view i=some (hM c view i,()):=by
 have e:=bZ b;have f:(c.1.toNat:Int)=c.1:=by omega
 rw[aoc,eV,an,b,aX,aa];unfold hM;by_cases a:0<=cP c view i
 .rw[ak a];refine aCH (fun n k xs=>yI F0 (J4 F0) n (pP view i k c.1 c.2 xs)) c.1.toNat (fun k:Nat=>decide (i∈apX c view (k:Int))) _ (fun n k xs g h=>?_) (fun n=>?_) F0.n (by rw[bg];omega)
  .rw[yJ,aS (show(k:Int)<c.1 by omega),ae,show((c.1,c.2):Int×Int)=c from rfl,V6,an,aS (show cP c view i>=0 from a),ae,aEe,an,ep (by have:=aAh c view k;dsimp only;omega),an,au (by omega) (by omega) (by first|omega|(simp only[aN,a1,bJ];omega)|(rw[bA,bQ];omega)),ab,ah (by omega)];dsimp only;cases decide (i∈apX c view (k:Int))<;>rfl
  .rw[yJ,aV (show ¬(c.1.toNat:Int)<c.1 by omega),aa,O3]
 .obtain⟨m,d⟩:∃m,F0.n=m+1:=⟨F0.n-1,by rw[bg]⟩;rw[ag a,d,yJ,aS (show(0:Int)<c.1 by omega),ae,show((c.1,c.2):Int×Int)=c from rfl,V6,an,aV (show ¬cP c view i>=0 from a),aa,O3]
def aaY {c:Int×Int}{q:b3}(h:eI c q=true):wP q:=⟨(vl h).1.n,(vl h).1.w⟩
def Qa {c:Int×Int}{q:b3}(h:iM c q=true):q.2.1.size<=1048576/\q.2.2.length<=1000:=⟨(W7 h).1.n,aU (W7 h).2.1 (by omega)⟩
def au6 {c:Int×Int}{s:bm}(h:bP c s=true):nV s:=⟨aaY (cZ h).2.2.1,aU (ig (cZ h).2.2.2) (by omega)⟩
def Xa {c:Int×Int}{b:cN}(h:gH c b=true):b.1.size<=1048576/\wP b.2:=by simp only[gH,aE]at h;exact⟨aU (ig h.2.1) (by omega),aaY h.1⟩
def eg:wP cd:=⟨a7 _,a7 _⟩
def asO {c:Int×Int}{m:ch}(h:dC c m=true):eH m:=by
 unfold dC at h;simp only[aE]at h;obtain⟨i,f,a⟩:=h;have g:=aaV f;rw[<-g];by_cases b:m.1=1
 .rw[ak (by simpa using b)]at a;have:=Xa a;simp only[named,b];exact⟨this.1,this.2,eg,eg⟩
 .by_cases d:m.1=2
  .rw[ag (by simpa using b),ak (by simpa using d)]at a;simp only[aE]at a;have:=Qa a.1;simp only[named,d];exact⟨a7 _,eg,⟨this.1,by show m.2.2.2.1.2.2.length<=_;omega⟩,eg⟩
  .by_cases e:m.1=3
   .rw[ag (by simpa using b),ag (by simpa using d),ak (by simpa using e)]at a;simp only[aE]at a;simp only[named,e];exact⟨a7 _,eg,eg,aaY a.2.1⟩
   .rw[ag (by simpa using b),ag (by simpa using d),ag (by simpa using e)]at a;simp only[aE,cj]at a;simp only[named,a.1];exact⟨a7 _,eg,eg,eg⟩
def aqh {U:Type}{d:U}{p:U->Bool}{q:U->U->Bool}{l:List U}(h:V7 d p q l=true):∀x∈l,p x=true:=fun x a=>by obtain⟨k,b,rfl⟩:=af8 a;exact((aqf d p q l).1 h).1 k b
def Ev {c:Int×Int}{l:List b3}(h:fi c l=true):aoR l:=by simp only[fi,aE,bM]at h;exact⟨by omega,fun q a=>Qa (aqh h.1 q a)⟩
def aaZ {l:List dK}(h:nn l=true):l.length<=12/\∀x∈l,fS x=true:=by simp only[nn,aE,bM]at h;exact⟨by omega,aqh h.1⟩
structure aCI (c:Int×Int) (r:aB):Prop where
 cf:a8 c=true
 i:fT 0 (al (c.1-1)) r.1=true
 v:fT 1 60 r.2.1=true
 a:fT 0 60 r.2.2.1=true
 s:bP c r.2.2.2.1=true
 p:nn r.2.2.2.2.1=true
 t:fi c r.2.2.2.2.2.1=true
 d:gT r.2.2.2.2.2.2.1=true
 n:r.2.2.2.2.2.2.2.length<=30
 h:∀x∈r.2.2.2.2.2.2.2,Lb c r.1 x=true
def Jb {c:Int×Int}{r:aB}:sN c r=true↔aCI c r:=by
 unfold sN;simp only[aE,abc,ate,dh];constructor
 .rintro⟨a,b,d,e,f,g,i,j,l,k⟩;exact⟨a,b,d,e,f,g,i,j,by omega,k⟩
 .intro h;exact⟨h.cf,h.i,h.v,h.a,h.s,h.p,h.t,h.d,by have:=h.n;omega,h.h⟩
structure ba (c:Int×Int) (r:aB):Prop where
 f:aCI c r
 b:∀x∈r.2.2.2.2.2.2.1.1,0<=x/\x<=255
def ba.ok {c:Int×Int}{r:aB}(h:ba c r):sN c r=true:=Jb.2 h.f
def au7 {c:Int×Int}{i:Int}{x:fm}(h:Lb c i x=true):dC c x.2=true:=by simp only[Lb,aE]at h;exact h.1
def aCI.l {c:Int×Int}{r:aB}(h:aCI c r):aoE r :=
 ⟨au6 h.s,aU (aaZ h.p).1 (by omega),aU (Ev h.t).1 (by omega),fun q a=>(Ev h.t).l a,aU h.n (by omega),fun q a=>asO (au7 (h.h q a))⟩
def ba.bt {c:Int×Int}{r:aB}(h:ba c r):aAF r:=⟨h.f.l,⟨aU (dP.1 h.f.d).1 (by omega),h.b⟩⟩
def ba.l {c:Int×Int}{r:aB}(h:ba c r):aoE r:=h.f.l
def afT (c:Int×Int)(r:aB)(a:Int)(m:ch):Bool:=decide (r.2.2.2.2.2.2.2.length<30)&&(dC c m&&(fT 0 (al (c.1-1)) a&& !(a==r.1)))
def Rk (r:aB)(p:fm):aB:=(r.1,r.2.1,r.2.2.1,r.2.2.2.1,r.2.2.2.2.1,r.2.2.2.2.2.1,r.2.2.2.2.2.2.1,r.2.2.2.2.2.2.2++[p])
def Gm (c:Int×Int)(r:aB)(a:Int)(m:ch):aB×Bool:=if afT c r a m=true then (Rk r (a,m),true) else (r,false)
def NC {r:aB}(d:r.2.2.2.2.2.2.2.length<=1048576){m:ch}(b:eH m)(c:Int×Int)(a:Int):eP F0 c r a m=some (((Gm c r a m).1,(Gm c r a m).2,()),()):=by
 rw[ah5,I9 b,an,cy,an,aha b,an,au (by omega) (by omega) (by first|omega|(simp only[aN,a1,bJ];omega)|(rw[bA,bQ];omega)),ab];unfold Gm afT;by_cases h:r.2.2.2.2.2.2.2.length<30
 .rw[aV (show ¬(r.2.2.2.2.2.2.2.length:Int)>=30 by omega),aS h];cases dC c m<;>cases fT 0 (al (c.1-1)) a<;>cases (a==r.1)<;>rfl
 .rw[aS (show(r.2.2.2.2.2.2.2.length:Int)>=30 by omega),aV h];rfl
def axy {c:Int×Int}{r:aB}(h:aCI c r)(a:Int)(m:ch):sN c (Rk r (a,m))=afT c r a m:=by
 unfold afT;by_cases f:r.2.2.2.2.2.2.2.length<30
 .rw[aS f,fF];have e:(dC c m&&(fT 0 (al (c.1-1)) a&& !(a==r.1)))=Lb c r.1 (a,m):=rfl;rw[e];cases g:Lb c r.1 (a,m) with
  |true=>exact Jb.2 ⟨h.cf,h.i,h.v,h.a,h.s,h.p,h.t,h.d,by simp[Rk];omega,fun x b=>by
    rcases eK.1 b with b|b
    .exact h.h x b
    .rw[fj.1 b];exact g⟩
  |false =>
   cases d:sN c (Rk r (a,m)) with
   |false=>rfl
   |true =>
    have:=(Jb.1 d).h (a,m) (by simp[Rk]);exact absurd this (by show ¬Lb c r.1 (a,m)=true;rw[g];decide)
 .rw[aV f];cases d:sN c (Rk r (a,m)) with
  |false=>rfl
  |true =>
   have:=(Jb.1 d).n;simp[Rk]at this;omega
def ba.told {c:Int×Int}{r:aB}(h:ba c r)(a:Int)(m:ch):ba c (Gm c r a m).1:=by
 unfold Gm;cases b:afT c r a m with
 |false=>exact h
 |true =>
  have:=axy h.f a m;rw[b]at this;exact⟨Jb.1 this,h.b⟩
def put (r:aB)(s:bm):aB:=(r.1,r.2.1,r.2.2.1,s,r.2.2.2.2.1,r.2.2.2.2.2.1,(r.2.2.2.2.2.2.1.1++fp s,r.2.2.2.2.2.2.1.2),r.2.2.2.2.2.2.2)
def A3 (c:Int×Int)(r:aB)(s:bm):aB×Bool :=
 if lW r.2.2.2.1 s=true then (r,true) else if bP c s=true/\r.2.2.2.2.2.2.1.1.length+(fp s).length<=100000 then (put r s,true) else (r,false)
def axz (c:Int×Int)(s:bm):(afQ c s).length<=12010:=by
 unfold afQ;split
 .rename_i h;exact(aqc h).2
 .exact a7 _
def axA {c:Int×Int}{r:aB}{s:bm}(h:lW r.2.2.2.1 s=true):A3 c r s=(r,true):=ak h
def aAK {c:Int×Int}{r:aB}{s:bm}(h:lW r.2.2.2.1 s=false)(a:bP c s=true)(b:r.2.2.2.2.2.2.1.1.length+(fp s).length<=100000):A3 c r s=(put r s,true):=by unfold A3;rw[h,ag (by decide),ak ⟨a,b⟩]
def au8 {c:Int×Int}{r:aB}{s:bm}(h:lW r.2.2.2.1 s=false)(a:¬(bP c s=true/\r.2.2.2.2.2.2.1.1.length+(fp s).length<=100000)):A3 c r s=(r,false):=by unfold A3;rw[h,ag (by decide),ag a]
def au9 {d:A1}{b:List Int}(h:gT d=true)(a:d.1.length+b.length<=100000):adJ d b=((d.1++b,d.2),true):=ak ⟨h,a⟩
def aEB {d:A1}{b:List Int}(a:¬d.1.length+b.length<=100000):adJ d b=(d,false):=ag fun h=>a h.2
def am7 {c:Int×Int}{s:bm}(h:bP c s=true):afQ c s=fp s:=ak h
def aAL {c:Int×Int}{s:bm}(h:bP c s=false):afQ c s=[]:=ag (by rw[h];decide)
def Rl {c:Int×Int}{r:aB}(h:ba c r){s:bm}(b:nV s):dZ F0 c r s=some (if (A3 c r s).2=true then ((A3 c r s).1,true,Wc) else (Wc,false,r)):=by
 have f:=axz c s;have g:=h.bt.d.1;have i:=(dP.1 h.f.d).1;rw[aey,adz h.l.s b,an,aoO b,an,axv g (aU f (by omega)),an,CL b,an,Ny b,an];cases d:lW r.2.2.2.1 s with
 |true =>
  rw[axA d];rfl
 |false =>
  cases a:bP c s with
  |false =>
   rw[au8 d (fun h=>by rw[a]at h;cases h.1),aAL a,au9 h.f.d (by rw[bJ];omega)];rfl
  |true =>
   by_cases e:r.2.2.2.2.2.2.1.1.length+(fp s).length<=100000
   .rw[aAK d a e,am7 a,au9 h.f.d e];rfl
   .rw[au8 d (fun h=>e h.2),am7 a,aEB e];rfl
def ba.put {c:Int×Int}{r:aB}(h:ba c r){s:bm}(a:bP c s=true)(b:r.2.2.2.2.2.2.1.1.length+(fp s).length<=100000):ba c (put r s):=by
 refine⟨⟨h.f.cf,h.f.i,h.f.v,h.f.a,a,h.f.p,h.f.t,dP.2 ⟨?_,(dP.1 h.f.d).2.1,?_⟩,h.f.n,h.f.h⟩,eE h.b (auQ s)⟩
 .show(r.2.2.2.2.2.2.1.1++fp s).length<=_;rw[aN];exact b
 .show r.2.2.2.2.2.2.1.2<=((r.2.2.2.2.2.2.1.1++fp s).length:Int);have:=(dP.1 h.f.d).2.2;rw[aN];omega
def ba.wrote {c:Int×Int}{r:aB}(h:ba c r)(s:bm):ba c (A3 c r s).1:=by
 unfold A3;split
 .exact h
 .split
  .rename_i a;exact h.put a.1 a.2
  .exact h
def axB {b:ByteArray}(h:(sA b).2=true):bc (sA b).1.data.toList=true:=by
 unfold sA at h ⊢;split at h
 .rename_i a;rw[ak a];have e:bc b.data.toList=true:=by
   unfold afR at a;cases d:(bR b.data.toList).2 with
   |true=>exact d|false=>rw[V3 d]at a;cases a
  show bc (upB (upB b)).data.toList=true;unfold upB;rw[hy,hy];exact N5 (N5 e)
 .cases h
def aCJ {c:Int×Int}{s:bm}(h:bP c s=true)(q:b3):bP c (see c s q)=true:=by
 unfold see;split
 .rename_i a;obtain⟨b,g,d,e⟩:=cZ h;have i:=ie (jE q.2.1.data.toList);simp only[bP,fT,aE,bM];refine⟨b,?_,?_,?_⟩
  .unfold tE;split<;>omega
  .unfold ajl;split
   .exact a.2
   .exact d
  .split
   .rename_i f;exact axB f.1
   .exact e
 .exact h
def adK (r:aB)(v:Int):aB:=(r.1,tE r.2.1 v,r.2.2)
def ba.raised {c:Int×Int}{r:aB}(h:ba c r){v:Int}(a:v<=60):ba c (adK r v):=by refine⟨⟨h.f.cf,h.f.i,?_,h.f.a,h.f.s,h.f.p,h.f.t,h.f.d,h.f.n,h.f.h⟩,h.b⟩;have:=h.f.v;simp only[fT,aE,bM]at this;show fT 1 60 (tE r.2.1 v)=true;simp only[fT,aE,bM];unfold tE;split<;>omega
def IQ (v:Int)(q:b3)(dJ:Int):ch:=(3,v,(aj,cd),cd,q,dJ,nW)
def IS (p:b3):ch:=(2,0,(aj,cd),p,cd,0,nW)
def ava (b:cN):ch:=(1,0,b,cd,cd,0,nW)
def Xb {v:Int}{q:b3}(h:wP q)(dJ:Int):eH (IQ v q dJ):=⟨a7 _,eg,eg,h⟩
def Xc {p:b3}(h:wP p):eH (IS p):=⟨a7 _,eg,h,eg⟩
def aa0 {b:cN}(a:b.1.size<=1048576)(d:wP b.2):eH (ava b):=⟨a,d,eg,eg⟩
def written (c:Int×Int)(r:aB)(q:b3):aB×Bool:=A3 c r (see c r.2.2.2.1 q)
def ND (c:Int×Int)(r:aB)(q:b3):aB×Bool :=
 if (written c r q).2=true then
  if al (q.1+1)>60 then ((written c r q).1,true)
  else if eG c (al (q.1+1))=r.1 then (adK (written c r q).1 (al (q.1+1)),true)
  else Gm c (adK (written c r q).1 (al (q.1+1))) (eG c (al (q.1+1))) (IQ (al (q.1+1)) q r.1)
 else (r,false)
def am8 {c:Int×Int}{r:aB}{s:bm}:(A3 c r s).1.1=r.1:=by
 unfold A3;split
 .rfl
 .split<;>rfl
def aoV (c:Int×Int)(p:b3):Bool:= !ec p.2.1&&eI c p
def aAM (b:ByteArray):ec b=decide (b.data.toList=[]):=by
 cases h:ec b with
 |true=>rw[aS ((Le b).1 h)]
 |false =>
  rw[aV];intro a;rw[(Le b).2 a]at h;cases h
def aAN {p:b3}(h:wP p)(c:Int×Int):ES F0 c p=some (if aoV c p=true then p else cd,aoV c p,()):=by
 have:=awV (v:=p.1) (l:=p.2.1.data.toList) (s:=p.2.2) (Zl h.1) (aU h.2 (by omega)) c;rw[show((p.1,tx p.2.1.data.toList,p.2.2):b3)=p from rfl]at this;rw[this];unfold aoV eI asm;rw[aAM];by_cases a:p.2.1.data.toList=[]
 .rw[ag (fun b=>b.1 a),aS a];rfl
 .rw[aV a];cases d:ai4 c (p.1,p.2.1.data.toList,p.2.2) with
  |true=>rw[ak ⟨a,rfl⟩];rfl|false=>rw[ag (fun b=>by cases b.2)];rfl
def ba.w {c:Int×Int}{r:aB}(h:ba c r)(q:b3):ba c (written c r q).1:=h.wrote _
def azp {c:Int×Int}{r:aB}(h:ba c r)(q:b3):nV (see c r.2.2.2.1 q):=au6 (aCJ h.f.s q)
def axC {c:Int×Int}{r:aB}(h:ba c r){p:b3}(d:wP p):Mf F0 c r p=some (if aoV c p=true then ((ND c r p).1,(ND c r p).2,()) else (r,false,()),()):=by
 rw[alb,aAN d,an];cases g:aoV c p with
 |false=>rfl
 |true =>
  dsimp only;rw[aX,aa,ak rfl,ak rfl,ajm h.l.s d,an,Rl h (azp h p),an];have e:ba c (written c r p).1:=h.w p;unfold ND;unfold written at e ⊢;generalize A3 c r (see c r.2.2.2.1 p)=W at e ⊢;cases i:W.2 with
  |false=>rw[ag (by decide),ag (by decide)];rfl
  |true =>
   have f:eP F0 c (W.1.1,tE W.1.2.1 (al (p.1+1)),W.1.2.2) (eG c (al (p.1+1))) (3,al (p.1+1),(aj,0,aj,[]),(0,aj,[]),p,r.1,0,0,0,0)=some (((Gm c (adK W.1 (al (p.1+1))) (eG c (al (p.1+1))) (IQ (al (p.1+1)) p r.1)).1,(Gm c (adK W.1 (al (p.1+1))) (eG c (al (p.1+1))) (IQ (al (p.1+1)) p r.1)).2,()),()) :=
    NC (r:=adK W.1 (al (p.1+1))) (aU e.f.n (by omega)) (Xb (v:=al (p.1+1)) d r.1) c (eG c (al (p.1+1)))
   rw[ak rfl,ak rfl];simp only[an,K0,CQ,f,ae];by_cases a:al (p.1+1)>60
   .rw[aS a,ae,ak a]
   .rw[aV a,aa,ag a];by_cases b:eG c (al (p.1+1))=r.1
    .rw[ak b,cj.2 b,ae];rfl
    .rw[ag b,b0.2 b,aa]
def ba.aEC {c:Int×Int}{r:aB}(h:ba c r)(q:b3):ba c (ND c r q).1:=by
 unfold ND;split
 .split
  .exact h.w q
  .split
   .exact(h.w q).raised (by omega)
   .exact((h.w q).raised (by omega)).told _ _
 .exact h
def kA (c:Int×Int)(r:aB)(view:Int)(name:ByteArray)(push:Bool):aB×Bool :=
 if (iP r.2.2.2.2.2.1 view name).2.2.length=0\/ec name=true then (r,false)
 else if eG c view=r.1 then
  if aoV c (iP r.2.2.2.2.2.1 view name)=true/\(ND c r (iP r.2.2.2.2.2.1 view name)).2=true then ((ND c r (iP r.2.2.2.2.2.1 view name)).1,true) else (r,false)
 else if push=false/\cmn (iP r.2.2.2.2.2.1 view name).2.2 (hM c view r.1)<(hM c view r.1).length then (r,false)
 else Gm c r (afF c view r.1) (IS (iP r.2.2.2.2.2.1 view name))
section
variable {c:Int×Int} {r:aB} {view:Int} {name:ByteArray} {push:Bool} {p:b3} (hP:iP r.2.2.2.2.2.1 view name=p)
include hP
def asP (h:p.2.2.length=0\/ec name=true):kA c r view name push=(r,false):=by subst hP;exact ak h
def azq (a:¬(p.2.2.length=0\/ec name=true))(b:eG c view=r.1)(h:aoV c p=true/\(ND c r p).2=true):kA c r view name push=((ND c r p).1,true):=by subst hP;unfold kA;rw[ag a,ak b,ak h]
def asQ (a:¬(p.2.2.length=0\/ec name=true))(b:eG c view=r.1)(h:¬(aoV c p=true/\(ND c r p).2=true)):kA c r view name push=(r,false):=by subst hP;unfold kA;rw[ag a,ak b,ag h]
def azr (a:¬(p.2.2.length=0\/ec name=true))(b:¬eG c view=r.1)(h:push=false/\cmn p.2.2 (hM c view r.1)<(hM c view r.1).length):kA c r view name push=(r,false):=by subst hP;unfold kA;rw[ag a,ag b,ak h]
def asR (a:¬(p.2.2.length=0\/ec name=true))(b:¬eG c view=r.1)(h:¬(push=false/\cmn p.2.2 (hM c view r.1)<(hM c view r.1).length)):kA c r view name push=Gm c r (afF c view r.1) (IS p):=by subst hP;unfold kA;rw[ag a,ag b,ag h]
end
def aCK {l:List b3}(a:∀q∈l,wP q){name:ByteArray}(b:name.size<=1048576)(view:Int):wP (iP l view name):=by
 unfold iP;cases h:l.find? (fun x=>(x.1==view)&&(x.2.1.toList==name.toList)) with
 |none=>exact⟨b,a7 _⟩|some x=>exact a x (XP h)
def ba.asS {c:Int×Int}{r:aB}(h:ba c r)(view:Int)(name:ByteArray)(push:Bool):ba c (kA c r view name push).1:=by
 unfold kA;split
 .exact h
 .split
  .split
   .exact h.aEC _
   .exact h
  .split
   .exact h
   .exact h.told _ _
def Rm {c:Int×Int}{r:aB}(h:ba c r)(view:Int){name:ByteArray}(n:name.size<=1048576)(push:Bool) :
  ∃x,n8 F0 c r view name push=some ((x,(kA c r view name push).2,()),())/\((kA c r view name push).2=true->x=(kA c r view name push).1):=by
 have g:=aCK h.l.tq n view;have s:=au5 h.f.cf view r.1;have o:=NC (r:=r) (aU h.f.n (by omega)) (Xc g) c (afF c view r.1);have q:((eP F0 c r (afF c view r.1) (2,0,(aj,0,aj,[]),iP r.2.2.2.2.2.1 view name,(0,aj,[]),0,0,0,0,0)).bind fun i=>some ((i.1.1,i.1.2.1,()),()))=some (((Gm c r (afF c view r.1) (IS (iP r.2.2.2.2.2.1 view name))).1,(Gm c r (afF c view r.1) (IS (iP r.2.2.2.2.2.1 view name))).2,()),()):=by refine Eq.trans (Bd (fun x=>Option.bind x _) o) ?_;rfl
 rw[aeC,Ri h.l.t h.l.tq,an,K0,an,axC h g,an,aAJ h.f.cf,an,awW (a:=hM c view r.1) (by omega) g.2,an,aCk];simp only[an,q];generalize hP:iP r.2.2.2.2.2.1 view name=p at *;by_cases j:p.2.2.length=0
 .rw[asP hP (.inl j),show((p.2.2.length:Int)==0)=true from cj.2 (by omega),ae];exact⟨r,rfl,fun h=>by cases h⟩
 .rw[show((p.2.2.length:Int)==0)=false from b0.2 (by omega),aa];cases f:ec name with
  |true =>
   rw[asP hP (.inr f),show(name.toList==aj.toList)=true from f,ae];exact⟨r,rfl,fun h=>by cases h⟩
  |false =>
   have e:¬(p.2.2.length=0\/ec name=true):=fun b=>b.elim j (by rw[f];decide)
   rw[show(name.toList==aj.toList)=false from f,aa];by_cases d:eG c view=r.1
   .rw[cj.2 d,ae];cases k:aoV c p with
    |false =>
     rw[asQ hP e d (fun b=>by rw[k]at b;cases b.1)];exact⟨r,rfl,fun h=>by cases h⟩
    |true =>
     cases l:(ND c r p).2 with
     |false =>
      rw[asQ hP e d (fun b=>by rw[l]at b;cases b.2)];exact⟨_,rfl,fun h=>by cases h⟩
     |true =>
      rw[azq hP e d ⟨k,l⟩];exact⟨_,rfl,fun _=>rfl⟩
   .rw[b0.2 d,aa];cases push with
    |true =>
     rw[asR hP e d (fun b=>by cases b.1)];exact⟨_,rfl,fun _=>rfl⟩
    |false =>
     by_cases m:cmn p.2.2 (hM c view r.1)<(hM c view r.1).length
     .rw[azr hP e d ⟨rfl,m⟩,fE,ae,aS (show(cmn p.2.2 (hM c view r.1):Int)<(hM c view r.1).length by omega),ae];exact⟨r,rfl,fun h=>by cases h⟩
     .rw[asR hP e d (fun b=>m b.2),fE,ae,aV (show ¬(cmn p.2.2 (hM c view r.1):Int)<(hM c view r.1).length by omega),aa];exact⟨_,rfl,fun _=>rfl⟩
def aAO {c:Int×Int}{r:aB}(h:ba c r)(view:Int){name:ByteArray}(a:name.size<=1048576)(push:Bool):QG F0 c r view name push=some (if (kA c r view name push).2=true then ((kA c r view name push).1,true,()) else (r,false,())):=by
 obtain⟨x,b,d⟩:=Rm h view a push;rw[aoi,gI h.l,an,h.ok,aX,aa,dA h.bt,an,b,an,an];cases e:(kA c r view name push).2 with
 |true=>rw[d e];rfl|false=>rfl
def azs:cN:=(aj,cd)
def Lh (q:b3)(view:Int)(l:List dK):ByteArray:=tx (Q9 q.2.1.data.toList view l)
def gp (c:Int×Int)(q:b3)(view:Int)(l:List dK):cN×Bool:=if gH c (Lh q view l,q)=true/\aH (Lh q view l).data.toList=view then ((Lh q view l,q),true) else (azs,false)
def axD {c:Int×Int}{q:b3}(a:eI c q=true){view:Int}(b:I6 view){l:List dK}(d:l.length<=100):(Lh q view l).size<=1048576:=by have e:=(vl a).2.2;have f:=W5 (up:=q.2.1.data.toList) b l;unfold Lh;rw[bn];have:q.2.1.data.toList.length=q.2.1.size:=rfl;omega
def ajn (a b:Int):(a != b)= !decide (a=b):=by
 by_cases h:a=b
 .simp[h]
 .simp[h]
def adL {c:Int×Int}{q:b3}(a:eI c q=true){view:Int}(d:I6 view){l:List dK}(f:l.length<=100):hW F0 c q view l=some ((gp c q view l).1,(gp c q view l).2,()):=by
 have j:=(vl a).2.2;have e:=axD a d f;have g:e2 F0 q.2.1 view l=some (Lh q view l,()):=Ra (up:=q.2.1.data.toList) (by show q.2.1.size<=_;omega) d (by omega);rw[OP,g,an,q3 (aaY a).2,an,Fk (b:=(Lh q view l,q)) e (aaY a),an,gG e,an];unfold gp;dsimp only;rw[ajn];cases gH c (Lh q view l,q) with
 |false=>rw[ag (fun h=>by cases h.1)];rfl
 |true =>
  by_cases h:aH (Lh q view l).data.toList=view
  .rw[ak ⟨rfl,h⟩,aS h];rfl
  .rw[ag (fun i=>h i.2),aV h];rfl
def avb {c:Int×Int}{q:b3}{view:Int}{l:List dK}(h:(gp c q view l).2=true):gH c (gp c q view l).1=true/\aH (gp c q view l).1.1.data.toList=view/\(gp c q view l).1.2=q:=by
 unfold gp at h ⊢;split at h
 .rename_i a;rw[ak a];exact⟨a.1,a.2,rfl⟩
 .cases h
def am9 (c:Int×Int)(l:List b3)(view:Int):Bool:=decide (((iP l view aj).2.2.length:Int)>=nm c)
def aCL (c:Int×Int)(r:aB):Bool:=decide (eG c r.2.1=r.1)&&(!decide (r.2.2.1>=r.2.1)&&(decide (r.2.2.2.1.2.2.1.1=al (r.2.1-1)) || am9 c r.2.2.2.2.2.1 r.2.1))
def asT (r:aB):List dK:=lY (eT V0 (XN r.2.2.2.1.2.2.1.2.1)) 2 r.2.2.2.2.1
def ask (c:Int×Int)(r:aB):cN×Bool:=if aCL c r=true then gp c r.2.2.2.1.2.2.1 r.2.1 (asT r) else (azs,false)
def ba.view {c:Int×Int}{r:aB}(h:ba c r):1<=r.2.1/\r.2.1<=60:=by have:=h.f.v;simp only[fT,aE,bM]at this;exact this
def aCM (a b:Int):decide (a<b)= !decide (a>=b):=by
 by_cases h:a<b
 .rw[aS h,aV (by omega)];rfl
 .rw[aV h,aS (by omega)];rfl
def axE (r:aB):(asT r).length<=2:=Rj _ _ _
def azt {c:Int×Int}{r:aB}(h:ba c r):Ur F0 c r=some ((ask c r).1,(ask c r).2,()):=by have g:=h.view;have a:=(cZ h.f.s).2.2.1;have b:aaI (eT V0 (XN r.2.2.2.1.2.2.1.2.1)):=Nw Q7;have d:=adL (c:=c) (q:=r.2.2.2.1.2.2.1) a (view:=r.2.1) ⟨by omega,by omega⟩ (l:=asT r) (by have:=axE r;omega);have e:n6 F0 r.2.2.2.2.1 (eT V0 (XN r.2.2.2.1.2.2.1.2.1))=some (asT r,()):=asM h.l.p b;have f:wP r.2.2.2.1.2.2.1:=h.l.s.1;rw[atW,gI h.l,an,h.ok,aX,aa,K0,an,Ri h.l.t h.l.tq,an,aaJ,an,Zk,an,auE f.1,an,ams Q7 (aU (Fo _) (by omega))];simp only[an,e,d];unfold ask aCL am9;rw[ajn,ajn,aCM];cases decide (eG c r.2.1=r.1)<;>cases decide (r.2.2.1>=r.2.1)<;>cases decide (r.2.2.2.1.2.2.1.1=al (r.2.1-1))<;>cases decide (((iP r.2.2.2.2.2.1 r.2.1 aj).2.2.length:Int)>=nm c)<;>rfl
def aGb {c:Int×Int}{r:aB}(h:(ask c r).2=true):aCL c r=true/\gH c (ask c r).1=true/\aH (ask c r).1.1.data.toList=r.2.1/\(ask c r).1.2=r.2.2.2.1.2.2.1:=by
 unfold ask at h ⊢;split at h
 .rename_i a;rw[ak a];exact⟨a,avb h⟩
 .cases h
def ana (r:aB):aB:=(r.1,r.2.1,r.2.2.1,r.2.2.2.1,r.2.2.2.2.1,r.2.2.2.2.2.1,Fq r.2.2.2.2.2.2.1,[])
def avc {c:Int×Int}{r:aB}(h:ba c r):Ia F0 c r=some (ana r,r.2.2.2.2.2.2.2,()):=by rw[aid,dA h.bt,an,gI h.l,an,h.ok,aX,aa,aCE h.bt.d.1,an,adG h.l.h h.l.hm,an];rfl
def avd {d:A1}(h:gT d=true):gT (Fq d)=true:=by unfold Fq;rw[ak h];have:=dP.1 h;exact dP.2 ⟨this.1,by dsimp only;omega,by dsimp only;omega⟩
def asU (d:A1):(Fq d).1=d.1:=by unfold Fq;split<;>rfl
def ba.ana {c:Int×Int}{r:aB}(h:ba c r):ba c (ana r) :=
 ⟨⟨h.f.cf,h.f.i,h.f.v,h.f.a,h.f.s,h.f.p,h.f.t,avd h.f.d,a7 _,fun x a=>by cases a⟩,by show ∀x∈(Fq r.2.2.2.2.2.2.1).1,_;rw[asU];exact h.b⟩
def vm (r:aB)(v:Int):aB:=(r.1,v,r.2.2)
def nr (r:aB)(t:List b3):aB:=(r.1,r.2.1,r.2.2.1,r.2.2.2.1,r.2.2.2.2.1,t,r.2.2.2.2.2.2)
def ba.vm {c:Int×Int}{r:aB}(h:ba c r){v:Int}(a:1<=v)(b:v<=60):ba c (vm r v) :=
 ⟨⟨h.f.cf,h.f.i,by show fT 1 60 v=true;simp[fT,a,b],h.f.a,h.f.s,h.f.p,h.f.t,h.f.d,h.f.n,h.f.h⟩,h.b⟩
def ba.nr {c:Int×Int}{r:aB}(h:ba c r){t:List b3}(a:fi c t=true):ba c (nr r t) :=
 ⟨⟨h.f.cf,h.f.i,h.f.v,h.f.a,h.f.s,h.f.p,a,h.f.d,h.f.n,h.f.h⟩,h.b⟩
def CR {c:Int×Int}{l:List b3}(h:fi c l=true)(p:b3):fi c (cR c l p).1=true:=by
 unfold cR;split
 .rename_i a;exact a.2
 .exact h
def one (v:Int)(name:ByteArray)(i:Int):b3:=(v,name,[i])
def Zs (c:Int×Int)(r:aB):aB×Bool :=
 if r.2.1>=60 then (r,false)
 else if eG c (al (r.2.1+1))=r.1 then
  if (cR c r.2.2.2.2.2.1 (one (al (r.2.1+1)) aj r.1)).2=true then (nr (vm r (al (r.2.1+1))) (cR c r.2.2.2.2.2.1 (one (al (r.2.1+1)) aj r.1)).1,true) else (r,false)
 else if (Gm c (vm r (al (r.2.1+1))) (eG c (al (r.2.1+1))) (IQ (al (r.2.1+1)) r.2.2.2.1.2.2.1 r.1)).2=true then ((Gm c (vm r (al (r.2.1+1))) (eG c (al (r.2.1+1))) (IQ (al (r.2.1+1)) r.2.2.2.1.2.2.1 r.1)).1,true) else (r,false)
def aCN {c:Int×Int}{r:aB}(h:ba c r):WR F0 c r=some ((Zs c r).1,(Zs c r).2,()):=by
 have f:=h.view;have g:=(cZ h.f.s).2.2.1;have d:ea F0 c r.2.2.2.2.2.1 (al (r.2.1+1),aj,[r.1])=some ((cR c r.2.2.2.2.2.1 (one (al (r.2.1+1)) aj r.1)).1,(cR c r.2.2.2.2.2.1 (one (al (r.2.1+1)) aj r.1)).2,()):=A2 (Ev h.f.t) ⟨a7 _,by show 1<=1000;omega⟩ c;have e:eP F0 c (r.1,al (r.2.1+1),r.2.2) (eG c (al (r.2.1+1))) (3,al (r.2.1+1),(aj,0,aj,[]),(0,aj,[]),r.2.2.2.1.2.2.1,r.1,0,0,0,0)=some (((Gm c (vm r (al (r.2.1+1))) (eG c (al (r.2.1+1))) (IQ (al (r.2.1+1)) r.2.2.2.1.2.2.1 r.1)).1,(Gm c (vm r (al (r.2.1+1))) (eG c (al (r.2.1+1))) (IQ (al (r.2.1+1)) r.2.2.2.1.2.2.1 r.1)).2,()),()) :=
  NC (r:=vm r (al (r.2.1+1))) h.l.h (Xb h.l.s.1 r.1) c _
 rw[arR,dA h.bt,an,gI h.l,an,h.ok,aX,aa,K0,an];simp only[an,d,e];unfold Zs;by_cases a:r.2.1>=60
 .rw[ak a,aS a,ae]
 .rw[ag a,aV a,aa];by_cases b:eG c (al (r.2.1+1))=r.1
  .rw[ak b,cj.2 b,ae];cases (cR c r.2.2.2.2.2.1 (one (al (r.2.1+1)) aj r.1)).2<;>rfl
  .rw[ag b,b0.2 b,aa];cases (Gm c (vm r (al (r.2.1+1))) (eG c (al (r.2.1+1))) (IQ (al (r.2.1+1)) r.2.2.2.1.2.2.1 r.1)).2<;>rfl
def ba.aHg {c:Int×Int}{r:aB}(h:ba c r):ba c (Zs c r).1:=by
 have b:=h.view;unfold Zs;split
 .exact h
 .rename_i d;have e:al (r.2.1+1)=r.2.1+1:=aG (by omega) (by omega);have a:=h.vm (v:=al (r.2.1+1)) (by omega) (by omega);split
  .split
   .exact a.nr (CR h.f.t _)
   .exact h
  .split
   .exact a.told _ _
   .exact h
def N8 (c:Int×Int)(r:aB)(m:ch):Nat->Nat->aB->aB×Bool
 |0,_,a=>(a,true)|j+1,k,a=>if (k:Int)=r.1 then N8 c r m j (k+1) a else if (Gm c a (k:Int) m).2=true then N8 c r m j (k+1) (Gm c a (k:Int) m).1 else (r,false)
def ajo (c:Int×Int)(r:aB)(m:ch):aB×Bool:=N8 c r m c.1.toNat 0 r
def anb {c:Int×Int}{r:aB}(h:ba c r)(m:ch):∀(j k:Nat) (o:aB),ba c o->ba c (N8 c r m j k o).1
 |0,_,_,a=>a|j+1,k,o,a=>by
  unfold N8;split
  .exact anb h m j (k+1) o a
  .split
   .exact anb h m j (k+1) _ (a.told _ _)
   .exact h
def ba.aED {c:Int×Int}{r:aB}(h:ba c r)(m:ch):ba c (ajo c r m).1:=anb h m _ _ _ h
def afU {c:Int×Int}{r:aB}(h:ba c r){m:ch}(d:eH m):∀(j k:Nat) (z:aB) (n:Nat),(k:Int)+j=c.1->ba c z->j<n->c.1<=100 ->
  pR F0 (rR F0) n (ly (k:Int) c.1 c.2 r.1 r.2.1 r.2.2.1 r.2.2.2.1.1 r.2.2.2.1.2.1 r.2.2.2.1.2.2.1.1 r.2.2.2.1.2.2.1.2.1 r.2.2.2.1.2.2.1.2.2 r.2.2.2.1.2.2.2 r.2.2.2.2.1 r.2.2.2.2.2.1 r.2.2.2.2.2.2.1.1 r.2.2.2.2.2.2.1.2 r.2.2.2.2.2.2.2 m.1 m.2.1 m.2.2.1.1 m.2.2.1.2.1 m.2.2.1.2.2.1 m.2.2.1.2.2.2 m.2.2.2.1.1 m.2.2.2.1.2.1 m.2.2.2.1.2.2 m.2.2.2.2.1.1 m.2.2.2.2.1.2.1 m.2.2.2.2.1.2.2 m.2.2.2.2.2.1 m.2.2.2.2.2.2.1 m.2.2.2.2.2.2.2.1 m.2.2.2.2.2.2.2.2.1 m.2.2.2.2.2.2.2.2.2 0 0 0 0 0 0 aj aj 0 z.1 z.2.1 z.2.2.1 z.2.2.2.1.1 z.2.2.2.1.2.1 z.2.2.2.1.2.2.1.1 z.2.2.2.1.2.2.1.2.1 z.2.2.2.1.2.2.2 z.2.2.2.2.2.2.1.2 [] [] [] [] [] z.2.2.2.1.2.2.1.2.2 z.2.2.2.2.1 z.2.2.2.2.2.1 z.2.2.2.2.2.2.1.1 z.2.2.2.2.2.2.2)
   = some ((N8 c r m j k z).1,(N8 c r m j k z).2,())
 |0,k,z,n+1,f,a,g,e=>by rw[GN,aV (show ¬(k:Int)<c.1 by omega),aa,aab];rfl
 |j+1,k,z,n+1,f,a,g,e=>by
  have i:=NC (r:=z) a.l.h d c (k:Int);have l:=dA h.bt;rw[GN,aS (show(k:Int)<c.1 by omega),ae,show((c.1,c.2):Int×Int)=c from rfl];refine Eq.trans (Bd (fun x=>br ((k:Int)==r.1) _ (Option.bind x _)) i) ?_;rw[an];dsimp only;unfold N8;by_cases b:(k:Int)=r.1
  .rw[ak b,cj.2 b,ae,ah (by omega)];exact afU h d j (k+1) z n (by omega) a (by omega) e
  .rw[ag b,b0.2 b,aa];cases o:(Gm c z (k:Int) m).2 with
   |true =>
    rw[aX,aa,ak rfl,ah (by omega)];exact afU h d j (k+1) _ n (by omega) (a.told _ _) (by omega) e
   |false =>
    rw[fE,ae,ag (by decide)];refine Eq.trans (Bd (fun x=>Option.bind x _) l) ?_;rw[an,acs]
def ave {c:Int×Int}{r:aB}(h:ba c r){m:ch}(a:eH m):yX F0 c r m=some ((ajo c r m).1,(ajo c r m).2,()):=by have b:=bZ h.f.cf;rw[aib,dA h.bt,an,gI h.l,an,h.ok,aX,aa];exact afU h a c.1.toNat 0 r F0.n (by omega) h (by rw[bg];omega) (by omega)
def adM {U:Type}{d:U}{p:U->Bool}{q:U->U->Bool}(j:∀a b c,q a b=true->q b c=true->q a c=true){l:List U}(h:V7 d p q l=true)(f:U->Bool):V7 d p q (l.filter f)=true:=by
 rw[aqf]at h ⊢;have m:l.Pairwise fun a b=>q a b=true:=av0.2 fun i n g o s=>aCG j h.2 n s o
 have t:=m.filter f;refine⟨fun k e=>?_,fun k e=>av0.1 t k (k+1) (by omega) e (by omega)⟩;have u:=(List.mem_filter.1 (bT e)).1;obtain⟨i,g,v⟩:=af8 u;rw[<-v];exact h.1 i g
def anc:∀{a b c:List UInt8},Op.bytesLess a b=true->Op.bytesLess b c=true->Op.bytesLess a c=true
 |[],[],_,h,_=>by cases h
 |_::_,[],_,h,_=>by cases h
 |_,_::_,[],_,h=>by cases h
 |[],_::_,_::_,_,_=>rfl|x::a,y::b,z::c,e,d=>by
  simp only[Op.bytesLess,jH,aE,bM,cj]at e d ⊢;rcases e with e|⟨rfl,e⟩
  .rcases d with d|⟨rfl,d⟩
   .exact .inl (UInt8.lt_trans e d)
   .exact .inl e
  .rcases d with d|⟨rfl,d⟩
   .exact .inl d
   .exact .inr ⟨rfl,anc e d⟩
def aoW (a b c:b3)(e:kh a b=true)(d:kh b c=true):kh a c=true:=by
 simp only[kh,jH,aE,bM,cj]at *;rcases e with e|⟨g,e⟩
 .rcases d with d|⟨f,d⟩
  .exact .inl (by omega)
  .exact .inl (by omega)
 .rcases d with d|⟨f,d⟩
  .exact .inl (by omega)
  .exact .inr ⟨by omega,anc e d⟩
def ane {c:Int×Int}{l:List b3}(h:fi c l=true)(f:b3->Bool):fi c (l.filter f)=true:=by simp only[fi,aE,bM]at h ⊢;have:=ajv f l;exact⟨adM aoW h.1 f,by omega⟩
def aoX {l:List dK}(h:nn l=true)(f:dK->Bool):nn (l.filter f)=true:=by simp only[nn,aE,bM]at h ⊢;have:=ajv f l;exact⟨adM (q:=tC) (fun a b c d e=>au3 d e) h.1 f,by omega⟩
def axF {l:List dK}(h:nn l=true)(x:dK):nn (po l x).1=true:=by
 unfold po;split
 .rename_i a;exact a
 .exact h
def NF (b:cN):Int:=aH b.1.data.toList
def own (c:Int×Int)(r:aB)(name:ByteArray):aB×Bool :=
 if (cR c r.2.2.2.2.2.1 (one (aH name.data.toList) name r.1)).2=true then ((kA c (nr r (cR c r.2.2.2.2.2.1 (one (aH name.data.toList) name r.1)).1) (aH name.data.toList) name false).1,true) else (r,false)
def aEE {c:Int×Int}{r:aB}{a:Int}{m:ch}(h:(Gm c r a m).2=false):(Gm c r a m).1=r:=by
 unfold Gm at h ⊢;cases b:afT c r a m with
 |true=>rw[b,ak rfl]at h;cases h|false=>rfl
def avf {c:Int×Int}{r:aB}{view:Int}{name:ByteArray}{push:Bool}(h:(kA c r view name push).2=false):(kA c r view name push).1=r:=by
 by_cases a:(iP r.2.2.2.2.2.1 view name).2.2.length=0\/ec name=true
 .rw[asP rfl a]
 .by_cases d:eG c view=r.1
  .by_cases b:aoV c (iP r.2.2.2.2.2.1 view name)=true/\(ND c r (iP r.2.2.2.2.2.1 view name)).2=true
   .rw[azq rfl a d b]at h;cases h
   .rw[asQ rfl a d b]
  .by_cases b:push=false/\cmn (iP r.2.2.2.2.2.1 view name).2.2 (hM c view r.1)<(hM c view r.1).length
   .rw[azr rfl a d b]
   .rw[asR rfl a d b]at h ⊢;exact aEE h
def ba.owned {c:Int×Int}{r:aB}(h:ba c r)(name:ByteArray):ba c (own c r name).1:=by
 unfold own;split
 .exact(h.nr (CR h.f.t _)).asS _ _ _
 .exact h
def axG {c:Int×Int}{r:aB}(h:ba c r){name:ByteArray}(a:name.size<=1048576):l9 F0 c r name=some (((own c r name).1,(own c r name).2,()),()):=by
 have e:ea F0 c r.2.2.2.2.2.1 (aH name.data.toList,name,[r.1])=some ((cR c r.2.2.2.2.2.1 (one (aH name.data.toList) name r.1)).1,(cR c r.2.2.2.2.2.1 (one (aH name.data.toList) name r.1)).2,()):=A2 (Ev h.f.t) ⟨a,by show 1<=1000;omega⟩ c;have b:=h.nr (CR h.f.t (one (aH name.data.toList) name r.1));have f:a6 F0 (r.1,r.2.1,r.2.2.1,r.2.2.2.1,r.2.2.2.2.1,(cR c r.2.2.2.2.2.1 (one (aH name.data.toList) name r.1)).1,r.2.2.2.2.2.2)=some (nr r (cR c r.2.2.2.2.2.1 (one (aH name.data.toList) name r.1)).1,()):=dA b.bt;obtain⟨x,g,i⟩:=Rm b (aH name.data.toList) a false;rw[alh,gG a];simp only[an,e,f,g,gG a];unfold own;cases j:(cR c r.2.2.2.2.2.1 (one (aH name.data.toList) name r.1)).2 with
 |false=>rfl
 |true =>
  rw[ak rfl,aX,aa];cases d:(kA c (nr r (cR c r.2.2.2.2.2.1 (one (aH name.data.toList) name r.1)).1) (aH name.data.toList) name false).2 with
  |true=>rw[i d];rfl|false=>rw[avf d];rfl
def Hw (r:aB)(b:cN):aB:=if NF b>=r.2.1 then vm r (NF b) else r
def A4 (c:Int×Int)(r:aB)(b:cN):Bool:=decide (NF b>=r.2.1)&&Et c (see c r.2.2.2.1 b.2) b
def Rn (c:Int×Int)(r:aB)(b:cN):bm:=if A4 c r b=true then (NF b,(see c r.2.2.2.1 b.2).2) else see c r.2.2.2.1 b.2
def Wu (c:Int×Int)(r:aB)(b:cN)(a:Bool)(W:aB×Bool):aB×Bool :=
 if W.2=true then (if a=true then (if (own c W.1 b.1).2=true then ((own c W.1 b.1).1,true) else (r,false)) else (W.1,true)) else (r,false)
def sB (c:Int×Int)(r:aB)(b:cN):aB×Bool:=Wu c r b (A4 c r b) (A3 c (Hw r b) (Rn c r b))
def ba.Hw {c:Int×Int}{r:aB}(h:ba c r)(b:cN):ba c (Hw r b):=by
 unfold Tryz.Hw;have:=h.view;have a:=ie b.1.data.toList;split
 .exact h.vm (by unfold NF at *;omega) (by unfold NF at *;omega)
 .exact h
def aCO {c:Int×Int}{r:aB}(h:ba c r)(b:cN):nV (Rn c r b):=by
 have:=azp h b.2;unfold Rn;split
 .exact this
 .exact this
def ba.Wu {c:Int×Int}{r:aB}(h:ba c r)(b:cN)(d:Bool){W:aB×Bool}(a:ba c W.1):ba c (Wu c r b d W).1:=by
 unfold Tryz.Wu;split
 .split
  .split
   .exact a.owned _
   .exact h
  .exact a
 .exact h
def ba.anf {c:Int×Int}{r:aB}(h:ba c r)(b:cN):ba c (sB c r b).1:=h.Wu b _ ((h.Hw b).wrote _)
def axH {c:Int×Int}{r:aB}{b:cN}(g:b.1.size<=1048576)(a:Bool){W:aB×Bool}(i:ba c W.1)(x:aB) :
  ((some (if W.2=true then (W.1,true,Wc) else (Wc,false,x)):Option (aB×Bool×aB)).bind fun d=>br d.2.1 (br a ((l9 F0 c d.1 b.1).bind fun e=>br (!e.1.2.1) (some (r,false,())) (some (e.1.1,true,()))) (some (d.1,true,()))) (some (r,false,())))=some ((Wu c r b a W).1,(Wu c r b a W).2,()):=by
 have f:=axG i g;obtain⟨j,k⟩:=W;unfold Wu;cases k with
 |false=>rfl
 |true =>
  cases a with
  |false=>rfl
  |true =>
   dsimp only at f ⊢;rw[ak rfl,ak rfl,ak rfl,an];dsimp only;rw[ae,ae,f,an];cases h:(own c j b.1).2<;>rfl
def aCP {c:Int×Int}{s:bm}{b:cN}(h:Et c s b=true):axu c s b=((NF b,s.2),true):=ak h
def aGc {c:Int×Int}{r:aB}{b:cN}(a:NF b>=r.2.1)(d:Et c (see c r.2.2.2.1 b.2) b=true):A4 c r b=true/\Rn c r b=(NF b,(see c r.2.2.2.1 b.2).2):=by
 have:A4 c r b=true:=by unfold A4;rw[aS a,d];rfl
 exact⟨this,ak this⟩
def aFB {c:Int×Int}{r:aB}{b:cN}(h:¬(NF b>=r.2.1/\Et c (see c r.2.2.2.1 b.2) b=true)):A4 c r b=false/\Rn c r b=see c r.2.2.2.1 b.2:=by
 have:A4 c r b=false:=by
  unfold A4;by_cases a:NF b>=r.2.1
  .cases d:Et c (see c r.2.2.2.1 b.2) b with
   |true=>exact absurd ⟨a,d⟩ h|false=>rw[Tr]
  .rw[aV a];rfl
 exact⟨this,ag (by rw[this];decide)⟩
def Zt {c:Int×Int}{r:aB}(h:ba c r){b:cN}(l:gH c b=true):pQ F0 c r b=some ((sB c r b).1,(sB c r b).2,()):=by
 obtain⟨d,g⟩:=Xa l;have m:=azp h b.2;have n:=ahb (c:=c) m d g;have o:=auZ (c:=c) m d g;have q:=Rl (h.Hw b) (aCO h b);have s:ba c (A3 c (Hw r b) (Rn c r b)).1:=(h.Hw b).wrote _;have t:=axH (r:=r) d (A4 c r b) s (Hw r b);rw[acj,dA h.bt,an,gI h.l,an,h.ok,aX,aa,Fk d g,an,l,aX,aa,ajm h.l.s g,gG d];simp only[an,n,o];rw[show aH b.1.data.toList=NF b from rfl];show _=some ((Wu c r b (A4 c r b) (A3 c (Hw r b) (Rn c r b))).1,(Wu c r b (A4 c r b) (A3 c (Hw r b) (Rn c r b))).2,());rw[<-t,<-q];by_cases a:NF b>=r.2.1
 .have i:Hw r b=(r.1,NF b,r.2.2):=ak a;rw[aS a,ae,ae];cases k:Et c (see c r.2.2.2.1 b.2) b with
  |true =>
   obtain⟨e,f⟩:=aGc a k;rw[e,f,i,aCP k,ae]
  |false =>
   obtain⟨e,f⟩:=aFB (c:=c) (r:=r) (b:=b) (fun j=>by rw[k]at j;cases j.2);rw[e,f,i,aa]
 .have i:Hw r b=r:=ag a;obtain⟨e,f⟩:=aFB (c:=c) (r:=r) (b:=b) (fun j=>a j.1);rw[aV a,aa,aa,e,f,i];rfl
def aHh (r:aB)(p:b3):Bool:= !ec p.2.1&& !decide (p.1<r.2.1)
def Fs (c:Int×Int)(r:aB)(p:b3):aB×Bool :=
 if aHh r p=true/\(cR c r.2.2.2.2.2.1 p).2=true then ((kA c (nr r (cR c r.2.2.2.2.2.1 p).1) p.1 p.2.1 false).1,true) else (r,false)
def ba.aAP {c:Int×Int}{r:aB}(h:ba c r)(p:b3):ba c (Fs c r p).1:=by
 unfold Fs;split
 .exact(h.nr (CR h.f.t _)).asS _ _ _
 .exact h
def aGd {c:Int×Int}{p:b3}(h:iM c p=true):wP p:=⟨(Qa h).1,by have:=(Qa h).2;omega⟩
def asV {c:Int×Int}{r:aB}(h:ba c r){p:b3}(a:iM c p=true):DA F0 c r p=some ((Fs c r p).1,(Fs c r p).2,()):=by
 have e:=A2 (Ev h.f.t) (Qa a) c;have b:=h.nr (CR h.f.t p);have f:a6 F0 (r.1,r.2.1,r.2.2.1,r.2.2.2.1,r.2.2.2.2.1,(cR c r.2.2.2.2.2.1 p).1,r.2.2.2.2.2.2)=some (nr r (cR c r.2.2.2.2.2.1 p).1,()):=dA b.bt;obtain⟨x,g,i⟩:=Rm b p.1 (Qa a).1 false;rw[aeD,dA h.bt,an,gI h.l,an,h.ok,aX,aa,Q0 (aGd a),an,a,aX,aa];simp only[an,e,f,g];unfold Fs aHh ec;cases (p.2.1.toList==aj.toList)<;>cases decide (p.1<r.2.1)
 .cases j:(cR c r.2.2.2.2.2.1 p).2 with
  |false=>rfl
  |true =>
   rw[ak ⟨rfl,rfl⟩];cases d:(kA c (nr r (cR c r.2.2.2.2.2.1 p).1) p.1 p.2.1 false).2 with
   |true=>rw[i d];rfl|false=>rw[avf d];rfl
 .rfl
 .rfl
 .rfl
def aHi (q:b3):Int:=IP 60 (al (q.1+1))
def N9 (c:Int×Int)(r:aB)(view:Int):Bool:=decide (eG c view=r.1)&&decide (view>=r.2.1)
def Wv (l:Bool)(o:aB)(view:Int)(q:b3):aB:=if l=true then adK (adK o (aHi q)) view else adK o (aHi q)
def CS (imp:Bool)(c:Int×Int)(r:aB)(view:Int)(q:b3)(dJ:Int)(o:aB):aB×Bool :=
 if N9 c r view=true then
  if (cR c o.2.2.2.2.2.1 (one view aj dJ)).2=true then
   (Wv (am9 c (cR c o.2.2.2.2.2.1 (one view aj dJ)).1 view) (nr o (cR c o.2.2.2.2.2.1 (one view aj dJ)).1) view q,true)
  else (r,false)
 else (Wv (imp&&am9 c o.2.2.2.2.2.1 view) o view q,true)
def Ft (imp:Bool)(c:Int×Int)(r:aB)(view:Int)(q:b3)(dJ:Int):aB×Bool:=if (written c r q).2=true then CS imp c r view q dJ (written c r q).1 else (r,false)
def aqi {imp:Bool}{c:Int×Int}{r:aB}{view:Int}{q:b3}{dJ:Int}{o:aB}(h:N9 c r view=false):CS imp c r view q dJ o=(Wv (imp&&am9 c o.2.2.2.2.2.1 view) o view q,true):=ag (by rw[h];decide)
def axI {imp:Bool}{c:Int×Int}{r:aB}{view:Int}{q:b3}{dJ:Int}{o:aB}(h:N9 c r view=true)(a:(cR c o.2.2.2.2.2.1 (one view aj dJ)).2=false):CS imp c r view q dJ o=(r,false):=by unfold CS;rw[ak h,ag (by rw[a];decide)]
def axJ {imp:Bool}{c:Int×Int}{r:aB}{view:Int}{q:b3}{dJ:Int}{o:aB}(h:N9 c r view=true)(a:(cR c o.2.2.2.2.2.1 (one view aj dJ)).2=true) :
  CS imp c r view q dJ o=(Wv (am9 c (cR c o.2.2.2.2.2.1 (one view aj dJ)).1 view) (nr o (cR c o.2.2.2.2.2.1 (one view aj dJ)).1) view q,true):=by
 unfold CS;rw[ak h,ak a]
def azu (x:Int):IP 60 x<=60:=by unfold IP;split<;>omega
def Xd (x:Int):IP x 60=IP 60 x:=by unfold IP;split<;>split<;>omega
def aAQ (a b c:Int):tE (tE a b) c=tE (tE a c) b:=by
 unfold tE
 repeat' split
 all_goals omega
def ba.Wv {c:Int×Int}{o:aB}(h:ba c o)(l:Bool){view:Int}(a:view<=60)(q:b3):ba c (Wv l o view q):=by
 unfold Tryz.Wv;split
 .exact(h.raised (azu _)).raised a
 .exact h.raised (azu _)
def ba.CS {c:Int×Int}{r o:aB}(h:ba c r)(a:ba c o)(imp:Bool){view:Int}(b:view<=60)(q:b3)(dJ:Int):ba c (CS imp c r view q dJ o).1:=by
 unfold Tryz.CS;split
 .split
  .exact(a.nr (CR a.f.t _)).Wv _ b q
  .exact h
 .exact a.Wv _ b q
def ba.aAR {c:Int×Int}{r:aB}(h:ba c r)(imp:Bool){view:Int}(a:view<=60)(q:b3)(dJ:Int):ba c (Ft imp c r view q dJ).1:=by
 unfold Ft;split
 .exact h.CS (h.w q) imp a q dJ
 .exact h
def asW {c:Int×Int}{r:aB}(h:ba c r){view:Int}(m:fT 1 60 view=true){q:b3}(e:eI c q=true){dJ:Int}(n:fT 0 (al (c.1-1)) dJ=true) :
  DB F0 c r view q dJ=some ((Ft false c r view q dJ).1,(Ft false c r view q dJ).2,()):=by
 have i:=aaY e;have d:ba c (written c r q).1:=h.w q;rw[aeF,dA h.bt,an,gI h.l,an,h.ok,aX,aa,cy,an,m,aX,aa,QZ i,an,e,aX,aa,cy,an,n,aX,aa,ajm h.l.s i];simp only[an];rw[Rl h (azp h q),an];unfold Ft;unfold written at d ⊢;generalize A3 c r (see c r.2.2.2.1 q)=W at d ⊢;obtain⟨a,o⟩:=W;dsimp only at d ⊢;cases o with
 |false=>rfl
 |true =>
  have s:ea F0 c a.2.2.2.2.2.1 (view,aj,[dJ])=some ((cR c a.2.2.2.2.2.1 (one view aj dJ)).1,(cR c a.2.2.2.2.2.1 (one view aj dJ)).2,()):=A2 (Ev d.f.t) ⟨a7 _,by show 1<=1000;omega⟩ c;have j:=CR d.f.t (one view aj dJ);have t:=Ri (l:=(cR c a.2.2.2.2.2.1 (one view aj dJ)).1) (aU (Ev j).1 (by omega)) (fun q e=>(Ev j).l e) view aj;show _=some ((CS false c r view q dJ a).1,(CS false c r view q dJ a).2,());rw[ak rfl];simp only[an,K0,s,t,aaJ,CQ,W9,ae];by_cases f:eG c view=r.1
  .rw[cj.2 f,ae];by_cases g:view>=r.2.1
   .have b:N9 c r view=true:=by unfold N9;rw[aS f,aS g];rfl
    rw[aS g,ae];cases k:(cR c a.2.2.2.2.2.1 (one view aj dJ)).2 with
    |false=>rw[axI b k];rfl
    |true =>
     rw[axJ b k,aX,aa];unfold am9;cases u:decide (((iP (cR c a.2.2.2.2.2.1 (one view aj dJ)).1 view aj).2.2.length:Int)>=nm c) with
     |false=>rw[aa,Xd];rfl|true=>rw[ae,Xd,aAQ];rfl
   .have b:N9 c r view=false:=by unfold N9;rw[aV g,Tr]
    rw[aqi b,aV g,aa,Xd];rfl
  .have b:N9 c r view=false:=by unfold N9;rw[aV f,Tq]
   rw[aqi b,b0.2 f,aa,Xd];rfl
def Xe (r:aB)(p:List dK):aB:=(r.1,r.2.1,r.2.2.1,r.2.2.2.1,p,r.2.2.2.2.2)
def ang (r:aB)(x:dK):aB×Bool:=(Xe r (po r.2.2.2.2.1 x).1,(po r.2.2.2.2.1 x).2)
def ba.Xe {c:Int×Int}{r:aB}(h:ba c r){p:List dK}(a:nn p=true):ba c (Xe r p) :=
 ⟨⟨h.f.cf,h.f.i,h.f.v,h.f.a,h.f.s,a,h.f.t,h.f.d,h.f.n,h.f.h⟩,h.b⟩
def ba.aEF {c:Int×Int}{r:aB}(h:ba c r)(x:dK):ba c (ang r x).1:=h.Xe (axF h.f.p x)
def axK {l:List dK}{x:dK}(h:(po l x).2=false):(po l x).1=l:=by
 unfold po at h ⊢;cases a:nn (Eu x l) with
 |true=>rw[a,ak rfl]at h;cases h|false=>rfl
def axL {c:Int×Int}{r:aB}(h:ba c r)(x:dK):Mk F0 c r x=some ((ang r x).1,(ang r x).2,()):=by
 have b:=(aaZ h.f.p).1;rw[alj,dA h.bt,an,gI h.l,an,h.ok,aX,aa,Wt (by omega),an];unfold ang;cases a:(po r.2.2.2.2.1 x).2 with
 |true=>rfl|false=>rw[axK a];rfl
def Zu (imp:Bool)(c:Int×Int)(r:aB)(m:ch):aB×Bool :=
 if m.1=1 then sB c r m.2.2.1 else if m.1=2 then Fs c r m.2.2.2.1 else if m.1=3 then Ft imp c r m.2.1 m.2.2.2.2.1 m.2.2.2.2.2.1 else ang r m.2.2.2.2.2.2
def adN (r:aB):aB:=nr r (asL r.2.2.2.2.2.1 (al (r.2.1-1)))
def finish (c:Int×Int)(r:aB):aB:=Xe (adN r) (au4 r.2.2.2.2.1 (ki c (adN r)))
def aa1 (imp:Bool)(c:Int×Int)(r:aB)(m:ch):aB×Bool:=if dC c m=true/\(Zu imp c r m).2=true then (finish c (Zu imp c r m).1,true) else (r,false)
def ba.adN {c:Int×Int}{r:aB}(h:ba c r):ba c (adN r):=h.nr (ane h.f.t _)
def ba.finish {c:Int×Int}{r:aB}(h:ba c r):ba c (finish c r):=h.adN.Xe (aoX h.f.p _)
def asX (c:Int×Int)(r:aB):(ki c r).1.length<=4/\(ki c r).2.length<=4:=by
 unfold ki;split
 .have:=Nw Q7 (xs:=XN r.2.2.2.1.2.2.2);exact⟨ajF this.1,ajF this.2⟩
 .exact⟨a7 _,a7 _⟩
structure aH9 (c:Int×Int) (m:ch):Prop where
 k:m.1=1\/m.1=2\/m.1=3\/m.1=4
 b:m.1=1->gH c m.2.2.1=true
 p:m.1=2->iM c m.2.2.2.1=true/\ec m.2.2.2.1.2.1=false
 v:m.1=3->fT 1 60 m.2.1=true/\eI c m.2.2.2.2.1=true/\fT 0 (al (c.1-1)) m.2.2.2.2.2.1=true
 t:m.1=4->fS m.2.2.2.2.2.2=true
 s:named m=m
def asY {c:Int×Int}{m:ch}(h:dC c m=true):aH9 c m:=by
 unfold dC at h;simp only[aE]at h;obtain⟨i,g,a⟩:=h;have d:=aaV g;by_cases b:m.1=1
 .rw[ak (by simpa using b)]at a;exact⟨.inl b,fun _=>a,fun h=>by omega,fun h=>by omega,fun h=>by omega,d⟩
 .by_cases e:m.1=2
  .rw[ag (by simpa using b),ak (by simpa using e)]at a;simp only[aE,abc]at a;exact⟨.inr (.inl e),fun h=>by omega,fun _=>a,fun h=>by omega,fun h=>by omega,d⟩
  .by_cases f:m.1=3
   .rw[ag (by simpa using b),ag (by simpa using e),ak (by simpa using f)]at a;simp only[aE]at a;exact⟨.inr (.inr (.inl f)),fun h=>by omega,fun h=>by omega,fun _=>a,fun h=>by omega,d⟩
   .rw[ag (by simpa using b),ag (by simpa using e),ag (by simpa using f)]at a;simp only[aE,cj]at a;exact⟨.inr (.inr (.inr a.1)),fun h=>by omega,fun h=>by omega,fun h=>by omega,fun _=>a.2,d⟩
def ba.aCQ {c:Int×Int}{r:aB}(h:ba c r)(imp:Bool){m:ch}(a:dC c m=true):ba c (Zu imp c r m).1:=by
 have b:=asY a;unfold Zu;split
 .exact h.anf _
 .split
  .exact h.aAP _
  .split
   .rename_i d;have:=(b.v d).1;simp only[fT,aE,bM]at this;exact h.aAR imp this.2 _ _
   .exact h.aEF _
def ba.heard {c:Int×Int}{r:aB}(h:ba c r)(imp:Bool)(m:ch):ba c (aa1 imp c r m).1:=by
 unfold aa1;split
 .rename_i a;exact(h.aCQ imp a.1).finish
 .exact h
def avg {c:Int×Int}{r:aB}(h:ba c r){m:ch}(b:dC c m=true):H9 F0 c r m=some ((Zu false c r m).1,(Zu false c r m).2,()):=by
 have a:=asY b;rw[ah7];unfold Zu;rcases a.k with k|k|k|k
 .rw[cj.2 k,ae,ak k,Zt h (a.b k),an]
 .rw[b0.2 (show m.1≠1 by omega),aa,cj.2 k,ae,ag (by omega),ak k,asV h (a.p k).1,an]
 .rw[b0.2 (show m.1≠1 by omega),aa,b0.2 (show m.1≠2 by omega),aa,cj.2 k,ae,ag (by omega),ag (by omega),ak k,asW h (a.v k).1 (a.v k).2.1 (a.v k).2.2,an]
 .rw[b0.2 (show m.1≠1 by omega),aa,b0.2 (show m.1≠2 by omega),aa,b0.2 (show m.1≠3 by omega),aa,ag (by omega),ag (by omega),ag (by omega),axL h,an]
def avh {c:Int×Int}{r:aB}(h:ba c r){m:ch}(e:eH m):O7 F0 c r m=some ((aa1 false c r m).1,(aa1 false c r m).2,()):=by
 rw[arM,gI h.l,an,h.ok,aX,aa,I9 e,an,dA h.bt,an];unfold aa1;cases d:dC c m with
 |false=>rfl
 |true =>
  rw[avg h d,an];have b:=h.aCQ false d;generalize Zu false c r m=X at b ⊢;obtain⟨a,ok⟩:=X;dsimp only at b ⊢;cases ok with
  |false=>rfl
  |true =>
   have f:J7 F0 c (a.1,a.2.1,a.2.2.1,a.2.2.2.1,a.2.2.2.2.1,asL a.2.2.2.2.2.1 (al (a.2.1-1)),a.2.2.2.2.2.2)=some (ki c (adN a),()):=aAv b.adN.l c;have i:=asX c (adN a);have g:=asN (p:=a.2.2.2.2.1) b.l.p (l:=ki c (adN a)) (by omega) (by omega);rw[aoS b.l.t b.l.tq,an,f,an,g,an];rfl
end Go.Am.Tryz
