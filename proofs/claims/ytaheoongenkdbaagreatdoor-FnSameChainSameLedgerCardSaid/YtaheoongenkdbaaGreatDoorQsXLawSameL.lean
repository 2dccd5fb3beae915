/- No condition. -/
import Derived.Test.YtaheoongenkdbaaGreatDoorQsXJL6
set_option linter.all false
namespace Go.Am.Tryz
open Go.Am
def YI {a:List Int}(h:a.length<=1000):sF F0 a a=some (true,()):=by
 rw[ae0,show((a.length:Int) != (a.length:Int))=false by simp,aa];refine cp (fun n k (z:Unit)=>uD F0 (z7 F0) n (oE a a k)) a.length (fun _ _=>True) _ (fun n k z b c=>.inr ⟨(),?_,trivial⟩) (fun n z c=>?_) F0.n 0 () (aQ _) trivial (by rw[bH];omega)
 .rw[Ea,aO b,ae,ao b,ad,ad,show(ay a (k:Int) 0 != ay a (k:Int) 0)=false by simp,aa,al (by omega)]
 .rw[Ea,aE,aa,WN]
def ai2 {x:ie}(h:M4 x):nj F0 x x=some (true,()):=by have a:=h.1;have b:=h.2;rw[ZI,YI (by omega),ag,ae,YI (by omega),ag]
def ac9 (l:List Int):∀k:Nat,k<=(nm l k).length+l.countP (fun x=>decide (0<=x/\x<(k:Int)))
 |0=>aQ _
 |k+1=>by
  have b:=ac9 l k;unfold nm;rw[aL];by_cases a:(k:Int)∈l
  .rw[ah a];have:l.countP (fun x=>decide (0<=x/\x<(k:Int)))<l.countP (fun x=>decide (0<=x/\x<((k+1:Nat):Int))):=by
    clear b
    induction l with
    |nil=>cases a
    |cons y l b =>
     have mono:l.countP (fun x=>decide (0<=x/\x<(k:Int)))<=l.countP (fun x=>decide (0<=x/\x<((k+1:Nat):Int))):=avO fun x _ c=>by have:=lT c;exact aH (by omega)
     rw[adf,adf];by_cases e:(k:Int)=y
     .subst e;rw[af (by simp),ah (by simp;omega)];omega
     .have f:(k:Int)∈l:=(fe.1 a).resolve_left e;have:=b f;by_cases d:decide (0<=y/\y<(k:Int))=true
      .have:=lT d;rw[ah d,ah (aH (by omega))];omega
      .rw[af d];split<;>omega
   simp only[ba];omega
  .rw[af a,dr];have mono:l.countP (fun x=>decide (0<=x/\x<(k:Int)))<=l.countP (fun x=>decide (0<=x/\x<((k+1:Nat):Int))):=avO fun x _ c=>by have:=lT c;exact aH (by omega)
   omega
def ao6 {w:ak}(G:aJ w):((b8 w).length:Int)>=BH w.1:=by have h:=ac9 w.2.1 w.2.2.1.length;have a:w.2.1.countP (fun x=>decide (0<=x/\x<(w.2.2.1.length:Int)))<=w.2.1.length:=avP;have b:=G.n;have c:=G.lf;unfold b8;unfold BH BG at *;rw[ah G.c]at *;omega
def aDI (g:ak){A B:aA}{x y:ie}(b:M4 x)(c:M4 y)(d:A.2.2.2.1.2.2.2.size<=1048576)(e:B.2.2.2.1.2.2.2.size<=1048576)
  (f:aiZ B.2.2.2.1.2.2.2 A.2.2.2.1.2.2.2=true->∀j:Nat,j<4->ay x.2 (j:Int) 0<=ay y.2 (j:Int) 0) {γ:Type} (J:Ex->St->Option γ) (n:Nat) (xs:List Int) (i k:Int) :
  cv F0 (cM F0 J n) F0.n (cc i k 0 g.1.1 g.1.2 g.2.1 g.2.2.1 g.2.2.2.1 g.2.2.2.2 A.1 A.2.1 A.2.2.1 A.2.2.2.1.1 A.2.2.2.1.2.1 A.2.2.2.1.2.2.1.1 A.2.2.2.1.2.2.1.2.1 A.2.2.2.1.2.2.1.2.2 A.2.2.2.1.2.2.2 A.2.2.2.2.1 A.2.2.2.2.2.1 A.2.2.2.2.2.2.1.1 A.2.2.2.2.2.2.1.2 A.2.2.2.2.2.2.2 B.1 B.2.1 B.2.2.1 B.2.2.2.1.1 B.2.2.2.1.2.1 B.2.2.2.1.2.2.1.1 B.2.2.2.1.2.2.1.2.1 B.2.2.2.1.2.2.1.2.2 B.2.2.2.1.2.2.2 B.2.2.2.2.1 B.2.2.2.2.2.1 B.2.2.2.2.2.2.1.1 B.2.2.2.2.2.2.1.2 B.2.2.2.2.2.2.2 xs x.1 x.2 y.1 y.2) =
  cw F0 J n (cd i (ai (k+1)) g.1.1 g.1.2 g.2.1 g.2.2.1 g.2.2.2.1 g.2.2.2.2 xs):=by
 have o:=b.2;have p:=c.2;refine cp (fun m j (z:Unit)=>cv F0 (cM F0 J n) m (cc i k j g.1.1 g.1.2 g.2.1 g.2.2.1 g.2.2.2.1 g.2.2.2.2 A.1 A.2.1 A.2.2.1 A.2.2.2.1.1 A.2.2.2.1.2.1 A.2.2.2.1.2.2.1.1 A.2.2.2.1.2.2.1.2.1 A.2.2.2.1.2.2.1.2.2 A.2.2.2.1.2.2.2 A.2.2.2.2.1 A.2.2.2.2.2.1 A.2.2.2.2.2.2.1.1 A.2.2.2.2.2.2.1.2 A.2.2.2.2.2.2.2 B.1 B.2.1 B.2.2.1 B.2.2.2.1.1 B.2.2.2.1.2.1 B.2.2.2.1.2.2.1.1 B.2.2.2.1.2.2.1.2.1 B.2.2.2.1.2.2.1.2.2 B.2.2.2.1.2.2.2 B.2.2.2.2.1 B.2.2.2.2.2.1 B.2.2.2.2.2.2.1.1 B.2.2.2.2.2.2.1.2 B.2.2.2.2.2.2.2 xs x.1 x.2 y.1 y.2)) x.2.length (fun _ _=>True) _ (fun m j z a h=>?_) (fun m z h=>?_) F0.n 0 () (aQ _) trivial (by rw[bH];omega)
 .rw[iQ,aO a,ae,acI e d,ag];cases l:aiZ B.2.2.2.1.2.2.2 A.2.2.2.1.2.2.2 with
  |true =>
   have:=f l j (by omega);refine .inr ⟨(),?_,trivial⟩;rw[ae,ao a,ad,ao (show j<y.2.length by omega),ad,aK (by omega),aa,al (by omega)]
  |false =>
   refine .inl ?_;rw[aa,j2]
 .rw[iQ,aE,aa,j2]
def aDJ {a b:ByteArray}(h:(a.toList==b.toList)=true):a.data.toList=b.data.toList:=by have:=Pc a.data.toList b.data.toList;rw[<-QO,<-QO]at this;exact lT (this.symm.trans h)
section
variable {g:ak}
def azc (G:aJ g){k:Nat}(a:k<g.2.2.1.length):bw (g.2.2.1[k]).2.2.2.1.2.2.2.data.toList=true:=(ey (G.g _ (cy a)).f.s).2.2.2
def Pv (G:aJ g){k:Nat}(a:k<g.2.2.1.length):fR g.1 g.2.2.1[k]=ho aiY (aAt (g.2.2.1[k]).2.2.2.1.2.2.2.data.toList):=ah (G.g _ (cy a)).ok
def aEH (G:aJ g){γ:Type}(J:Ex->St->Option γ)(n:Nat){i:Nat}(hi:i<(b8 g).length) :
  cw F0 (cN F0 J n) F0.n (cd (i:Int) 0 g.1.1 g.1.2 g.2.1 g.2.2.1 g.2.2.2.1 g.2.2.2.2 (b8 g))=cx F0 J n (cg ((i+1:Nat):Int) g.1.1 g.1.2 g.2.1 g.2.2.1 g.2.2.2.1 g.2.2.2.2 (b8 g)):=by
 have hlen:=pA g;have x:=G.le7;obtain⟨p,j,a⟩:=ap8 hi;have l:=G.g _ (cy a);have o:=azc G a;have y:=lP o;refine cp (fun m k (z:Unit)=>cw F0 (cN F0 J n) m (cd (i:Int) k g.1.1 g.1.2 g.2.1 g.2.2.1 g.2.2.2.1 g.2.2.2.2 (b8 g))) (b8 g).length (fun _ _=>True) _ (fun m k z d r=>.inr ⟨(),?_,trivial⟩) (fun m z r=>?_) F0.n 0 () (aQ _) trivial (by rw[bH];omega)
 .obtain⟨q,eq,b⟩:=ap8 d;have s:=G.g _ (cy b);have f:=azc G b;have A:=lP f;have t:M4 (fR g.1 g.2.2.1[p]):=by rw[Pv G a];exact Hs M5
  have h:M4 (fR g.1 g.2.2.1[q]):=by rw[Pv G b];exact Hs M5
  have u:aiZ (g.2.2.1[q]).2.2.2.1.2.2.2 (g.2.2.1[p]).2.2.2.1.2.2.2=true->∀c:Nat,c<4->ay (fR g.1 g.2.2.1[p]).2 (c:Int) 0<=ay (fR g.1 g.2.2.1[q]).2 (c:Int) 0:=by intro v c B;rw[Pv G a,Pv G b];exact aCr f (aCq v).2.2 (c:Int) (by omega) (by omega)
  have fin:=aDI g t h (by omega) (by omega) u (cN F0 J n) m (b8 g) (i:Int) (k:Int);rw[al (by omega)]at fin;rw[iR,aO d,ae,ao hi,ad,bb hi,j,ao a,ad,ao d,ad,bb d,eq,ao b,ad,bb a,bb b,show((g.1.1,g.1.2):Int×Int)=g.1 from rfl,ZX l.l,ag,ZX s.l,ag];cases w:((g.2.2.1[p]).2.2.2.1.2.2.2.toList==(g.2.2.1[q]).2.2.2.1.2.2.2.toList) with
  |true =>
   have e:fR g.1 g.2.2.1[p]=fR g.1 g.2.2.1[q]:=by rw[Pv G a,Pv G b,aDJ w]
   rw[ae];dsimp only;rw[show nj F0 (fR g.1 g.2.2.1[p]) (fR g.1 g.2.2.1[q])=some (true,()) by rw[e];exact ai2 h,ag,aG,aa];exact fin
  |false =>
   rw[aa];exact fin
 .rw[iR,aE,aa,z8,al (by omega)]
def aEI (G:aJ g):cx F0 (dR F0) F0.n (cg 0 g.1.1 g.1.2 g.2.1 g.2.2.1 g.2.2.2.1 g.2.2.2.2 (b8 g))=some (true,()):=by
 have hlen:=pA g;have d:=G.le7;refine cp (fun m k (z:Unit)=>cx F0 (dR F0) m (cg k g.1.1 g.1.2 g.2.1 g.2.2.1 g.2.2.2.1 g.2.2.2.2 (b8 g))) (b8 g).length (fun _ _=>True) _ (fun m k z a b=>.inr ⟨(),?_,trivial⟩) (fun m z b=>?_) F0.n 0 () (aQ _) trivial (by rw[bH];omega)
 .rw[iS,aO a,ae,aEH G _ _ a]
 .have c:=ao6 G;rw[iS,aE,aa,Aa,Va,ag,aH (by exact c)]
end
def J1 (code:List Int):eY F0 code=some (true,()):=by
 rw[Eb,atW,ag];by_cases h:(code.length:Int)>1048576
 .rw[aH h,ae]
 .rw[aK h,aa];obtain⟨⟨w,list,u⟩,f,i,j,d⟩:=aAq (code:=code) (by omega);obtain⟨c,a,rfl,b⟩:=i;dsimp only at j d;obtain⟨n,k⟩:=aAp b (list:=list) (by omega) d;have e:=avv (list:=list) b;rw[f,ag];have l:su F0 (aah c a).1 (aah c a).2.1=some (aah c a,true,()):=ao5 b;have m:j8 F0 (aah c a).1 (aah c a).2.1=some (aah c a,true,()):=QF b;rw[l,ag,m,ag];dsimp only;rw[aal,aG,aa,aa,k,ag,Mo e.w.l,ag];exact aEI e
end Go.Am.Tryz
