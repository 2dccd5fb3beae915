/- No condition. -/
import Derived.Test.YtpkabclplaibaaaGreatDoorQwYJL2
set_option linter.all false
namespace Go.Am.Tryz
open Go.Am
def dn (w:ai)(i:Nat):ByteArray:=aCs w ((aI w).getD i 0)
def azh {w:ai}{i j:Nat}(hi:i<(aI w).length)(e:(aI w)[i]=(j:Int))(a:j<w.2.2.1.length):dn w i=(w.2.2.1[j]).2.2.2.1.2.2.2:=by unfold dn aCs;rw[aR hi,e,l2,aR a]
def ap3 (w:ai):Bool:=b4 w&&(List.range (aI w).length).all fun i=>(List.range (aI w).length).all fun k=>ag4 (dn w i) (dn w k)
def aEm {w:ai}(h:ff w){γ:Type}(J:Ex->St->Option γ)(n:Nat){i:Nat}(hi:i<(aI w).length) :
  nS F0 (j9 F0 J n) F0.n (j8 (aI w)[i] ((aI w).length:Int) (i:Int) ((aI w).length:Int) 0 w.1.1 w.1.2 w.2.1 w.2.2.1 w.2.2.2.1 w.2.2.2.2 (aI w) (aI w)) =
  if ((List.range (aI w).length).all fun k=>ag4 (dn w i) (dn w k))=true then nT F0 J n (ka ((aI w).length:Int) ((i+1:Nat):Int) w.1.1 w.1.2 w.2.1 w.2.2.1 w.2.2.2.1 w.2.2.2.2 (aI w)) else J .ret (Ar false):=by
 have hlen:(aI w).length<=1048576:=aU (iN w.2.1 w.2.2.1.length) h.r;obtain⟨f,e,b⟩:=oh hi;refine eU (fun m k=>nS F0 (j9 F0 J n) m (j8 (aI w)[i] ((aI w).length:Int) (i:Int) ((aI w).length:Int) k w.1.1 w.1.2 w.2.1 w.2.2.1 w.2.2.2.1 w.2.2.2.2 (aI w) (aI w))) (aI w).length (fun k=>ag4 (dn w i) (dn w k)) _ _ (fun m k a=>?_) (fun m=>?_) _ (by rw[bg];omega)
 .obtain⟨g,d,c⟩:=oh a;rw[E6,aO a,ae,ao a,ab,e,ao b,ab,aY a,d,ao c,ab,aY b,aY c,axa (h.rl _ (bT b)).s.2 (h.rl _ (bT c)).s.2,an,aap,ah (by omega),azh hi e b,azh a d c];dsimp only;cases ag4 (w.2.2.1[f]).2.2.2.1.2.2.2 (w.2.2.1[g]).2.2.2.1.2.2.2<;>rfl
 .rw[E6,aA,aa,XD,ah (by omega)]
def aoF {w:ai}(h:ff w):D7 F0 w=some (ap3 w,()):=by
 have hlen:(aI w).length<=1048576:=aU (iN w.2.1 w.2.2.1.length) h.r;rw[aeZ,eW h,an,mf h,an];unfold ap3;dsimp only;cases b:b4 w with
 |false=>rfl
 |true =>
  rw[aX,aa,fF,eU (fun m k=>nT F0 (pc F0) m (ka ((aI w).length:Int) k w.1.1 w.1.2 w.2.1 w.2.2.1 w.2.2.2.1 w.2.2.2.2 (aI w))) (aI w).length (fun i=>(List.range (aI w).length).all fun k=>ag4 (dn w i) (dn w k)) (some (true,())) (some (false,())) (fun m k a=>?_) (fun m=>?_) _ (by rw[bg];omega),tD]
  .rw[E7,aO a,ae,ao a,ab,show(((w.1.1,w.1.2),w.2.1,w.2.2.1,w.2.2.2.1,w.2.2.2.2):ai)=w from rfl,mf h,an];dsimp only;rw[aY a,aEm h _ _ a,aaq]
  .rw[E7,aA,aa,XE]
def Wd (w:ai)(x:Int):b3:=(w.2.2.1.getD x.toNat Wc).2.2.2.1.2.2.1
def Q6 (c:Int×Int)(x:gF):List b3:=if ((iZ c x.2).1.1==1)=true then [(iZ c x.2).1.2.2.1.2] else if ((iZ c x.2).1.1==3)=true then [(iZ c x.2).1.2.2.2.2.1] else []
def Es (c:Int×Int):List gF->List b3->List b3
 |[],xs=>xs|x::l,xs=>Es c l (xs++Q6 c x)
def adx (c:Int×Int):∀(l:List gF) (xs:List b3) (x:gF),Es c (l++[x]) xs=Es c l xs++Q6 c x
 |[],_,_=>rfl|_::l,_,x=>adx c l _ x
def axb (c:Int×Int)(x:gF):(Q6 c x).length<=1:=by
 unfold Q6;split
 .exact bh _
 .split
  .exact bh _
  .exact a7 _
def We (c:Int×Int):∀(l:List gF) (xs:List b3),(Es c l xs).length<=xs.length+l.length
 |[],_=>bh _|x::l,xs=>by have a:=We c l (xs++Q6 c x);have b:=axb c x;rw[aN]at a;unfold Es;rw[a1];omega
def Lc (w:ai):List b3:=Es w.1 w.2.2.2.1 ((aI w).map (Wd w))
def aAn {V:Type}(X:List b3->V)(c:Int×Int)(x:gF)(xs:List b3) :
  br ((iZ c x.2).1.1==1) (X (xs++[(iZ c x.2).1.2.2.1.2])) (br ((iZ c x.2).1.1==3) (X (xs++[(iZ c x.2).1.2.2.2.2.1])) (X xs))=X (xs++Q6 c x):=by
 unfold Q6;cases ((iZ c x.2).1.1==1) with
 |true=>rfl
 |false =>
  cases ((iZ c x.2).1.1==3) with
  |true=>rfl
  |false =>
   rw[ag (by decide),ag (by decide),fD];rfl
def aAo {U V:Type}(f:U->V)(l:List U)(x:U):(l++[x]).map f=l.map f++[f x]:=by rw[Zv,List.map_singleton]
def aF4 (a b:b3):Bool:=(a.1==b.1)&& !(a.2.1.toList==b.2.1.toList)
def Ru (l:List b3)(i k:Nat):Bool:= !aF4 (l.getD i cd) (l.getD k cd)
def W3 (w:ai):Bool:=b4 w&&(List.range (Lc w).length).all fun i=>(List.range (Lc w).length).all (Ru (Lc w) i)
def axc {w:ai}(h:ff w):(Lc w).length<=2097152:=by have hlen:(aI w).length<=1048576:=aU (iN w.2.1 w.2.2.1.length) h.r;have a:=We w.1 w.2.2.2.1 ((aI w).map (Wd w));have b:=h.n;rw[pw]at a;unfold Lc;omega
def axd {V:Type}(a b:Bool)(x y:V):br a (br (!b) x y) y=if (!(a&& !b))=true then y else x:=by cases a<;>cases b<;>rfl
def aAp {l:List b3}(b:l.length<=2097152){γ:Type}(J:Ex->St->Option γ)(n:Nat){i:Nat}(hi:i<l.length):gC F0 (hl F0 J n) F0.n (eY (l.length:Int) (i:Int) (l.length:Int) 0 (l[i]).1 (l[i]).2.1 (l[i]).2.2 l) =
  if (List.range l.length).all (Ru l i)=true then gD F0 J n (eZ (l.length:Int) ((i+1:Nat):Int) l) else J .ret (sW false):=by
 refine eU (fun m k=>gC F0 (hl F0 J n) m (eY (l.length:Int) (i:Int) (l.length:Int) k (l[i]).1 (l[i]).2.1 (l[i]).2.2 l)) l.length (Ru l i) _ _ (fun m k a=>?_) (fun m=>?_) _ (by rw[bg];omega)
 .rw[Av,aO a,ae,ao a,ab,aY a,Vs,ah (by omega),axd];unfold Ru aF4;rw[aR hi,aR a]
 .rw[Av,aA,aa,Th,ah (by omega)]
def axe {l:List b3}(b:l.length<=2097152):gD F0 (hn F0) F0.n (eZ (l.length:Int) 0 l)=some (((List.range l.length).all fun i=>(List.range l.length).all (Ru l i)),()):=by
 rw[eU (fun m k=>gD F0 (hn F0) m (eZ (l.length:Int) k l)) l.length (fun i=>(List.range l.length).all (Ru l i)) (some (true,())) (some (false,())) (fun m k a=>?_) (fun m=>?_) _ (by rw[bg];omega),tD]
 .rw[Aw,aO a,ae,ao a,ab,aY a,aAp b _ _ a,Vt]
 .rw[Aw,aA,aa,Ti]
def axf {w:ai}(h:ff w){b:List b3}(g:b.length<=1048576){R:Option (Bool×Unit)}(e:e1 F0 (.exit 2) (p8 (Es w.1 w.2.2.2.1 b))=R) :
  dU F0 (e1 F0) F0.n (da w.2.2.2.1 (w.2.2.2.1.length:Int) 0 w.1.1 w.1.2 w.2.1 w.2.2.1 w.2.2.2.1 w.2.2.2.2 b)=R:=by
 have j:=h.n;refine cx (fun n i (a:List b3)=>dU F0 (e1 F0) n (da w.2.2.2.1 (w.2.2.2.1.length:Int) i w.1.1 w.1.2 w.2.1 w.2.2.1 w.2.2.2.1 w.2.2.2.2 a)) w.2.2.2.1.length (fun k a=>a=Es w.1 (w.2.2.2.1.take k) b) _ (fun n k a c d=>.inr ⟨Es w.1 (w.2.2.2.1.take (k+1)) b,?_,rfl⟩) (fun n a d=>?_) _ 0 b (a7 _) rfl (by rw[bg];omega)
 .have f:=We w.1 (w.2.2.2.1.take k) b;rw[<-d,bQ]at f;rw[Ax,aO c,ae,ao c,ab,aY c,show((w.1.1,w.1.2):Int×Int)=w.1 from rfl,amC (h.nb _ (bT c)),an,au (by omega) (by omega) (by rw[bU];omega),ab,au (by omega) (by omega) (by rw[bU];omega),ab,ah (by omega),ef c,adx,<-d];exact aAn (fun a=>dU F0 (e1 F0) n (da w.2.2.2.1 (w.2.2.2.1.length:Int) ((k+1:Nat):Int) w.1.1 w.1.2 w.2.1 w.2.2.1 w.2.2.2.1 w.2.2.2.2 a)) w.1 w.2.2.2.1[k] a
 .rw[Ax,aA,aa,d,l3];exact e
def ai6 {w:ai}(h:ff w):u7 F0 w=some (W3 w,()):=by
 have hlen:(aI w).length<=1048576:=aU (iN w.2.1 w.2.2.1.length) h.r;have f:=axc h;rw[aat,eW h,an,mf h,an];dsimp only;have key:kc F0 (kT F0) F0.n (ho ((aI w).length:Int) 0 w.1.1 w.1.2 w.2.1 w.2.2.1 w.2.2.2.1 w.2.2.2.2 [] (aI w))=some (((List.range (Lc w).length).all fun i=>(List.range (Lc w).length).all (Ru (Lc w) i)),()):=by
  refine cx (fun n i (a:List b3)=>kc F0 (kT F0) n (ho ((aI w).length:Int) i w.1.1 w.1.2 w.2.1 w.2.2.1 w.2.2.2.1 w.2.2.2.2 a (aI w))) (aI w).length (fun k a=>a=((aI w).take k).map (Wd w)) _ (fun n k a b c=>.inr ⟨((aI w).take (k+1)).map (Wd w),?_,rfl⟩) (fun n a c=>?_) _ 0 [] (a7 _) rfl (by rw[bg];omega)
  .obtain⟨g,e,d⟩:=oh b;have f:a.length<=1048576:=by rw[c,pw,bQ];omega
   have j:Wd w (g:Int)=(w.2.2.1[g]).2.2.2.1.2.2.1:=by unfold Wd;rw[l2,aR d]
   rw[Ay,aO b,ae,ao b,ab,aY b,e,ao d,ab,au (by omega) (by omega) (by rw[bU];omega),ab,ah (by omega),aY d,ef b,aAo,<-c,e,j]
  .rw[Ay,aA,aa,Tk,c,l3];exact axf h (by rw[pw];omega) (by rw[Tj];exact axe f)
 rw[key];unfold W3;cases b4 w<;>rfl
def hK:bm:=(0,0,cd,aj)
def ap4:nV hK:=⟨de,a7 _⟩
def auB {b:List Int}{s:P9}(h:(cQ b s).2.2=true):s.2=true:=by
 unfold cQ at h;split at h
 .split at h
  .assumption
  .cases h
 .cases h
def Ld (b:List Int):bm×P9 :=
 (((ht b).1,(aP b (ht b).2).1,(vP b (aP b (ht b).2).2).1,(cQ b (vP b (aP b (ht b).2).2).2).1),(cQ b (vP b (aP b (ht b).2).2).2).2)
def nq (c:Int×Int)(b:List Int):bm×Bool:=if (Ld b).2.2=true/\((Ld b).2.1:Int)=(b.length:Int)/\bP c (Ld b).1=true then ((Ld b).1,true) else (hK,false)
def amG {b:List Int}(a:cC b)(h:(Ld b).2.2=true):nV (Ld b).1:=by have d:(ht b).2.1<=b.length:=(dz a (s:=(0,true)) (a7 _)).1;have e:=(dz a d).1;have q:=Q3 a e;have x:=wM a q.1;have c:(cQ b (vP b (aP b (ht b).2).2).2).2.2=true->(vP b (aP b (ht b).2).2).2.2=true:=auB;unfold Ld at h ⊢;generalize cQ b (vP b (aP b (ht b).2).2).2=f at h x c ⊢;generalize vP b (aP b (ht b).2).2=g at q c ⊢;generalize aP b (ht b).2=i;generalize ht b=j;exact⟨q.2 (c h),x.2⟩
def aCt {b:List Int}(a:cC b)(c:Int×Int):nV (nq c b).1:=by
 unfold nq;split
 .rename_i h;exact amG a h.1
 .exact ap4
def awi {c:Int×Int}{b:List Int}{m:bm}{s:P9}{f:bm->Option (Bool×Unit)}(h:s.2=true->f m=some (bP c m,())) :
  br (!s.2) (some (hK,false,())) (br ((s.1:Int) != (b.length:Int)) (some (hK,false,())) ((f m).bind fun d=>br (!d.1) (some (hK,false,())) (some (m,true,())))) =
   some ((if s.2=true/\(s.1:Int)=(b.length:Int)/\bP c m=true then ((m,true):bm×Bool) else (hK,false)).1,(if s.2=true/\(s.1:Int)=(b.length:Int)/\bP c m=true then ((m,true):bm×Bool) else (hK,false)).2,()):=by
 cases e:s.2 with
 |false =>
  rw[ag (fun h=>by cases h.1)];rfl
 |true =>
  rw[aX,aa,h e,an];by_cases a:(s.1:Int)=(b.length:Int)
  .rw[show((s.1:Int) != (b.length:Int))=false from Tn.2 a,aa];cases g:bP c m with
   |false =>
    rw[ag (fun h=>by cases h.2.2)];rfl
   |true =>
    rw[ak ⟨rfl,a,rfl⟩];rfl
  .rw[Ez.2 a,ae,ag (fun h=>a h.2.1)]
def axg {b:List Int}(a:cC b)(c:Int×Int):My F0 c b=some ((nq c b).1,(nq c b).2,()):=by have j:cF F0 (b,0,true)=some (((ht b).1,()),cell b (ht b).2,()):=sx a (s:=(0,true)) (a7 _);have e:(ht b).2.1<=b.length:=(dz a (s:=(0,true)) (a7 _)).1;have g:=(dz a e).1;have q:=Q3 a g;have d:=amG a;rw[alE,j,an,sx a e,an,aw2 a g,an,adt a q.1,an];unfold nq;unfold Ld at d ⊢;generalize cQ b (vP b (aP b (ht b).2).2).2=i at d ⊢;generalize vP b (aP b (ht b).2).2=k at d ⊢;generalize aP b (ht b).2=l at d ⊢;generalize ht b=n at d ⊢;exact awi (c:=c) (b:=b) (m:=(n.1,l.1,k.1,i.1)) (s:=i.2) (f:=fun m=>hS F0 c m) fun h=>CL (d h) c
def auC {b:List Int}(a:cC b)(c:Int×Int):M4 F0 c b=some ((nq c b).1,(nq c b).2,()):=by have j:bB F0 (b,0,false)=some (((ht b).1,()),Wa b (ht b).2,()):=lV a (s:=(0,true)) (a7 _);have e:(ht b).2.1<=b.length:=(dz a (s:=(0,true)) (a7 _)).1;have g:=(dz a e).1;have q:=Q3 a g;have d:=amG a;rw[al8,j,an,lV a e,an,asv a g,an,W1 a q.1,an];unfold nq;unfold Ld at d ⊢;generalize cQ b (vP b (aP b (ht b).2).2).2=i at d ⊢;generalize vP b (aP b (ht b).2).2=k at d ⊢;generalize aP b (ht b).2=l at d ⊢;generalize ht b=n at d ⊢;exact awi (c:=c) (b:=b) (m:=(n.1,l.1,k.1,i.1)) (s:=i.2) (f:=fun m=>wE F0 c m) fun h=>agZ (d h) c
def Wg (b:List Int)(i j:Nat):List Int:=(b.take j).drop i
def ady {b:List Int}(a:cC b)(i j:Nat):cC (Wg b i j):=by have d:=a.1;refine⟨?_,fun x c=>a.2 x (XQ (aqD c))⟩;unfold Wg;rw[bA,bQ];omega
def aAq {b:List Int}(a:cC b):bytesOf (strOf b)=b:=by unfold bytesOf strOf;simp only[List.map_map];refine(List.map_congr_left fun x c=>?_).trans (List.map_id b);have:=a.2 x c;simp only[Function.comp,id,UInt8.toNat_ofNat'];omega
def Hv (c:Int×Int)(b:List Int)(a:Nat):Option (bm×Nat):=match q2 b a with
 |none=>none|some (v,d)=>if v>=(b.length:Int)-d then none else if b.getD (d+v.toNat) 0≠10 then none else if (nq c (Wg b d (d+v.toNat))).2=true then some ((nq c (Wg b d (d+v.toNat))).1,d+v.toNat+1) else none
def Fm (c:Int×Int)(b:List Int):Nat->bm->Nat->bm×Nat
 |0,s,a=>(s,a)|f+1,s,a=>match Hv c b a with
  |none=>(s,a)|some (d,e)=>Fm c b f d e
def fo (c:Int×Int)(b:List Int):bm×Nat:=Fm c b (b.length+1) hK 0
def CM {c:Int×Int}{b:List Int}{a:Nat}{v:Int}{a':Nat}(h:q2 b a=some (v,a')):Hv c b a =
  if v>=(b.length:Int)-a' then none else if b.getD (a'+v.toNat) 0≠10 then none else if (nq c (Wg b a' (a'+v.toNat))).2=true then some ((nq c (Wg b a' (a'+v.toNat))).1,a'+v.toNat+1) else none:=by
 unfold Hv;rw[h]
def CN {c:Int×Int}{b:List Int}{a:Nat}(h:q2 b a=none):Hv c b a=none:=by unfold Hv;rw[h]
def gV {c:Int×Int}{b:List Int}{f:Nat}{s:bm}{a:Nat}(h:Hv c b a=none):Fm c b (f+1) s a=(s,a):=by unfold Fm;rw[h]
def CO {c:Int×Int}{b:List Int}{f:Nat}{s d:bm}{a a':Nat}(h:Hv c b a=some (d,a')):Fm c b (f+1) s a=Fm c b f d a':=by rw[Fm,h]
def auD {c:Int×Int}{b:List Int}(f:cC b){a:Nat}(i:a<=b.length){s:bm}{a':Nat}(h:Hv c b a=some (s,a')):a<a'/\a'<=b.length/\nV s:=by
 cases e:q2 b a with
 |none=>rw[CN e]at h;cases h
 |some r =>
  obtain⟨v,d⟩:=r;have j:=W0 f i e;have g:=aCt (ady f d (d+v.toNat)) c;rw[CM e]at h;generalize nq c (Wg b d (d+v.toNat))=r at h g;split at h
  .cases h
  .rename_i k;split at h
   .cases h
   .split at h
    .cases h;exact⟨by omega,by omega,g⟩
    .cases h
def ap5 (c:Int×Int){b:List Int}(g:cC b)(p q t:Int)(u w:ByteArray)(xs:List Int):∀(f:Nat) (s:bm) (a n:Nat),a<=b.length->b.length+1<=a+f->f<n ->
  uS F0 (y7 F0) n (o0 b (a:Int) c.1 c.2 p q t u w s.1 s.2.1 s.2.2.1.1 s.2.2.1.2.1 s.2.2.2 xs s.2.2.1.2.2)=some ((Fm c b f s a).1,((Fm c b f s a).2:Int),())
 |0,s,a,n,j,x,y=>by omega
 |f+1,s,a,n,j,x,y=>by
  obtain⟨n,rfl⟩:∃m,n=m+1:=⟨n-1,by omega⟩;have A:=g.1;cases i:q2 b a with
  |none =>
   have law:jS F0 b (a:Int)=some (0,0,false,()):=by rw[ads g j,i];rfl
   rw[EV,law,an,Kf,gV (CN i)];rfl
  |some r =>
   obtain⟨v,d⟩:=r;have B:=W0 g j i;have law:jS F0 b (a:Int)=some (v,(d:Int),true,()):=by rw[ads g j,i];rfl
   have e:=CM (c:=c) i;rw[EV,law,an,Kf];dsimp only;rw[aX,aa,aG (n:=(b.length:Int)-d) (by omega) (by omega),show al ((d:Int)+v)=((d+v.toNat:Nat):Int) by rw[aG (by omega) (by omega)];omega];by_cases k:v>=(b.length:Int)-d
   .rw[ak k]at e;rw[aS k,ae,gV e]
   .have z:d+v.toNat<b.length:=by omega
    rw[ag k]at e;rw[aV k,aa,ao z,ab,kl];by_cases l:b.getD (d+v.toNat) 0=10
    .rw[ag (fun h=>h l)]at e;rw[show(b.getD (d+v.toNat) 0 != 10)=false from Tn.2 l,aa,WZ (by omega) (by omega),ab,show((c.1,c.2):Int×Int)=c from rfl,l2,l2,
      show((b.take (d+v.toNat)).drop d)=Wg b d (d+v.toNat) from rfl,axg (ady g _ _),an]
     dsimp only;generalize nq c (Wg b d (d+v.toNat))=r at e ⊢;cases o:r.2 with
     |false =>
      rw[o,ag (by decide)]at e;rw[fE,ae,gV e]
     |true =>
      rw[o,ak rfl]at e;rw[aX,aa,ah (by omega),CO e];exact ap5 c g p q t u w xs f r.1 (d+v.toNat+1) n (by omega) (by omega) (by omega)
    .rw[ak l]at e;rw[Ez.2 l,ae,gV e]
def asw {b:List Int}(a:cC b)(c:Int×Int):DI F0 c b=some ((fo c b).1,((fo c b).2:Int),()):=by have d:=a.1;rw[aeM,Sv,an];exact ap5 c a 0 0 0 _ _ [] (b.length+1) hK 0 _ (a7 _) (by omega) (by rw[bg];omega)
def aAr {b:List Int}{a:Nat}{v:Int}{a':Nat}(h:q2 b a=some (v,a')):aaO b a=if v>(b.length:Int)-a' then none else some (strOf (Wg b a' (a'+v.toNat)),a'+v.toNat):=by unfold aaO;rw[h];rfl
def aAs {b:List Int}{a:Nat}(h:q2 b a=none):aaO b a=none:=by unfold aaO;rw[h]
def amH (c:Int×Int){b:List Int}(g:cC b)(o p q:Int)(t u:ByteArray)(xs:List Int):∀(f:Nat) (s:bm) (a n:Nat),a<=b.length->b.length+1<=a+f->f<n ->
  nU F0 (pd F0) n (kd b (a:Int) c.1 c.2 o p q t u s.1 s.2.1 s.2.2.1.1 s.2.2.1.2.1 s.2.2.2 xs s.2.2.1.2.2)=some ((Fm c b f s a).1,((Fm c b f s a).2:Int),())
 |0,s,a,n,i,z,A=>by omega
 |f+1,s,a,n,i,z,A=>by
  obtain⟨n,rfl⟩:∃m,n=m+1:=⟨n-1,by omega⟩;have C:=g.1;have bad:mN F0 b (a:Int)=some (aj,0,false,())->Hv c b a=none->nU F0 (pd F0) (n+1) (kd b (a:Int) c.1 c.2 o p q t u s.1 s.2.1 s.2.2.1.1 s.2.2.1.2.1 s.2.2.2 xs s.2.2.1.2.2)=some ((Fm c b (f+1) s a).1,((Fm c b (f+1) s a).2:Int),()):=by intro law e;rw[Ff,law,an,KK,gV e];rfl
  cases j:q2 b a with
  |none=>exact bad (by rw[IM g i,aAs j];rfl) (CN j)
  |some r =>
   obtain⟨v,d⟩:=r;have D:=W0 g i j;have e:=CM (c:=c) j;have k:=aAr j;by_cases w:v>(b.length:Int)-d
   .rw[ak w]at k;rw[ak (show v>=(b.length:Int)-d by omega)]at e;exact bad (by rw[IM g i,k];rfl) e
   .rw[ag w]at k;have law:mN F0 b (a:Int)=some (strOf (Wg b d (d+v.toNat)),((d+v.toNat:Nat):Int),true,()):=by rw[IM g i,k];rfl
    rw[Ff,law,an,KK];dsimp only;rw[aX,aa];by_cases x:v>=(b.length:Int)-d
    .rw[ak x]at e;rw[aS (show((d+v.toNat:Nat):Int)>=(b.length:Int) by omega),ae,gV e]
    .have B:d+v.toNat<b.length:=by omega
     rw[ag x]at e;rw[aV (show ¬((d+v.toNat:Nat):Int)>=(b.length:Int) by omega),aa,ao B,ab,kl];by_cases l:b.getD (d+v.toNat) 0=10
     .have E:((strOf (Wg b d (d+v.toNat))).size:Int)<=1048576:=by have:=(ady g d (d+v.toNat)).1;show((((Wg b d (d+v.toNat)).map fun n=>UInt8.ofNat n.toNat).toArray.size:Nat):Int)<=1048576;rw[List.size_toArray,pw];omega
      rw[ag (fun h=>h l)]at e;rw[show(b.getD (d+v.toNat) 0 != 10)=false from Tn.2 l,aa,show((c.1,c.2):Int×Int)=c from rfl,aS (show((strOf (Wg b d (d+v.toNat))).size:Int)<=F0.mem by rw[aB0];omega),ab,aAq (ady g _ _),auC (ady g _ _),an];dsimp only;generalize nq c (Wg b d (d+v.toNat))=r at e ⊢;cases y:r.2 with
      |false =>
       rw[y,ag (by decide)]at e;rw[fE,ae,gV e]
      |true =>
       rw[y,ak rfl]at e;rw[aX,aa,ah (by omega),CO e];exact amH c g o p q t u xs f r.1 (d+v.toNat+1) n (by omega) (by omega) (by omega)
     .rw[ak l]at e;rw[Ez.2 l,ae,gV e]
def aoG {b:List Int}(a:cC b)(c:Int×Int):Ed F0 c b=some ((fo c b).1,((fo c b).2:Int),()):=by have d:=a.1;rw[ae5,aiL,an];exact amH c a 0 0 0 _ _ [] (b.length+1) hK 0 _ (a7 _) (by omega) (by rw[bg];omega)
def azi (c:Int×Int){b:List Int}(e:cC b):∀(f:Nat) (s:bm) (a:Nat),a<=b.length->nV s->nV (Fm c b f s a).1
 |0,_,_,_,h=>h|f+1,s,a,g,h=>by
  cases d:Hv c b a with
  |none =>
   rw[gV d];exact h
  |some r =>
   obtain⟨i,j⟩:=r;have:=auD e g d;rw[CO d];exact azi c e f i j this.2.1 this.2.2
def axh (c:Int×Int){b:List Int}(a:cC b):nV (fo c b).1:=azi c a _ _ _ (a7 _) ap4
def lW (a b:bm):Bool:=(a.1==b.1)&&((a.2.1==b.2.1)&&(gU a.2.2.1 b.2.2.1&&(a.2.2.2.toList==b.2.2.2.toList)))
def adz {a b:bm}(c:nV a)(d:nV b):th F0 a b=some (lW a b,()):=by rw[aex,afI c.1 d.1,an];unfold lW;cases (a.1==b.1)<;>cases (a.2.1==b.2.1)<;>cases gU a.2.2.1 b.2.2.1<;>rfl
def aoH {a b:bm}(c:nV a):Ee F0 a b=some (lW a b,()):=by rw[ae7,aaL c.1,an];unfold lW;cases (a.1==b.1)<;>cases (a.2.1==b.2.1)<;>cases gU a.2.2.1 b.2.2.1<;>rfl
def ap6 (c:Int×Int)(r:aB):Bool:=sN c r&&(lW (fo c r.2.2.2.2.2.2.1.1).1 r.2.2.2.1&&(((fo c r.2.2.2.2.2.2.1.1).2:Int)==(r.2.2.2.2.2.2.1.1.length:Int)))
def aAt {r:aB}(h:aoE r)(a:cC r.2.2.2.2.2.2.1.1)(c:Int×Int):WT F0 c r=some (ap6 c r,()):=by rw[ar1,aoG a,an,Q1 h,an,aoH (axh c a),an];unfold ap6;cases sN c r<;>cases lW (fo c r.2.2.2.2.2.2.1.1).1 r.2.2.2.1<;>rfl
def rp (w:ai)(i:Nat):aB:=w.2.2.1.getD ((aI w).getD i 0).toNat Wc
def ap7 {w:ai}{i j:Nat}(hi:i<(aI w).length)(e:(aI w)[i]=(j:Int))(a:j<w.2.2.1.length):rp w i=w.2.2.1[j]:=by unfold rp;rw[aR hi,e,l2,aR a]
def amI (w:ai)(i k:Nat):Bool:= !(((w.2.2.2.2.getD k Q4).2.2==(aI w).getD i 0)&&decide ((w.2.2.2.2.getD k Q4).1>(rp w i).2.2.2.1.1))
def asx (w:ai)(i:Nat):Bool:=ap6 w.1 (rp w i)&&(List.range w.2.2.2.2.length).all (amI w i)
def amJ (w:ai):Bool:=b4 w&&(List.range (aI w).length).all (asx w)
def axi (w:ai):Prop:=∀r∈w.2.2.1,cC r.2.2.2.2.2.2.1.1
def aAu {V:Type}(a b:Bool)(x y:V):br a (br b x y) y=if (!(a&&b))=true then y else x:=by cases a<;>cases b<;>rfl
def aCu {w:ai}(h:ff w){γ:Type}(J:Ex->St->Option γ)(n:Nat){i:Nat}(hi:i<(aI w).length) :
  ia F0 (iI F0 J n) F0.n (fB (aI w)[i] ((aI w).length:Int) (i:Int) w.2.2.2.2 (w.2.2.2.2.length:Int) 0 w.1.1 w.1.2 w.2.1 w.2.2.1 w.2.2.2.1 w.2.2.2.2 (aI w)) =
  if (List.range w.2.2.2.2.length).all (amI w i)=true then lQ F0 J n (iJ ((aI w).length:Int) ((i+1:Nat):Int) w.1.1 w.1.2 w.2.1 w.2.2.1 w.2.2.2.1 w.2.2.2.2 (aI w)) else J .ret (mV false):=by
 have hlen:(aI w).length<=1048576:=aU (iN w.2.1 w.2.2.1.length) h.r;have c:=h.s;obtain⟨d,e,b⟩:=oh hi;refine eU (fun m k=>ia F0 (iI F0 J n) m (fB (aI w)[i] ((aI w).length:Int) (i:Int) w.2.2.2.2 (w.2.2.2.2.length:Int) k w.1.1 w.1.2 w.2.1 w.2.2.1 w.2.2.2.1 w.2.2.2.2 (aI w))) w.2.2.2.2.length (amI w i) _ _ (fun m k a=>?_) (fun m=>?_) _ (by rw[bg];omega)
 .unfold amI;rw[Bz,aO a,ae,ao a,ab,e,ao b,aY a,aY b,ab,XJ,ah (by omega),aAu,aR a,ap7 hi e b,aR hi,e]
 .rw[Bz,aA,aa,VC,ah (by omega)]
def amK {w:ai}(h:ff w)(d:axi w):AD F0 w=some (amJ w,()):=by
 have hlen:(aI w).length<=1048576:=aU (iN w.2.1 w.2.2.1.length) h.r;rw[acV,eW h,an,mf h,an];dsimp only;rw[eU (fun m k=>lQ F0 (mW F0) m (iJ ((aI w).length:Int) k w.1.1 w.1.2 w.2.1 w.2.2.1 w.2.2.2.1 w.2.2.2.2 (aI w))) (aI w).length (asx w) (some (true,())) (some (false,())) (fun m k a=>?_) (fun m=>?_) _ (by rw[bg];omega),tD]
 .unfold amJ;cases b4 w<;>rfl
 .obtain⟨f,e,b⟩:=oh a;have c:=bT b;rw[BA,aO a,ae,ao a,ab,aY a,aCu h _ _ a,e,ao b,ab,aY b,show((w.1.1,w.1.2):Int×Int)=w.1 from rfl,aAt (h.rl _ c) (d _ c),an,XK];unfold asx;rw[ap7 a e b];dsimp only;cases ap6 w.1 w.2.2.1[f]<;>rfl
 .rw[BA,aA,aa,VD]
def ag5 {l:hJ}(g:aaI l){list:List dK}(m:list.length<=1048576):Fe F0 l list=some (eT l list,gn l list,()):=by
 rw[al7,VZ (by have:=g.1;omega) (by have:=g.2;omega),an];refine cx (fun n i (z:List Int×hJ)=>Ec F0 (Gi F0) n (u9 list (list.length:Int) i z.1 [] [] z.2.1 z.2.2)) list.length (fun k z=>z.1=gn l (list.take k)/\z.2=eT l (list.take k)) _ (fun n k z e f=>.inr ⟨(z.1++[(eJ z.2 list[k]).2],(eJ z.2 list[k]).1),?_,?_⟩) (fun n z f=>?_) F0.n 0 ([],l) (a7 _) ⟨rfl,rfl⟩ (by rw[bg];omega)
 .obtain⟨d,c⟩:=f;have h:aaI z.2:=by rw[c];exact Nw g
  have o:z.1.length<=1048576:=by rw[d,IK,bQ];omega
  rw[KG,aO e,ae,ao e,ab,agU e]
  try rw[aHc]
  rw[aCg (l:=(z.2.1,z.2.2)) (by have:=h.1;show z.2.1.length<=_;omega) (by have:=h.2;show z.2.2.length<=_;omega),an];simp only;rw[au (a:=z.1.length) (b:=[(eJ (z.2.1,z.2.2) list[k]).2].length) (k:=8) (by omega) (by omega) (by simp only[a1,bJ];omega),ab,ah (by omega)]
 .obtain⟨d,c⟩:=f;have j:list.take (k+1)=list.take k++[list[k]]:=by rw[Lt,nu e];rfl
  refine⟨?_,?_⟩
  .rw[j,QT,<-d,<-c];rfl
  .rw[j,Nx,<-c]
 .obtain⟨d,c⟩:=f;rw[l3]at d c;rw[KG,aA,aa,acR,d,c]
def axj {l:List UInt8}(f:l.length<=1073741824):CA F0 (tx l)=some ((bR l).1.flatMap (·.2),()):=by
 rw[aow,aaF f,an];have hlen:=wK l;have cz:=QS l;generalize h:(bR l).1=ss at hlen cz;refine cx (fun n i xs=>IB F0 (KA F0) n (Az (ss.length:Int) i xs ss)) ss.length (fun k xs=>xs=(ss.take k).flatMap (·.2)) _ (fun n k xs c d=>.inr ⟨_,?_,rfl⟩) (fun n xs d=>?_) F0.n 0 [] (a7 _) rfl (by rw[bg];omega)
 .have j:=(cz _ (bT c)).2.2.1;have e:=adk (ss:=ss.take k) fun x e=>cz x (XQ e)
  rw[<-d,bQ]at e;rw[MZ,aO c,ae,ao c,ab,agU c,au (a:=xs.length) (b:=ss[k].2.length) (k:=32) (by omega) (by omega) (by omega),ab,ah (by omega),d];have g:(ss.take (k+1)).flatMap (·.2)=(ss.take k).flatMap (·.2)++ss[k].2:=by rw[show ss.take (k+1)=ss.take k++[ss[k]] by rw[Lt,nu c];rfl,List.flatMap_append];simp
  rw[g]
 .rw[l3]at d;rw[MZ,aA,aa,ae1,d]
def XN (b:ByteArray):List dK:=(bR b.data.toList).1.flatMap (·.2)
def Fo (b:ByteArray):(XN b).length<=60:=by have a:=adk (QS b.data.toList);have c:=wK b.data.toList;unfold XN;omega
def auE {b:ByteArray}(h:b.size<=1048576):vw F0 b=some (XN b,()):=aAc (Zl h)
def ap8 {b:ByteArray}(h:b.size<=1048576):CA F0 b=some (XN b,()):=axj (Zl h)
def Q7:aaI V0:=⟨rfl,rfl⟩
def ki (c:Int×Int)(r:aB):hJ:=if sN c r=true then eT V0 (XN r.2.2.2.1.2.2.2) else ([],[])
def aAv {r:aB}(h:aoE r)(c:Int×Int):J7 F0 c r=some (ki c r,()):=by have a:=Fo r.2.2.2.1.2.2.2;rw[aog,gI h,an,Zk,an,auE h.s.2,an,ams Q7 (aU (Fo _) (by omega)),an];unfold ki;cases sN c r<;>rfl
def axk {r:aB}(h:aoE r)(c:Int×Int):QM F0 c r=some (ki c r,()):=by have a:=Fo r.2.2.2.1.2.2.2;rw[aox,Q1 h,an,V1,an,ap8 h.s.2,an,ag5 Q7 (aU (Fo _) (by omega)),an];unfold ki;cases sN c r<;>rfl
def auF (c:Int×Int)(r:aB):(ki c r).1.length<=4:=by
 unfold ki;split
 .exact ajF (Nw Q7).1
 .exact a7 _
def S5:List Int->Int->Int
 |[],n=>n|x::l,n=>S5 l (al (n+x))
def amL:∀(l:List Int) (x n:Int),S5 (l++[x]) n=al (S5 l n+x)
 |[],_,_=>rfl|_::l,x,_=>amL l x _
def axl {l:hJ}(h:l.1.length<=1048576):QN F0 l=some (S5 l.1 0,()):=by
 rw[aoz];refine cx (fun n i (q:Int)=>ID F0 (KH F0) n (AA q l.1 (l.1.length:Int) i)) l.1.length (fun k q=>q=S5 (l.1.take k) 0) _ (fun n k q a b=>.inr ⟨S5 (l.1.take (k+1)) 0,?_,rfl⟩) (fun n q b=>?_) _ 0 0 (a7 _) rfl (by rw[bg];omega)
 .rw[M3,aO a,ae,ao a,ab,aY a,ah (by omega),ef a,amL,<-b]
 .rw[M3,aA,aa,ae4,b,l3]
def S6 (c:Int):Bool:=(c==0) || (c==4)
def okP (xs:List dK)(cs:List Int)(i k:Nat):Bool:= !(S6 (cs.getD i 0)&&(S6 (cs.getD k 0)&&(((xs.getD i nW).1==(xs.getD k nW).1)&&((xs.getD i nW).2.2.2==(xs.getD k nW).2.2.2))))
def auG (b:ByteArray):Bool:=(List.range (XN b).length).all fun i=>(List.range i).all (okP (XN b) (gn V0 (XN b)) i)
def asy (w:ai)(i:Nat):Bool:= !(S5 (ki w.1 (rp w i)).1 0 != 400)&&auG (rp w i).2.2.2.1.2.2.2
def aaS (w:ai):Bool:=b4 w&&(List.range (aI w).length).all (asy w)
def axm {V:Type}(a b e f:Bool)(x y:V):br a (br b (br e (br f x y) y) y) y=if (!(a&&(b&&(e&&f))))=true then y else x:=by cases a<;>cases b<;>cases e<;>cases f<;>rfl
def aCv {w:ai}{d e:Int}{a:List Int}{xs:List dK}{cs:List Int}(h:cs.length=xs.length)(j:xs.length<=1048576){γ:Type}(J:Ex->St->Option γ)(n:Nat){i:Nat}(hi:i<xs.length) :
  eB F0 (iF F0 J n) F0.n (dy (i:Int) d e (xs.length:Int) (i:Int) (i:Int) (i:Int) 0 w.1.1 w.1.2 w.2.1 w.2.2.1 w.2.2.2.1 w.2.2.2.2 (xs[i]).1 (xs[i]).2.1 (xs[i]).2.2.1 (xs[i]).2.2.2 xs cs a) =
  if (List.range i).all (okP xs cs i)=true then h9 F0 J n (fy d e (xs.length:Int) ((i+1:Nat):Int) w.1.1 w.1.2 w.2.1 w.2.2.1 w.2.2.2.1 w.2.2.2.2 xs cs a) else J .ret (vF false):=by
 refine eU (fun m k=>eB F0 (iF F0 J n) m (dy (i:Int) d e (xs.length:Int) (i:Int) (i:Int) (i:Int) k w.1.1 w.1.2 w.2.1 w.2.2.1 w.2.2.2.1 w.2.2.2.2 (xs[i]).1 (xs[i]).2.1 (xs[i]).2.2.1 (xs[i]).2.2.2 xs cs a)) i (okP xs cs i) _ _ (fun m k f=>?_) (fun m=>?_) _ (by rw[bg];omega)
 .have g:k<xs.length:=by omega
  have b:i<cs.length:=by omega
  have c:k<cs.length:=by omega
  rw[Bw,aO f,ae,ao f,ab,ao b,ab,aY b,aub,an,ao c,ab,aY c,aub,an,aY g,XG,ah (by omega)];dsimp only;rw[axm];unfold okP S6;rw[aR hi,aR g,aR b,aR c]
 .rw[Bw,aA,aa,Vz,ah (by omega)]
def aAw {w:ai}{c d:Int}{b:List Int}{xs:List dK}{cs:List Int}(e:cs.length=xs.length)(f:xs.length<=1048576){γ:Type}(J:Ex->St->Option γ)(n:Nat) :
  h9 F0 (iG F0 J n) F0.n (fy c d (xs.length:Int) 0 w.1.1 w.1.2 w.2.1 w.2.2.1 w.2.2.2.1 w.2.2.2.2 xs cs b) =
  if ((List.range xs.length).all fun i=>(List.range i).all (okP xs cs i))=true then lP F0 J n (iH c (al (d+1)) w.1.1 w.1.2 w.2.1 w.2.2.1 w.2.2.2.1 w.2.2.2.2 b) else J .ret (mT false):=by
 refine eU (fun m k=>h9 F0 (iG F0 J n) m (fy c d (xs.length:Int) k w.1.1 w.1.2 w.2.1 w.2.2.1 w.2.2.2.1 w.2.2.2.2 xs cs b)) xs.length (fun i=>(List.range i).all (okP xs cs i)) _ _ (fun m k a=>?_) (fun m=>?_) _ (by rw[bg];omega)
 .rw[Bx,aO a,ae,ao a,ab,show okT (k:Int) (xs.length:Int)=true by simp[okT];omega,ab,aY a,aCv e f _ _ a,XH]
 .rw[Bx,aA,aa,VA]
def amM {w:ai}(h:ff w):AB F0 w=some (aaS w,()):=by
 have hlen:(aI w).length<=1048576:=aU (iN w.2.1 w.2.2.1.length) h.r;rw[acT,eW h,an,mf h,an];dsimp only;rw[eU (fun m k=>lP F0 (mU F0) m (iH ((aI w).length:Int) k w.1.1 w.1.2 w.2.1 w.2.2.1 w.2.2.2.1 w.2.2.2.2 (aI w))) (aI w).length (asy w) (some (true,())) (some (false,())) (fun m k b=>?_) (fun m=>?_) _ (by rw[bg];omega),tD]
 .unfold aaS;cases b4 w<;>rfl
 .obtain⟨a,e,c⟩:=oh b;have d:=h.rl _ (bT c);have f:=auF w.1 w.2.2.1[a];have g:=Fo (w.2.2.1[a]).2.2.2.1.2.2.2;rw[By,aO b,ae,ao b,ab,aY b,e,ao c,ab,aY c,show((w.1.1,w.1.2):Int×Int)=w.1 from rfl,axk d,an,axl (by show(ki w.1 w.2.2.1[a]).1.length<=_;omega),an,ab,ap8 d.s.2,an,V1,an,ag5 Q7 (aU (Fo _) (by omega)),an,aAw (IK _ _) (aU (Fo _) (by omega)),XI,ah (by omega)];unfold asy;rw[ap7 b e c];dsimp only;rw[show((List.range (XN (w.2.2.1[a]).2.2.2.1.2.2.2).length).all fun i=>(List.range i).all (okP (XN (w.2.2.1[a]).2.2.2.1.2.2.2) (gn V0 (XN (w.2.2.1[a]).2.2.2.1.2.2.2)) i))=auG (w.2.2.1[a]).2.2.2.1.2.2.2 from rfl];cases (S5 (ki w.1 w.2.2.1[a]).1 0 != 400)<;>cases auG (w.2.2.1[a]).2.2.2.1.2.2.2<;>rfl
 .rw[By,aA,aa,VB]
def azj (w:ai):Bool:=ap3 w&&(W2 w&&(W3 w&&(aaS w&&amJ w)))
def aoI {w:ai}(h:ff w)(a:axi w):Ef F0 w=some (azj w,()):=by rw[ae9,aoF h,an,ai5 h,an,ai6 h,an,amM h,an,amK h a,an];unfold azj;cases ap3 w<;>cases W2 w<;>cases W3 w<;>cases aaS w<;>rfl
abbrev cY:=List Int×Int×Int
def ih (c:cY):Prop:=c.1.length<=1048576/\0<=c.2.1/\c.2.1<=1048576
def asz (n:Int):0<=al ((BitVec.ofInt 64 n &&& BitVec.ofInt 64 255).toNat:Int)/\al ((BitVec.ofInt 64 n &&& BitVec.ofInt 64 255).toNat:Int)<=255:=by
 have h:(BitVec.ofInt 64 n &&& BitVec.ofInt 64 255).toNat<=255:=by rw[BitVec.toNat_and];exact aU Nat.and_le_right (by decide)
 rw[aG (by omega) (by omega)];omega
def azk {c:cY}(h:ih c):∃(v:Int) (a:cY),jO F0 c=some ((v,()),a,())/\0<=v/\v<=255/\ih a:=by
 rw[akr];by_cases hlt:c.2.1<(c.1.length:Int)
 .rw[aS hlt,ae,show bG c.2.1 (c.1.length:Int)=true by simp[bG];exact⟨h.2.1,hlt⟩,ab];have b:=h.1;have d:=h.2.1;refine⟨_,_,rfl,(asz _).1,(asz _).2,h.1,?_,?_⟩
  .show 0<=al (c.2.1+1);rw[aG (by omega) (by omega)];omega
  .show al (c.2.1+1)<=1048576;rw[aG (by omega) (by omega)];omega
 .rw[aV hlt,aa];exact⟨_,_,rfl,(asz _).1,(asz _).2,h⟩
def asA {a n:Int}(b:0<=a)(c:0<n):0<=Int.tmod a n/\Int.tmod a n<n:=by rw[ajr b];exact⟨agf _ (by omega),ajt _ c⟩
def amN {c:cY}(h:ih c){n:Int}(b:0<n)(e:n<=256):∃(v:Int) (a:cY),af F0 c n=some ((v,()),a,())/\0<=v/\v<n/\ih a:=by obtain⟨v,a,f,d,i,g⟩:=azk h;rw[FE,aV (show ¬n<=0 by omega),aa,aS e,ae,f,an,show(!(n==0))=true by rw[b0.2 (show n≠0 by omega)];rfl,ab];exact⟨_,_,rfl,(asA d b).1,(asA d b).2,g⟩
def axn {c:cY}(h:ih c){l:List Int}(j:0<l.length)(k:l.length<=256):∃(v:Int) (a:cY),aZ F0 c l=some ((v,()),a,())/\v∈l/\ih a:=by
 obtain⟨v,a,d,f,g,i⟩:=amN h (n:=(l.length:Int)) (by omega) (by omega);have b:v.toNat<l.length:=by omega
 rw[abL,d,an,show bG v (l.length:Int)=true by simp[bG];exact⟨f,g⟩,ab];refine⟨_,_,rfl,?_,i⟩;have e:v=(v.toNat:Int):=by omega
 show aL l v 0∈l;rw[e,aY b];exact bT b
def aEo {c:cY}(h:ih c){n:Int}(b:0<n)(d:n<=256):∃(v:Bool) (a:cY),c7 F0 c n=some ((v,()),a,())/\ih a:=by obtain⟨v,a,e,g,i,f⟩:=amN h b d;rw[akv,e,an];exact⟨_,_,rfl,f⟩
def aF6 {a:List Int}(h:a.length<=1048576):∃c:cY,pB F0 a=some (((c,()),()))/\ih c:=by
 rw[anY];suffices f:∀(b:Nat) (q:Int) (k n:Nat),k+b=a.length->b<n->∃d:Int,HD F0 (Js F0) n (w6 a q (k:Int) a)=some ((((a,0,d):cY),()),()) by obtain⟨d,e⟩:=f a.length (al (26583+(a.length:Int))) 0 F0.n (vS _) (by rw[bg];omega);exact⟨_,e,h,Gr _,by show(0:Int)<=1048576;decide⟩
 intro b
 induction b with
 |zero =>
  intro q k n g i;obtain⟨n,rfl⟩:∃m,n=m+1:=⟨n-1,by omega⟩;obtain rfl:k=a.length:=by omega
  rw[LB,aA,aa,Ov];exact⟨q,rfl⟩
 |succ b j =>
  intro q k n g i;obtain⟨n,rfl⟩:∃m,n=m+1:=⟨n-1,by omega⟩;have hlt:k<a.length:=by omega
  rw[LB,aO hlt,ae];cases decide ((k:Int)<4000) with
  |false =>
   rw[aa,Ov];exact⟨q,rfl⟩
  |true =>
   rw[ae,ao hlt,ab,ah (by omega)];exact j _ (k+1) n (by omega) (by omega)
def Q8 (c x:UInt8)(l:List UInt8):parts c (x::l)=if x=c then []::parts c l else match parts c l with
  |p::a=>(x::p)::a|[]=>[[x]]:=by
 conv=>lhs;unfold parts
 cases parts c l<;>rfl
def afL {c:UInt8}:∀(a b:List UInt8),parts c (a++c::b)=parts c a++parts c b
 |[],b=>by rw[s4,Q8,ak rfl];rfl
 |x::a,b=>by
  rw[Gp,Q8 c x (a++c::b),Q8 c x a];by_cases d:x=c
  .rw[ak d,ak d,afL a b];rfl
  .rw[ag d,ag d,afL a b];have e:=Fj c a;cases f:parts c a with
   |nil=>exact absurd f e|cons p g=>rfl
def auH {σ V:Type}{f:σ->List UInt8->Option (σ×V)}:∀{l m:List (List UInt8)} {s:σ} {r:List V},sY f s (l++m)=some r->∃a c,sY f s l=some a/\r=a++c/\c.length=m.length
 |[],m,s,r,h=>⟨[],r,rfl,rfl,P6 h⟩|p::l,m,s,r,h=>by
  rw[Gp]at h;unfold sY at h ⊢;cases e:f s p with
  |none=>rw[e]at h;cases h
  |some x =>
   obtain⟨g,b⟩:=x;rw[e]at h;dsimp only at h ⊢;cases d:sY f g (l++m) with
   |none=>rw[d]at h;cases h
   |some n =>
    rw[d]at h;cases h;obtain⟨a,c,i,j,k⟩:=auH d;rw[i];exact⟨b::a,c,rfl,by rw[j];rfl,k⟩
def amO {a t:List UInt8}(n:(47:UInt8) ∉ t)(h:bc (a++47::t)=true):bc a=true/\∃x,(bR (a++47::t)).1=(bR a).1++[x]:=by
 have o:a++47::t≠[]:=by simp
 unfold bc at h ⊢;unfold bR at h ⊢;rw[ag o,afL,amp n]at h ⊢;cases f:parts 47 a with
 |nil=>exact absurd f (Fj 47 a)
 |cons g c =>
  rw[f,Gp]at h;rw[Gp];dsimp only at h ⊢;by_cases d:¬g=[]\/30<(c++[t]).length
  .rw[ak d]at h;cases h
  .rw[ag d]at h ⊢;have p:g=[]:=ao8 fun b=>d (.inl b)
   have q:¬30<(c++[t]).length:=fun b=>d (.inr b)
   rw[aN,bU]at q;cases i:sY sM 0 (c++[t]) with
   |none=>rw[i]at h;cases h
   |some r =>
    obtain⟨s,e,j,k,l⟩:=auH i;obtain⟨x,rfl⟩:∃x,e=[x]:=by
     cases e with
     |nil=>cases l
     |cons x e =>
      cases e with
      |nil=>exact⟨x,rfl⟩|cons _ _=>simp at l
    by_cases m:a=[]
    .subst m;have:c=[]:=by have:=f;unfold parts at this;exact(sD this).2.symm
     subst this;cases j;rw[ak rfl];exact⟨rfl,x,k⟩
    .rw[ag m,ag (fun b=>b.elim (fun b=>b p) (fun b=>by omega)),j];exact⟨rfl,x,k⟩
def sz (l:List dK):List UInt8:=Lib.join (l.map txL) [44]
def aji (l:List dK):List UInt8:=if l.all fS=true then sz l else []
def aEp {l:List dK}(h:l.all fS=true):∀x∈l.map txL,x.length<=90:=by intro x a;obtain⟨y,b,rfl⟩:=Ey.1 a;exact aml (dh.1 h y b)
def aaT {l:List dK}(h:l.all fS=true):(sz l).length<=91*l.length:=by have:=aD5 (aEp h) 44;rw[pw]at this;exact this
def auI {l:List dK}{k:Nat}(a:k<l.length):(l.take (k+1)).all fS=((l.take k).all fS&&fS l[k]):=by rw[Lt,nu a,List.all_append];simp
def Zn {U V:Type}{l:List U}{f:U->V}{k:Nat}(a:k<l.length):(l.take (k+1)).map f=(l.take k).map f++[f l[k]]:=by rw[Lt,nu a,Zv];rfl
def adA {l:List dK}{k:Nat}(a:k<l.length)(h:fS l[k]=false):l.all fS=false:=by rw[adV];exact⟨l[k],bT a,by simp[h]⟩
def aAx {x:dK}(h:fS x=true):aaE x=txL x:=ak h
def auJ {l:List dK}(h:l.length<=1048576):HE F0 l=some (tx (aji l),()):=by
 rw[ahu];refine cx (fun n i (c:ByteArray)=>pD F0 (rn F0) n (k0 l c i)) l.length (fun k c=>(l.take k).all fS=true/\c=tx (sz (l.take k))) _ (fun n k c a f=>?_) (fun n c f=>?_) _ 0 _ (a7 _) ⟨rfl,rfl⟩ (by rw[bg];omega)
 .obtain⟨b,rfl⟩:=f;have g:=aaT b;rw[bQ,Zw (by omega)]at g;rw[Gv,aO a,ae,ao a,ab,agU a,P3,an,abO];dsimp only;cases d:fS l[k]with
  |false =>
   left;rw[fE,ae,aji,adA a d];rfl
  |true =>
   right;have o:=aml d;refine⟨tx (sz (l.take (k+1))),?_,by rw[auI a,b,d];rfl,rfl⟩;rw[aX,aa,ab,ab,amm,an,an,aAx d,show ByteArray.mk #[44]=tx [44] from rfl,gw];dsimp only;rw[fX (by rw[bn,bn,bU];omega),ab,fX (by rw[bn,bn,aN,bU];omega),ab,fX (by rw[bn,bn];omega),ab,gw,gw,ah (by omega)];by_cases j:k=0
   .subst j;rw[show decide (((0:Nat):Int)>0)=false from rfl,aa,show sz (l.take (0+1))=sz (l.take 0)++txL l[0] by rw[sz,Zn a];simp[sz,Lib.join_one,Lib.join_nil]]
   .have m:(l.take k).map txL≠[]:=by intro e;have:=Bd List.length e;rw[pw,bQ,bJ]at this;omega
    rw[aS (show(k:Int)>0 by omega),ae,show sz (l.take (k+1))=sz (l.take k)++[44]++txL l[k] by rw[sz,Zn a,aAa m];rfl]
 .obtain⟨b,rfl⟩:=f;rw[l3]at b ⊢;rw[Gv,aA,aa,ZX,aji,ak b]
def W4 (up:List UInt8)(view:Int)(l:List dK):List UInt8:=up++[47]++Lib.itoa view++[124]++sz l
def Q9 (up:List UInt8)(view:Int)(l:List dK):List UInt8:=if l.all fS=true/\bc (W4 up view l)=true then W4 up view l else []
def amP (up:List UInt8){view:Int}(a:I6 view){l:List dK}(b:l.all fS=true):(W4 up view l).length<=up.length+23+91*l.length:=by have:=aaT b;have:=QQ a;simp only[W4,aN,bU];omega
def Ra {up:List UInt8}(f:up.length<=1048576){view:Int}(c:I6 view){l:List dK}(h:l.length<=1048576):e2 F0 (tx up) view l=some (tx (Q9 up view l),()):=by
 have g:=QQ c;rw[akA];refine cx (fun n i (_:Unit)=>C9 F0 (tR F0) n (tQ (tx up) view l i)) l.length (fun k _=>(l.take k).all fS=true) _ (fun n k out b a=>?_) (fun n out a=>?_) _ 0 () (a7 _) rfl (by rw[bg];omega)
 .rw[JB,aO b,ae,ao b,ab,agU b,P3,an,aei];dsimp only;cases d:fS l[k]with
  |false =>
   left;rw[fE,ae,Q9,ag (by rw[adA b d];simp)];rfl
  |true =>
   right;exact⟨(),by rw[aX,aa,ah (by omega)],by rw[auI b,a,d];rfl⟩
 .rw[l3]at a;have j:=aaT a;have e:=amP up c a;rw[JB,aA,aa,abR,vO c,an,auJ h,an,aji,ak a,show ByteArray.mk #[47]=tx [47] from rfl,show ByteArray.mk #[124]=tx [124] from rfl];dsimp only;rw[fX (by rw[bn,bn,bU];omega),ab,gw,fX (by rw[bn,bn,aN,bU];omega),ab,gw,fX (by rw[bn,bn,aN,aN,bU,bU];omega),ab,gw,
   fX (by rw[bn,bn,aN,aN,aN,bU,bU];omega),ab,gw,show up++[47]++Lib.itoa view++[124]++sz l=W4 up view l from rfl,QU (by omega),an,Q9]
  dsimp only;cases e:bc (W4 up view l) with
  |false=>rw[ag (by simp)];rfl
  |true=>rw[ak ⟨a,rfl⟩];rfl
def Gd {U:Type}(X:Option U)(P:U->Prop):Prop:=∃v,X=some v/\P v
abbrev DrT (U:Type):=(U×Unit)×(cY×Unit)
def Dr {U:Type}(X:Option (DrT U))(Q:U->Prop):Prop:=Gd X fun z=>Q z.1.1/\ih z.2.1
def Gd.bind {U V:Type}{X:Option U}{P:U->Prop}(h:Gd X P){f:U->Option V}{R:V->Prop}(a:∀v,P v->Gd (f v) R):Gd (X.bind f) R:=by obtain⟨v,rfl,b⟩:=h;exact a v b
def Dr.bind {U V:Type}{X:Option (DrT U)}{Q:U->Prop}(h:Dr X Q){f:DrT U->Option V}{R:V->Prop}(a:∀z:DrT U,Q z.1.1->ih z.2.1->Gd (f z) R):Gd (X.bind f) R:=by obtain⟨z,rfl,b,c⟩:=h;exact a z b c
def Gd.let {U V:Type}{X:Option U}{v:U}(h:X=some v){f:U->Option V}{R:V->Prop}(a:Gd (f v) R):Gd (X.bind f) R:=by subst h;exact a
def Gd.ret {U:Type}{v:U}{P:U->Prop}(h:P v):Gd (some v) P:=⟨v,rfl,h⟩
def Gd.br {U:Type}{c:Bool}{x y:Option U}{P:U->Prop}(a:c=true->Gd x P)(b:c=false->Gd y P):Gd (br c x y) P:=by
 cases c with
 |true=>exact a rfl|false=>exact b rfl
def Gd.ck {U:Type}{c:Bool}{x:Option U}{P:U->Prop}(a:c=true)(b:Gd x P):Gd (ck c x) P:=by subst a;exact b
def Gd.mono {U:Type}{X:Option U}{P Q:U->Prop}(h:Gd X P)(a:∀v,P v->Q v):Gd X Q:=by obtain⟨v,e,b⟩:=h;exact⟨v,e,a v b⟩
def Gd.br0 {U:Type}{c:Bool}{x y:Option U}{P:U->Prop}(h:c=false)(a:Gd y P):Gd (Am.br c x y) P:=by subst h;exact a
def Gd.br1 {U:Type}{c:Bool}{x y:Option U}{P:U->Prop}(h:c=true)(a:Gd x P):Gd (Am.br c x y) P:=by subst h;exact a
def gJ {ζ V:Type}(X:Nat->Int->ζ->Option V)(L:Nat)(I:Nat->ζ->Prop)(P:V->Prop)
  (c:∀n k z,k<L->I k z->(∀a,I (k+1) a->Gd (X n ((k+1:Nat):Int) a) P)->Gd (X (n+1) (k:Int) z) P) (d:∀n z,I L z->Gd (X (n+1) (L:Int) z) P) :
  ∀n k z,k<=L->I k z->L-k<n->Gd (X n (k:Int) z) P:=by
 intro n
 induction n with
 |zero=>intro k z _ _ h;omega
 |succ n e =>
  intro k z g b i;by_cases h:k=L
  .subst h;exact d n z b
  .exact c n k z (by omega) b fun a f=>e (k+1) a (by omega) f (by omega)
def ajj {c:cY}(h:ih c):Dr (U:=Int) (jO F0 c) fun v=>0<=v/\v<=255:=by obtain⟨v,f,e,a,b,d⟩:=azk h;exact⟨_,e,⟨a,b⟩,d⟩
def aEq {x y z w:Int}(a:0<=x)(b:x<=255)(c:0<=y)(d:y<=255)(e:0<=z)(f:z<=255)(w0:0<=w)(w1:w<=255):0<=al (al (al (al (x*16777216)+al (y*65536))+al (z*256))+w):=by rw[aG (n:=x*16777216) (by omega) (by omega),aG (n:=y*65536) (by omega) (by omega),aG (n:=z*256) (by omega) (by omega),aG (n:=x*16777216+y*65536) (by omega) (by omega),aG (n:=x*16777216+y*65536+z*256) (by omega) (by omega),aG (by omega) (by omega)];omega
def aD {c:cY}(h:ih c){n:Int}(a:0<n)(r:n<=9223372036854775807):Dr (U:=Int) (af F0 c n) fun v=>0<=v/\v<n:=by
 by_cases b:n<=256
 .obtain⟨v,s,e,j,k,l⟩:=amN h a b;exact⟨_,e,⟨j,k⟩,l⟩
 .unfold Dr;rw[FE];refine Gd.br0 (aV (by omega)) (Gd.br0 (aV b) ?_);refine Dr.bind (ajj h) fun x d m=>Dr.bind (ajj m) fun y f o=>Dr.bind (ajj o) fun z g p=>Dr.bind (ajj p) fun w i q=>Gd.ck ?_ (Gd.ret ⟨?_,q⟩)
  .rw[b0.2 (show n≠0 by omega)];rfl
  .exact asA (aEq d.1 d.2 f.1 f.2 g.1 g.2 i.1 i.2) a
def vk {c:cY}(h:ih c){n:Int}(a:0<n)(b:n<=256):Dr (U:=Bool) (c7 F0 c n) fun _=>True:=by obtain⟨v,f,e,d⟩:=aEo h a b;exact⟨_,e,trivial,d⟩
def cw {c:cY}(h:ih c){l:List Int}(a:0<l.length)(b:l.length<=256):Dr (U:=Int) (aZ F0 c l) fun v=>v∈l:=by obtain⟨v,g,e,d,f⟩:=axn h a b;exact⟨_,e,d,f⟩
def aEr {c:cY}(h:ih c){l:List ByteArray}(d:0<l.length)(f:l.length<=256):Dr (U:=ByteArray) (LJ F0 c l) fun v=>v∈l:=by
 unfold Dr;rw[akC];refine Dr.bind (aD h (n:=(l.length:Int)) (by omega) (by omega)) fun v a b=>Gd.ck ?_ (Gd.ret ⟨?_,b⟩)
 .simp[bG,a.1,a.2]
 .have hlt:v.1.1.toNat<l.length:=by have:=a.1;have:=a.2;omega
  have e:v.1.1=(v.1.1.toNat:Int):=by have:=a.1;omega
  show aL l v.1.1 ByteArray.empty∈l;rw[e,aY hlt];exact bT hlt
def asB {a:List Int}(h:a.length<=1048576):Gd (pB F0 a) fun z=>ih z.1.1:=by obtain⟨c,e,b⟩:=aF6 h;exact⟨_,e,b⟩
def aEs {x y:Int}(a:0<=x)(b:x<4)(c:0<=y)(d:y<3):a8 (al (4+x),al (1+y))=true:=by rw[aG (by omega) (by omega),aG (by omega) (by omega)];simp only[a8,fT,aE,bM];omega
def auK {c:cY}(h:ih c):Dr (U:=Int×Int) (tN F0 c) fun v=>a8 v=true:=by
 unfold Dr;rw[ZV];refine Dr.bind (aD h (n:=4) (by omega) (by omega)) fun x a d=>Dr.bind (aD d (n:=3) (by omega) (by omega)) fun y b e=>Gd.ret ⟨?_,e⟩
 exact aEs a.1 a.2 b.1 b.2
def aHe {x y z w:Int}(b:0<=x)(c:x<4)(d:0<=y)(e:y<4)(a:z∈[(0:Int),5,60,100,1000])(w0:0<=w)(w1:w<3):fS (x,y,z,w)=true:=by simp only[cK,agd,or_false]at a;simp only[fS,inB,aE,bM];rcases a with rfl|rfl|rfl|rfl|rfl<;>omega
def CP {c:cY}(h:ih c):Dr (U:=dK) (c3 F0 c) fun v=>fS v=true:=by
 unfold Dr;rw[Xl];refine Dr.bind (aD h (n:=4) (by omega) (by omega)) fun x a e=>Dr.bind (aD e (n:=4) (by omega) (by omega)) fun y b f=>Dr.bind (cw f (l:=[0,5,60,100,1000]) (by decide) (by decide)) fun z g i=>Dr.bind (aD i (n:=3) (by omega) (by omega)) fun w d j=>Gd.ret ⟨?_,j⟩
 exact aHe a.1 a.2 b.1 b.2 g d.1 d.2
def TxI (x:dK):Prop:=I6 x.1/\I6 x.2.1/\I6 x.2.2.1/\I6 x.2.2.2
def aF7 {x:dK}(h:fS x=true):TxI x:=by obtain⟨a,b,c,d⟩:=jD h;exact⟨⟨by omega,by omega⟩,⟨by omega,by omega⟩,⟨by omega,by omega⟩,⟨by omega,by omega⟩⟩
def amQ {c:cY}(h:ih c):Dr (U:=dK) (EZ F0 c) TxI:=by
 unfold Dr;rw[alK];have i2:∀a b:Int,I6 a->I6 b->∀{v:Int},v∈[a,b]->I6 v:=fun a b l m v i=>by simp only[cK,agd,or_false]at i;rcases i with rfl|rfl<;>assumption
 have lt:∀n:Int,-1<=n->n<=1001->I6 n:=fun n o p=>⟨by omega,by omega⟩
 refine Dr.bind (CP h) fun x j k=>?_
 have d:=aF7 j;refine Dr.bind (aD k (n:=12) (by omega) (by omega)) fun y q g=>?_
 refine Gd.br (fun _=>?_) fun _=>?_
 .exact Dr.bind (cw g (by decide) (by decide)) fun z e f=>Gd.ret ⟨⟨i2 _ _ (lt _ (by decide) (by decide)) (lt _ (by decide) (by decide)) e,d.2⟩,f⟩
 refine Gd.br (fun _=>?_) fun _=>?_
 .exact Dr.bind (cw g (by decide) (by decide)) fun z e f=>Gd.ret ⟨⟨d.1,i2 _ _ (lt _ (by decide) (by decide)) (lt _ (by decide) (by decide)) e,d.2.2⟩,f⟩
 refine Gd.br (fun _=>?_) fun _=>?_
 .exact Dr.bind (cw g (by decide) (by decide)) fun z e f=>Gd.ret ⟨⟨d.1,d.2.1,i2 _ _ (lt _ (by decide) (by decide)) (lt _ (by decide) (by decide)) e,d.2.2.2⟩,f⟩
 refine Gd.br (fun _=>?_) fun _=>?_
 .refine Dr.bind (cw g (by decide) (by decide)) fun z e f=>Gd.ret ⟨⟨d.1,d.2.1,d.2.2.1,?_⟩,f⟩
  have:=e;simp only[cK,agd,or_false]at this;show I6 z.1.1;rcases this with h|h|h<;>rw[show z.1.1=_ from h]<;>exact lt _ (by decide) (by decide)
 .exact Gd.ret ⟨d,g⟩
def aEt (up:List UInt8)(view:Int)(i:Nat){γ:Type}(J:Ex->St->Option γ){P:γ->Prop}(e:∀xs (c:cY),xs.length<=3->(∀x∈xs,fS x=true)->ih c->Gd (J (.exit 2) (oo (tx up) view (i:Int) c.1 c.2.1 c.2.2 xs)) P){c:cY}(f:ih c) :
  Gd (iu F0 J F0.n (fZ (tx up) view (i:Int) 0 c.1 c.2.1 c.2.2 [])) P:=by
 refine gJ (fun n k (z:cY×List dK)=>iu F0 J n (fZ (tx up) view (i:Int) k z.1.1 z.1.2.1 z.1.2.2 z.2)) 3 (fun k z=>ih z.1/\z.2.length<=k/\∀x∈z.2,fS x=true) _ (fun n k z m a g=>?_) (fun n z a=>?_) F0.n 0 (c,[]) (a7 _) ⟨f,bh _,fun x b=>by cases b⟩ (by rw[bg];omega)
 .rw[v7];refine Dr.bind (aD a.1 (n:=3) (by omega) (by omega)) fun x b d=>Gd.br (fun _=>?_) fun _=>?_
  .refine Dr.bind (CP d) fun y j l=>Gd.ck (au (by omega) (by omega) (by rw[bU];have:=a.2.1;omega)) ?_
   rw[ah (by omega)];refine g (y.2.1,z.2++[y.1.1]) ⟨l,by rw[aN,bU];have:=a.2.1;omega,fun x b=>?_⟩;rcases eK.1 b with h|h
   .exact a.2.2 x h
   .rw[fj.1 h];exact j
  .exact e z.2 x.2.1 (by have:=a.2.1;omega) a.2.2 d
 .rw[v7];refine Dr.bind (aD a.1 (n:=3) (by omega) (by omega)) fun x b d=>?_
  refine Gd.br0 (aV (by have:=b.2;show ¬(3:Int)<x.1.1;omega)) ?_;exact e z.2 x.2.1 a.2.1 a.2.2 d
def aAy {up:List UInt8}{view:Int}{l:List dK}:bc (Q9 up view l)=true:=by
 unfold Q9;split
 .rename_i h;exact h.2
 .exact QX
def W5 {up:List UInt8}{view:Int}(a:I6 view)(l:List dK):(Q9 up view l).length<=up.length+23+91*l.length:=by
 unfold Q9;split
 .rename_i h;exact amP up a h.1
 .exact a7 _
def aH8 (b:ByteArray):Prop:=b.size<=10000/\bc b.data.toList=true
def wN {c:cY}(h:ih c):Dr (U:=ByteArray) (dG F0 c) aH8:=by
 unfold Dr;rw[Xm];refine gJ (fun n i (z:cY×(List UInt8×Int))=>mm F0 (pG F0) n (jP (tx z.2.1) z.2.2 i z.1.1 z.1.2.1 z.1.2.2)) 6 (fun k z=>ih z.1/\z.2.1.length<=300*k/\bc z.2.1=true/\0<=z.2.2/\z.2.2<=2*k) _ (fun n k z u b l=>?_) (fun n z b=>?_) F0.n 0 (c,[],0) (a7 _) ⟨h,a7 _,QX,Gr _,Gr _⟩ (by rw[bg];omega)
 .obtain⟨d,m,e,o,p⟩:=b;rw[v8];refine Dr.bind (aD d (n:=6) (by omega) (by omega)) fun x g a=>Gd.br (fun _=>?_) fun _=>?_
  .refine Dr.bind (aD a (n:=4) (by omega) (by omega)) fun y f q=>?_
   have r:Int.tdiv y.1.1 3=y.1.1/3:=ajs f.1;have v:=f.1;have w:=f.2;rw[r,aG (n:=z.2.2+1) (by omega) (by omega),aG (n:=y.1.1/3) (by omega) (by omega),aG (n:=z.2.2+1+y.1.1/3) (by omega) (by omega)];refine aEt z.2.1 (z.2.2+1+y.1.1/3) k _ (fun xs s A B t=>?_) q;rw[Qx];have j:I6 (z.2.2+1+y.1.1/3):=⟨by omega,by omega⟩;refine Gd.let (Ra (by omega) j (by omega)) ?_;rw[ah (by omega)];exact l (s,Q9 z.2.1 (z.2.2+1+y.1.1/3) xs,z.2.2+1+y.1.1/3) ⟨t,by have:=W5 (up:=z.2.1) j xs;dsimp only;omega,aAy,by dsimp only;omega,by dsimp only;omega⟩
  .rw[x3];exact Gd.ret ⟨⟨by rw[show(tx z.2.1).size=_ from bn _];omega,by rw[show(tx z.2.1).data.toList=_ from hy _];exact e⟩,a⟩
 .obtain⟨d,m,e,o,p⟩:=b;rw[v8];refine Dr.bind (aD d (n:=6) (by omega) (by omega)) fun x g a=>?_
  refine Gd.br0 (aV (by have:=g.2;show ¬(6:Int)<x.1.1;omega)) ?_;rw[x3];exact Gd.ret ⟨⟨by rw[show(tx z.2.1).size=_ from bn _];omega,by rw[show(tx z.2.1).data.toList=_ from hy _];exact e⟩,a⟩
def amR (s:ByteArray)(a b:Nat):(s.extract a b).size<=s.size:=by rw[av5];omega
def amS (a b:ByteArray):(a++b).size=a.size+b.size:=ByteArray.size_append
def aaU {l h n:Int}(a:0<=l)(b:l<=h)(c:h<=n):Qw l h n=true:=by simp[Qw,a,b,c]
def aEu {c:cY}(h:ih c){s:ByteArray}(g:s.size<=20000):Dr (U:=ByteArray) (LK F0 c s) fun v=>v.size<=20100:=by
 unfold Dr;rw[akE];rw[aG (n:=(s.size:Int)+1) (by omega) (by omega)];refine Dr.bind (aD h (n:=(s.size:Int)+1) (by omega) (by omega)) fun x b d=>Dr.bind (aD d (n:=5) (by omega) (by omega)) fun y i a=>?_
 have j:=b.1;have k:=b.2;refine Gd.br (fun _=>Gd.ck (aaU (by omega) (by omega) (by omega)) (Gd.ret ⟨?_,a⟩)) fun _=>Gd.br (fun _=>?_) fun _=>Gd.ret ⟨by show s.size<=20100;omega,a⟩
 .have:=amR s (0:Int).toNat x.1.1.toNat;show(s.extract _ _).size<=20100;omega
 .refine Gd.ck (aaU (by omega) (by omega) (by omega)) (Gd.ck (aaU (by omega) (by omega) (by omega)) (Dr.bind (aEr a (by decide) (by decide)) fun z e f=>?_));have l:=amR s (0:Int).toNat x.1.1.toNat;have m:=amR s x.1.1.toNat (s.size:Int).toNat;have o:z.1.1.size=1:=by have:=e;simp only[cK,agd,or_false]at this;rcases this with h|h|h|h|h|h|h<;>rw[show z.1.1=_ from h]<;>rfl
  refine Gd.ck (fX (by omega)) (Gd.ck (fX (by rw[amS];omega)) (Gd.ret ⟨?_,f⟩));show(_++_++_:ByteArray).size<=20100;rw[amS,amS];have:(s.extract (0:Int).toNat x.1.1.toNat).size+(s.extract x.1.1.toNat (s.size:Int).toNat).size<=s.size:=by rw[av5,av5];omega
  omega
def amT {c:cY}(h:ih c):Dr (U:=ByteArray) (wa F0 c) fun v=>v.size<=20100:=by
 unfold Dr;rw[akG];refine Dr.bind (vk h (by omega) (by omega)) fun x q f=>Gd.br (fun _=>?_) fun _=>?_
 .refine gJ (fun n i (z:cY×List UInt8)=>Dc F0 (FJ F0) n (tV (tx z.2) i z.1.1 z.1.2.1 z.1.2.2)) 33 (fun k z=>1<=k/\ih z.1/\z.2.length<=30*k) _ (fun n k z r b j=>?_) (fun n z b=>?_) F0.n 1 (x.2.1,[]) (by omega) ⟨bh _,f,a7 _⟩ (by rw[bg];omega)
  .obtain⟨l,d,m⟩:=b;rw[JC];refine Dr.bind (aD d (n:=2) (by omega) (by omega)) fun y e a=>Gd.br (fun _=>?_) fun _=>?_
   .have g:I6 (k:Int):=⟨by omega,by omega⟩;have s:=QQ g;refine Gd.ck (fX (by rw[bn];show _+1<=_;omega)) (Gd.let (vO g) ?_);rw[show ByteArray.mk #[47]=tx [47] from rfl,show ByteArray.mk #[124]=tx [124] from rfl,gw];dsimp only;rw[gw,gw,ah (by omega)];refine Gd.ck (fX (by rw[bn,bn,aN,bU];omega)) (Gd.ck (fX (by rw[bn,bn,aN,aN,bU,bU];omega)) ?_);exact j (y.2.1,z.2++[47]++Lib.itoa (k:Int)++[124]) ⟨by omega,a,by rw[aN,aN,aN,bU,bU];omega⟩
   .rw[LL];exact Gd.ret ⟨by show(tx z.2).size<=20100;rw[bn];omega,a⟩
  .obtain⟨l,d,m⟩:=b;rw[JC];refine Dr.bind (aD d (n:=2) (by omega) (by omega)) fun y e a=>?_
   refine Gd.br0 (aV ?_) ?_
   .rw[aG (by omega) (by omega)];omega
   .rw[LL];exact Gd.ret ⟨by show(tx z.2).size<=20100;rw[bn];omega,a⟩
 .refine Dr.bind (wN f) fun y e a=>Dr.bind (aEu a (by have:=e.1;omega)) fun z o p=>Gd.ret ⟨o,p⟩
def amU (l:List UInt8):∀(k:Nat),k<=l.length->(fH l k=0/\∀a,a<k->l.getD a 0≠47)\/(0<fH l k/\fH l k<=k/\l.getD (fH l k-1) 0=47/\∀a,fH l k<=a->a<k->l.getD a 0≠47)
 |0,_=>.inl ⟨rfl,fun a h=>absurd h (abd _)⟩
 |k+1,n=>by
  have f:∀b:UInt8,((b.toNat:Int) != 47)=true↔b≠47:=by
   intro b;rw[Ez];constructor
   .rintro h rfl;exact h rfl
   .intro h c;refine h (UInt8.toNat_inj.1 ?_);show b.toNat=47;omega
  unfold fH;split
  .rename_i h;rw[f]at h;rcases amU l k (by omega) with ⟨d,c⟩|⟨d,c,g,i⟩
   .refine .inl ⟨d,fun a o=>?_⟩;by_cases e:a=k
    .rw[e];exact h
    .exact c a (by omega)
   .refine .inr ⟨d,by omega,g,fun a j p=>?_⟩;by_cases e:a=k
    .rw[e];exact h
    .exact i a j (by omega)
  .rename_i h;rw[f]at h;refine .inr ⟨adX _,bh _,ao8 fun m=>h m,fun a d c=>by omega⟩
def Wh {l:List UInt8}(h:bc l=true)(b:l≠[]):∃t,(47:UInt8) ∉ t/\l=jE l++47::t:=by
 have j:0<fH l l.length:=by obtain⟨t,rfl⟩:=amz h b;exact afJ _ (adX _)
 rcases amU l l.length (bh _) with ⟨k,_⟩|⟨_,m,a,c⟩
 .omega
 .have hlt:fH l l.length-1<l.length:=by omega
  have d:jE l=l.take (fH l l.length-1):=by unfold jE;rw[ak h]
  refine⟨l.drop (fH l l.length),fun f=>?_,?_⟩
  .obtain⟨g,i,e⟩:=af8 f;rw[List.getElem_drop]at e;rw[bA]at i;refine c (fH l l.length+g) (by omega) (by omega) ?_;rw[Od,nu (by omega)];exact e
  .rw[d]
   conv=>lhs;rw[<-apa (fH l l.length-1) l]
   congr 1
   rw[abb hlt];rw[Od,nu hlt]at a;rw[show l[fH l l.length-1]=47 from a,show fH l l.length-1+1=fH l l.length by omega]
def N5 {l:List UInt8}(h:bc l=true):bc (jE l)=true:=by
 by_cases a:l=[]
 .subst a;rfl
 .obtain⟨t,b,e⟩:=Wh h a;exact(amO b (e▸h)).1
def aCw {l:List UInt8}(h:bc l=true)(a:l≠[]):(jE l).length<l.length:=by obtain⟨t,_,e⟩:=Wh h a;have:=Bd List.length e;rw[aN,a1]at this;omega
def aCx {l:List UInt8}(h:bc l=true)(b:l≠[]):∃x,(bR l).1=(bR (jE l)).1++[x]/\aH l=x.1:=by obtain⟨t,c,e⟩:=Wh h b;obtain⟨_,x,a⟩:=amO c (e▸h);rw[<-e]at a;refine⟨x,a,?_⟩;unfold aH;rw[a,List.getLast?_append];rfl
def aIr (r:List P7):Int:=match r.getLast? with|some s=>s.1|none=>0
def aqa:∀{ps:List (List UInt8)} {d:Int} {a:List P7} {x:P7},sY sM d ps=some (a++[x])->(match a.getLast? with|some s=>s.1|none=>d)<x.1
 |[],d,a,x,h=>by cases a<;>cases h
 |p::ps,d,a,x,h=>by
  unfold sY at h;cases c:sM d p with
  |none=>rw[c]at h;cases h
  |some y =>
   obtain⟨j,b⟩:=y;rw[c]at h;dsimp only at h;have k:=VY c;have hlt:d<b.1:=by
    unfold sM at c;split at c
    .rename_i l;cases c;exact l.2.2.2.1
    .cases c
   cases e:sY sM j ps with
   |none=>rw[e]at h;cases h
   |some r =>
    rw[e]at h;have h:=eh h;cases a with
    |nil =>
     obtain⟨f,g⟩:=sD h;rw[<-f];exact hlt
    |cons z a =>
     obtain⟨f,g⟩:=sD h;rw[g]at e;have:=aqa e;rw[k.2]at this;rw[<-f];cases a with
     |nil=>exact this
     |cons w a =>
      rw[List.getLast?_cons_cons];cases i:(w::a).getLast? with
      |none=>exact absurd (List.getLast?_eq_none_iff.1 i) (by simp)
      |some s =>
       rw[i]at this;exact this
def ajk {l:List UInt8}(h:bc l=true)(d:l≠[]):aH (jE l)<aH l:=by
 obtain⟨x,b,f⟩:=aCx h d;rw[f];have a:=h;unfold bc at a;unfold bR at a b;rw[ag d]at a b;cases e:parts 47 l with
 |nil=>rw[e]at a;cases a
 |cons j g =>
  rw[e]at a b;dsimp only at a b;split at a
  .cases a
  .rename_i i;rw[ag i]at b;cases c:sY sM 0 g with
   |none=>rw[c]at a;cases a
   |some r =>
    rw[c]at b;dsimp only at b;rw[show r=_ from b]at c;exact aqa c
def afM (c:UInt8):∀l:List UInt8,l.length+1=((parts c l).map fun p=>p.length+1).sum
 |[]=>rfl|x::l=>by
  have a:=afM c l;rw[Q8];split
  .rw[sE,Tt,<-a,a1,bJ];omega
  .have d:=Fj c l;cases b:parts c l with
   |nil=>exact absurd b d
   |cons p e =>
    rw[b]at a;rw[sE,Tt]at a ⊢;rw[a1,a1];omega
def axo {U:Type}{f:U->Nat}{b:Nat}:∀{l:List U},(∀x∈l,f x<=b)->(l.map f).sum<=b*l.length
 |[],_=>a7 _|x::l,h=>by
  have c:=h x vR;have d:=axo fun y a=>h y (jG x a)
  rw[sE,Tt,a1,Nat.mul_succ];omega
def afN {σ V:Type}{f:σ->List UInt8->Option (σ×V)}{Q:List UInt8->Prop}(e:∀s p c b,f s p=some (c,b)->Q p):∀{P:List (List UInt8)} {s:σ} {r:List V},sY f s P=some r->∀p∈P,Q p
 |[],_,_,_,p,a=>by cases a
 |q::P,s,r,h,p,a=>by
  unfold sY at h;cases d:f s q with
  |none=>rw[d]at h;cases h
  |some y =>
   obtain⟨c,b⟩:=y;rw[d]at h;dsimp only at h;cases g:sY f c P with
   |none=>rw[g]at h;cases h
   |some i =>
    rcases cK.1 a with rfl|a
    .exact e _ _ _ _ d
    .exact afN e g p a
def aEv {l:List UInt8}(h:(XM l).2=true):l.length<=90:=by
 unfold XM at h;split at h
 .rename_i a;rw[<-a.2];exact aml a.1
 .cases h
def aCy {l:List UInt8}(h:(kz l).2=true):l.length<=91*(kz l).1.length:=by
 unfold kz at h ⊢;split at h
 .rename_i a;rw[ak a,a];exact bh _
 .rename_i a;rw[ag a];cases c:sY txF () (parts 44 l) with
  |none=>rw[c]at h;cases h
  |some r =>
   have g:=P6 c;have i:=afM 44 l;have:=axo (f:=fun p:List UInt8=>p.length+1) (b:=91) (l:=parts 44 l) (afN (f:=txF) (Q:=fun p=>p.length+1<=91) (fun s p j b d=>by
    unfold txF at d;split at d
    .rename_i e;have:=aEv e;omega
    .cases d) c)
   dsimp only;omega
def aEw {l:List UInt8}(h:(eS l).2=true):l.length<=6:=by
 unfold eS at h;split at h
 .cases h
 .rename_i a;omega
def aF8 (l:List UInt8)(c:UInt8):l.length<=(l.takeWhile (· != c)).length+((l.dropWhile (· != c)).drop 1).length+1:=by have h:=Bd List.length (List.takeWhile_append_dropWhile (p:=(· != c)) (l:=l));rw[aN]at h;rw[bA];omega
def aCz {g:Int}{p:List UInt8}{f:Int}{b:P7}(h:sM g p=some (f,b)):p.length<=189:=by
 unfold sM at h;split at h
 .rename_i a;have c:=aEw a.2.1;have d:=aCy a.2.2.1;have e:=a.2.2.2.2.2;have i:=aF8 p 124;unfold eb at c d e;dsimp only at c d e;omega
 .cases h
def aEx {l:List UInt8}(h:bc l=true):l.length<=5700:=by
 by_cases d:l=[]
 .rw[d];exact a7 _
 unfold bc bR at h;rw[ag d]at h;have e:=afM 47 l;cases g:parts 47 l with
 |nil=>rw[g]at h;cases h
 |cons k a =>
  rw[g]at h e;dsimp only at h;split at h
  .cases h
  .rename_i i;have m:k=[]:=ao8 fun c=>i (.inl c)
   have o:¬30<a.length:=fun c=>i (.inr c)
   cases j:sY sM 0 a with
   |none=>rw[j]at h;cases h
   |some r =>
    have:=axo (f:=fun p:List UInt8=>p.length+1) (b:=190) (l:=a) (afN (f:=sM) (Q:=fun p=>p.length+1<=190) (fun s p q b n=>by have:=aCz n;omega) j);rw[sE,Tt,m,bJ]at e;omega
def N6:Nat->Int->List Int
 |0,v=>[v]|k+1,v=>if v<128 then [v] else (v%128+128)::N6 k (v/128)
def aw (v:Int):List Int:=if 0<=v/\v<=2147483647 then N6 4 v else []
def amV:∀(k:Nat) (v:Int),1<=(N6 k v).length/\(N6 k v).length<=k+1
 |0,v=>⟨bh _,bh _⟩|k+1,v=>by
  unfold N6;have:=amV k (v/128);split
  .exact⟨bh _,by rw[bU];omega⟩
  .rw[a1];omega
def amW:∀(k:Nat) (v:Int),0<=v->v<128 ^ (k+1)->∀x∈N6 k v,0<=x/\x<=255
 |0,v,b,c,x,a=>by rw[fj.1 a];have:(128:Int) ^ (0+1)=128:=rfl;omega
 |k+1,v,b,c,x,a=>by
  unfold N6 at a;split at a
  .rw[fj.1 a];omega
  .rcases cK.1 a with rfl|a
   .omega
   .refine amW k (v/128) (by omega) ?_ x a;have e:(128:Int) ^ (k+1+1)=128 ^ (k+1)*128:=Rs _ _;omega
def bV (v:Int):(aw v).length<=5:=by
 unfold aw;split
 .exact(amV 4 v).2
 .exact a7 _
def er (v:Int):∀x∈aw v,0<=x/\x<=255:=by
 unfold aw;split
 .rename_i h;have b:(128:Int) ^ (4+1)=34359738368:=by decide
  exact amW 4 v h.1 (by omega)
 .intro x a;cases a
def auL:∀(j k:Nat) (v n:Int) (rest:List Int),j+k=4->0<=v->v<128 ^ (j+1)->(k≠0->v≠0)->0<=n->n+v*128 ^ k<=2147483647->P8 (j+1) (N6 j v++rest) k n=some (n+v*128 ^ k,k+(N6 j v).length)
 |0,k,v,n,rest,f,g,i,a,l,b=>by have q:(128:Int) ^ (0+1)=128:=rfl;unfold N6 P8;rw[List.singleton_append];dsimp only;rw[ak (by omega),ag (fun h=>h.elim (fun h=>a h.1 h.2) (fun h=>by omega))];rfl
 |j+1,k,v,n,rest,f,g,i,a,l,b=>by
  unfold N6;have m:=Q2 (k:=k) (by omega);have o:(128:Int) ^ (k+1)=128 ^ k*128:=Rs _ _;have r:(128:Int) ^ (j+1+1)=128 ^ (j+1)*128:=Rs _ _;split
  .rename_i c;unfold P8;rw[List.singleton_append];dsimp only;rw[ak c,ag (fun h=>h.elim (fun h=>a h.1 h.2) (fun h=>by omega))];rfl
  .rename_i c;unfold P8;rw[Gp];dsimp only;have p:0<=v%128/\v%128<128:=⟨agf _ (by omega),ajt _ (by omega)⟩;rw[ag (by omega),show(v%128+128)%128=v%128 by omega];have e:v*128 ^ k=v%128*128 ^ k+v/128*128 ^ (k+1):=by
    rw[o];have:v=v%128+128*(v/128):=(Int.emod_add_mul_ediv v 128).symm;generalize (128:Int) ^ k=P at *
    calc v*P=(v%128+128*(v/128))*P:=by rw[<-this]
     _=v%128*P+v/128*(P*128):=by rw[Int.add_mul,Int.mul_comm 128,Int.mul_assoc,Int.mul_comm 128]
   have s:=amA (d:=v%128) (P:=128 ^ k) p.1 (by omega) m.1;have:=auL j (k+1) (v/128) (n+v%128*128 ^ k) rest (by omega) (by omega) (by omega) (fun _=>by omega) (by omega) (by rw[Int.add_assoc,<-e];exact b);rw[this,Int.add_assoc,<-e,a1]
   congr 2
   omega
def adB {pre rest:List Int}{v:Int}(a:0<=v)(b:v<=2147483647):q2 (pre++(aw v++rest)) pre.length=some (v,pre.length+(aw v).length):=by
 have c:(128:Int) ^ (4+1)=34359738368:=by decide
 unfold q2 aw;rw[List.drop_left,ak ⟨a,b⟩,auL 4 0 v 0 rest rfl a (by omega) (fun h=>absurd rfl h) (Gr _) (by have:(128:Int) ^ 0=1:=rfl;omega)];have:(128:Int) ^ 0=1:=rfl;dsimp only;rw[this,Int.mul_one,Int.zero_add,vS]
def fg (s:ByteArray):List Int:=aw (s.size:Int)++bytesOf s
def Wi (s:ByteArray):(bytesOf s).length=s.size:=by unfold bytesOf;rw[pw];rfl
def aoJ (s:ByteArray):∀x∈bytesOf s,0<=x/\x<=255:=by intro x a;obtain⟨b,_,rfl⟩:=Ey.1 a;have:=UInt8.toNat_lt b;omega
def aAz (s:ByteArray):strOf (bytesOf s)=s:=by
 unfold strOf bytesOf;rw[List.map_map];have:(s.data.toList.map ((fun n:Int=>UInt8.ofNat n.toNat)∘fun b:UInt8=>(b.toNat:Int)))=s.data.toList:=by
  rw[List.map_congr_left (g:=id)]
  .exact List.map_id _
  .intro b _;show UInt8.ofNat ((b.toNat:Int).toNat)=b;rw[l2];exact UInt8.ofNat_toNat
 rw[this]
def aCA {pre rest:List Int}{s:ByteArray}(h:s.size<=1048576):aaO (pre++(fg s++rest)) pre.length=some (s,pre.length+(fg s).length):=by
 have a:=Wi s;unfold aaO fg;rw[ku,adB (by omega) (by omega)];dsimp only;rw[ag ?_]
 .congr 1
  refine BN ?_ ?_
  .show strOf _=s;have e:((pre++(aw (s.size:Int)++(bytesOf s++rest))).take (pre.length+(aw (s.size:Int)).length+((s.size:Int)).toNat)).drop (pre.length+(aw (s.size:Int)).length)=bytesOf s:=by rw[l2,<-ku,<-ku,<-aN,<-a,<-aN,ajB,List.drop_left]
   rw[e,aAz]
  .show _=pre.length+(aw _++bytesOf s).length;rw[aN,a,l2,Tp]
 .rw[aN,aN,aN,a];omega
def jF {pre rest:List Int}{v:Int}(a:0<=v)(b:v<=2147483647):aP (pre++(aw v++rest)) (pre.length,true)=(v,(pre++aw v).length,true):=by unfold aP;rw[adB a b,aN];rfl
def Rb {pre rest:List Int}{s:ByteArray}(h:s.size<=1048576):cQ (pre++(fg s++rest)) (pre.length,true)=(s,(pre++fg s).length,true):=by unfold cQ;rw[aCA h,aN];rfl
def iO (l:List Int):List Int:=l.flatMap aw
def ag6 (v:Int):Prop:=0<=v/\v<=2147483647
def amX:∀(l pre rest xs:List Int) (f:Nat) (i n:Int),(∀x∈l,ag6 x)->n=i+l.length->l.length<f->jj (pre++(iO l++rest)) n f i (pre.length,true) xs=(xs++l,(pre++iO l).length,true)
 |[],pre,rest,xs,f+1,i,n,_,a,_=>by unfold jj;rw[ag (fun h=>by have:=h.1;simp at a;omega)];simp[iO]
 |x::l,pre,rest,xs,f+1,i,n,b,a,d=>by
  have c:=b x vR;unfold jj;rw[a1]at a d;rw[ak ⟨by omega,rfl⟩];have e:pre++(iO (x::l)++rest)=pre++(aw x++(iO l++rest)):=by simp[iO]
  rw[e,jF c.1 c.2];dsimp only;have g:pre++(aw x++(iO l++rest))=(pre++aw x)++(iO l++rest):=by simp
  rw[g,amX l (pre++aw x) rest (xs++[x]) f (i+1) n (fun y j=>b y (jG _ j)) (by omega) (by omega)];simp[iO]
def A0 (l:List Int):List Int:=aw (l.length:Int)++iO l
def amY (k:Nat)(v:Int):1<=(N6 k v).length:=(amV k v).1
def afO:∀{l:List Int},(∀x∈l,ag6 x)->l.length<=(iO l).length/\(iO l).length<=5*l.length
 |[],_=>⟨bh _,bh _⟩|x::l,h=>by
  have a:=h x vR;have c:=afO fun y b=>h y (jG _ b)
  have d:1<=(aw x).length/\(aw x).length<=5:=by refine⟨?_,bV x⟩;unfold aw;rw[ak (show 0<=x/\x<=2147483647 from a)];exact amY 4 x
  have e:iO (x::l)=aw x++iO l:=rfl;rw[e,aN,a1];omega
def aqb {pre rest l:List Int}(a:∀x∈l,ag6 x)(h:l.length<=1048576):BL (pre++(A0 l++rest)) (pre.length,true)=(l,(pre++A0 l).length,true):=by
 unfold BL A0;rw[ku,jF (by omega) (by omega)];dsimp only;have e:pre++(aw (l.length:Int)++(iO l++rest))=(pre++aw (l.length:Int))++(iO l++rest):=by simp
 have:=afO a;rw[e,amX l (pre++aw (l.length:Int)) rest [] _ 0 _ a (by omega) (by simp only[aN];omega)];simp
def ju (q:b3):List Int:=aw q.1++(fg q.2.1++A0 q.2.2)
structure aEy (q:b3):Prop where
 v:ag6 q.1
 n:q.2.1.size<=1048576
 w:q.2.2.length<=1048576
 m:∀x∈q.2.2,ag6 x
def amZ {pre rest:List Int}{q:b3}(h:aEy q):vP (pre++(ju q++rest)) (pre.length,true)=(q,(pre++ju q).length,true):=by
 unfold vP ju;have a:pre++(aw q.1++(fg q.2.1++A0 q.2.2)++rest)=pre++(aw q.1++(fg q.2.1++(A0 q.2.2++rest))):=by simp
 have b:pre++(aw q.1++(fg q.2.1++(A0 q.2.2++rest)))=(pre++aw q.1)++(fg q.2.1++(A0 q.2.2++rest)):=by simp
 have c:pre++(aw q.1++(fg q.2.1++(A0 q.2.2++rest)))=(pre++aw q.1++fg q.2.1)++(A0 q.2.2++rest):=by simp
 have d:aP (pre++(aw q.1++(fg q.2.1++(A0 q.2.2++rest)))) (pre.length,true)=(q.1,(pre++aw q.1).length,true):=jF h.v.1 h.v.2;have e:cQ (pre++(aw q.1++(fg q.2.1++(A0 q.2.2++rest)))) ((pre++aw q.1).length,true)=(q.2.1,(pre++aw q.1++fg q.2.1).length,true):=by rw[b];exact Rb h.n
 have f:BL (pre++(aw q.1++(fg q.2.1++(A0 q.2.2++rest)))) ((pre++aw q.1++fg q.2.1).length,true)=(q.2.2,(pre++aw q.1++fg q.2.1++A0 q.2.2).length,true):=by rw[c];exact aqb h.m h.w
 rw[a,d];dsimp only;rw[e];dsimp only;rw[f];simp
def azm {a b:ByteArray}(h:(a.toList==b.toList)=true):a=b:=by have:=VX a.data.toList b.data.toList;rw[<-Ot,<-Ot,h]at this;rw[Ot a,Ot b,s3 this.symm]
def afP {a b:b3}(h:gU a b=true):a=b:=by simp only[gU,aE,cj,bM]at h;exact BN h.1 (BN (azm (cj.2 h.2.1)) h.2.2)
def aAA {a b:dK}(h:V8 a b=true):a=b:=by simp only[V8,aE,cj]at h;exact BN h.1 (BN h.2.1 (BN h.2.2.1 h.2.2.2.1))
def asC {a b:cN}(h:lU a b=true):a=b:=by simp only[lU,aE]at h;exact BN (azm h.1) (afP h.2)
def aaV {a b:ch}(h:np a b=true):a=b:=by simp only[np,aE]at h;obtain⟨c,d,e,f,g,i,j⟩:=h;exact BN (cj.1 c) (BN (cj.1 d) (BN (asC e) (BN (afP f) (BN (afP g) (BN (cj.1 i) (aAA j))))))
def ag7 (a:b3):gU a a=true:=by simp[gU]
def Zo (a:bm):lW a a=true:=by simp[lW,ag7]
def auM (a:dK):V8 a a=true:=by simp[V8]
def asD (a:ch):np a a=true:=by simp[np,lU,ag7,auM]
def Ja {n:Int}{s:List Int}(h:hY n s=true):∀x∈s,0<=x/\x<n:=by intro x b;obtain⟨k,a,rfl⟩:=af8 b;have:=dh.1 h k (dk.2 a);rw[Od,nu a]at this;simp only[aE,bM]at this;exact⟨this.1,this.2.1⟩
def am0 {n:Int}{s:List Int}(h:hY n s=true){k:Nat}(a:k+1<s.length):s[k]<s[k+1]:=by
 have:=dh.1 h (k+1) (dk.2 a);rw[show k+1-1=k from rfl,Od,Od,nu a,nu (by omega)]at this;simp only[aE,jH,bM]at this;rcases this.2.2 with h1|h1
 .omega
 .exact h1
def auN {n:Int}{s:List Int}(h:hY n s=true):∀(k:Nat) (a:k<s.length),(k:Int)<=s[k]
 |0,a=>(Ja h _ (bT a)).1|k+1,a=>by have b:=auN h k (by omega);have c:=am0 h a;omega
def W6 {n:Int}{s:List Int}(h:hY n s=true):(s.length:Int)<=max n 0:=by
 rcases aga s.length with a|a
 .omega
 .have b:=auN h (s.length-1) (by omega);have c:=(Ja h s[s.length-1] (bT _)).2;omega
def ig {b:ByteArray}(h:bc b.data.toList=true):b.size<=5700:=aEx h
def kt {c:Int×Int}{q:b3}(h:eI c q=true):a8 c=true/\bc q.2.1.data.toList=true/\aH q.2.1.data.toList=q.1/\(q.2.1.data.toList=[]->q.2.2=[])/\(q.2.1.data.toList≠[]->hY c.1 q.2.2=true/\(q.2.2.length:Int)>=nm c):=by
 unfold eI ai4 at h;simp only[aE,bM]at h;obtain⟨d,e,f,a⟩:=h;refine⟨d,e,f,fun b=>?_,fun b=>?_⟩
 .rw[ak b]at a;exact s3 a
 .rw[ag b]at a;simp only[aE,bM]at a;exact a
def Zp {v:Int}(a:0<=v)(b:v<=1000000):ag6 v:=⟨a,by omega⟩
def vl {c:Int×Int}{q:b3}(h:eI c q=true):aEy q/\q.2.2.length<=7/\q.2.1.size<=5700:=by
 obtain⟨f,g,k,i,j⟩:=kt h;have l:=bZ f;have d:=ig g;have m:=ie q.2.1.data.toList;by_cases e:q.2.1.data.toList=[]
 .have a:=i e;refine⟨⟨Zp (by omega) (by omega),by omega,by rw[a];exact a7 _,fun x b=>by rw[a]at b;cases b⟩,by rw[a];exact a7 _,d⟩
 .obtain⟨a,_⟩:=j e;have n:=W6 a;refine⟨⟨Zp (by omega) (by omega),by omega,by omega,fun x b=>?_⟩,by omega,d⟩;have:=Ja a x b;exact Zp (by omega) (by omega)
def Le (b:ByteArray):ec b=true↔b.data.toList=[]:=by unfold ec;have:=VX b.data.toList [];rw[<-Ot,show tx []=aj from rfl]at this;rw[this,bM]
def adC {c:Int×Int}{p:b3}(h:iM c p=true):a8 c=true/\1<=p.1/\p.1<=60/\hY c.1 p.2.2=true/\p.2.2≠[]/\bc p.2.1.data.toList=true/\(p.2.1.data.toList≠[]->aH p.2.1.data.toList=p.1):=by
 unfold iM at h;simp only[aE,jH,fT,bM,abc,cj,b0]at h;obtain⟨b,⟨d,f⟩,g,i,a⟩:=h;refine⟨b,d,f,g,fun e=>i (by rw[e];rfl),?_,fun j=>?_⟩
 .rcases a with a|a
  .rw[(Le _).1 a];exact QX
  .exact a.1
 .rcases a with a|a
  .exact absurd ((Le _).1 a) j
  .exact a.2
def W7 {c:Int×Int}{q:b3}(h:iM c q=true):aEy q/\q.2.2.length<=7/\q.2.1.size<=5700:=by obtain⟨b,g,i,a,_,d,_⟩:=adC h;have j:=bZ b;have e:=ig d;have k:=W6 a;refine⟨⟨Zp (by omega) (by omega),by omega,by omega,fun x f=>?_⟩,by omega,e⟩;have:=Ja a x f;exact Zp (by omega) (by omega)
def Lf (m:ch):List Int :=
 aw m.1++(if m.1=1 then fg m.2.2.1.1++ju m.2.2.1.2 else if m.1=2 then ju m.2.2.2.1 else if m.1=3 then aw m.2.1++(aw m.2.2.2.2.2.1++ju m.2.2.2.2.1)
  else aw m.2.2.2.2.2.2.1++(aw m.2.2.2.2.2.2.2.1++(aw m.2.2.2.2.2.2.2.2.1++aw m.2.2.2.2.2.2.2.2.2)))
def adD {v:Int}(h:ag6 v)(rest:List Int):ht (aw v++rest)=(v,(aw v).length,true):=by have:=jF (pre:=[]) (rest:=rest) h.1 h.2;exact this
def aCB {c:Int×Int}{m:ch}(h:dC c m=true):adv (Lf m)=(m,(Lf m).length,true):=by
 unfold dC at h;simp only[aE]at h;obtain⟨D,E,d⟩:=h;have q:=aaV E;obtain⟨aF9,view,⟨f,i⟩,part,b,dJ,tx⟩:=m;dsimp only at d q ⊢;by_cases t:aF9=1
 .subst t;rw[ak (by rfl)]at d;simp only[gH,aE]at d;have k:=(vl d.1).1;have Q:=ig d.2.1;have e:Lf (1,view,(f,i),part,b,dJ,tx)=aw 1++(fg f++(ju i++[])):=by simp[Lf]
  have l:aw 1++(fg f++(ju i++[]))=(aw 1++fg f)++(ju i++[]):=by simp
  have n:=adD (v:=1) (Zp (by decide) (by decide)) (fg f++(ju i++[]));have o:cQ (aw 1++(fg f++(ju i++[]))) ((aw 1).length,true)=(f,(aw 1++fg f).length,true):=Rb (by omega);have p:vP (aw 1++(fg f++(ju i++[]))) ((aw 1++fg f).length,true)=(i,(aw 1++fg f++ju i).length,true):=by rw[l];exact amZ k
  rw[e];unfold adv aEi;rw[n];dsimp only;rw[ak (by rfl),o];dsimp only;rw[p];rw[<-q];simp[named]
 .by_cases u:aF9=2
  .subst u;rw[ag (by decide),ak (by rfl)]at d;simp only[aE]at d;have k:=(W7 d.1).1;obtain⟨a,g,j⟩:=part;have e:Lf (2,view,(f,i),(a,g,j),b,dJ,tx)=aw 2++(aw a++(fg g++(A0 j++[]))):=by simp[Lf,ju]
   have l:aw 2++(aw a++(fg g++(A0 j++[])))=(aw 2++aw a)++(fg g++(A0 j++[])):=by simp
   have r:aw 2++(aw a++(fg g++(A0 j++[])))=(aw 2++aw a++fg g)++(A0 j++[]):=by simp
   have n:=adD (v:=2) (Zp (by decide) (by decide)) (aw a++(fg g++(A0 j++[])));have o:aP (aw 2++(aw a++(fg g++(A0 j++[])))) ((aw 2).length,true)=(a,(aw 2++aw a).length,true):=jF k.v.1 k.v.2;have p:cQ (aw 2++(aw a++(fg g++(A0 j++[])))) ((aw 2++aw a).length,true)=(g,(aw 2++aw a++fg g).length,true):=by rw[l];exact Rb k.n
   have s:BL (aw 2++(aw a++(fg g++(A0 j++[])))) ((aw 2++aw a++fg g).length,true)=(j,(aw 2++aw a++fg g++A0 j).length,true):=by rw[r];exact aqb k.m k.w
   rw[e];unfold adv aEj;rw[n];dsimp only;rw[ag (by decide),ak (by rfl),o];dsimp only;rw[p];dsimp only;rw[s];rw[<-q];simp[named]
  .by_cases w:aF9=3
   .subst w;rw[ag (by decide),ag (by decide),ak (by rfl)]at d;simp only[aE,fT,bM]at d;obtain⟨⟨R,S⟩,k,⟨F,G⟩⟩:=d;have x:=bZ D;rw[afG x.1 x.2.1]at G;have k:=(vl k).1;have y:ag6 dJ:=Zp F (by omega);have e:Lf (3,view,(f,i),part,b,dJ,tx)=aw 3++(aw view++(aw dJ++(ju b++[]))):=by simp[Lf]
    have l:aw 3++(aw view++(aw dJ++(ju b++[])))=(aw 3++aw view)++(aw dJ++(ju b++[])):=by simp
    have r:aw 3++(aw view++(aw dJ++(ju b++[])))=(aw 3++aw view++aw dJ)++(ju b++[]):=by simp
    have n:=adD (v:=3) (Zp (by decide) (by decide)) (aw view++(aw dJ++(ju b++[])));have o:aP (aw 3++(aw view++(aw dJ++(ju b++[])))) ((aw 3).length,true)=(view,(aw 3++aw view).length,true):=jF (by omega) (by omega);have p:aP (aw 3++(aw view++(aw dJ++(ju b++[])))) ((aw 3++aw view).length,true)=(dJ,(aw 3++aw view++aw dJ).length,true):=by rw[l];exact jF y.1 y.2
    have s:vP (aw 3++(aw view++(aw dJ++(ju b++[])))) ((aw 3++aw view++aw dJ).length,true)=(b,(aw 3++aw view++aw dJ++ju b).length,true):=by rw[r];exact amZ k
    rw[e];unfold adv aEk;rw[n];dsimp only;rw[ag (by decide),ag (by decide),ak (by rfl),o];dsimp only;rw[p];dsimp only;rw[s];rw[<-q];simp[named]
   .rw[ag (by simpa using t),ag (by simpa using u),ag (by simpa using w)]at d;simp only[aE,cj]at d;obtain⟨H,I⟩:=d;subst H;obtain⟨t1,t2,t3,t4⟩:=tx;obtain⟨⟨z,K⟩,⟨A,L⟩,⟨B,M⟩,⟨C,N⟩⟩:=jD I;dsimp only at z K A L B M C N;have e:Lf (4,view,(f,i),part,b,dJ,t1,t2,t3,t4)=aw 4++(aw t1++(aw t2++(aw t3++(aw t4++[])))):=by simp[Lf]
    have l:aw 4++(aw t1++(aw t2++(aw t3++(aw t4++[]))))=(aw 4++aw t1)++(aw t2++(aw t3++(aw t4++[]))):=by simp
    have r:aw 4++(aw t1++(aw t2++(aw t3++(aw t4++[]))))=(aw 4++aw t1++aw t2)++(aw t3++(aw t4++[])):=by simp
    have O:aw 4++(aw t1++(aw t2++(aw t3++(aw t4++[]))))=(aw 4++aw t1++aw t2++aw t3)++(aw t4++[]):=by simp
    have n:=adD (v:=4) (Zp (by decide) (by decide)) (aw t1++(aw t2++(aw t3++(aw t4++[]))));have o:aP (aw 4++(aw t1++(aw t2++(aw t3++(aw t4++[]))))) ((aw 4).length,true)=(t1,(aw 4++aw t1).length,true):=jF z (by omega);have p:aP (aw 4++(aw t1++(aw t2++(aw t3++(aw t4++[]))))) ((aw 4++aw t1).length,true)=(t2,(aw 4++aw t1++aw t2).length,true):=by rw[l];exact jF A (by omega)
    have s:aP (aw 4++(aw t1++(aw t2++(aw t3++(aw t4++[]))))) ((aw 4++aw t1++aw t2).length,true)=(t3,(aw 4++aw t1++aw t2++aw t3).length,true):=by rw[r];exact jF B (by omega)
    have P:aP (aw 4++(aw t1++(aw t2++(aw t3++(aw t4++[]))))) ((aw 4++aw t1++aw t2++aw t3).length,true)=(t4,(aw 4++aw t1++aw t2++aw t3++aw t4).length,true):=by rw[O];exact jF C (by omega)
    rw[e];unfold adv aEl;rw[n];dsimp only;rw[ag (by decide),ag (by decide),ag (by decide),ak (by rfl),o];dsimp only;rw[p];dsimp only;rw[s];dsimp only;rw[P];rw[<-q];simp[named]
def aAB {c:Int×Int}{m:ch}(h:dC c m=true):iZ c (Lf m)=(m,true):=by unfold iZ TH;rw[aCB h];dsimp only;rw[ak ⟨rfl,rfl,h⟩]
def eE {a b:List Int}(c:∀x∈a,0<=x/\x<=255)(d:∀x∈b,0<=x/\x<=255):∀x∈a++b,0<=x/\x<=255:=fun x e=>(eK.1 e).elim (c x) (d x)
def aaW (s:ByteArray):∀x∈fg s,0<=x/\x<=255:=eE (er _) (aoJ s)
def auO (l:List Int):∀x∈iO l,0<=x/\x<=255:=fun x a=>by obtain⟨y,_,h⟩:=List.mem_flatMap.1 a;exact er y x h
def Rc (q:b3):∀x∈ju q,0<=x/\x<=255:=eE (er _) (eE (aaW _) (eE (er _) (auO _)))
def Wj (s:ByteArray):(fg s).length<=s.size+5:=by have:=bV (s.size:Int);unfold fg;rw[aN,Wi];omega
def Wk {q:b3}(h:aEy q):(ju q).length<=q.2.1.size+5*q.2.2.length+15:=by have a:=bV q.1;have b:=Wj q.2.1;have c:=bV (q.2.2.length:Int);have d:=(afO h.m).2;unfold ju A0;rw[aN,aN,aN];omega
def Re {c:Int×Int}{m:ch}(h:dC c m=true):(Lf m).length<=12000/\(∀x∈Lf m,0<=x/\x<=255)/\1<=(Lf m).length:=by
 unfold dC at h;simp only[aE]at h;obtain⟨l,_,a⟩:=h;have n:=bV m.1;have pos:m.1=1\/m.1=2\/m.1=3\/m.1=4:=by
  by_cases e:m.1=1
  .exact .inl e
  .by_cases f:m.1=2
   .exact .inr (.inl f)
   .by_cases g:m.1=3
    .exact .inr (.inr (.inl g))
    .rw[ag (by simpa using e),ag (by simpa using f),ag (by simpa using g)]at a;simp only[aE,cj]at a;exact .inr (.inr (.inr a.1))
 have one:1<=(aw m.1).length:=by unfold aw;rw[ak (by omega)];exact amY 4 _
 unfold Lf;refine⟨?_,eE (er _) ?_,by rw[aN];omega⟩
 .rw[aN];rcases pos with k|k|k|k
  .rw[ak (by simpa using k)]at a;simp only[gH,aE]at a;have b:=vl a.1;have o:=ig a.2.1;have i:=Wj m.2.2.1.1;have d:=Wk b.1;rw[ak k,aN];omega
  .rw[ag (by simp[k]),ak (by simpa using k)]at a;simp only[aE]at a;have b:=W7 a.1;have d:=Wk b.1;rw[ag (by omega),ak k];omega
  .rw[ag (by simp[k]),ag (by simp[k]),ak (by simpa using k)]at a;simp only[aE]at a;have b:=vl a.2.1;have i:=bV m.2.1;have j:=bV m.2.2.2.2.2.1;have d:=Wk b.1;rw[ag (by omega),ag (by omega),ak k,aN,aN];omega
  .have i:=bV m.2.2.2.2.2.2.1;have d:=bV m.2.2.2.2.2.2.2.1;have j:=bV m.2.2.2.2.2.2.2.2.1;have p:=bV m.2.2.2.2.2.2.2.2.2;rw[ag (by omega),ag (by omega),ag (by omega),aN,aN,aN];omega
 .split
  .exact eE (aaW _) (Rc _)
  .split
   .exact Rc _
   .split
    .exact eE (er _) (eE (er _) (Rc _))
    .exact eE (er _) (eE (er _) (eE (er _) (er _)))
def dD (s:bm):List Int:=aw s.1++(aw s.2.1++(ju s.2.2.1++fg s.2.2.2))
def cZ {c:Int×Int}{s:bm}(h:bP c s=true):(0<=s.1/\s.1<=60)/\(0<=s.2.1/\s.2.1<=60)/\eI c s.2.2.1=true/\bc s.2.2.2.data.toList=true:=by simp only[bP,fT,aE,bM]at h;exact h
def aAC {c:Int×Int}{s:bm}(h:bP c s=true):Ld (dD s)=(s,(dD s).length,true):=by
 obtain⟨⟨b,g⟩,⟨f,i⟩,a,j⟩:=cZ h;have a:=(vl a).1;have k:=ig j;obtain⟨v,l,q,d⟩:=s;dsimp only at b g f i a k ⊢;have e:dD (v,l,q,d)=aw v++(aw l++(ju q++(fg d++[]))):=by simp[dD]
 have m:aw v++(aw l++(ju q++(fg d++[])))=(aw v++aw l)++(ju q++(fg d++[])):=by simp
 have n:aw v++(aw l++(ju q++(fg d++[])))=(aw v++aw l++ju q)++(fg d++[]):=by simp
 have o:=adD (v:=v) ⟨b,by omega⟩ (aw l++(ju q++(fg d++[])));have p:aP (aw v++(aw l++(ju q++(fg d++[])))) ((aw v).length,true)=(l,(aw v++aw l).length,true):=jF f (by omega);have r:vP (aw v++(aw l++(ju q++(fg d++[])))) ((aw v++aw l).length,true)=(q,(aw v++aw l++ju q).length,true):=by rw[m];exact amZ a
 have t:cQ (aw v++(aw l++(ju q++(fg d++[])))) ((aw v++aw l++ju q).length,true)=(d,(aw v++aw l++ju q++fg d).length,true):=by rw[n];exact Rb (by omega)
 rw[e];unfold Ld;rw[o];dsimp only;rw[p];dsimp only;rw[r];dsimp only;rw[t];simp
def axp {c:Int×Int}{s:bm}(h:bP c s=true):nq c (dD s)=(s,true):=by unfold nq;rw[aAC h];dsimp only;rw[ak ⟨rfl,rfl,h⟩]
def W8 {c:Int×Int}{s:bm}(h:bP c s=true):1<=(dD s).length/\(dD s).length<=12000:=by
 obtain⟨⟨d,e⟩,_,a,b⟩:=cZ h;have a:=vl a;have f:=ig b;have g:=bV s.1;have i:=bV s.2.1;have j:=Wk a.1;have k:=Wj s.2.2.2;have one:1<=(aw s.1).length:=by unfold aw;rw[ak (by omega)];exact amY 4 _
 unfold dD;rw[aN,aN,aN];omega
def auP (s:bm):∀x∈dD s,0<=x/\x<=255:=eE (er _) (eE (er _) (eE (Rc _) (aaW _)))
def fp (s:bm):List Int:=aw ((dD s).length:Int)++(dD s++[10])
def hL (l:List bm):List Int:=l.flatMap fp
def auQ (s:bm):∀x∈fp s,0<=x/\x<=255:=eE (er _) (eE (auP s) fun x a=>by rw[fj.1 a];omega)
def aqc {c:Int×Int}{s:bm}(h:bP c s=true):1<=(fp s).length/\(fp s).length<=12010:=by have a:=W8 h;have b:=bV ((dD s).length:Int);unfold fp;rw[aN,aN,bU];omega
def aAD {c:Int×Int}{s:bm}(h:bP c s=true)(pre rest:List Int):Hv c (pre++(fp s++rest)) pre.length=some (s,(pre++fp s).length):=by
 have g:=W8 h;have e:pre++(fp s++rest)=pre++(aw ((dD s).length:Int)++(dD s++(10::rest))):=by simp[fp]
 have b:=adB (pre:=pre) (rest:=dD s++(10::rest)) (v:=((dD s).length:Int)) (by omega) (by omega);rw[e,CM b];have a:pre++(aw ((dD s).length:Int)++(dD s++(10::rest)))=(pre++aw ((dD s).length:Int))++(dD s++(10::rest)):=by simp
 have d:Wg (pre++(aw ((dD s).length:Int)++(dD s++(10::rest)))) (pre.length+(aw ((dD s).length:Int)).length) (pre.length+(aw ((dD s).length:Int)).length+((dD s).length:Int).toNat)=dD s:=by unfold Wg;rw[a,l2,<-aN,<-ku,<-aN,ajB,List.drop_left]
 have f:(pre++(aw ((dD s).length:Int)++(dD s++(10::rest)))).getD (pre.length+(aw ((dD s).length:Int)).length+((dD s).length:Int).toNat) 0=10:=by rw[a,l2,<-aN,<-ku,<-aN,Od,List.getElem?_append_right (bh _),Nat.sub_self];rfl
 rw[d,f,axp h,ag ?_,ag (by decide),ak rfl,l2]
 .simp only[fp,aN,bU]
  congr 2
  omega
 .simp only[aN,a1];omega
def aqd:∀(i k:Nat) (v:Int) (j q:Nat) (n:Int),k<(N6 i v).length->0<=v->P8 j ((N6 i v).take k) q n=none
 |i,0,v,j,q,n,_,_=>by rw[List.take_zero];cases j<;>rfl
 |0,k+1,v,j,q,n,a,_=>by unfold N6 at a;rw[bU]at a;omega
 |i+1,k+1,v,j,q,n,a,c=>by
  unfold N6 at a ⊢;split at a
  .rw[bU]at a;omega
  .rename_i b;rw[ag b,List.take_succ_cons];cases j with
   |zero=>rfl
   |succ j =>
    unfold P8;rw[a1]at a;have:=agf v (show(128:Int)≠0 by decide);rw[ag (by omega)];exact aqd i k (v/128) j (q+1) _ (by omega) (by omega)
def axq {c:Int×Int}{s:bm}(h:bP c s=true)(pre:List Int){k:Nat}(f:k<(fp s).length):Hv c (pre++(fp s).take k) pre.length=none:=by
 have g:=W8 h;by_cases a:k<(aw ((dD s).length:Int)).length
 .refine CN ?_;unfold q2;rw[List.drop_left];have e:(fp s).take k=(aw ((dD s).length:Int)).take k:=by unfold fp;rw[List.take_append_of_le_length (by omega)]
  rw[e];have b:aw ((dD s).length:Int)=N6 4 ((dD s).length:Int):=by unfold aw;rw[ak (by omega)]
  rw[b]at a ⊢;rw[aqd 4 k _ 5 0 0 a (by omega)]
 .have e:(fp s).take k=aw ((dD s).length:Int)++(dD s++[10]).take (k-(aw ((dD s).length:Int)).length):=by unfold fp;rw[List.take_append,ao9 (by omega)]
  have hlen:(fp s).length=(aw ((dD s).length:Int)).length+((dD s).length+1):=by simp[fp]
  have d:=adB (pre:=pre) (rest:=(dD s++[10]).take (k-(aw ((dD s).length:Int)).length)) (v:=((dD s).length:Int)) (by omega) (by omega);rw[e,CM d,ak ?_];rw[aN,aN,bQ,aN,bU];omega
def aAE {c:Int×Int}(pre:List Int):Hv c pre pre.length=none:=by refine CN ?_;unfold q2;rw[agc];rfl
def aHf (c:Int×Int)(t:List Int):Prop:=t=[]\/∃s k,bP c s=true/\k<(fp s).length/\t=(fp s).take k
def ag8 {c:Int×Int}{t:List Int}(a:aHf c t):∀(l:List bm) (pre:List Int) (f:Nat) (s:bm),(∀x∈l,bP c x=true)->l.length<f ->
  Fm c (pre++(hL l++t)) f s pre.length=(l.getLastD s,(pre++hL l).length)
 |[],pre,f+1,s,_,_=>by
  have d:Hv c (pre++(hL []++t)) pre.length=none:=by
   rcases a with rfl|⟨x,k,g,h,rfl⟩
   .have:pre++(hL []++[])=pre:=by simp[hL]
    rw[this];exact aAE pre
   .exact axq g pre h
  rw[gV d];simp[hL]
 |x::l,pre,f+1,s,b,i=>by
  have j:=b x vR;have e:pre++(hL (x::l)++t)=pre++(fp x++(hL l++t)):=by simp[hL]
  have m:pre++(fp x++(hL l++t))=(pre++fp x)++(hL l++t):=by simp
  have n:(pre++hL (x::l)).length=(pre++fp x++hL l).length:=by simp[hL]
  rw[a1]at i;rw[e,CO (aAD j pre (hL l++t)),m,n,ag8 a l (pre++fp x) f x (fun y o=>b y (jG _ o)) (by omega)];cases l<;>rfl
def am1 {c:Int×Int}:∀{l:List bm},(∀x∈l,bP c x=true)->l.length<=(hL l).length
 |[],_=>bh _|x::l,h=>by
  have b:=aqc (h x vR);have d:=am1 fun y a=>h y (jG _ a)
  have e:hL (x::l)=fp x++hL l:=rfl;rw[e,aN,a1];omega
def am2 {c:Int×Int}{t:List Int}(b:aHf c t){l:List bm}(a:∀x∈l,bP c x=true):fo c (hL l++t)=(l.getLastD hK,(hL l).length):=by have:=ag8 b l [] ((hL l++t).length+1) hK a (by have:=am1 a;rw[aN];omega);rw[s4,s4]at this;exact this
end Go.Am.Tryz
