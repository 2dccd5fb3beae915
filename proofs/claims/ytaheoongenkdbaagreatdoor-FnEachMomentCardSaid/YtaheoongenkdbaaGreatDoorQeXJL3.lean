/- No condition. -/
import Derived.Test.YtaheoongenkdbaaGreatDoorQeXJL2
set_option linter.all false
namespace Go.Am.Tryz
open Go.Am
def jD:a1:=(0,0,b8,ak)
def asg:jJ jD:=⟨dr,aO _⟩
def axf {b:List Int}{s:Qr}(h:(cQ b s).2.2=true):s.2=true:=by
 unfold cQ at h;split at h
 .split at h
  .assumption
  .cases h
 .cases h
def KX (b:List Int):a1×Qr :=
 (((h9 b).1,(aQ b (h9 b).2).1,(vZ b (aQ b (h9 b).2).2).1,(cQ b (vZ b (aQ b (h9 b).2).2).2).1),(cQ b (vZ b (aQ b (h9 b).2).2).2).2)
def nu (c:Int×Int)(b:List Int):a1×Bool:=if (KX b).2.2=true/\((KX b).2.1:Int)=(b.length:Int)/\bh c (KX b).1=true then ((KX b).1,true) else (jD,false)
def aoH {b:List Int}(a:de b)(h:(KX b).2.2=true):jJ (KX b).1:=by have d:(h9 b).2.1<=b.length:=(dK a (s:=(0,true)) (aO _)).1;have e:=(dK a d).1;have q:=Rx a e;have x:=wS a q.1;have c:(cQ b (vZ b (aQ b (h9 b).2).2).2).2.2=true->(vZ b (aQ b (h9 b).2).2).2.2=true:=axf;unfold KX at h ⊢;generalize cQ b (vZ b (aQ b (h9 b).2).2).2=f at h x c ⊢;generalize vZ b (aQ b (h9 b).2).2=g at q c ⊢;generalize aQ b (h9 b).2=i;generalize h9 b=j;exact⟨q.2 (c h),x.2⟩
def aEQ {b:List Int}(a:de b)(c:Int×Int):jJ (nu c b).1:=by
 unfold nu;split
 .rename_i h;exact aoH a h.1
 .exact asg
def ayO {c:Int×Int}{b:List Int}{m:a1}{s:Qr}{f:a1->Option (Bool×Unit)}(h:s.2=true->f m=some (bh c m,())) :
  br (!s.2) (some (jD,false,())) (br ((s.1:Int) != (b.length:Int)) (some (jD,false,())) ((f m).bind fun d=>br (!d.1) (some (jD,false,())) (some (m,true,())))) =
   some ((if s.2=true/\(s.1:Int)=(b.length:Int)/\bh c m=true then ((m,true):a1×Bool) else (jD,false)).1,(if s.2=true/\(s.1:Int)=(b.length:Int)/\bh c m=true then ((m,true):a1×Bool) else (jD,false)).2,()):=by
 cases e:s.2 with
 |false =>
  rw[af (fun h=>by cases h.1)];rfl
 |true =>
  rw[aH,aa,h e,ai];by_cases a:(s.1:Int)=(b.length:Int)
  .rw[show((s.1:Int) != (b.length:Int))=false from RV.2 a,aa];cases g:bh c m with
   |false =>
    rw[af (fun h=>by cases h.2.2)];rfl
   |true =>
    rw[ag ⟨rfl,a,rfl⟩];rfl
  .rw[Er.2 a,ae,af (fun h=>a h.2.1)]
def azH {b:List Int}(a:de b)(c:Int×Int):Mn F0 c b=some ((nu c b).1,(nu c b).2,()):=by have j:cG F0 (b,0,true)=some (((h9 b).1,()),cell b (h9 b).2,()):=sC a (s:=(0,true)) (aO _);have e:(h9 b).2.1<=b.length:=(dK a (s:=(0,true)) (aO _)).1;have g:=(dK a e).1;have q:=Rx a g;have d:=aoH a;rw[ani,j,ai,sC a e,ai,azz a g,ai,ad1 a q.1,ai];unfold nu;unfold KX at d ⊢;generalize cQ b (vZ b (aQ b (h9 b).2).2).2=i at d ⊢;generalize vZ b (aQ b (h9 b).2).2=k at d ⊢;generalize aQ b (h9 b).2=l at d ⊢;generalize h9 b=n at d ⊢;exact ayO (c:=c) (b:=b) (m:=(n.1,l.1,k.1,i.1)) (s:=i.2) (f:=fun m=>iB F0 c m) fun h=>Cx (d h) c
def axg {b:List Int}(a:de b)(c:Int×Int):Nh F0 c b=some ((nu c b).1,(nu c b).2,()):=by have j:bF F0 (b,0,false)=some (((h9 b).1,()),Wx b (h9 b).2,()):=mi a (s:=(0,true)) (aO _);have e:(h9 b).2.1<=b.length:=(dK a (s:=(0,true)) (aO _)).1;have g:=(dK a e).1;have q:=Rx a g;have d:=aoH a;rw[an9,j,ai,mi a e,ai,au1 a g,ai,Xs a q.1,ai];unfold nu;unfold KX at d ⊢;generalize cQ b (vZ b (aQ b (h9 b).2).2).2=i at d ⊢;generalize vZ b (aQ b (h9 b).2).2=k at d ⊢;generalize aQ b (h9 b).2=l at d ⊢;generalize h9 b=n at d ⊢;exact ayO (c:=c) (b:=b) (m:=(n.1,l.1,k.1,i.1)) (s:=i.2) (f:=fun m=>km F0 c m) fun h=>Fg (d h) c
def Wz (b:List Int)(i j:Nat):List Int:=(b.take j).drop i
def ad6 {b:List Int}(a:de b)(i j:Nat):de (Wz b i j):=by have d:=a.1;refine⟨?_,fun x c=>a.2 x (TY (asX c))⟩;unfold Wz;rw[bc,bC];omega
def aCZ {b:List Int}(a:de b):bytesOf (strOf b)=b:=by unfold bytesOf strOf;simp only[List.map_map];refine(List.map_congr_left fun x c=>?_).trans (List.map_id b);have:=a.2 x c;simp only[Function.comp,id,UInt8.toNat_ofNat'];omega
def Hb (c:Int×Int)(b:List Int)(a:Nat):Option (a1×Nat):=match q0 b a with
 |none=>none|some (v,d)=>if v>=(b.length:Int)-d then none else if b.getD (d+v.toNat) 0≠10 then none else if (nu c (Wz b d (d+v.toNat))).2=true then some ((nu c (Wz b d (d+v.toNat))).1,d+v.toNat+1) else none
def Fi (c:Int×Int)(b:List Int):Nat->a1->Nat->a1×Nat
 |0,s,a=>(s,a)|f+1,s,a=>match Hb c b a with
  |none=>(s,a)|some (d,e)=>Fi c b f d e
def dL (c:Int×Int)(b:List Int):a1×Nat:=Fi c b (b.length+1) jD 0
def Cz {c:Int×Int}{b:List Int}{a:Nat}{v:Int}{a':Nat}(h:q0 b a=some (v,a')):Hb c b a =
  if v>=(b.length:Int)-a' then none else if b.getD (a'+v.toNat) 0≠10 then none else if (nu c (Wz b a' (a'+v.toNat))).2=true then some ((nu c (Wz b a' (a'+v.toNat))).1,a'+v.toNat+1) else none:=by
 unfold Hb;rw[h]
def CA {c:Int×Int}{b:List Int}{a:Nat}(h:q0 b a=none):Hb c b a=none:=by unfold Hb;rw[h]
def hY {c:Int×Int}{b:List Int}{f:Nat}{s:a1}{a:Nat}(h:Hb c b a=none):Fi c b (f+1) s a=(s,a):=by unfold Fi;rw[h]
def CB {c:Int×Int}{b:List Int}{f:Nat}{s d:a1}{a a':Nat}(h:Hb c b a=some (d,a')):Fi c b (f+1) s a=Fi c b f d a':=by rw[Fi,h]
def axh {c:Int×Int}{b:List Int}(f:de b){a:Nat}(i:a<=b.length){s:a1}{a':Nat}(h:Hb c b a=some (s,a')):a<a'/\a'<=b.length/\jJ s:=by
 cases e:q0 b a with
 |none=>rw[CA e]at h;cases h
 |some r =>
  obtain⟨v,d⟩:=r;have j:=Xr f i e;have g:=aEQ (ad6 f d (d+v.toNat)) c;rw[Cz e]at h;generalize nu c (Wz b d (d+v.toNat))=r at h g;split at h
  .cases h
  .rename_i k;split at h
   .cases h
   .split at h
    .cases h;exact⟨by omega,by omega,g⟩
    .cases h
def ash (c:Int×Int){b:List Int}(g:de b)(p q t:Int)(u w:ByteArray)(xs:List Int):∀(f:Nat) (s:a1) (a n:Nat),a<=b.length->b.length+1<=a+f->f<n ->
  uS F0 (zU F0) n (oZ b (a:Int) c.1 c.2 p q t u w s.1 s.2.1 s.2.2.1.1 s.2.2.1.2.1 s.2.2.2 xs s.2.2.1.2.2)=some ((Fi c b f s a).1,((Fi c b f s a).2:Int),())
 |0,s,a,n,j,x,y=>by omega
 |f+1,s,a,n,j,x,y=>by
  obtain⟨n,rfl⟩:∃m,n=m+1:=⟨n-1,by omega⟩;have A:=g.1;cases i:q0 b a with
  |none =>
   have law:kc F0 b (a:Int)=some (0,0,false,()):=by rw[ad0 g j,i];rfl
   rw[EN,law,ai,J7,hY (CA i)];rfl
  |some r =>
   obtain⟨v,d⟩:=r;have B:=Xr g j i;have law:kc F0 b (a:Int)=some (v,(d:Int),true,()):=by rw[ad0 g j,i];rfl
   have e:=Cz (c:=c) i;rw[EN,law,ai,J7];dsimp only;rw[aH,aa,aF (n:=(b.length:Int)-d) (by omega) (by omega),show aj ((d:Int)+v)=((d+v.toNat:Nat):Int) by rw[aF (by omega) (by omega)];omega];by_cases k:v>=(b.length:Int)-d
   .rw[ag k]at e;rw[aI k,ae,hY e]
   .have z:d+v.toNat<b.length:=by omega
    rw[af k]at e;rw[aL k,aa,ao z,ad,la];by_cases l:b.getD (d+v.toNat) 0=10
    .rw[af (fun h=>h l)]at e;rw[show(b.getD (d+v.toNat) 0 != 10)=false from RV.2 l,aa,Xo (by omega) (by omega),ad,show((c.1,c.2):Int×Int)=c from rfl,gJ,gJ,
      show((b.take (d+v.toNat)).drop d)=Wz b d (d+v.toNat) from rfl,azH (ad6 g _ _),ai]
     dsimp only;generalize nu c (Wz b d (d+v.toNat))=r at e ⊢;cases o:r.2 with
     |false =>
      rw[o,af (by decide)]at e;rw[ea,ae,hY e]
     |true =>
      rw[o,ag rfl]at e;rw[aH,aa,al (by omega),CB e];exact ash c g p q t u w xs f r.1 (d+v.toNat+1) n (by omega) (by omega) (by omega)
    .rw[ag l]at e;rw[Er.2 l,ae,hY e]
def au2 {b:List Int}(a:de b)(c:Int×Int):Dx F0 c b=some ((dL c b).1,((dL c b).2:Int),()):=by have d:=a.1;rw[afI,ajT,ai];exact ash c a 0 0 0 _ _ [] (b.length+1) jD 0 _ (aO _) (by omega) (by rw[bH];omega)
def aC0 {b:List Int}{a:Nat}{v:Int}{a':Nat}(h:q0 b a=some (v,a')):aa8 b a=if v>(b.length:Int)-a' then none else some (strOf (Wz b a' (a'+v.toNat)),a'+v.toNat):=by unfold aa8;rw[h];rfl
def aC1 {b:List Int}{a:Nat}(h:q0 b a=none):aa8 b a=none:=by unfold aa8;rw[h]
def aoI (c:Int×Int){b:List Int}(g:de b)(o p q:Int)(t u:ByteArray)(xs:List Int):∀(f:Nat) (s:a1) (a n:Nat),a<=b.length->b.length+1<=a+f->f<n ->
  nW F0 (pn F0) n (kC b (a:Int) c.1 c.2 o p q t u s.1 s.2.1 s.2.2.1.1 s.2.2.1.2.1 s.2.2.2 xs s.2.2.1.2.2)=some ((Fi c b f s a).1,((Fi c b f s a).2:Int),())
 |0,s,a,n,i,z,A=>by omega
 |f+1,s,a,n,i,z,A=>by
  obtain⟨n,rfl⟩:∃m,n=m+1:=⟨n-1,by omega⟩;have C:=g.1;have bad:mS F0 b (a:Int)=some (ak,0,false,())->Hb c b a=none->nW F0 (pn F0) (n+1) (kC b (a:Int) c.1 c.2 o p q t u s.1 s.2.1 s.2.2.1.1 s.2.2.1.2.1 s.2.2.2 xs s.2.2.1.2.2)=some ((Fi c b (f+1) s a).1,((Fi c b (f+1) s a).2:Int),()):=by intro law e;rw[E9,law,ai,KK,hY e];rfl
  cases j:q0 b a with
  |none=>exact bad (by rw[Iz g i,aC1 j];rfl) (CA j)
  |some r =>
   obtain⟨v,d⟩:=r;have D:=Xr g i j;have e:=Cz (c:=c) j;have k:=aC0 j;by_cases w:v>(b.length:Int)-d
   .rw[ag w]at k;rw[ag (show v>=(b.length:Int)-d by omega)]at e;exact bad (by rw[Iz g i,k];rfl) e
   .rw[af w]at k;have law:mS F0 b (a:Int)=some (strOf (Wz b d (d+v.toNat)),((d+v.toNat:Nat):Int),true,()):=by rw[Iz g i,k];rfl
    rw[E9,law,ai,KK];dsimp only;rw[aH,aa];by_cases x:v>=(b.length:Int)-d
    .rw[ag x]at e;rw[aI (show((d+v.toNat:Nat):Int)>=(b.length:Int) by omega),ae,hY e]
    .have B:d+v.toNat<b.length:=by omega
     rw[af x]at e;rw[aL (show ¬((d+v.toNat:Nat):Int)>=(b.length:Int) by omega),aa,ao B,ad,la];by_cases l:b.getD (d+v.toNat) 0=10
     .have E:((strOf (Wz b d (d+v.toNat))).size:Int)<=1048576:=by have:=(ad6 g d (d+v.toNat)).1;show((((Wz b d (d+v.toNat)).map fun n=>UInt8.ofNat n.toNat).toArray.size:Nat):Int)<=1048576;rw[List.size_toArray,s5];omega
      rw[af (fun h=>h l)]at e;rw[show(b.getD (d+v.toNat) 0 != 10)=false from RV.2 l,aa,show((c.1,c.2):Int×Int)=c from rfl,aI (show((strOf (Wz b d (d+v.toNat))).size:Int)<=F0.mem by rw[aEj];omega),ad,aCZ (ad6 g _ _),axg (ad6 g _ _),ai];dsimp only;generalize nu c (Wz b d (d+v.toNat))=r at e ⊢;cases y:r.2 with
      |false =>
       rw[y,af (by decide)]at e;rw[ea,ae,hY e]
      |true =>
       rw[y,ag rfl]at e;rw[aH,aa,al (by omega),CB e];exact aoI c g o p q t u xs f r.1 (d+v.toNat+1) n (by omega) (by omega) (by omega)
     .rw[ag l]at e;rw[Er.2 l,ae,hY e]
def ZR {b:List Int}(a:de b)(c:Int×Int):tG F0 c b=some ((dL c b).1,((dL c b).2:Int),()):=by have d:=a.1;rw[agt,akC,ai];exact aoI c a 0 0 0 _ _ [] (b.length+1) jD 0 _ (aO _) (by omega) (by rw[bH];omega)
def aBR (c:Int×Int){b:List Int}(e:de b):∀(f:Nat) (s:a1) (a:Nat),a<=b.length->jJ s->jJ (Fi c b f s a).1
 |0,_,_,_,h=>h|f+1,s,a,g,h=>by
  cases d:Hb c b a with
  |none =>
   rw[hY d];exact h
  |some r =>
   obtain⟨i,j⟩:=r;have:=axh e g d;rw[CB d];exact aBR c e f i j this.2.1 this.2.2
def azI (c:Int×Int){b:List Int}(a:de b):jJ (dL c b).1:=aBR c a _ _ _ (aO _) asg
def ey (a b:a1):Bool:=(a.1==b.1)&&((a.2.1==b.2.1)&&(fS a.2.2.1 b.2.2.1&&(a.2.2.2.toList==b.2.2.2.toList)))
def au3 {a b:a1}(c:jJ a)(d:jJ b):Dd F0 a b=some (ey a b,()):=by rw[afp,agH c.1 d.1,ai];unfold ey;cases (a.1==b.1)<;>cases (a.2.1==b.2.1)<;>cases fS a.2.2.1 b.2.2.1<;>rfl
def ZS {a b:a1}(c:jJ a):tw F0 a b=some (ey a b,()):=by rw[af6,KU c.1,ai];unfold ey;cases (a.1==b.1)<;>cases (a.2.1==b.2.1)<;>cases fS a.2.2.1 b.2.2.1<;>rfl
def asi (c:Int×Int)(r:ar):Bool:=mh c r&&(ey (dL c r.2.2.2.2.2.2.1.1).1 r.2.2.2.1&&(((dL c r.2.2.2.2.2.2.1.1).2:Int)==(r.2.2.2.2.2.2.1.1.length:Int)))
def aC2 {r:ar}(h:aoA r)(a:de r.2.2.2.2.2.2.1.1)(c:Int×Int):Xk F0 c r=some (asi c r,()):=by rw[auF,ZR a,ai,dJ h,ai,ZS (azI c a),ai];unfold asi;cases mh c r<;>cases ey (dL c r.2.2.2.2.2.2.1.1).1 r.2.2.2.1<;>rfl
def rp (w:ah)(i:Nat):ar:=w.2.2.1.getD ((aM w).getD i 0).toNat ad4
def aBS {w:ah}{i j:Nat}(a:i<(aM w).length)(e:(aM w)[i]=(j:Int))(b:j<w.2.2.1.length):rp w i=w.2.2.1[j]:=by unfold rp;rw[aV a,e,gJ,aV b]
def aoJ (w:ah)(i k:Nat):Bool:= !(((w.2.2.2.2.getD k Ry).2.2==(aM w).getD i 0)&&decide ((w.2.2.2.2.getD k Ry).1>(rp w i).2.2.2.1.1))
def au4 (w:ah)(i:Nat):Bool:=asi w.1 (rp w i)&&(List.range w.2.2.2.2.length).all (aoJ w i)
def au5 (w:ah):Bool:=jC w&&(List.range (aM w).length).all (au4 w)
def aIh (w:ah):Prop:=∀r∈w.2.2.1,de r.2.2.2.2.2.2.1.1
def aC3 {V:Type}(a b:Bool)(x y:V):br a (br b x y) y=if (!(a&&b))=true then y else x:=by cases a<;>cases b<;>rfl
def aER {w:ah}(h:v7 w){γ:Type}(J:Ex->St->Option γ)(n:Nat){i:Nat}(b:i<(aM w).length) :
  iQ F0 (ju F0 J n) F0.n (fR (aM w)[i] ((aM w).length:Int) (i:Int) w.2.2.2.2 (w.2.2.2.2.length:Int) 0 w.1.1 w.1.2 w.2.1 w.2.2.1 w.2.2.2.1 w.2.2.2.2 (aM w)) =
  if (List.range w.2.2.2.2.length).all (aoJ w i)=true then me F0 J n (jv ((aM w).length:Int) ((i+1:Nat):Int) w.1.1 w.1.2 w.2.1 w.2.2.1 w.2.2.2.1 w.2.2.2.2 (aM w)) else J .ret (np false):=by
 have hlen:(aM w).length<=1048576:=bZ (q2 w.2.1 w.2.2.1.length) h.r;have d:=h.s;obtain⟨f,e,c⟩:=Cy b;refine hU (fun m k=>iQ F0 (ju F0 J n) m (fR (aM w)[i] ((aM w).length:Int) (i:Int) w.2.2.2.2 (w.2.2.2.2.length:Int) k w.1.1 w.1.2 w.2.1 w.2.2.1 w.2.2.2.1 w.2.2.2.2 (aM w))) w.2.2.2.2.length (aoJ w i) _ _ (fun m k a=>?_) (fun m=>?_) _ (by rw[bH];omega)
 .unfold aoJ;rw[Bz,aP a,ae,ao a,ad,e,ao c,a8 a,a8 c,ad,X6,al (by omega),aC3,aV a,aBS b e c,aV b,e]
 .rw[Bz,aE,aa,Wi,al (by omega)]
def aoK {w:ah}(h:v7 w)(d:aIh w):A2 F0 w=some (au5 w,()):=by
 have hlen:(aM w).length<=1048576:=bZ (q2 w.2.1 w.2.2.1.length) h.r;rw[adI,sE h,ai,wT h,ai];dsimp only;rw[hU (fun m k=>me F0 (nq F0) m (jv ((aM w).length:Int) k w.1.1 w.1.2 w.2.1 w.2.2.1 w.2.2.2.1 w.2.2.2.2 (aM w))) (aM w).length (au4 w) (some (true,())) (some (false,())) (fun m k a=>?_) (fun m=>?_) _ (by rw[bH];omega),Fh]
 .unfold au5;cases jC w<;>rfl
 .obtain⟨f,e,b⟩:=Cy a;have c:=b2 b;rw[BA,aP a,ae,ao a,ad,a8 a,aER h _ _ a,e,ao b,ad,a8 b,show((w.1.1,w.1.2):Int×Int)=w.1 from rfl,aC2 (h.rl _ c) (d _ c),ai,X7];unfold au4;rw[aBS a e b];dsimp only;cases asi w.1 w.2.2.1[f]<;>rfl
 .rw[BA,aE,aa,Wj]
def ait {l:mf}(g:aa3 l){list:List ej}(m:list.length<=1048576):wN F0 l list=some (qU l list,qJ l list,()):=by
 rw[anY,Wn (by have:=g.1;omega) (by have:=g.2;omega),ai];refine cz (fun n i (z:List Int×mf)=>D0 F0 (Ga F0) n (vg list (list.length:Int) i z.1 [] [] z.2.1 z.2.2)) list.length (fun k z=>z.1=qJ l (list.take k)/\z.2=qU l (list.take k)) _ (fun n k z e f=>.inr ⟨(z.1++[(jw z.2 list[k]).2],(jw z.2 list[k]).1),?_,?_⟩) (fun n z f=>?_) F0.n 0 ([],l) (aO _) ⟨rfl,rfl⟩ (by rw[bH];omega)
 .obtain⟨d,c⟩:=f;have h:aa3 z.2:=by rw[c];exact Xn g
  have o:z.1.length<=1048576:=by rw[d,Rq,bC];omega
  rw[KE,aP e,ae,ao e,ad,ZP e]
  try rw[aJn]
  rw[aon (l:=(z.2.1,z.2.2)) (by have:=h.1;show z.2.1.length<=_;omega) (by have:=h.2;show z.2.2.length<=_;omega),ai];simp only;rw[ax (a:=z.1.length) (b:=[(jw (z.2.1,z.2.2) list[k]).2].length) (k:=8) (by omega) (by omega) (by simp only[aW,bj];omega),ad,al (by omega)]
 .obtain⟨d,c⟩:=f;have j:list.take (k+1)=list.take k++[list[k]]:=by rw[Lg,mm e];rfl
  refine⟨?_,?_⟩
  .rw[j,Rr,<-d,<-c];rfl
  .rw[j,Wp,<-c]
 .obtain⟨d,c⟩:=f;rw[k5]at d c;rw[KE,aE,aa,ady,d,c]
def azJ {l:List UInt8}(f:l.length<=1073741824):vW F0 (tx l)=some ((aZ l).1.flatMap (·.2),()):=by
 rw[aqU,Rp f,ai];have hlen:=qc l;have cW:=Ro l;generalize h:(aZ l).1=ss at hlen cW;refine cz (fun n i xs=>It F0 (Ky F0) n (AO (ss.length:Int) i xs ss)) ss.length (fun k xs=>xs=(ss.take k).flatMap (·.2)) _ (fun n k xs c d=>.inr ⟨_,?_,rfl⟩) (fun n xs d=>?_) F0.n 0 [] (aO _) rfl (by rw[bH];omega)
 .have j:=(cW _ (b2 c)).2.2.1;have e:=adP (ss:=ss.take k) fun x e=>cW x (TY e)
  rw[<-d,bC]at e;rw[M5,aP c,ae,ao c,ad,ZP c,ax (a:=xs.length) (b:=ss[k].2.length) (k:=32) (by omega) (by omega) (by omega),ad,al (by omega),d];have g:(ss.take (k+1)).flatMap (·.2)=(ss.take k).flatMap (·.2)++ss[k].2:=by rw[show ss.take (k+1)=ss.take k++[ss[k]] by rw[Lg,mm c];rfl,asY];simp
  rw[g]
 .rw[k5]at d;rw[M5,aE,aa,agf,d]
def aoL (b:ByteArray):List ej:=(aZ b.data.toList).1.flatMap (·.2)
def Qs (b:ByteArray):(aoL b).length<=60:=by have a:=adP (Ro b.data.toList);have c:=qc b.data.toList;unfold aoL;omega
def axi {b:ByteArray}(h:b.size<=1048576):vE F0 b=some (aoL b,()):=aCO (TF h)
def asj {b:ByteArray}(h:b.size<=1048576):vW F0 b=some (aoL b,()):=azJ (TF h)
def abc:aa3 auP:=⟨rfl,rfl⟩
def vw (c:Int×Int)(r:ar):mf:=if mh c r=true then qU auP (aoL r.2.2.2.1.2.2.2) else ([],[])
def aC4 {r:ar}(h:aoA r)(c:Int×Int):J0 F0 c r=some (vw c r,()):=by have a:=Qs r.2.2.2.1.2.2.2;rw[aqw,gR h,ai,ZO,ai,axi h.s.2,ai,aoo abc (bZ (Qs _) (by omega)),ai];unfold vw;cases mh c r<;>rfl
def azK {r:ar}(h:aoA r)(c:Int×Int):nm F0 c r=some (vw c r,()):=by have a:=Qs r.2.2.2.1.2.2.2;rw[aqV,dJ h,ai,Wo,ai,asj h.s.2,ai,ait abc (bZ (Qs _) (by omega)),ai];unfold vw;cases mh c r<;>rfl
def axj (c:Int):Bool:=(c==0) || (c==4)
abbrev wY:=List Int×Int×Int
def Rz (c:wY):Prop:=c.1.length<=1048576/\0<=c.2.1/\c.2.1<=1048576
def au6 (n:Int):0<=aj ((BitVec.ofInt 64 n &&& BitVec.ofInt 64 255).toNat:Int)/\aj ((BitVec.ofInt 64 n &&& BitVec.ofInt 64 255).toNat:Int)<=255:=by
 have h:(BitVec.ofInt 64 n &&& BitVec.ofInt 64 255).toNat<=255:=by rw[BitVec.toNat_and];exact bZ Nat.and_le_right (by decide)
 rw[aF (by omega) (by omega)];omega
def aBT {c:wY}(h:Rz c):∃(v:Int) (a:wY),j7 F0 c=some ((v,()),a,())/\0<=v/\v<=255/\Rz a:=by
 rw[amc];by_cases hlt:c.2.1<(c.1.length:Int)
 .rw[aI hlt,ae,show bO c.2.1 (c.1.length:Int)=true by simp[bO];exact⟨h.2.1,hlt⟩,ad];have b:=h.1;have d:=h.2.1;refine⟨_,_,rfl,(au6 _).1,(au6 _).2,h.1,?_,?_⟩
  .show 0<=aj (c.2.1+1);rw[aF (by omega) (by omega)];omega
  .show aj (c.2.1+1)<=1048576;rw[aF (by omega) (by omega)];omega
 .rw[aL hlt,aa];exact⟨_,_,rfl,(au6 _).1,(au6 _).2,h⟩
def au7 {a n:Int}(b:0<=a)(c:0<n):0<=Int.tmod a n/\Int.tmod a n<n:=by rw[ak8 b];exact⟨ahj _ (by omega),ala _ c⟩
def aoM {c:wY}(h:Rz c){n:Int}(b:0<n)(e:n<=256):∃(v:Int) (a:wY),au F0 c n=some ((v,()),a,())/\0<=v/\v<n/\Rz a:=by obtain⟨v,a,f,d,i,g⟩:=aBT h;rw[R0,aL (show ¬n<=0 by omega),aa,aI e,ae,f,ai,show(!(n==0))=true by rw[bQ.2 (show n≠0 by omega)];rfl,ad];exact⟨_,_,rfl,(au7 d b).1,(au7 d b).2,g⟩
def azL {c:wY}(h:Rz c){l:List Int}(j:0<l.length)(k:l.length<=256):∃(v:Int) (a:wY),iV F0 c l=some ((v,()),a,())/\v∈l/\Rz a:=by
 obtain⟨v,a,d,f,g,i⟩:=aoM h (n:=(l.length:Int)) (by omega) (by omega);have b:v.toNat<l.length:=by omega
 rw[aca,d,ai,show bO v (l.length:Int)=true by simp[bO];exact⟨f,g⟩,ad];refine⟨_,_,rfl,?_,i⟩;have e:v=(v.toNat:Int):=by omega
 show aN l v 0∈l;rw[e,a8 b];exact b2 b
def aGL {c:wY}(h:Rz c){n:Int}(b:0<n)(d:n<=256):∃(v:Bool) (a:wY),mn F0 c n=some ((v,()),a,())/\Rz a:=by obtain⟨v,a,e,g,i,f⟩:=aoM h b d;rw[ame,e,ai];exact⟨_,_,rfl,f⟩
def aIi {code:List Int}(h:code.length<=1048576):∃b:wY,Jn F0 code=some (((b,()),()))/\Rz b:=by
 rw[aqe];suffices d:∀(a:Nat) (q:Int) (k n:Nat),k+a=code.length->a<n->∃c:Int,Hl F0 (Jm F0) n (x0 code q (k:Int) code)=some ((((code,0,c):wY),()),()) by obtain⟨c,e⟩:=d code.length (aj (26583+(code.length:Int))) 0 F0.n (we _) (by rw[bH];omega);exact⟨_,e,h,Lj _,by show(0:Int)<=1048576;decide⟩
 intro a
 induction a with
 |zero =>
  intro q k n f g;obtain⟨n,rfl⟩:∃m,n=m+1:=⟨n-1,by omega⟩;obtain rfl:k=code.length:=by omega
  rw[Lr,aE,aa,OA];exact⟨q,rfl⟩
 |succ a i =>
  intro q k n f g;obtain⟨n,rfl⟩:∃m,n=m+1:=⟨n-1,by omega⟩;have hlt:k<code.length:=by omega
  rw[Lr,aP hlt,ae];cases decide ((k:Int)<4000) with
  |false =>
   rw[aa,OA];exact⟨q,rfl⟩
  |true =>
   rw[ae,ao hlt,ad,al (by omega)];exact i _ (k+1) n (by omega) (by omega)
def RA (c x:UInt8)(l:List UInt8):parts c (x::l)=if x=c then []::parts c l else match parts c l with
  |p::a=>(x::p)::a|[]=>[[x]]:=by
 conv=>lhs;unfold parts
 cases parts c l<;>rfl
def agL {c:UInt8}:∀(a b:List UInt8),parts c (a++c::b)=parts c a++parts c b
 |[],b=>by rw[Bi,RA,ag rfl];rfl
 |x::a,b=>by
  rw[Gi,RA c x (a++c::b),RA c x a];by_cases d:x=c
  .rw[ag d,ag d,agL a b];rfl
  .rw[af d,af d,agL a b];have e:=Fe c a;cases f:parts c a with
   |nil=>exact absurd f e|cons p g=>rfl
def axk {σ V:Type}{f:σ->List UInt8->Option (σ×V)}:∀{l m:List (List UInt8)} {s:σ} {r:List V},sY f s (l++m)=some r->∃a c,sY f s l=some a/\r=a++c/\c.length=m.length
 |[],m,s,r,h=>⟨[],r,rfl,rfl,Qk h⟩|p::l,m,s,r,h=>by
  rw[Gi]at h;unfold sY at h ⊢;cases e:f s p with
  |none=>rw[e]at h;cases h
  |some x =>
   obtain⟨g,b⟩:=x;rw[e]at h;dsimp only at h ⊢;cases d:sY f g (l++m) with
   |none=>rw[d]at h;cases h
   |some n =>
    rw[d]at h;cases h;obtain⟨a,c,i,j,k⟩:=axk d;rw[i];exact⟨b::a,c,rfl,by rw[j];rfl,k⟩
def aoN {a t:List UInt8}(n:(47:UInt8) ∉ t)(h:bd (a++47::t)=true):bd a=true/\∃x,(aZ (a++47::t)).1=(aZ a).1++[x]:=by
 have o:a++47::t≠[]:=by simp
 unfold bd at h ⊢;unfold aZ at h ⊢;rw[af o,agL,aoj n]at h ⊢;cases f:parts 47 a with
 |nil=>exact absurd f (Fe 47 a)
 |cons g c =>
  rw[f,Gi]at h;rw[Gi];dsimp only at h ⊢;by_cases d:¬g=[]\/30<(c++[t]).length
  .rw[ag d]at h;cases h
  .rw[af d]at h ⊢;have p:g=[]:=avS fun b=>d (.inl b)
   have q:¬30<(c++[t]).length:=fun b=>d (.inr b)
   rw[aG,dt]at q;cases i:sY sP 0 (c++[t]) with
   |none=>rw[i]at h;cases h
   |some r =>
    obtain⟨s,e,j,k,l⟩:=axk i;obtain⟨x,rfl⟩:∃x,e=[x]:=by
     cases e with
     |nil=>cases l
     |cons x e =>
      cases e with
      |nil=>exact⟨x,rfl⟩|cons _ _=>simp at l
    by_cases m:a=[]
    .subst m;have:c=[]:=by have:=f;unfold parts at this;exact(s6 this).2.symm
     subst this;cases j;rw[ag rfl];exact⟨rfl,x,k⟩
    .rw[af m,af (fun b=>b.elim (fun b=>b p) (fun b=>by omega)),j];exact⟨rfl,x,k⟩
def nv (l:List ej):List UInt8:=Lib.join (l.map txL) [44]
def Nq (l:List ej):List UInt8:=if l.all gm=true then nv l else []
def aGM {l:List ej}(h:l.all gm=true):∀x∈l.map txL,x.length<=90:=by intro x a;obtain⟨y,b,rfl⟩:=Ep.1 a;exact aof (fq.1 h y b)
def KY {l:List ej}(h:l.all gm=true):(nv l).length<=91*l.length:=by have:=aGp (aGM h) 44;rw[s5]at this;exact this
def ad7 {l:List ej}{k:Nat}(a:k<l.length):(l.take (k+1)).all gm=((l.take k).all gm&&gm l[k]):=by rw[Lg,mm a,List.all_append];simp
def N7 {U V:Type}{l:List U}{f:U->V}{k:Nat}(a:k<l.length):(l.take (k+1)).map f=(l.take k).map f++[f l[k]]:=by rw[Lg,mm a,ahg];rfl
def IC {l:List ej}{k:Nat}(a:k<l.length)(h:gm l[k]=false):l.all gm=false:=by rw[aeN];exact⟨l[k],b2 a,by simp[h]⟩
def asl {x:ej}(h:gm x=true):aa1 x=txL x:=ag h
def axl {l:List ej}(h:l.length<=1048576):HI F0 l=some (tx (Nq l),()):=by
 rw[ajn];refine cz (fun n i (c:ByteArray)=>pM F0 (ry F0) n (lH l c i)) l.length (fun k c=>(l.take k).all gm=true/\c=tx (nv (l.take k))) _ (fun n k c a f=>?_) (fun n c f=>?_) _ 0 _ (aO _) ⟨rfl,rfl⟩ (by rw[bH];omega)
 .obtain⟨b,rfl⟩:=f;have g:=KY b;rw[bC,ahi (by omega)]at g;rw[Gw,aP a,ae,ao a,ad,ZP a,Qi,ai,acx];dsimp only;cases d:gm l[k]with
  |false =>
   left;rw[ea,ae,Nq,IC a d];rfl
  |true =>
   right;have o:=aof d;refine⟨tx (nv (l.take (k+1))),?_,by rw[ad7 a,b,d];rfl,rfl⟩;rw[aH,aa,ad,ad,aog,ai,ai,asl d,show ByteArray.mk #[44]=tx [44] from rfl,fH];dsimp only;rw[gY (by rw[bB,bB,dt];omega),ad,gY (by rw[bB,bB,aG,dt];omega),ad,gY (by rw[bB,bB];omega),ad,fH,fH,al (by omega)];by_cases j:k=0
   .subst j;rw[show decide (((0:Nat):Int)>0)=false from rfl,aa,show nv (l.take (0+1))=nv (l.take 0)++txL l[0] by rw[nv,N7 a];simp[nv,Lib.join_one,Lib.join_nil]]
   .have m:(l.take k).map txL≠[]:=by intro e;have:=oF List.length e;rw[s5,bC,bj]at this;omega
    rw[aI (show(k:Int)>0 by omega),ae,show nv (l.take (k+1))=nv (l.take k)++[44]++txL l[k] by rw[nv,N7 a,aCI m];rfl]
 .obtain⟨b,rfl⟩:=f;rw[k5]at b ⊢;rw[Gw,aE,aa,aav,Nq,ag b]
def aGN (l:List ej):((l.map fun x=>tx (txL x)).map fun b=>b.data.toList)=l.map txL:=by rw[List.map_map];exact List.map_congr_left fun n _=>e3 _
def au8 {l:List ej}(h:l.length<=524288):Iv F0 l=some (tx (Nq l),()):=by
 rw[akw];refine cz (fun n i (c:List ByteArray)=>AT F0 (sz F0) n (sy l (l.length:Int) i c)) l.length (fun k c=>(l.take k).all gm=true/\c=(l.take k).map fun x=>tx (txL x)) _ (fun n k c a d=>?_) (fun n c d=>?_) F0.n 0 [] (aO _) ⟨rfl,rfl⟩ (by rw[bH];omega)
 .obtain⟨b,rfl⟩:=d;rw[G7,aP a,ae,ao a,ad,ZP a,Cu,ai,adC];dsimp only;cases e:gm l[k]with
  |false =>
   left;rw[ea,ae,Nq,IC a e];rfl
  |true =>
   right;refine⟨(l.take (k+1)).map fun x=>tx (txL x),?_,by rw[ad7 a,b,e];rfl,rfl⟩;rw[aH,aa,aii,ai,asl e,ax (by omega) (by omega) (by rw[s5,bC,dt];omega),ad,al (by omega),N7 a]
 .obtain⟨b,rfl⟩:=d;rw[k5]at b ⊢;rw[G7,aE,aa,aaX,show ByteArray.mk #[44]=tx [44] from rfl,agw (aGN l) (by rw[s5];omega) (by have:=KY b;unfold nv at this;omega),ai,Nq,ag b];rfl
def Nr (up:List UInt8)(view:Int)(l:List ej):List UInt8:=up++[47]++Lib.itoa view++[124]++nv l
def RB (up:List UInt8)(view:Int)(l:List ej):List UInt8:=if l.all gm=true/\bd (Nr up view l)=true then Nr up view l else []
def abd (up:List UInt8){view:Int}(a:I64 view){l:List ej}(b:l.all gm=true):(Nr up view l).length<=up.length+23+91*l.length:=by have:=KY b;have:=Rm a;simp only[Nr,aG,dt];omega
def aoO {up:List UInt8}(f:up.length<=1048576){view:Int}(c:I64 view){l:List ej}(h:l.length<=1048576):kf F0 (tx up) view l=some (tx (RB up view l),()):=by
 have g:=Rm c;rw[amH];refine cz (fun n i (_:Unit)=>C7 F0 (uB F0) n (uA (tx up) view l i)) l.length (fun k _=>(l.take k).all gm=true) _ (fun n k out b a=>?_) (fun n out a=>?_) _ 0 () (aO _) rfl (by rw[bH];omega)
 .rw[JP,aP b,ae,ao b,ad,ZP b,Qi,ai,afm];dsimp only;cases d:gm l[k]with
  |false =>
   left;rw[ea,ae,RB,af (by rw[IC b d];simp)];rfl
  |true =>
   right;exact⟨(),by rw[aH,aa,al (by omega)],by rw[ad7 b,a,d];rfl⟩
 .rw[k5]at a;have j:=KY a;have e:=abd up c a;rw[JP,aE,aa,acy,Cs c,ai,axl h,ai,Nq,ag a,show ByteArray.mk #[47]=tx [47] from rfl,show ByteArray.mk #[124]=tx [124] from rfl];dsimp only;rw[gY (by rw[bB,bB,dt];omega),ad,fH,gY (by rw[bB,bB,aG,dt];omega),ad,fH,gY (by rw[bB,bB,aG,aG,dt,dt];omega),ad,fH,
   gY (by rw[bB,bB,aG,aG,aG,dt,dt];omega),ad,fH,show up++[47]++Lib.itoa view++[124]++nv l=Nr up view l from rfl,Rs (by omega),ai,RB]
  dsimp only;cases e:bd (Nr up view l) with
  |false=>rw[af (by simp)];rfl
  |true=>rw[ag ⟨a,rfl⟩];rfl
def axm {up:List UInt8}(f:up.length<=1048576){view:Int}(c:I64 view){l:List ej}(h:l.length<=2):E7 F0 (tx up) view l=some (tx (RB up view l),()):=by
 have g:=Rm c;rw[an3];refine cz (fun n i (_:Unit)=>Ed F0 (vn F0) n (vm (tx up) view l l (l.length:Int) i)) l.length (fun k _=>(l.take k).all gm=true) _ (fun n k out b a=>?_) (fun n out a=>?_) _ 0 () (aO _) rfl (by rw[bH];omega)
 .rw[KH,aP b,ae,ao b,ad,ZP b,Cu,ai,ago];dsimp only;cases d:gm l[k]with
  |false =>
   left;rw[ea,ae,RB,af (by rw[IC b d];simp)];rfl
  |true =>
   right;exact⟨(),by rw[aH,aa,al (by omega)],by rw[ad7 b,a,d];rfl⟩
 .rw[k5]at a;have j:=KY a;have e:=abd up c a;rw[KH,aE,aa,adD,Qg c,ai,au8 (by omega),ai,Nq,ag a,show ByteArray.mk #[47]=tx [47] from rfl,show ByteArray.mk #[124]=tx [124] from rfl];dsimp only;rw[gY (by rw[bB,bB,dt];omega),ad,fH,gY (by rw[bB,bB,aG,dt];omega),ad,fH,gY (by rw[bB,bB,aG,aG,dt,dt];omega),ad,fH,
   gY (by rw[bB,bB,aG,aG,aG,dt,dt];omega),ad,fH,show up++[47]++Lib.itoa view++[124]++nv l=Nr up view l from rfl,Nk (by omega),ai,RB]
  dsimp only;rw[aL (show ¬((l.length:Int)>2) by omega),aa];cases e:bd (Nr up view l) with
  |false=>rw[af (by simp)];rfl
  |true=>rw[ag ⟨a,rfl⟩];rfl
def Gd {U:Type}(X:Option U)(P:U->Prop):Prop:=∃v,X=some v/\P v
abbrev DrT (U:Type):=(U×Unit)×(wY×Unit)
def Dr {U:Type}(X:Option (DrT U))(Q:U->Prop):Prop:=Gd X fun z=>Q z.1.1/\Rz z.2.1
def Gd.bind {U V:Type}{X:Option U}{P:U->Prop}(h:Gd X P){f:U->Option V}{R:V->Prop}(a:∀v,P v->Gd (f v) R):Gd (X.bind f) R:=by obtain⟨v,rfl,b⟩:=h;exact a v b
def Dr.bind {U V:Type}{X:Option (DrT U)}{Q:U->Prop}(h:Dr X Q){f:DrT U->Option V}{R:V->Prop}(a:∀z:DrT U,Q z.1.1->Rz z.2.1->Gd (f z) R):Gd (X.bind f) R:=by obtain⟨z,rfl,b,c⟩:=h;exact a z b c
def Gd.let {U V:Type}{X:Option U}{v:U}(h:X=some v){f:U->Option V}{R:V->Prop}(a:Gd (f v) R):Gd (X.bind f) R:=by subst h;exact a
def Gd.ret {U:Type}{v:U}{P:U->Prop}(h:P v):Gd (some v) P:=⟨v,rfl,h⟩
def Gd.br {U:Type}{c:Bool}{x y:Option U}{P:U->Prop}(a:c=true->Gd x P)(b:c=false->Gd y P):Gd (br c x y) P:=by
 cases c with
 |true=>exact a rfl|false=>exact b rfl
def Gd.ck {U:Type}{c:Bool}{x:Option U}{P:U->Prop}(a:c=true)(b:Gd x P):Gd (ck c x) P:=by subst a;exact b
def Gd.br0 {U:Type}{c:Bool}{x y:Option U}{P:U->Prop}(h:c=false)(a:Gd y P):Gd (Am.br c x y) P:=by subst h;exact a
def akY {ζ V:Type}(X:Nat->Int->ζ->Option V)(L:Nat)(I:Nat->ζ->Prop)(P:V->Prop)
  (hs:∀n k z,k<L->I k z->(∀a,I (k+1) a->Gd (X n ((k+1:Nat):Int) a) P)->Gd (X (n+1) (k:Int) z) P) (c:∀n z,I L z->Gd (X (n+1) (L:Int) z) P) :
  ∀n k z,k<=L->I k z->L-k<n->Gd (X n (k:Int) z) P:=by
 intro n
 induction n with
 |zero=>intro k z _ _ h;omega
 |succ n d =>
  intro k z f b g;by_cases h:k=L
  .subst h;exact c n z b
  .exact hs n k z (by omega) b fun a e=>d (k+1) a (by omega) e (by omega)
def akZ {c:wY}(h:Rz c):Dr (U:=Int) (j7 F0 c) fun v=>0<=v/\v<=255:=by obtain⟨v,f,e,a,b,d⟩:=aBT h;exact⟨_,e,⟨a,b⟩,d⟩
def aGO {x y z w:Int}(a:0<=x)(b:x<=255)(c:0<=y)(d:y<=255)(e:0<=z)(f:z<=255)(w0:0<=w)(w1:w<=255):0<=aj (aj (aj (aj (x*16777216)+aj (y*65536))+aj (z*256))+w):=by rw[aF (n:=x*16777216) (by omega) (by omega),aF (n:=y*65536) (by omega) (by omega),aF (n:=z*256) (by omega) (by omega),aF (n:=x*16777216+y*65536) (by omega) (by omega),aF (n:=x*16777216+y*65536+z*256) (by omega) (by omega),aF (by omega) (by omega)];omega
def gF {c:wY}(h:Rz c){n:Int}(a:0<n)(r:n<=9223372036854775807):Dr (U:=Int) (au F0 c n) fun v=>0<=v/\v<n:=by
 by_cases b:n<=256
 .obtain⟨v,s,e,j,k,l⟩:=aoM h a b;exact⟨_,e,⟨j,k⟩,l⟩
 .unfold Dr;rw[R0];refine Gd.br0 (aL (by omega)) (Gd.br0 (aL b) ?_);refine Dr.bind (akZ h) fun x d m=>Dr.bind (akZ m) fun y f o=>Dr.bind (akZ o) fun z g p=>Dr.bind (akZ p) fun w i q=>Gd.ck ?_ (Gd.ret ⟨?_,q⟩)
  .rw[bQ.2 (show n≠0 by omega)];rfl
  .exact au7 (aGO d.1 d.2 f.1 f.2 g.1 g.2 i.1 i.2) a
def ak0 {c:wY}(h:Rz c){n:Int}(a:0<n)(b:n<=256):Dr (U:=Bool) (mn F0 c n) fun _=>True:=by obtain⟨v,f,e,d⟩:=aGL h a b;exact⟨_,e,trivial,d⟩
def abe {c:wY}(h:Rz c){l:List Int}(a:0<l.length)(b:l.length<=256):Dr (U:=Int) (iV F0 c l) fun v=>v∈l:=by obtain⟨v,g,e,d,f⟩:=azL h a b;exact⟨_,e,d,f⟩
def aIj {code:List Int}(h:code.length<=1048576):Gd (Jn F0 code) fun z=>Rz z.1.1:=by obtain⟨c,e,a⟩:=aIi h;exact⟨_,e,a⟩
def aJo {x y z w:Int}(b:0<=x)(c:x<4)(d:0<=y)(e:y<4)(a:z∈[(0:Int),5,60,100,1000])(w0:0<=w)(w1:w<3):gm (x,y,z,w)=true:=by simp only[cN,Z2,or_false]at a;simp only[gm,inB,aA,bR];rcases a with rfl|rfl|rfl|rfl|rfl<;>omega
def asm {c:wY}(h:Rz c):Dr (U:=ej) (lI F0 c) fun v=>gm v=true:=by
 unfold Dr;rw[XP];refine Dr.bind (gF h (n:=4) (by omega) (by omega)) fun x a e=>Dr.bind (gF e (n:=4) (by omega) (by omega)) fun y b f=>Dr.bind (abe f (l:=[0,5,60,100,1000]) (by decide) (by decide)) fun z g i=>Dr.bind (gF i (n:=3) (by omega) (by omega)) fun w d j=>Gd.ret ⟨?_,j⟩
 exact aJo a.1 a.2 b.1 b.2 g d.1 d.2
def asn {up:List UInt8}{view:Int}(a:I64 view)(l:List ej):(RB up view l).length<=up.length+23+91*l.length:=by
 unfold RB;split
 .rename_i h;exact abd up a h.1
 .exact aO _
def agM {l h n:Int}(a:0<=l)(b:l<=h)(c:h<=n):QW l h n=true:=by simp[QW,a,b,c]
def aoP (l:List UInt8):∀(k:Nat),k<=l.length->(fZ l k=0/\∀a,a<k->l.getD a 0≠47)\/(0<fZ l k/\fZ l k<=k/\l.getD (fZ l k-1) 0=47/\∀a,fZ l k<=a->a<k->l.getD a 0≠47)
 |0,_=>.inl ⟨rfl,fun a h=>absurd h (RW _)⟩
 |k+1,n=>by
  have f:∀b:UInt8,((b.toNat:Int) != 47)=true↔b≠47:=by
   intro b;rw[Er];constructor
   .rintro h rfl;exact h rfl
   .intro h c;refine h (as2.1 ?_);show b.toNat=47;omega
  unfold fZ;split
  .rename_i h;rw[f]at h;rcases aoP l k (by omega) with ⟨d,c⟩|⟨d,c,g,i⟩
   .refine .inl ⟨d,fun a o=>?_⟩;by_cases e:a=k
    .rw[e];exact h
    .exact c a (by omega)
   .refine .inr ⟨d,by omega,g,fun a j p=>?_⟩;by_cases e:a=k
    .rw[e];exact h
    .exact i a j (by omega)
  .rename_i h;rw[f]at h;refine .inr ⟨aeP _,bf _,avS fun m=>h m,fun a d c=>by omega⟩
def WA {l:List UInt8}(h:bd l=true)(b:l≠[]):∃t,(47:UInt8) ∉ t/\l=fv l++47::t:=by
 have j:0<fZ l l.length:=by obtain⟨t,rfl⟩:=aoz h b;exact agJ _ (aeP _)
 rcases aoP l l.length (bf _) with ⟨k,_⟩|⟨_,m,a,c⟩
 .omega
 .have hlt:fZ l l.length-1<l.length:=by omega
  have d:fv l=l.take (fZ l l.length-1):=by unfold fv;rw[ag h]
  refine⟨l.drop (fZ l l.length),fun f=>?_,?_⟩
  .obtain⟨g,i,e⟩:=ahe f;rw[List.getElem_drop]at e;rw[bc]at i;refine c (fZ l l.length+g) (by omega) (by omega) ?_;rw[Em,mm (by omega)];exact e
  .rw[d]
   conv=>lhs;rw[<-Yb (fZ l l.length-1) l]
   congr 1
   rw[TX hlt];rw[Em,mm hlt]at a;rw[show l[fZ l l.length-1]=47 from a,show fZ l l.length-1+1=fZ l l.length by omega]
def CC {l:List UInt8}(h:bd l=true):bd (fv l)=true:=by
 by_cases a:l=[]
 .subst a;rfl
 .obtain⟨t,b,e⟩:=WA h a;exact(aoN b (e▸h)).1
def aES {l:List UInt8}(h:bd l=true)(a:l≠[]):(fv l).length<l.length:=by obtain⟨t,_,e⟩:=WA h a;have:=oF List.length e;rw[aG,aW]at this;omega
def ad8 {l:List UInt8}(h:bd l=true)(b:l≠[]):∃x,(aZ l).1=(aZ (fv l)).1++[x]/\aD l=x.1:=by obtain⟨t,c,e⟩:=WA h b;obtain⟨_,x,a⟩:=aoN c (e▸h);rw[<-e]at a;refine⟨x,a,?_⟩;unfold aD;rw[a,List.getLast?_append];rfl
def aKs (r:List Ql):Int:=match r.getLast? with|some s=>s.1|none=>0
def aso:∀{ps:List (List UInt8)} {c:Int} {r1:List Ql} {x:Ql},sY sP c ps=some (r1++[x])->(match r1.getLast? with|some s=>s.1|none=>c)<x.1
 |[],c,r1,x,h=>by cases r1<;>cases h
 |p::ps,c,r1,x,h=>by
  unfold sY at h;cases a:sP c p with
  |none=>rw[a]at h;cases h
  |some y =>
   obtain⟨i,b⟩:=y;rw[a]at h;dsimp only at h;have j:=Wm a;have hlt:c<b.1:=by
    unfold sP at a;split at a
    .rename_i k;cases a;exact k.2.2.2.1
    .cases a
   cases d:sY sP i ps with
   |none=>rw[d]at h;cases h
   |some r =>
    rw[d]at h;have h:=eE h;cases r1 with
    |nil =>
     obtain⟨e,f⟩:=s6 h;rw[<-e];exact hlt
    |cons z r1 =>
     obtain⟨e,f⟩:=s6 h;rw[f]at d;have:=aso d;rw[j.2]at this;rw[<-e];cases r1 with
     |nil=>exact this
     |cons w r1 =>
      rw[List.getLast?_cons_cons];cases g:(w::r1).getLast? with
      |none=>exact absurd (List.getLast?_eq_none_iff.1 g) (by simp)
      |some s =>
       rw[g]at this;exact this
def au9 {l:List UInt8}(h:bd l=true)(d:l≠[]):aD (fv l)<aD l:=by
 obtain⟨x,b,f⟩:=ad8 h d;rw[f];have a:=h;unfold bd at a;unfold aZ at a b;rw[af d]at a b;cases e:parts 47 l with
 |nil=>rw[e]at a;cases a
 |cons j g =>
  rw[e]at a b;dsimp only at a b;split at a
  .cases a
  .rename_i i;rw[af i]at b;cases c:sY sP 0 g with
   |none=>rw[c]at a;cases a
   |some r =>
    rw[c]at b;dsimp only at b;rw[show r=_ from b]at c;exact aso c
def agN (c:UInt8):∀l:List UInt8,l.length+1=((parts c l).map fun p=>p.length+1).sum
 |[]=>rfl|x::l=>by
  have a:=agN c l;rw[RA];split
  .rw[sG,aln,<-a,aW,bj];omega
  .have d:=Fe c l;cases b:parts c l with
   |nil=>exact absurd b d
   |cons p e =>
    rw[b]at a;rw[sG,aln]at a ⊢;rw[aW,aW];omega
def azM {U:Type}{f:U->Nat}{b:Nat}:∀{l:List U},(∀x∈l,f x<=b)->(l.map f).sum<=b*l.length
 |[],_=>aO _|x::l,h=>by
  have c:=h x py;have d:=azM fun y a=>h y (jG x a)
  rw[sG,aln,aW,Nat.mul_succ];omega
def agO {σ V:Type}{f:σ->List UInt8->Option (σ×V)}{Q:List UInt8->Prop}(e:∀s p c b,f s p=some (c,b)->Q p):∀{P:List (List UInt8)} {s:σ} {r:List V},sY f s P=some r->∀p∈P,Q p
 |[],_,_,_,p,a=>by cases a
 |q::P,s,r,h,p,a=>by
  unfold sY at h;cases d:f s q with
  |none=>rw[d]at h;cases h
  |some y =>
   obtain⟨c,b⟩:=y;rw[d]at h;dsimp only at h;cases g:sY f c P with
   |none=>rw[g]at h;cases h
   |some i =>
    rcases cN.1 a with rfl|a
    .exact e _ _ _ _ d
    .exact agO e g p a
def aGP {l:List UInt8}(h:(X8 l).2=true):l.length<=90:=by
 unfold X8 at h;split at h
 .rename_i a;rw[<-a.2];exact aof a.1
 .cases h
def aET {l:List UInt8}(h:(kU l).2=true):l.length<=91*(kU l).1.length:=by
 unfold kU at h ⊢;split at h
 .rename_i a;rw[ag a,a];exact bf _
 .rename_i a;rw[af a];cases c:sY txF () (parts 44 l) with
  |none=>rw[c]at h;cases h
  |some r =>
   have g:=Qk c;have i:=agN 44 l;have:=azM (f:=fun p:List UInt8=>p.length+1) (b:=91) (l:=parts 44 l) (agO (f:=txF) (Q:=fun p=>p.length+1<=91) (fun s p j b d=>by
    unfold txF at d;split at d
    .rename_i e;have:=aGP e;omega
    .cases d) c)
   dsimp only;omega
def aGQ {l:List UInt8}(h:(ff l).2=true):l.length<=6:=by
 unfold ff at h;split at h
 .cases h
 .rename_i a;omega
def aIk (l:List UInt8)(c:UInt8):l.length<=(l.takeWhile (· != c)).length+((l.dropWhile (· != c)).drop 1).length+1:=by have h:=oF List.length (List.takeWhile_append_dropWhile (p:=(· != c)) (l:=l));rw[aG]at h;rw[bc];omega
def aEU {g:Int}{p:List UInt8}{f:Int}{b:Ql}(h:sP g p=some (f,b)):p.length<=189:=by
 unfold sP at h;split at h
 .rename_i a;have c:=aGQ a.2.1;have d:=aET a.2.2.1;have e:=a.2.2.2.2.2;have i:=aIk p 124;unfold ew at c d e;dsimp only at c d e;omega
 .cases h
def aGR {l:List UInt8}(h:bd l=true):l.length<=5700:=by
 by_cases d:l=[]
 .rw[d];exact aO _
 unfold bd aZ at h;rw[af d]at h;have e:=agN 47 l;cases g:parts 47 l with
 |nil=>rw[g]at h;cases h
 |cons k a =>
  rw[g]at h e;dsimp only at h;split at h
  .cases h
  .rename_i i;have m:k=[]:=avS fun c=>i (.inl c)
   have o:¬30<a.length:=fun c=>i (.inr c)
   cases j:sY sP 0 a with
   |none=>rw[j]at h;cases h
   |some r =>
    have:=azM (f:=fun p:List UInt8=>p.length+1) (b:=190) (l:=a) (agO (f:=sP) (Q:=fun p=>p.length+1<=190) (fun s p q b n=>by have:=aEU n;omega) j);rw[sG,aln,m,bj]at e;omega
def N8:Nat->Int->List Int
 |0,v=>[v]|k+1,v=>if v<128 then [v] else (v%128+128)::N8 k (v/128)
def av (v:Int):List Int:=if 0<=v/\v<=2147483647 then N8 4 v else []
def aoQ:∀(k:Nat) (v:Int),1<=(N8 k v).length/\(N8 k v).length<=k+1
 |0,v=>⟨bf _,bf _⟩|k+1,v=>by
  unfold N8;have:=aoQ k (v/128);split
  .exact⟨bf _,by rw[dt];omega⟩
  .rw[aW];omega
def aoR:∀(k:Nat) (v:Int),0<=v->v<128 ^ (k+1)->∀x∈N8 k v,0<=x/\x<=255
 |0,v,b,c,x,a=>by rw[fA.1 a];have:(128:Int) ^ (0+1)=128:=rfl;omega
 |k+1,v,b,c,x,a=>by
  unfold N8 at a;split at a
  .rw[fA.1 a];omega
  .rcases cN.1 a with rfl|a
   .omega
   .refine aoR k (v/128) (by omega) ?_ x a;have e:(128:Int) ^ (k+1+1)=128 ^ (k+1)*128:=RX _ _;omega
def b5 (v:Int):(av v).length<=5:=by
 unfold av;split
 .exact(aoQ 4 v).2
 .exact aO _
def fk (v:Int):∀x∈av v,0<=x/\x<=255:=by
 unfold av;split
 .rename_i h;have b:(128:Int) ^ (4+1)=34359738368:=by decide
  exact aoR 4 v h.1 (by omega)
 .intro x a;cases a
def axn:∀(j k:Nat) (v n:Int) (rest:List Int),j+k=4->0<=v->v<128 ^ (j+1)->(k≠0->v≠0)->0<=n->n+v*128 ^ k<=2147483647->Qq (j+1) (N8 j v++rest) k n=some (n+v*128 ^ k,k+(N8 j v).length)
 |0,k,v,n,rest,f,g,i,a,l,b=>by have q:(128:Int) ^ (0+1)=128:=rfl;unfold N8 Qq;rw[List.singleton_append];dsimp only;rw[ag (by omega),af (fun h=>h.elim (fun h=>a h.1 h.2) (fun h=>by omega))];rfl
 |j+1,k,v,n,rest,f,g,i,a,l,b=>by
  unfold N8;have m:=Rw (k:=k) (by omega);have o:(128:Int) ^ (k+1)=128 ^ k*128:=RX _ _;have r:(128:Int) ^ (j+1+1)=128 ^ (j+1)*128:=RX _ _;split
  .rename_i c;unfold Qq;rw[List.singleton_append];dsimp only;rw[ag c,af (fun h=>h.elim (fun h=>a h.1 h.2) (fun h=>by omega))];rfl
  .rename_i c;unfold Qq;rw[Gi];dsimp only;have p:0<=v%128/\v%128<128:=⟨ahj _ (by omega),ala _ (by omega)⟩;rw[af (by omega),show(v%128+128)%128=v%128 by omega];have e:v*128 ^ k=v%128*128 ^ k+v/128*128 ^ (k+1):=by
    rw[o];have:v=v%128+128*(v/128):=(Int.emod_add_mul_ediv v 128).symm;generalize (128:Int) ^ k=P at *
    calc v*P=(v%128+128*(v/128))*P:=by rw[<-this]
     _=v%128*P+v/128*(P*128):=by rw[Int.add_mul,Int.mul_comm 128,Int.mul_assoc,Int.mul_comm 128]
   have s:=aoB (d:=v%128) (P:=128 ^ k) p.1 (by omega) m.1;have:=axn j (k+1) (v/128) (n+v%128*128 ^ k) rest (by omega) (by omega) (by omega) (fun _=>by omega) (by omega) (by rw[Int.add_assoc,<-e];exact b);rw[this,Int.add_assoc,<-e,aW]
   congr 2
   omega
def ad9 {pre rest:List Int}{v:Int}(a:0<=v)(b:v<=2147483647):q0 (pre++(av v++rest)) pre.length=some (v,pre.length+(av v).length):=by
 have c:(128:Int) ^ (4+1)=34359738368:=by decide
 unfold q0 av;rw[alk,ag ⟨a,b⟩,axn 4 0 v 0 rest rfl a (by omega) (fun h=>absurd rfl h) (Lj _) (by have:(128:Int) ^ 0=1:=rfl;omega)];have:(128:Int) ^ 0=1:=rfl;dsimp only;rw[this,Int.mul_one,Int.zero_add,we]
def fx (s:ByteArray):List Int:=av (s.size:Int)++bytesOf s
def WB (s:ByteArray):(bytesOf s).length=s.size:=by unfold bytesOf;rw[s5];rfl
def aq2 (s:ByteArray):∀x∈bytesOf s,0<=x/\x<=255:=by intro x a;obtain⟨b,_,rfl⟩:=Ep.1 a;have:=UInt8.toNat_lt b;omega
def aC6 (s:ByteArray):strOf (bytesOf s)=s:=by
 unfold strOf bytesOf;rw[List.map_map];have:(s.data.toList.map ((fun n:Int=>UInt8.ofNat n.toNat)∘fun b:UInt8=>(b.toNat:Int)))=s.data.toList:=by
  rw[List.map_congr_left (g:=id)]
  .exact List.map_id _
  .intro b _;show UInt8.ofNat ((b.toNat:Int).toNat)=b;rw[gJ];exact UInt8.ofNat_toNat
 rw[this]
def aEV {pre rest:List Int}{s:ByteArray}(h:s.size<=1048576):aa8 (pre++(fx s++rest)) pre.length=some (s,pre.length+(fx s).length):=by
 have a:=WB s;unfold aa8 fx;rw[gI,ad9 (by omega) (by omega)];dsimp only;rw[af ?_]
 .congr 1
  refine sR ?_ ?_
  .show strOf _=s;have e:((pre++(av (s.size:Int)++(bytesOf s++rest))).take (pre.length+(av (s.size:Int)).length+((s.size:Int)).toNat)).drop (pre.length+(av (s.size:Int)).length)=bytesOf s:=by rw[gJ,<-gI,<-gI,<-aG,<-a,<-aG,Z3,alk]
   rw[e,aC6]
  .show _=pre.length+(av _++bytesOf s).length;rw[aG,a,gJ,T1]
 .rw[aG,aG,aG,a];omega
def j0 {pre rest:List Int}{v:Int}(a:0<=v)(b:v<=2147483647):aQ (pre++(av v++rest)) (pre.length,true)=(v,(pre++av v).length,true):=by unfold aQ;rw[ad9 a b,aG];rfl
def RC {pre rest:List Int}{s:ByteArray}(h:s.size<=1048576):cQ (pre++(fx s++rest)) (pre.length,true)=(s,(pre++fx s).length,true):=by unfold cQ;rw[aEV h,aG];rfl
def iI (l:List Int):List Int:=l.flatMap av
def aiu (v:Int):Prop:=0<=v/\v<=2147483647
def aoS:∀(l pre rest xs:List Int) (f:Nat) (i n:Int),(∀x∈l,aiu x)->n=i+l.length->l.length<f->jL (pre++(iI l++rest)) n f i (pre.length,true) xs=(xs++l,(pre++iI l).length,true)
 |[],pre,rest,xs,f+1,i,n,_,a,_=>by unfold jL;rw[af (fun h=>by have:=h.1;simp at a;omega)];simp[iI]
 |x::l,pre,rest,xs,f+1,i,n,b,a,d=>by
  have c:=b x py;unfold jL;rw[aW]at a d;rw[ag ⟨by omega,rfl⟩];have e:pre++(iI (x::l)++rest)=pre++(av x++(iI l++rest)):=by simp[iI]
  rw[e,j0 c.1 c.2];dsimp only;have g:pre++(av x++(iI l++rest))=(pre++av x)++(iI l++rest):=by simp
  rw[g,aoS l (pre++av x) rest (xs++[x]) f (i+1) n (fun y j=>b y (jG _ j)) (by omega) (by omega)];simp[iI]
def A6 (l:List Int):List Int:=av (l.length:Int)++iI l
def aoT (k:Nat)(v:Int):1<=(N8 k v).length:=(aoQ k v).1
def agP:∀{l:List Int},(∀x∈l,aiu x)->l.length<=(iI l).length/\(iI l).length<=5*l.length
 |[],_=>⟨bf _,bf _⟩|x::l,h=>by
  have a:=h x py;have c:=agP fun y b=>h y (jG _ b)
  have d:1<=(av x).length/\(av x).length<=5:=by refine⟨?_,b5 x⟩;unfold av;rw[ag (show 0<=x/\x<=2147483647 from a)];exact aoT 4 x
  have e:iI (x::l)=av x++iI l:=rfl;rw[e,aG,aW];omega
def asp {pre rest l:List Int}(a:∀x∈l,aiu x)(h:l.length<=1048576):BC (pre++(A6 l++rest)) (pre.length,true)=(l,(pre++A6 l).length,true):=by
 unfold BC A6;rw[gI,j0 (by omega) (by omega)];dsimp only;have e:pre++(av (l.length:Int)++(iI l++rest))=(pre++av (l.length:Int))++(iI l++rest):=by simp
 have:=agP a;rw[e,aoS l (pre++av (l.length:Int)) rest [] _ 0 _ a (by omega) (by simp only[aG];omega)];simp
def jM (q:b1):List Int:=av q.1++(fx q.2.1++A6 q.2.2)
structure aGS (q:b1):Prop where
 v:aiu q.1
 n:q.2.1.size<=1048576
 w:q.2.2.length<=1048576
 m:∀x∈q.2.2,aiu x
def aoU {pre rest:List Int}{q:b1}(h:aGS q):vZ (pre++(jM q++rest)) (pre.length,true)=(q,(pre++jM q).length,true):=by
 unfold vZ jM;have a:pre++(av q.1++(fx q.2.1++A6 q.2.2)++rest)=pre++(av q.1++(fx q.2.1++(A6 q.2.2++rest))):=by simp
 have b:pre++(av q.1++(fx q.2.1++(A6 q.2.2++rest)))=(pre++av q.1)++(fx q.2.1++(A6 q.2.2++rest)):=by simp
 have c:pre++(av q.1++(fx q.2.1++(A6 q.2.2++rest)))=(pre++av q.1++fx q.2.1)++(A6 q.2.2++rest):=by simp
 have d:aQ (pre++(av q.1++(fx q.2.1++(A6 q.2.2++rest)))) (pre.length,true)=(q.1,(pre++av q.1).length,true):=j0 h.v.1 h.v.2;have e:cQ (pre++(av q.1++(fx q.2.1++(A6 q.2.2++rest)))) ((pre++av q.1).length,true)=(q.2.1,(pre++av q.1++fx q.2.1).length,true):=by rw[b];exact RC h.n
 have f:BC (pre++(av q.1++(fx q.2.1++(A6 q.2.2++rest)))) ((pre++av q.1++fx q.2.1).length,true)=(q.2.2,(pre++av q.1++fx q.2.1++A6 q.2.2).length,true):=by rw[c];exact asp h.m h.w
 rw[a,d];dsimp only;rw[e];dsimp only;rw[f];simp
def ava {a b:ByteArray}(h:(a.toList==b.toList)=true):a=b:=by have:=Qh a.data.toList b.data.toList;rw[<-Ou,<-Ou,h]at this;rw[Ou a,Ou b,k4 this.symm]
def Qt {a b:b1}(h:fS a b=true):a=b:=by simp only[fS,aA,bg,bR]at h;exact sR h.1 (sR (ava (bg.2 h.2.1)) h.2.2)
def aC7 {a b:ej}(h:agI a b=true):a=b:=by simp only[agI,aA,bg]at h;exact sR h.1 (sR h.2.1 (sR h.2.2.1 h.2.2.2.1))
def avb {a b:ca}(h:ou a b=true):a=b:=by simp only[ou,aA]at h;exact sR (ava h.1) (Qt h.2)
def abf {a b:bW}(h:sB a b=true):a=b:=by simp only[sB,aA]at h;obtain⟨c,d,e,f,g,i,j⟩:=h;exact sR (bg.1 c) (sR (bg.1 d) (sR (avb e) (sR (Qt f) (sR (Qt g) (sR (bg.1 i) (aC7 j))))))
def axo {a b:a1}(h:ey a b=true):a=b:=by simp only[ey,aA]at h;obtain⟨c,d,e,f⟩:=h;exact sR (bg.1 c) (sR (bg.1 d) (sR (Qt e) (ava f)))
def axp (a:b1):fS a a=true:=by simp[fS]
def aq3 (a:a1):ey a a=true:=by simp[ey,axp]
def I2 {n:Int}{s:List Int}(h:jI n s=true):∀x∈s,0<=x/\x<n:=by intro x b;obtain⟨k,a,rfl⟩:=ahe b;have:=fq.1 h k (fV.2 a);rw[Em,mm a]at this;simp only[aA,bR]at this;exact⟨this.1,this.2.1⟩
def aoV {n:Int}{s:List Int}(h:jI n s=true){k:Nat}(a:k+1<s.length):s[k]<s[k+1]:=by
 have:=fq.1 h (k+1) (fV.2 a);rw[show k+1-1=k from rfl,Em,Em,mm a,mm (by omega)]at this;simp only[aA,iS,bR]at this;rcases this.2.2 with h1|h1
 .omega
 .exact h1
def axq {n:Int}{s:List Int}(h:jI n s=true):∀(k:Nat) (a:k<s.length),(k:Int)<=s[k]
 |0,a=>(I2 h _ (b2 a)).1|k+1,a=>by have b:=axq h k (by omega);have c:=aoV h a;omega
def agQ {n:Int}{s:List Int}(h:jI n s=true):(s.length:Int)<=max n 0:=by
 rcases aeK s.length with a|a
 .omega
 .have b:=axq h (s.length-1) (by omega);have c:=(I2 h s[s.length-1] (b2 _)).2;omega
def j1 {b:ByteArray}(h:bd b.data.toList=true):b.size<=5700:=aGR h
def v8 {c:Int×Int}{q:b1}(h:eN c q=true):bw c=true/\bd q.2.1.data.toList=true/\aD q.2.1.data.toList=q.1/\(q.2.1.data.toList=[]->q.2.2=[])/\(q.2.1.data.toList≠[]->jI c.1 q.2.2=true/\(q.2.2.length:Int)>=A5 c):=by
 unfold eN X9 at h;simp only[aA,bR]at h;obtain⟨d,e,f,a⟩:=h;refine⟨d,e,f,fun b=>?_,fun b=>?_⟩
 .rw[ag b]at a;exact k4 a
 .rw[af b]at a;simp only[aA,bR]at a;exact a
def ZT {v:Int}(a:0<=v)(b:v<=1000000):aiu v:=⟨a,by omega⟩
def sF {c:Int×Int}{q:b1}(h:eN c q=true):aGS q/\q.2.2.length<=7/\q.2.1.size<=5700:=by
 obtain⟨f,g,k,i,j⟩:=v8 h;have l:=b4 f;have d:=j1 g;have m:=oq q.2.1.data.toList;by_cases e:q.2.1.data.toList=[]
 .have a:=i e;refine⟨⟨ZT (by omega) (by omega),by omega,by rw[a];exact aO _,fun x b=>by rw[a]at b;cases b⟩,by rw[a];exact aO _,d⟩
 .obtain⟨a,_⟩:=j e;have n:=agQ a;refine⟨⟨ZT (by omega) (by omega),by omega,by omega,fun x b=>?_⟩,by omega,d⟩;have:=I2 a x b;exact ZT (by omega) (by omega)
def q3 (b:ByteArray):dd b=true↔b.data.toList=[]:=by unfold dd;have:=Qh b.data.toList [];rw[<-Ou,show tx []=ak from rfl]at this;rw[this,bR]
def aea {c:Int×Int}{p:b1}(h:hX c p=true):bw c=true/\1<=p.1/\p.1<=60/\jI c.1 p.2.2=true/\p.2.2≠[]/\bd p.2.1.data.toList=true/\(p.2.1.data.toList≠[]->aD p.2.1.data.toList=p.1):=by
 unfold hX at h;simp only[aA,iS,eF,bR,Yc,bg,bQ]at h;obtain⟨b,⟨d,f⟩,g,i,a⟩:=h;refine⟨b,d,f,g,fun e=>i (by rw[e];rfl),?_,fun j=>?_⟩
 .rcases a with a|a
  .rw[(q3 _).1 a];exact aou
  .exact a.1
 .rcases a with a|a
  .exact absurd ((q3 _).1 a) j
  .exact a.2
def Xt {c:Int×Int}{q:b1}(h:hX c q=true):aGS q/\q.2.2.length<=7/\q.2.1.size<=5700:=by obtain⟨b,g,i,a,_,d,_⟩:=aea h;have j:=b4 b;have e:=j1 d;have k:=agQ a;refine⟨⟨ZT (by omega) (by omega),by omega,by omega,fun x f=>?_⟩,by omega,e⟩;have:=I2 a x f;exact ZT (by omega) (by omega)
def CD (m:bW):List Int :=
 av m.1++(if m.1=1 then fx m.2.2.1.1++jM m.2.2.1.2 else if m.1=2 then jM m.2.2.2.1 else if m.1=3 then av m.2.1++(av m.2.2.2.2.2.1++jM m.2.2.2.2.1)
  else av m.2.2.2.2.2.2.1++(av m.2.2.2.2.2.2.2.1++(av m.2.2.2.2.2.2.2.2.1++av m.2.2.2.2.2.2.2.2.2)))
def aeb {v:Int}(h:aiu v)(rest:List Int):h9 (av v++rest)=(v,(av v).length,true):=by have:=j0 (pre:=[]) (rest:=rest) h.1 h.2;exact this
def aEW {c:Int×Int}{m:bW}(h:cV c m=true):ad3 (CD m)=(m,(CD m).length,true):=by
 unfold cV at h;simp only[aA]at h;obtain⟨D,E,d⟩:=h;have q:=abf E;obtain⟨aIl,view,⟨f,i⟩,part,b,cu,tx⟩:=m;dsimp only at d q ⊢;by_cases t:aIl=1
 .subst t;rw[ag (by rfl)]at d;simp only[fj,aA]at d;have k:=(sF d.1).1;have Q:=j1 d.2.1;have e:CD (1,view,(f,i),part,b,cu,tx)=av 1++(fx f++(jM i++[])):=by simp[CD]
  have l:av 1++(fx f++(jM i++[]))=(av 1++fx f)++(jM i++[]):=by simp
  have n:=aeb (v:=1) (ZT (by decide) (by decide)) (fx f++(jM i++[]));have o:cQ (av 1++(fx f++(jM i++[]))) ((av 1).length,true)=(f,(av 1++fx f).length,true):=RC (by omega);have p:vZ (av 1++(fx f++(jM i++[]))) ((av 1++fx f).length,true)=(i,(av 1++fx f++jM i).length,true):=by rw[l];exact aoU k
  rw[e];unfold ad3 aGG;rw[n];dsimp only;rw[ag (by rfl),o];dsimp only;rw[p];rw[<-q];simp[named]
 .by_cases u:aIl=2
  .subst u;rw[af (by decide),ag (by rfl)]at d;simp only[aA]at d;have k:=(Xt d.1).1;obtain⟨a,g,j⟩:=part;have e:CD (2,view,(f,i),(a,g,j),b,cu,tx)=av 2++(av a++(fx g++(A6 j++[]))):=by simp[CD,jM]
   have l:av 2++(av a++(fx g++(A6 j++[])))=(av 2++av a)++(fx g++(A6 j++[])):=by simp
   have r:av 2++(av a++(fx g++(A6 j++[])))=(av 2++av a++fx g)++(A6 j++[]):=by simp
   have n:=aeb (v:=2) (ZT (by decide) (by decide)) (av a++(fx g++(A6 j++[])));have o:aQ (av 2++(av a++(fx g++(A6 j++[])))) ((av 2).length,true)=(a,(av 2++av a).length,true):=j0 k.v.1 k.v.2;have p:cQ (av 2++(av a++(fx g++(A6 j++[])))) ((av 2++av a).length,true)=(g,(av 2++av a++fx g).length,true):=by rw[l];exact RC k.n
   have s:BC (av 2++(av a++(fx g++(A6 j++[])))) ((av 2++av a++fx g).length,true)=(j,(av 2++av a++fx g++A6 j).length,true):=by rw[r];exact asp k.m k.w
   rw[e];unfold ad3 aGH;rw[n];dsimp only;rw[af (by decide),ag (by rfl),o];dsimp only;rw[p];dsimp only;rw[s];rw[<-q];simp[named]
  .by_cases w:aIl=3
   .subst w;rw[af (by decide),af (by decide),ag (by rfl)]at d;simp only[aA,eF,bR]at d;obtain⟨⟨R,S⟩,k,⟨F,G⟩⟩:=d;have x:=b4 D;rw[Wt x.1 x.2.1]at G;have k:=(sF k).1;have y:aiu cu:=ZT F (by omega);have e:CD (3,view,(f,i),part,b,cu,tx)=av 3++(av view++(av cu++(jM b++[]))):=by simp[CD]
    have l:av 3++(av view++(av cu++(jM b++[])))=(av 3++av view)++(av cu++(jM b++[])):=by simp
    have r:av 3++(av view++(av cu++(jM b++[])))=(av 3++av view++av cu)++(jM b++[]):=by simp
    have n:=aeb (v:=3) (ZT (by decide) (by decide)) (av view++(av cu++(jM b++[])));have o:aQ (av 3++(av view++(av cu++(jM b++[])))) ((av 3).length,true)=(view,(av 3++av view).length,true):=j0 (by omega) (by omega);have p:aQ (av 3++(av view++(av cu++(jM b++[])))) ((av 3++av view).length,true)=(cu,(av 3++av view++av cu).length,true):=by rw[l];exact j0 y.1 y.2
    have s:vZ (av 3++(av view++(av cu++(jM b++[])))) ((av 3++av view++av cu).length,true)=(b,(av 3++av view++av cu++jM b).length,true):=by rw[r];exact aoU k
    rw[e];unfold ad3 aGI;rw[n];dsimp only;rw[af (by decide),af (by decide),ag (by rfl),o];dsimp only;rw[p];dsimp only;rw[s];rw[<-q];simp[named]
   .rw[af (by simpa using t),af (by simpa using u),af (by simpa using w)]at d;simp only[aA,bg]at d;obtain⟨H,I⟩:=d;subst H;obtain⟨t1,t2,t3,t4⟩:=tx;obtain⟨⟨z,K⟩,⟨A,L⟩,⟨B,M⟩,⟨C,N⟩⟩:=wQ I;dsimp only at z K A L B M C N;have e:CD (4,view,(f,i),part,b,cu,t1,t2,t3,t4)=av 4++(av t1++(av t2++(av t3++(av t4++[])))):=by simp[CD]
    have l:av 4++(av t1++(av t2++(av t3++(av t4++[]))))=(av 4++av t1)++(av t2++(av t3++(av t4++[]))):=by simp
    have r:av 4++(av t1++(av t2++(av t3++(av t4++[]))))=(av 4++av t1++av t2)++(av t3++(av t4++[])):=by simp
    have O:av 4++(av t1++(av t2++(av t3++(av t4++[]))))=(av 4++av t1++av t2++av t3)++(av t4++[]):=by simp
    have n:=aeb (v:=4) (ZT (by decide) (by decide)) (av t1++(av t2++(av t3++(av t4++[]))));have o:aQ (av 4++(av t1++(av t2++(av t3++(av t4++[]))))) ((av 4).length,true)=(t1,(av 4++av t1).length,true):=j0 z (by omega);have p:aQ (av 4++(av t1++(av t2++(av t3++(av t4++[]))))) ((av 4++av t1).length,true)=(t2,(av 4++av t1++av t2).length,true):=by rw[l];exact j0 A (by omega)
    have s:aQ (av 4++(av t1++(av t2++(av t3++(av t4++[]))))) ((av 4++av t1++av t2).length,true)=(t3,(av 4++av t1++av t2++av t3).length,true):=by rw[r];exact j0 B (by omega)
    have P:aQ (av 4++(av t1++(av t2++(av t3++(av t4++[]))))) ((av 4++av t1++av t2++av t3).length,true)=(t4,(av 4++av t1++av t2++av t3++av t4).length,true):=by rw[O];exact j0 C (by omega)
    rw[e];unfold ad3 aGJ;rw[n];dsimp only;rw[af (by decide),af (by decide),af (by decide),ag (by rfl),o];dsimp only;rw[p];dsimp only;rw[s];dsimp only;rw[P];rw[<-q];simp[named]
def agR {c:Int×Int}{m:bW}(h:cV c m=true):mv c (CD m)=(m,true):=by unfold mv fin;rw[aEW h];dsimp only;rw[ag ⟨rfl,rfl,h⟩]
def eO {a b:List Int}(c:∀x∈a,0<=x/\x<=255)(d:∀x∈b,0<=x/\x<=255):∀x∈a++b,0<=x/\x<=255:=fun x e=>(gK.1 e).elim (c x) (d x)
def abg (s:ByteArray):∀x∈fx s,0<=x/\x<=255:=eO (fk _) (aq2 s)
def axr (l:List Int):∀x∈iI l,0<=x/\x<=255:=fun x a=>by obtain⟨y,_,h⟩:=List.mem_flatMap.1 a;exact fk y x h
def RD (q:b1):∀x∈jM q,0<=x/\x<=255:=eO (fk _) (eO (abg _) (eO (fk _) (axr _)))
def WC (s:ByteArray):(fx s).length<=s.size+5:=by have:=b5 (s.size:Int);unfold fx;rw[aG,WB];omega
def WD {q:b1}(h:aGS q):(jM q).length<=q.2.1.size+5*q.2.2.length+15:=by have a:=b5 q.1;have b:=WC q.2.1;have c:=b5 (q.2.2.length:Int);have d:=(agP h.m).2;unfold jM A6;rw[aG,aG,aG];omega
def aoW {c:Int×Int}{m:bW}(h:cV c m=true):(CD m).length<=12000/\(∀x∈CD m,0<=x/\x<=255)/\1<=(CD m).length:=by
 unfold cV at h;simp only[aA]at h;obtain⟨l,_,a⟩:=h;have n:=b5 m.1;have pos:m.1=1\/m.1=2\/m.1=3\/m.1=4:=by
  by_cases e:m.1=1
  .exact .inl e
  .by_cases f:m.1=2
   .exact .inr (.inl f)
   .by_cases g:m.1=3
    .exact .inr (.inr (.inl g))
    .rw[af (by simpa using e),af (by simpa using f),af (by simpa using g)]at a;simp only[aA,bg]at a;exact .inr (.inr (.inr a.1))
 have one:1<=(av m.1).length:=by unfold av;rw[ag (by omega)];exact aoT 4 _
 unfold CD;refine⟨?_,eO (fk _) ?_,by rw[aG];omega⟩
 .rw[aG];rcases pos with k|k|k|k
  .rw[ag (by simpa using k)]at a;simp only[fj,aA]at a;have b:=sF a.1;have o:=j1 a.2.1;have i:=WC m.2.2.1.1;have d:=WD b.1;rw[ag k,aG];omega
  .rw[af (by simp[k]),ag (by simpa using k)]at a;simp only[aA]at a;have b:=Xt a.1;have d:=WD b.1;rw[af (by omega),ag k];omega
  .rw[af (by simp[k]),af (by simp[k]),ag (by simpa using k)]at a;simp only[aA]at a;have b:=sF a.2.1;have i:=b5 m.2.1;have j:=b5 m.2.2.2.2.2.1;have d:=WD b.1;rw[af (by omega),af (by omega),ag k,aG,aG];omega
  .have i:=b5 m.2.2.2.2.2.2.1;have d:=b5 m.2.2.2.2.2.2.2.1;have j:=b5 m.2.2.2.2.2.2.2.2.1;have p:=b5 m.2.2.2.2.2.2.2.2.2;rw[af (by omega),af (by omega),af (by omega),aG,aG,aG];omega
 .split
  .exact eO (abg _) (RD _)
  .split
   .exact RD _
   .split
    .exact eO (fk _) (eO (fk _) (RD _))
    .exact eO (fk _) (eO (fk _) (eO (fk _) (fk _)))
def du (s:a1):List Int:=av s.1++(av s.2.1++(jM s.2.2.1++fx s.2.2.2))
def cB {c:Int×Int}{s:a1}(h:bh c s=true):(0<=s.1/\s.1<=60)/\(0<=s.2.1/\s.2.1<=60)/\eN c s.2.2.1=true/\bd s.2.2.2.data.toList=true:=by simp only[bh,eF,aA,bR]at h;exact h
def aC8 {c:Int×Int}{s:a1}(h:bh c s=true):KX (du s)=(s,(du s).length,true):=by
 obtain⟨⟨b,g⟩,⟨f,i⟩,a,j⟩:=cB h;have a:=(sF a).1;have k:=j1 j;obtain⟨v,l,q,d⟩:=s;dsimp only at b g f i a k ⊢;have e:du (v,l,q,d)=av v++(av l++(jM q++(fx d++[]))):=by simp[du]
 have m:av v++(av l++(jM q++(fx d++[])))=(av v++av l)++(jM q++(fx d++[])):=by simp
 have n:av v++(av l++(jM q++(fx d++[])))=(av v++av l++jM q)++(fx d++[]):=by simp
 have o:=aeb (v:=v) ⟨b,by omega⟩ (av l++(jM q++(fx d++[])));have p:aQ (av v++(av l++(jM q++(fx d++[])))) ((av v).length,true)=(l,(av v++av l).length,true):=j0 f (by omega);have r:vZ (av v++(av l++(jM q++(fx d++[])))) ((av v++av l).length,true)=(q,(av v++av l++jM q).length,true):=by rw[m];exact aoU a
 have t:cQ (av v++(av l++(jM q++(fx d++[])))) ((av v++av l++jM q).length,true)=(d,(av v++av l++jM q++fx d).length,true):=by rw[n];exact RC (by omega)
 rw[e];unfold KX;rw[o];dsimp only;rw[p];dsimp only;rw[r];dsimp only;rw[t];simp
def azN {c:Int×Int}{s:a1}(h:bh c s=true):nu c (du s)=(s,true):=by unfold nu;rw[aC8 h];dsimp only;rw[ag ⟨rfl,rfl,h⟩]
def Qu {c:Int×Int}{s:a1}(h:bh c s=true):1<=(du s).length/\(du s).length<=12000:=by
 obtain⟨⟨d,e⟩,_,a,b⟩:=cB h;have a:=sF a;have f:=j1 b;have g:=b5 s.1;have i:=b5 s.2.1;have j:=WD a.1;have k:=WC s.2.2.2;have one:1<=(av s.1).length:=by unfold av;rw[ag (by omega)];exact aoT 4 _
 unfold du;rw[aG,aG,aG];omega
def axs (s:a1):∀x∈du s,0<=x/\x<=255:=eO (fk _) (eO (fk _) (eO (RD _) (abg _)))
def dv (s:a1):List Int:=av ((du s).length:Int)++(du s++[10])
def cc (l:List a1):List Int:=l.flatMap dv
def axt (s:a1):∀x∈dv s,0<=x/\x<=255:=eO (fk _) (eO (axs s) fun x a=>by rw[fA.1 a];omega)
def agS {c:Int×Int}{s:a1}(h:bh c s=true):1<=(dv s).length/\(dv s).length<=12010:=by have a:=Qu h;have b:=b5 ((du s).length:Int);unfold dv;rw[aG,aG,dt];omega
def aC9 {c:Int×Int}{s:a1}(h:bh c s=true)(pre rest:List Int):Hb c (pre++(dv s++rest)) pre.length=some (s,(pre++dv s).length):=by
 have g:=Qu h;have e:pre++(dv s++rest)=pre++(av ((du s).length:Int)++(du s++(10::rest))):=by simp[dv]
 have b:=ad9 (pre:=pre) (rest:=du s++(10::rest)) (v:=((du s).length:Int)) (by omega) (by omega);rw[e,Cz b];have a:pre++(av ((du s).length:Int)++(du s++(10::rest)))=(pre++av ((du s).length:Int))++(du s++(10::rest)):=by simp
 have d:Wz (pre++(av ((du s).length:Int)++(du s++(10::rest)))) (pre.length+(av ((du s).length:Int)).length) (pre.length+(av ((du s).length:Int)).length+((du s).length:Int).toNat)=du s:=by unfold Wz;rw[a,gJ,<-aG,<-gI,<-aG,Z3,alk]
 have f:(pre++(av ((du s).length:Int)++(du s++(10::rest)))).getD (pre.length+(av ((du s).length:Int)).length+((du s).length:Int).toNat) 0=10:=by rw[a,gJ,<-aG,<-gI,<-aG,Em,avR (bf _),Nat.sub_self];rfl
 rw[d,f,azN h,af ?_,af (by decide),ag rfl,gJ]
 .simp only[dv,aG,dt]
  congr 2
  omega
 .simp only[aG,aW];omega
def asq:∀(i k:Nat) (v:Int) (j q:Nat) (n:Int),k<(N8 i v).length->0<=v->Qq j ((N8 i v).take k) q n=none
 |i,0,v,j,q,n,_,_=>by rw[List.take_zero];cases j<;>rfl
 |0,k+1,v,j,q,n,a,_=>by unfold N8 at a;rw[dt]at a;omega
 |i+1,k+1,v,j,q,n,a,c=>by
  unfold N8 at a ⊢;split at a
  .rw[dt]at a;omega
  .rename_i b;rw[af b,List.take_succ_cons];cases j with
   |zero=>rfl
   |succ j =>
    unfold Qq;rw[aW]at a;have:=ahj v (show(128:Int)≠0 by decide);rw[af (by omega)];exact asq i k (v/128) j (q+1) _ (by omega) (by omega)
def azO {c:Int×Int}{s:a1}(h:bh c s=true)(pre:List Int){k:Nat}(f:k<(dv s).length):Hb c (pre++(dv s).take k) pre.length=none:=by
 have g:=Qu h;by_cases a:k<(av ((du s).length:Int)).length
 .refine CA ?_;unfold q0;rw[alk];have e:(dv s).take k=(av ((du s).length:Int)).take k:=by unfold dv;rw[aAz (by omega)]
  rw[e];have b:av ((du s).length:Int)=N8 4 ((du s).length:Int):=by unfold av;rw[ag (by omega)]
  rw[b]at a ⊢;rw[asq 4 k _ 5 0 0 a (by omega)]
 .have e:(dv s).take k=av ((du s).length:Int)++(du s++[10]).take (k-(av ((du s).length:Int)).length):=by unfold dv;rw[as0,abD (by omega)]
  have hlen:(dv s).length=(av ((du s).length:Int)).length+((du s).length+1):=by simp[dv]
  have d:=ad9 (pre:=pre) (rest:=(du s++[10]).take (k-(av ((du s).length:Int)).length)) (v:=((du s).length:Int)) (by omega) (by omega);rw[e,Cz d,ag ?_];rw[aG,aG,bC,aG,dt];omega
def aDa {c:Int×Int}(pre:List Int):Hb c pre pre.length=none:=by refine CA ?_;unfold q0;rw[Yf];rfl
def aIm (c:Int×Int)(t:List Int):Prop:=t=[]\/∃s k,bh c s=true/\k<(dv s).length/\t=(dv s).take k
def aiv {c:Int×Int}{t:List Int}(a:aIm c t):∀(l:List a1) (pre:List Int) (f:Nat) (s:a1),(∀x∈l,bh c x=true)->l.length<f ->
  Fi c (pre++(cc l++t)) f s pre.length=(l.getLastD s,(pre++cc l).length)
 |[],pre,f+1,s,_,_=>by
  have d:Hb c (pre++(cc []++t)) pre.length=none:=by
   rcases a with rfl|⟨x,k,g,h,rfl⟩
   .have:pre++(cc []++[])=pre:=by simp[cc]
    rw[this];exact aDa pre
   .exact azO g pre h
  rw[hY d];simp[cc]
 |x::l,pre,f+1,s,b,i=>by
  have j:=b x py;have e:pre++(cc (x::l)++t)=pre++(dv x++(cc l++t)):=by simp[cc]
  have m:pre++(dv x++(cc l++t))=(pre++dv x)++(cc l++t):=by simp
  have n:(pre++cc (x::l)).length=(pre++dv x++cc l).length:=by simp[cc]
  rw[aW]at i;rw[e,CB (aC9 j pre (cc l++t)),m,n,aiv a l (pre++dv x) f x (fun y o=>b y (jG _ o)) (by omega)];cases l<;>rfl
def abh {c:Int×Int}:∀{l:List a1},(∀x∈l,bh c x=true)->l.length<=(cc l).length
 |[],_=>bf _|x::l,h=>by
  have b:=agS (h x py);have d:=abh fun y a=>h y (jG _ a)
  have e:cc (x::l)=dv x++cc l:=rfl;rw[e,aG,aW];omega
def KZ {c:Int×Int}{t:List Int}(b:aIm c t){l:List a1}(a:∀x∈l,bh c x=true):dL c (cc l++t)=(l.getLastD jD,(cc l).length):=by have:=aiv b l [] ((cc l++t).length+1) jD a (by have:=abh a;rw[aG];omega);rw[Bi,Bi]at this;exact this
def abi {c:Int×Int}:∀{l:List a1} (k:Nat),(∀x∈l,bh c x=true)->∃i t,i<=l.length/\aIm c t/\(cc l).take k=cc (l.take i)++t/\(cc (l.take i)).length<=k/\∀a,a<=l.length->(cc (l.take a)).length<=k->a<=i\/cc (l.take a)=cc (l.take i)
 |[],k,_=>⟨0,[],bf _,.inl rfl,by simp[cc],aO _,fun a d _=>.inl d⟩
 |x::l,k,h=>by
  have g:=h x py;have hlen:=agS g;have e:cc (x::l)=dv x++cc l:=rfl;by_cases m:k<(dv x).length
  .refine⟨0,(dv x).take k,aO _,.inr ⟨x,k,g,m,rfl⟩,?_,aO _,fun a d f=>?_⟩
   .rw[e,aAz (by omega)];rfl
   .cases a with
    |zero=>exact .inl (bf _)
    |succ a =>
     rw[List.take_succ_cons]at f;have b:cc (x::l.take a)=dv x++cc (l.take a):=rfl;rw[b,aG]at f;omega
  .obtain⟨i,t,r,n,o,s,p⟩:=abi (k-(dv x).length) fun y q=>h y (jG x q)
   have b:∀a,cc ((x::l).take (a+1))=dv x++cc (l.take a):=fun a=>rfl
   refine⟨i+1,t,by rw[aW];omega,n,?_,?_,fun a d f=>?_⟩
   .rw[e,b,as0,abD (by omega),o,gI]
   .rw[b,aG];omega
   .cases a with
    |zero=>exact .inl (aO _)
    |succ a =>
     rw[b,aG]at f;rw[aW]at d;rcases p a (by omega) (by omega) with j|j
     .exact .inl (by omega)
     .exact .inr (by rw[b,b,j])
def azP {U V γ:Type}(X:Nat->Int->List V->Option γ)(a:List U)(f:U->V)(R:Option γ)
  (hs:∀n k xs (h:k<a.length),xs.length=k->X (n+1) (k:Int) xs=X n ((k+1:Nat):Int) (xs++[f a[k]])) (c:∀n,X (n+1) (a.length:Int) (a.map f)=R) (n:Nat) (d:a.length<n):X n 0 []=R:=by
 refine cz X a.length (fun k xs=>xs=(a.take k).map f) R (fun n k xs b h=>.inr ⟨_,hs n k xs b (by rw[h,s5,bC];omega),?_⟩) (fun n xs h=>?_) n 0 [] (aO _) rfl (by omega)
 .rw[iw b,ahg,h];rfl
 .rw[h,k5];exact c n
def aiw {U γ:Type}(X:Nat->Int->List U->Option γ)(a:List U)(R:Option γ)
  (hs:∀n k xs (h:k<a.length),xs.length=k->X (n+1) (k:Int) xs=X n ((k+1:Nat):Int) (xs++[a[k]])) (b:∀n,X (n+1) (a.length:Int) a=R) (n:Nat) (c:a.length<n):X n 0 []=R :=
 azP X a id R hs (fun n=>by rw[List.map_id];exact b n) n c
def ak1 {U γ:Type}(X:Nat->Int->List U->Option γ)(a:List U)(p:U->Bool)(R:Option γ)
  (hs:∀n k xs (h:k<a.length),xs.length<=k->X (n+1) (k:Int) xs=X n ((k+1:Nat):Int) (if p a[k]=true then xs++[a[k]] else xs)) (c:∀n,X (n+1) (a.length:Int) (a.filter p)=R) (n:Nat) (e:a.length<n):X n 0 []=R:=by
 refine cz X a.length (fun k xs=>xs=(a.take k).filter p) R (fun n k xs b h=>.inr ⟨_,hs n k xs b (by rw[h];exact bZ (alb _ _) (by rw[bC];omega)),?_⟩) (fun n xs h=>?_) n 0 [] (aO _) rfl (by omega)
 .rw[iw b,List.filter_append,h];cases d:p a[k]<;>simp[d]
 .rw[h,k5];exact c n
def wa {q:b1}(h:q.2.2.length<=1048576):iC F0 q=some (q,()):=by rw[amz,ax (a:=0) (by omega) (by omega) (by omega),ad];rfl
def mw {q:b1}(h:q.2.2.length<=1048576):gf F0 q=some (q,()):=by rw[aji,ax (a:=0) (by omega) (by omega) (by omega),ad];rfl
def wU {q:b1}(h:q.2.2.length<=1048576):gD F0 q=some (q,()):=aor (by omega)
def A7 {q:b1}(h:q.2.2.length<=1048576):eX F0 q=some (q,()):=by rw[afY,ns (by omega),ai]
def Ns {s:a1}(h:jJ s):mH F0 s=some (s,()):=by rw[ajh,wa h.1.2,ai]
def ID {s:a1}(h:jJ s):kO F0 s=some (s,()):=by rw[afX,wU h.1.2,ai]
def aec {l:List b1}(h:l.length<=1048576)(b:∀q∈l,tK q):gh F0 l=some (l,()):=by
 rw[afe];refine aiw (fun n k xs=>uh F0 (yr F0) n (oM l k xs)) l _ (fun n k xs a c=>?_) (fun n=>?_) _ (by rw[bH];omega)
 .rw[EB,aP a,ae,ao a,ad,a8 a,mw (b _ (b2 a)).2,ai,ax (by omega) (by omega) (by simp only[aW,bj];omega),ad,al (by omega)]
 .rw[EB,aE,aa,XL]
def ZU {l:List b1}(h:l.length<=1048576)(b:∀q∈l,tK q):er F0 l=some (l,()):=by
 rw[ac6];refine aiw (fun n k xs=>rZ F0 (vM F0) n (mW l (l.length:Int) k xs)) l _ (fun n k xs a c=>?_) (fun n=>?_) _ (by rw[bH];omega)
 .rw[Br,aP a,ae,ao a,ad,a8 a,A7 (b _ (b2 a)).2,ai,ax (by omega) (by omega) (by simp only[aW,bj];omega),ad,al (by omega)]
 .rw[Br,aE,aa,VH]
def Nt {d:List Int×Int}(h:d.1.length<=1048576):ij F0 d=some (d,()):=by rw[ajj,ax (a:=0) (by omega) (by omega) (by omega),ad];rfl
def IE {d:List Int×Int}(h:d.1.length<=1048576):kP F0 d=some (d,()):=by rw[afZ,ax (a:=0) (by omega) (by omega) (by omega),ad];rfl
def WE {l:List ej}(h:l.length<=1048576):ir F0 l=some (l,()):=by rw[aj7,ax (a:=0) (by omega) (by omega) (by omega),ad];rfl
def azQ {b:ca}(h:b.2.2.2.length<=1048576):LK F0 b=some (b,()):=by rw[amA,wa h,ai]
def aq4 {b:ca}(h:b.2.2.2.length<=1048576):Ar F0 b=some (b,()):=by rw[ac7,wU h,ai]
def aix {m:bW}(h:fT m):yu F0 m=some (m,()):=by rw[ajk,azQ h.2.1.2,ai,mw h.2.2.1.2,ai,wa h.2.2.2.2,ai]
def aiy {m:bW}(h:fT m):As F0 m=some (m,()):=by rw[aj8,aq4 h.2.1.2,ai,A7 h.2.2.1.2,ai,wU h.2.2.2.2,ai]
def aed {l:List gQ}(h:l.length<=1048576)(b:∀q∈l,fT q.2):tf F0 l=some (l,()):=by
 rw[aff];refine aiw (fun n k xs=>um F0 (yv F0) n (oN l k xs)) l _ (fun n k xs a c=>?_) (fun n=>?_) _ (by rw[bH];omega)
 .rw[EC,aP a,ae,ao a,ad,ad,a8 a,aix (b _ (b2 a)),ai,ax (by omega) (by omega) (by simp only[aW,bj];omega),ad,al (by omega)]
 .rw[EC,aE,aa,XM]
def aq5 {l:List gQ}(h:l.length<=1048576)(b:∀q∈l,fT q.2):Au F0 l=some (l,()):=by
 rw[ac9];refine aiw (fun n k xs=>r5 F0 (vO F0) n (mX l (l.length:Int) k xs)) l _ (fun n k xs a c=>?_) (fun n=>?_) _ (by rw[bH];omega)
 .rw[Bs,aP a,ae,ao a,ad,a8 a,aiy (b _ (b2 a)),ai,ax (by omega) (by omega) (by simp only[aW,bj];omega),ad,al (by omega)]
 .rw[Bs,aE,aa,VJ]
structure aDb (r:ar):Prop where
 l:aoA r
 d:de r.2.2.2.2.2.2.1.1
def dM {r:ar}(h:aDb r):a7 F0 r=some (r,()):=by rw[ajl,Ns h.l.s,ai,ax (a:=0) (by omega) (by omega) (by have:=h.l.p;omega),ad,aec h.l.t h.l.tq,ai,Nt h.d.1,ai,aed h.l.h h.l.hm,ai];rfl
def dN {r:ar}(h:aDb r):az F0 r=some (r,()):=by rw[aj9,ID h.l.s,ai,WE h.l.p,ai,ZU h.l.t h.l.tq,ai,IE h.d.1,ai,aq5 h.l.h h.l.hm,ai]
def aee {x:kV}(h:x.2.length<=1048576):tr F0 x=some (x,()):=by rw[af0,ax (a:=0) (by omega) (by omega) (by omega),ad];rfl
structure N9 (w:ah):Prop where
 l:v7 w
 b:∀r∈w.2.2.1,de r.2.2.2.2.2.2.1.1
def N9.rep {w:ah}(h:N9 w){r:ar}(a:r∈w.2.2.1):aDb r:=⟨h.l.rl r a,h.b r a⟩
def ov {w:ah}(h:N9 w):aS F0 w=some (w,()):=by
 have d:=h.l.l;have e:=h.l.r;have f:=h.l.n;have g:=h.l.s;rw[adb,ns (by omega),ai,ax (a:=0) (by omega) (by omega) (by omega),ad];refine aiw (fun n k xs=>r7 F0 (vQ F0) n (mZ w w.2.2.1 (w.2.2.1.length:Int) k 0 0 w.1.1 w.1.2 [] [] [] [] w.2.1 xs [] ([]++w.2.2.2.2))) w.2.2.1 _ (fun n k xs b c=>?_) (fun n=>?_) _ (by rw[bH];omega)
 .rw[Bu,aP b,ae,ao b,ad,a8 b,dN (h.rep (b2 b)),ai,ax (by omega) (by omega) (by simp only[aW,bj];omega),ad,al (by omega)]
 .rw[Bu,aE,aa,VM];refine aiw (fun n k xs=>r6 F0 (vP F0) n (mY w.2.2.2.1 (w.2.2.2.1.length:Int) k 0 0 w.1.1 w.1.2 [] [] [] [] w.2.1 w.2.2.1 xs ([]++w.2.2.2.2))) w.2.2.2.1 _ (fun n k xs b c=>?_) (fun n=>?_) _ (by rw[bH];omega)
  .rw[Bt,aP b,ae,ao b,ad,a8 b,aee (h.l.nb _ (b2 b)).1,ai,ax (by omega) (by omega) (by simp only[aW,bj];omega),ad,al (by omega)]
  .rw[Bt,aE,aa,VL];rfl
def aiz {w:ah}(h:N9 w):yz F0 w=some (w,()):=by
 have d:=h.l.l;have e:=h.l.r;have f:=h.l.n;have g:=h.l.s;rw[ajm,ax (a:=0) (by omega) (by omega) (by omega),ad,ax (a:=0) (by omega) (by omega) (by omega),ad];refine aiw (fun n k xs=>yy F0 (BX F0) n (ru w k 0 0 w.1.1 w.1.2 [] [] [] [] ([]++w.2.1) xs [] ([]++w.2.2.2.2))) w.2.2.1 _ (fun n k xs b c=>?_) (fun n=>?_) _ (by rw[bH];omega)
 .rw[Gt,aP b,ae,ao b,ad,a8 b,dM (h.rep (b2 b)),ai,ax (by omega) (by omega) (by simp only[aW,bj];omega),ad,al (by omega)]
 .rw[Gt,aE,aa,aat];refine aiw (fun n k xs=>yx F0 (BW F0) n (rr w k 0 0 w.1.1 w.1.2 [] [] [] [] ([]++w.2.1) w.2.2.1 xs ([]++w.2.2.2.2))) w.2.2.2.1 _ (fun n k xs b c=>?_) (fun n=>?_) _ (by rw[bH];omega)
  .have i:=(h.l.nb _ (b2 b)).1;rw[Gs,aP b,ae,ao b,ad,ad,a8 b,ax (a:=0) (by omega) (by omega) (by omega),ad,ax (by omega) (by omega) (by simp only[aW,bj];omega),ad,al (by omega)];rfl
  .rw[Gs,aE,aa,aas];rfl
def Xu {n:Int}(a:0<=n)(b:n<=255):IntKind.wrap .u8 n=n:=by simp[IntKind.wrap,IntKind.signed,IntKind.bits];omega
def axu:∀(k:Nat) (v:Int) (xs:List Int) (n:Nat),0<=v->v<128 ^ (k+1)->xs.length+k<=1000->k<n->k<=4->Dg F0 (FM F0) n (uG v xs)=some (xs++N8 k v,())
 |0,v,xs,n,a,c,d,e,f=>by obtain⟨n,rfl⟩:∃m,n=m+1:=⟨n-1,by omega⟩;have g:(128:Int) ^ (0+1)=128:=rfl;rw[JT,aL (show ¬v>127 by omega),aa,LW,ax (by omega) (by omega) (by first|omega|(simp only[aG,aW,bj];omega)|(rw[bc,bC];omega)),ad,Xu a (by omega)];rfl
 |k+1,v,xs,n,a,c,d,e,f=>by
  obtain⟨n,rfl⟩:∃m,n=m+1:=⟨n-1,by omega⟩;have h:=Rw (k:=k) (by omega);have g:(128:Int) ^ (k+1)=128 ^ k*128:=RX _ _;have i:(128:Int) ^ (k+1+1)=128 ^ (k+1)*128:=RX _ _;rw[JT];unfold N8;by_cases b:v<128
  .rw[aL (show ¬v>127 by omega),aa,LW,ax (by omega) (by omega) (by first|omega|(simp only[aG,aW,bj];omega)|(rw[bc,bC];omega)),ad,Xu a (by omega),ag b]
  .rw[aI (show v>127 by omega),ae,ax (by omega) (by omega) (by first|omega|(simp only[aG,aW,bj];omega)|(rw[bc,bC];omega)),ad,ak9 a,aF (n:=v/128) (by omega) (by omega),ak8 a,
    aF (n:=v%128+128) (by omega) (by omega),Xu (by omega) (by omega),axu k (v/128) (xs++[v%128+128]) n (by omega) (by omega) (by rw[aG,dt];omega) (by omega) (by omega),af b,gI]
   rfl
def axv:∀(k:Nat) (v:Int) (xs:List Int) (n:Nat),0<=v->v<128 ^ (k+1)->xs.length+k<=1000->k<n->k<=4->tn F0 (u0 F0) n (nP v xs)=some (xs++N8 k v,())
 |0,v,xs,n,a,c,d,e,f=>by obtain⟨n,rfl⟩:∃m,n=m+1:=⟨n-1,by omega⟩;have g:(128:Int) ^ (0+1)=128:=rfl;rw[mQ,aL (show ¬v>=128 by omega),aa,o6,ax (by omega) (by omega) (by first|omega|(simp only[aG,aW,bj];omega)|(rw[bc,bC];omega)),ad,Xu a (by omega)];rfl
 |k+1,v,xs,n,a,c,d,e,f=>by
  obtain⟨n,rfl⟩:∃m,n=m+1:=⟨n-1,by omega⟩;have h:=Rw (k:=k) (by omega);have g:(128:Int) ^ (k+1)=128 ^ k*128:=RX _ _;have i:(128:Int) ^ (k+1+1)=128 ^ (k+1)*128:=RX _ _;rw[mQ];unfold N8;by_cases b:v<128
  .rw[aL (show ¬v>=128 by omega),aa,o6,ax (by omega) (by omega) (by first|omega|(simp only[aG,aW,bj];omega)|(rw[bc,bC];omega)),ad,Xu a (by omega),ag b]
  .rw[aI (show v>=128 by omega),ae,ax (by omega) (by omega) (by first|omega|(simp only[aG,aW,bj];omega)|(rw[bc,bC];omega)),ad,ak9 a,aF (n:=v/128) (by omega) (by omega),ak8 a,
    aF (n:=v%128+128) (by omega) (by omega),Xu (by omega) (by omega),axv k (v/128) (xs++[v%128+128]) n (by omega) (by omega) (by rw[aG,dt];omega) (by omega) (by omega),af b,gI]
   rfl
def jx (v:Int):eb F0 v=some (av v,()):=by
 have b:(128:Int) ^ (4+1)=34359738368:=by decide
 rw[amM,cO,ai,adY];unfold av;by_cases a:0<=v/\v<=2147483647
 .rw[aI a,aH,aa,ag a,axu 4 v [] F0.n a.1 (by omega) (by simp) (by rw[bH];omega) (by omega)];rfl
 .rw[aL a,ea,ae,af a]
def mx (v:Int):eL F0 v=some (av v,()):=by
 have b:(128:Int) ^ (4+1)=34359738368:=by decide
 rw[VE,bP,ai,adY];unfold av;by_cases a:0<=v/\v<=2147483647
 .rw[aI a,aH,aa,ag a,axv 4 v [] F0.n a.1 (by omega) (by simp) (by rw[bH];omega) (by omega)];rfl
 .rw[aL a,ea,ae,af a]
def Nu {s:ByteArray}(h:s.size<=1048576):mJ F0 s=some (fx s,()):=by have:=b5 (s.size:Int);have a:=WB s;rw[ajz,jx,ai,aI (show(s.size:Int)<=F0.mem by rw[aEj];omega),ad,ax (by omega) (by omega) (by first|omega|(simp only[aG,aW,bj];omega)|(rw[bc,bC];omega)),ad];rfl
def IF {s:ByteArray}(h:s.size<=1048576):nd F0 s=some (fx s,()):=by have:=b5 (s.size:Int);rw[akf,mx,ai,aH8 (by first|omega|(simp only[aG,aW,bj];omega)|(rw[bc,bC];omega)),ad];rfl
def A8 (l:List Int):(iI l).length<=5*l.length:=by
 induction l with
 |nil=>exact bf _
 |cons x l a =>
  have:=b5 x;show(av x++iI l).length<=_;rw[aG,aW];omega
def azR (l:List Int)(x:Int):iI (l++[x])=iI l++av x:=by simp[iI]
def avc {γ:Type}(X:Nat->Int->List Int->Option γ)(l pre:List Int)(R:Option γ)(c:l.length<=1048576)(d:pre.length<=1048576)
  (hs:∀n k xs (h:k<l.length),xs.length<=10485760->X (n+1) (k:Int) xs=X n ((k+1:Nat):Int) (xs++av l[k])) (b:∀n,X (n+1) (l.length:Int) (pre++iI l)=R) (n:Nat) (e:l.length<n):X n 0 pre=R:=by
 refine cz X l.length (fun k xs=>xs=pre++iI (l.take k)) R (fun n k xs a h=>.inr ⟨_,hs n k xs a (by have:=A8 (l.take k);rw[bC]at this;rw[h,aG];omega),?_⟩) (fun n xs h=>?_) n 0 pre (aO _) (by simp[iI]) (by omega)
 .rw[iw a,azR,h,gI]
 .rw[h,k5];exact b n
def WG {l:List Int}(h:l.length<=1048576):rM F0 l=some (iI l,()):=by
 rw[ajI];refine avc (fun n k xs=>y0 F0 (B8 F0) n (rL l k xs)) l [] _ h (by simp) (fun n k xs a b=>?_) (fun n=>?_) _ (by rw[bH];omega)
 .have:=b5 l[k];rw[GG,aP a,ae,ao a,ad,a8 a,jx,ai,ax (by omega) (by omega) (by first|omega|(simp only[aG,aW,bj];omega)|(rw[bc,bC];omega)),ad,al (by omega)]
 .rw[GG,aE,aa,aaD];rfl
def Fj {l:List Int}(h:l.length<=1048576):kv F0 l=some (iI l,()):=by
 rw[akg];refine avc (fun n k xs=>AA F0 (Co F0) n (sa l (l.length:Int) k xs)) l [] _ h (by simp) (fun n k xs a b=>?_) (fun n=>?_) _ (by rw[bH];omega)
 .have:=b5 l[k];rw[GY,aP a,ae,ao a,ad,a8 a,mx,ai,ax (by omega) (by omega) (by first|omega|(simp only[aG,aW,bj];omega)|(rw[bc,bC];omega)),ad,al (by omega)]
 .rw[GY,aE,aa,aaQ];rfl
def qcB (c:Int×Int)(q:b1):List Int:=if eN c q=true then jM q else []
def Nv {s:ByteArray}(h:s.size<=1048576):(fx s).length<=1048581:=by have:=WC s;omega
def WH {q:b1}(h:tK q)(c:Int×Int):rD F0 c q=some (qcB c q,()):=by
 have d:=b5 q.1;have e:=Nv h.1;have f:=b5 (q.2.2.length:Int);have g:=h.2;rw[ajA,Ru h,ai];unfold qcB;cases b:eN c q with
 |false=>rw[ea,ae,af (by decide)]
 |true =>
  have i:=sF b;rw[aH,aa,ag rfl,jx,ai,Nu h.1,ai,ax (by omega) (by omega) (by first|omega|(simp only[aG,aW,bj];omega)|(rw[bc,bC];omega)),ad,jx,ai,ax (by omega) (by omega) (by first|omega|(simp only[aG,aW,bj];omega)|(rw[bc,bC];omega)),ad];refine avc (fun n k xs=>yL F0 (B2 F0) n (rC k q.1 q.2.1 q.2.2 xs)) q.2.2 _ _ h.2 (by have:=WC q.2.1;simp only[aG];omega) (fun n k xs a j=>?_) (fun n=>?_) _ (by rw[bH];omega)
  .have:=b5 q.2.2[k];rw[Gz,aP a,ae,ao a,ad,a8 a,jx,ai,ax (by omega) (by omega) (by first|omega|(simp only[aG,aW,bj];omega)|(rw[bc,bC];omega)),ad,al (by omega)]
  .rw[Gz,aE,aa,aay];simp[jM,A6]
def RE {q:b1}(h:tK q)(c:Int×Int):se F0 c q=some (qcB c q,()):=by
 have a:=b5 q.1;have b:=Nv h.1;have d:=b5 (q.2.2.length:Int);have e:=A8 q.2.2;have f:=h.2;rw[akh,Qp h,ai];unfold qcB;cases g:eN c q with
 |false=>rw[ea,ae,af (by decide)]
 |true =>
  rw[aH,aa,ag rfl,mx,ai,IF h.1,ai,ax (by omega) (by omega) (by first|omega|(simp only[aG,aW,bj];omega)|(rw[bc,bC];omega)),ad,mx,ai,ax (by omega) (by omega) (by first|omega|(simp only[aG,aW,bj];omega)|(rw[bc,bC];omega)),ad,Fj h.2,ai,ax (by omega) (by omega) (by first|omega|(simp only[aG,aW,bj];omega)|(rw[bc,bC];omega)),ad];simp[jM,A6]
def agT {c:Int×Int}{q:b1}:(qcB c q).length<=6000:=by
 unfold qcB;split
 .rename_i h;have:=sF h;have:=WD this.1;omega
 .exact aO _
def agU (c:Int×Int)(s:a1):List Int:=if bh c s=true then du s else []
def aq6 {s:a1}(h:jJ s)(c:Int×Int):yM F0 c s=some (agU c s,()):=by
 have d:=b5 s.1;have e:=b5 s.2.1;have f:=agT (c:=c) (q:=s.2.2.1);have g:=Nv h.2;rw[acB,Cx h,ai];unfold agU;cases a:bh c s with
 |false=>rw[ea,ae,af (by decide)]
 |true =>
  have b:=(cB a).2.2.1;rw[aH,aa,ag rfl,jx,ai,jx,ai,ax (by omega) (by omega) (by first|omega|(simp only[aG,aW,bj];omega)|(rw[bc,bC];omega)),ad,WH h.1,ai,ax (by omega) (by omega) (by first|omega|(simp only[aG,aW,bj];omega)|(rw[bc,bC];omega)),ad,Nu h.2,ai,ax (by omega) (by omega) (by first|omega|(simp only[aG,aW,bj];omega)|(rw[bc,bC];omega)),ad];simp[du,qcB,b]
def aoX {s:a1}(h:jJ s)(c:Int×Int):AF F0 c s=some (agU c s,()):=by
 have a:=A8 [s.1,s.2.1];have e:=agT (c:=c) (q:=s.2.2.1);have f:=Nv h.2;simp only[aW,bj]at a;rw[adg,Fg h,ai];unfold agU;cases b:bh c s with
 |false=>rw[ea,ae,af (by decide)]
 |true =>
  have d:=(cB b).2.2.1;rw[aH,aa,ag rfl,Fj (by simp),ai,RE h.1,ai,ax (by omega) (by omega) (by first|omega|(simp only[aG,aW,bj];omega)|(rw[bc,bC];omega)),ad,IF h.2,ai,ax (by omega) (by omega) (by first|omega|(simp only[aG,aW,bj];omega)|(rw[bc,bC];omega)),ad];simp[du,qcB,d,iI]
def WJ (c:Int×Int)(s:a1):List Int:=if bh c s=true then dv s else []
def aq7 {s:a1}(h:jJ s)(c:Int×Int):yN F0 c s=some (WJ c s,()):=by
 rw[acD,aq6 h,ai];unfold WJ agU;cases a:bh c s with
 |false=>rfl
 |true =>
  have b:=Qu a;have d:=b5 ((du s).length:Int);simp only[fX];rw[show(((du s).length:Int)==0)=false from bQ.2 (by omega),aa,jx,ai,ax (by omega) (by omega) (by first|omega|(simp only[aG,aW,bj];omega)|(rw[bc,bC];omega)),ad,ax (by omega) (by omega) (by first|omega|(simp only[aG,aW,bj];omega)|(rw[bc,bC];omega)),ad];simp[dv]
def aoY {s:a1}(h:jJ s)(c:Int×Int):AG F0 c s=some (WJ c s,()):=by
 rw[adi,aoX h,ai];unfold WJ agU;cases a:bh c s with
 |false=>rfl
 |true =>
  have b:=Qu a;have d:=b5 ((du s).length:Int);simp only[fX];rw[show(((du s).length:Int)==0)=false from bQ.2 (by omega),aa,mx,ai,ax (by omega) (by omega) (by first|omega|(simp only[aG,aW,bj];omega)|(rw[bc,bC];omega)),ad,ax (by omega) (by omega) (by first|omega|(simp only[aG,aW,bj];omega)|(rw[bc,bC];omega)),ad];simp[dv]
def aef (c:Int×Int)(m:bW):List Int:=if cV c m=true then CD m else []
def abj {c:Int×Int}{m:bW}(h:cV c m=true):(m.1=1/\eN c m.2.2.1.2=true)\/m.1=2\/(m.1=3/\eN c m.2.2.2.2.1=true)\/m.1=4:=by
 unfold cV at h;simp only[aA]at h;obtain⟨f,_,a⟩:=h;by_cases b:m.1=1
 .rw[ag (by simpa using b)]at a;simp only[fj,aA]at a;exact .inl ⟨b,a.1⟩
 .by_cases d:m.1=2
  .exact .inr (.inl d)
  .by_cases e:m.1=3
   .rw[af (by simpa using b),af (by simpa using d),ag (by simpa using e)]at a;simp only[aA]at a;exact .inr (.inr (.inl ⟨e,a.2.1⟩))
   .rw[af (by simpa using b),af (by simpa using d),af (by simpa using e)]at a;simp only[aA,bg]at a;exact .inr (.inr (.inr a.1))
def avd {m:bW}(h:fT m)(c:Int×Int):Du F0 c m=some (aef c m,()):=by
 rw[afE,I1 h,ai];unfold aef;cases e:cV c m with
 |false=>rw[ea,ae,af (by decide)]
 |true =>
  have g:=b5 m.1;rw[aH,aa,ag rfl,jx,ai];unfold CD;rcases abj e with ⟨k,b⟩|k|⟨k,b⟩|k
  .have a:=Nv h.1;have d:=agT (c:=c) (q:=m.2.2.1.2);rw[show(m.1==1)=true by simpa using k,ae,Nu h.1,ai,ax (by omega) (by omega) (by first|omega|(simp only[aG,aW,bj];omega)|(rw[bc,bC];omega)),ad,WH h.2.1,ai,ax (by omega) (by omega) (by first|omega|(simp only[aG,aW,bj];omega)|(rw[bc,bC];omega)),ad,ag k];simp[qcB,b]
  .have a:=b5 m.2.2.2.1.1;have d:=Nv h.2.2.1.1;have i:=b5 (m.2.2.2.1.2.2.length:Int);have j:=A8 m.2.2.2.1.2.2;have f:=h.2.2.1.2;rw[show(m.1==1)=false by simp[k],aa,show(m.1==2)=true by simp[k],ae,jx,ai,ax (by omega) (by omega) (by first|omega|(simp only[aG,aW,bj];omega)|(rw[bc,bC];omega)),ad,Nu h.2.2.1.1,ai,ax (by omega) (by omega) (by first|omega|(simp only[aG,aW,bj];omega)|(rw[bc,bC];omega)),ad,jx,ai,
    ax (by omega) (by omega) (by first|omega|(simp only[aG,aW,bj];omega)|(rw[bc,bC];omega)),ad,WG f,ai,ax (by omega) (by omega) (by first|omega|(simp only[aG,aW,bj];omega)|(rw[bc,bC];omega)),ad,af (by omega),ag k]
   simp[jM,A6]
  .have a:=A8 [m.2.1,m.2.2.2.2.2.1];have d:=agT (c:=c) (q:=m.2.2.2.2.1);simp only[aW,bj]at a;rw[show(m.1==1)=false by simp[k],aa,show(m.1==2)=false by simp[k],aa,show(m.1==3)=true by simp[k],ae,WG (by simp),ai,ax (by omega) (by omega) (by first|omega|(simp only[aG,aW,bj];omega)|(rw[bc,bC];omega)),ad,WH h.2.2.2,ai,ax (by omega) (by omega) (by first|omega|(simp only[aG,aW,bj];omega)|(rw[bc,bC];omega)),ad,af (by omega),af (by omega),ag k];simp[iI,qcB,b]
  .have a:=A8 [m.2.2.2.2.2.2.1,m.2.2.2.2.2.2.2.1,m.2.2.2.2.2.2.2.2.1,m.2.2.2.2.2.2.2.2.2];simp only[aW,bj]at a;rw[show(m.1==1)=false by simp[k],aa,show(m.1==2)=false by simp[k],aa,show(m.1==3)=false by simp[k],aa,WG (by simp),ai,ax (by omega) (by omega) (by first|omega|(simp only[aG,aW,bj];omega)|(rw[bc,bC];omega)),ad,af (by omega),af (by omega),af (by omega)];simp[iI]
def ZV {m:bW}(h:fT m)(c:Int×Int):tv F0 c m=some (aef c m,()):=by
 rw[af3,KV h,ai];unfold aef;cases e:cV c m with
 |false=>rw[ea,ae,af (by decide)]
 |true =>
  have g:=b5 m.1;rw[aH,aa,ag rfl,mx,ai];unfold CD;rcases abj e with ⟨k,b⟩|k|⟨k,b⟩|k
  .have a:=Nv h.1;have d:=agT (c:=c) (q:=m.2.2.1.2);rw[show(m.1==1)=true by simpa using k,ae,IF h.1,ai,ax (by omega) (by omega) (by first|omega|(simp only[aG,aW,bj];omega)|(rw[bc,bC];omega)),ad,RE h.2.1,ai,ax (by omega) (by omega) (by first|omega|(simp only[aG,aW,bj];omega)|(rw[bc,bC];omega)),ad,ag k];simp[qcB,b]
  .have a:=b5 m.2.2.2.1.1;have d:=Nv h.2.2.1.1;have i:=b5 (m.2.2.2.1.2.2.length:Int);have j:=A8 m.2.2.2.1.2.2;have f:=h.2.2.1.2;rw[show(m.1==1)=false by simp[k],aa,show(m.1==2)=true by simp[k],ae,mx,ai,ax (by omega) (by omega) (by first|omega|(simp only[aG,aW,bj];omega)|(rw[bc,bC];omega)),ad,IF h.2.2.1.1,ai,ax (by omega) (by omega) (by first|omega|(simp only[aG,aW,bj];omega)|(rw[bc,bC];omega)),ad,mx,ai,
    ax (by omega) (by omega) (by first|omega|(simp only[aG,aW,bj];omega)|(rw[bc,bC];omega)),ad,Fj f,ai,ax (by omega) (by omega) (by first|omega|(simp only[aG,aW,bj];omega)|(rw[bc,bC];omega)),ad,af (by omega),ag k]
   simp[jM,A6]
  .have a:=A8 [m.2.1,m.2.2.2.2.2.1];have d:=agT (c:=c) (q:=m.2.2.2.2.1);simp only[aW,bj]at a;rw[show(m.1==1)=false by simp[k],aa,show(m.1==2)=false by simp[k],aa,show(m.1==3)=true by simp[k],ae,Fj (by simp),ai,ax (by omega) (by omega) (by first|omega|(simp only[aG,aW,bj];omega)|(rw[bc,bC];omega)),ad,RE h.2.2.2,ai,ax (by omega) (by omega) (by first|omega|(simp only[aG,aW,bj];omega)|(rw[bc,bC];omega)),ad,af (by omega),af (by omega),ag k];simp[iI,qcB,b]
  .have a:=A8 [m.2.2.2.2.2.2.1,m.2.2.2.2.2.2.2.1,m.2.2.2.2.2.2.2.2.1,m.2.2.2.2.2.2.2.2.2];simp only[aW,bj]at a;rw[show(m.1==1)=false by simp[k],aa,show(m.1==2)=false by simp[k],aa,show(m.1==3)=false by simp[k],aa,Fj (by simp),ai,ax (by omega) (by omega) (by first|omega|(simp only[aG,aW,bj];omega)|(rw[bc,bC];omega)),ad,af (by omega),af (by omega),af (by omega)];simp[iI]
end Go.Am.Tryz
