/- No condition. -/
import Derived.Test.YtnllfndlcahalaaGreatDoorQoWJL2
set_option linter.all false
namespace Go.Am.Tryz
open Go.Am
def j8:bd:=(0,0,b9,ak)
def aub:kg j8:=⟨dy,aR _⟩
def azg {b:List Int}{s:Rs}(h:(cV b s).2.2=true):s.2=true:=by
 unfold cV at h;split at h
 .split at h
  .assumption
  .cases h
 .cases h
def L4 (b:List Int):bd×Rs :=
 (((iE b).1,(aT b (iE b).2).1,(wD b (aT b (iE b).2).2).1,(cV b (wD b (aT b (iE b).2).2).2).1),(cV b (wD b (aT b (iE b).2).2).2).2)
def n2 (c:Int×Int)(b:List Int):bd×Bool:=if (L4 b).2.2=true/\((L4 b).2.1:Int)=(b.length:Int)/\bh c (L4 b).1=true then ((L4 b).1,true) else (j8,false)
def aqn {b:List Int}(a:dj b)(h:(L4 b).2.2=true):kg (L4 b).1:=by have d:(iE b).2.1<=b.length:=(dS a (s:=(0,true)) (aR _)).1;have e:=(dS a d).1;have q:=SD a e;have x:=w7 a q.1;have c:(cV b (wD b (aT b (iE b).2).2).2).2.2=true->(wD b (aT b (iE b).2).2).2.2=true:=azg;unfold L4 at h ⊢;generalize cV b (wD b (aT b (iE b).2).2).2=f at h x c ⊢;generalize wD b (aT b (iE b).2).2=g at q c ⊢;generalize aT b (iE b).2=i;generalize iE b=j;exact⟨q.2 (c h),x.2⟩
def aGY {b:List Int}(a:dj b)(c:Int×Int):kg (n2 c b).1:=by
 unfold n2;split
 .rename_i h;exact aqn a h.1
 .exact aub
def aAM {c:Int×Int}{b:List Int}{m:bd}{s:Rs}{f:bd->Option (Bool×Unit)}(h:s.2=true->f m=some (bh c m,())) :
  br (!s.2) (some (j8,false,())) (br ((s.1:Int) != (b.length:Int)) (some (j8,false,())) ((f m).bind fun d=>br (!d.1) (some (j8,false,())) (some (m,true,())))) =
   some ((if s.2=true/\(s.1:Int)=(b.length:Int)/\bh c m=true then ((m,true):bd×Bool) else (j8,false)).1,(if s.2=true/\(s.1:Int)=(b.length:Int)/\bh c m=true then ((m,true):bd×Bool) else (j8,false)).2,()):=by
 cases e:s.2 with
 |false =>
  rw[af (fun h=>by cases h.1)];rfl
 |true =>
  rw[aN,aa,h e,ai];by_cases a:(s.1:Int)=(b.length:Int)
  .rw[show((s.1:Int) != (b.length:Int))=false from SZ.2 a,aa];cases g:bh c m with
   |false =>
    rw[af (fun h=>by cases h.2.2)];rfl
   |true =>
    rw[ag ⟨rfl,a,rfl⟩];rfl
  .rw[EZ.2 a,ae,af (fun h=>a h.2.1)]
def aBM {b:List Int}(a:dj b)(c:Int×Int):Nk F0 c b=some ((n2 c b).1,(n2 c b).2,()):=by have j:cH F0 (b,0,true)=some (((iE b).1,()),cell b (iE b).2,()):=sV a (s:=(0,true)) (aR _);have e:(iE b).2.1<=b.length:=(dS a (s:=(0,true)) (aR _)).1;have g:=(dS a e).1;have q:=SD a g;have d:=aqn a;rw[aoZ,j,ai,sV a e,ai,aBy a g,ai,afO a q.1,ai];unfold n2;unfold L4 at d ⊢;generalize cV b (wD b (aT b (iE b).2).2).2=i at d ⊢;generalize wD b (aT b (iE b).2).2=k at d ⊢;generalize aT b (iE b).2=l at d ⊢;generalize iE b=n at d ⊢;exact aAM (c:=c) (b:=b) (m:=(n.1,l.1,k.1,i.1)) (s:=i.2) (f:=fun m=>iX F0 c m) fun h=>CY (d h) c
def azh {b:List Int}(a:dj b)(c:Int×Int):Oe F0 c b=some ((n2 c b).1,(n2 c b).2,()):=by have j:bH F0 (b,0,false)=some (((iE b).1,()),X0 b (iE b).2,()):=mV a (s:=(0,true)) (aR _);have e:(iE b).2.1<=b.length:=(dS a (s:=(0,true)) (aR _)).1;have g:=(dS a e).1;have q:=SD a g;have d:=aqn a;rw[apQ,j,ai,mV a e,ai,awX a g,ai,YU a q.1,ai];unfold n2;unfold L4 at d ⊢;generalize cV b (wD b (aT b (iE b).2).2).2=i at d ⊢;generalize wD b (aT b (iE b).2).2=k at d ⊢;generalize aT b (iE b).2=l at d ⊢;generalize iE b=n at d ⊢;exact aAM (c:=c) (b:=b) (m:=(n.1,l.1,k.1,i.1)) (s:=i.2) (f:=fun m=>kU F0 c m) fun h=>FW (d h) c
def X4 (b:List Int)(i j:Nat):List Int:=(b.take j).drop i
def afS {b:List Int}(a:dj b)(i j:Nat):dj (X4 b i j):=by have d:=a.1;refine⟨?_,fun x c=>a.2 x (ZL (auR c))⟩;unfold X4;rw[bc,bB];omega
def aE4 {b:List Int}(a:dj b):bytesOf (strOf b)=b:=by unfold bytesOf strOf;simp only[List.map_map];refine(List.map_congr_left fun x c=>?_).trans (List.map_id b);have:=a.2 x c;simp only[Function.comp,id,UInt8.toNat_ofNat'];omega
def HT (c:Int×Int)(b:List Int)(a:Nat):Option (bd×Nat):=match rr b a with
 |none=>none|some (v,d)=>if v>=(b.length:Int)-d then none else if b.getD (d+v.toNat) 0≠10 then none else if (n2 c (X4 b d (d+v.toNat))).2=true then some ((n2 c (X4 b d (d+v.toNat))).1,d+v.toNat+1) else none
def FX (c:Int×Int)(b:List Int):Nat->bd->Nat->bd×Nat
 |0,s,a=>(s,a)|f+1,s,a=>match HT c b a with
  |none=>(s,a)|some (d,e)=>FX c b f d e
def dU (c:Int×Int)(b:List Int):bd×Nat:=FX c b (b.length+1) j8 0
def CZ {c:Int×Int}{b:List Int}{a:Nat}{v:Int}{a':Nat}(h:rr b a=some (v,a')):HT c b a =
  if v>=(b.length:Int)-a' then none else if b.getD (a'+v.toNat) 0≠10 then none else if (n2 c (X4 b a' (a'+v.toNat))).2=true then some ((n2 c (X4 b a' (a'+v.toNat))).1,a'+v.toNat+1) else none:=by
 unfold HT;rw[h]
def C0 {c:Int×Int}{b:List Int}{a:Nat}(h:rr b a=none):HT c b a=none:=by unfold HT;rw[h]
def iv {c:Int×Int}{b:List Int}{f:Nat}{s:bd}{a:Nat}(h:HT c b a=none):FX c b (f+1) s a=(s,a):=by unfold FX;rw[h]
def C1 {c:Int×Int}{b:List Int}{f:Nat}{s d:bd}{a a':Nat}(h:HT c b a=some (d,a')):FX c b (f+1) s a=FX c b f d a':=by rw[FX,h]
def azi {c:Int×Int}{b:List Int}(f:dj b){a:Nat}(i:a<=b.length){s:bd}{a':Nat}(h:HT c b a=some (s,a')):a<a'/\a'<=b.length/\kg s:=by
 cases e:rr b a with
 |none=>rw[C0 e]at h;cases h
 |some r =>
  obtain⟨v,d⟩:=r;have j:=YT f i e;have g:=aGY (afS f d (d+v.toNat)) c;rw[CZ e]at h;generalize n2 c (X4 b d (d+v.toNat))=r at h g;split at h
  .cases h
  .rename_i k;split at h
   .cases h
   .split at h
    .cases h;exact⟨by omega,by omega,g⟩
    .cases h
def auc (c:Int×Int){b:List Int}(g:dj b)(p q t:Int)(u w:ByteArray)(xs:List Int):∀(f:Nat) (s:bd) (a n:Nat),a<=b.length->b.length+1<=a+f->f<n ->
  vd F0 (Ad F0) n (px b (a:Int) c.1 c.2 p q t u w s.1 s.2.1 s.2.2.1.1 s.2.2.1.2.1 s.2.2.2 xs s.2.2.1.2.2)=some ((FX c b f s a).1,((FX c b f s a).2:Int),())
 |0,s,a,n,j,x,y=>by omega
 |f+1,s,a,n,j,x,y=>by
  obtain⟨n,rfl⟩:∃m,n=m+1:=⟨n-1,by omega⟩;have A:=g.1;cases i:rr b a with
  |none =>
   have law:kM F0 b (a:Int)=some (0,0,false,()):=by rw[afN g j,i];rfl
   rw[Fp,law,ai,KU,iv (C0 i)];rfl
  |some r =>
   obtain⟨v,d⟩:=r;have B:=YT g j i;have law:kM F0 b (a:Int)=some (v,(d:Int),true,()):=by rw[afN g j,i];rfl
   have e:=CZ (c:=c) i;rw[Fp,law,ai,KU];dsimp only;rw[aN,aa,aG (n:=(b.length:Int)-d) (by omega) (by omega),show aj ((d:Int)+v)=((d+v.toNat:Nat):Int) by rw[aG (by omega) (by omega)];omega];by_cases k:v>=(b.length:Int)-d
   .rw[ag k]at e;rw[aL k,ae,iv e]
   .have z:d+v.toNat<b.length:=by omega
    rw[af k]at e;rw[aQ k,aa,an z,ab,ln];by_cases l:b.getD (d+v.toNat) 0=10
    .rw[af (fun h=>h l)]at e;rw[show(b.getD (d+v.toNat) 0 != 10)=false from SZ.2 l,aa,YQ (by omega) (by omega),ab,show((c.1,c.2):Int×Int)=c from rfl,ho,ho,
      show((b.take (d+v.toNat)).drop d)=X4 b d (d+v.toNat) from rfl,aBM (afS g _ _),ai]
     dsimp only;generalize n2 c (X4 b d (d+v.toNat))=r at e ⊢;cases o:r.2 with
     |false =>
      rw[o,af (by decide)]at e;rw[ek,ae,iv e]
     |true =>
      rw[o,ag rfl]at e;rw[aN,aa,al (by omega),C1 e];exact auc c g p q t u w xs f r.1 (d+v.toNat+1) n (by omega) (by omega) (by omega)
    .rw[ag l]at e;rw[EZ.2 l,ae,iv e]
def aw0 {b:List Int}(a:dj b)(c:Int×Int):D0 F0 c b=some ((dU c b).1,((dU c b).2:Int),()):=by have d:=a.1;rw[aht,alI,ai];exact auc c a 0 0 0 _ _ [] (b.length+1) j8 0 _ (aR _) (by omega) (by rw[bz];omega)
def aE5 {b:List Int}{a:Nat}{v:Int}{a':Nat}(h:rr b a=some (v,a')):acT b a=if v>(b.length:Int)-a' then none else some (strOf (X4 b a' (a'+v.toNat)),a'+v.toNat):=by unfold acT;rw[h];rfl
def aE6 {b:List Int}{a:Nat}(h:rr b a=none):acT b a=none:=by unfold acT;rw[h]
def aqo (c:Int×Int){b:List Int}(g:dj b)(o p q:Int)(t u:ByteArray)(xs:List Int):∀(f:Nat) (s:bd) (a n:Nat),a<=b.length->b.length+1<=a+f->f<n ->
  oD F0 (pO F0) n (k7 b (a:Int) c.1 c.2 o p q t u s.1 s.2.1 s.2.2.1.1 s.2.2.1.2.1 s.2.2.2 xs s.2.2.1.2.2)=some ((FX c b f s a).1,((FX c b f s a).2:Int),())
 |0,s,a,n,i,z,A=>by omega
 |f+1,s,a,n,i,z,A=>by
  obtain⟨n,rfl⟩:∃m,n=m+1:=⟨n-1,by omega⟩;have C:=g.1;have bad:nG F0 b (a:Int)=some (ak,0,false,())->HT c b a=none->oD F0 (pO F0) (n+1) (k7 b (a:Int) c.1 c.2 o p q t u s.1 s.2.1 s.2.2.1.1 s.2.2.1.2.1 s.2.2.2 xs s.2.2.1.2.2)=some ((FX c b (f+1) s a).1,((FX c b (f+1) s a).2:Int),()):=by intro law e;rw[FL,law,ai,LH,iv e];rfl
  cases j:rr b a with
  |none=>exact bad (by rw[Jn g i,aE6 j];rfl) (C0 j)
  |some r =>
   obtain⟨v,d⟩:=r;have D:=YT g i j;have e:=CZ (c:=c) j;have k:=aE5 j;by_cases w:v>(b.length:Int)-d
   .rw[ag w]at k;rw[ag (show v>=(b.length:Int)-d by omega)]at e;exact bad (by rw[Jn g i,k];rfl) e
   .rw[af w]at k;have law:nG F0 b (a:Int)=some (strOf (X4 b d (d+v.toNat)),((d+v.toNat:Nat):Int),true,()):=by rw[Jn g i,k];rfl
    rw[FL,law,ai,LH];dsimp only;rw[aN,aa];by_cases x:v>=(b.length:Int)-d
    .rw[ag x]at e;rw[aL (show((d+v.toNat:Nat):Int)>=(b.length:Int) by omega),ae,iv e]
    .have B:d+v.toNat<b.length:=by omega
     rw[af x]at e;rw[aQ (show ¬((d+v.toNat:Nat):Int)>=(b.length:Int) by omega),aa,an B,ab,ln];by_cases l:b.getD (d+v.toNat) 0=10
     .have E:((strOf (X4 b d (d+v.toNat))).size:Int)<=1048576:=by have:=(afS g d (d+v.toNat)).1;show((((X4 b d (d+v.toNat)).map fun n=>UInt8.ofNat n.toNat).toArray.size:Nat):Int)<=1048576;rw[List.size_toArray,o8];omega
      rw[af (fun h=>h l)]at e;rw[show(b.getD (d+v.toNat) 0 != 10)=false from SZ.2 l,aa,show((c.1,c.2):Int×Int)=c from rfl,aL (show((strOf (X4 b d (d+v.toNat))).size:Int)<=F0.mem by rw[aGn];omega),ab,aE4 (afS g _ _),azh (afS g _ _),ai];dsimp only;generalize n2 c (X4 b d (d+v.toNat))=r at e ⊢;cases y:r.2 with
      |false =>
       rw[y,af (by decide)]at e;rw[ek,ae,iv e]
      |true =>
       rw[y,ag rfl]at e;rw[aN,aa,al (by omega),C1 e];exact aqo c g o p q t u xs f r.1 (d+v.toNat+1) n (by omega) (by omega) (by omega)
     .rw[ag l]at e;rw[EZ.2 l,ae,iv e]
def abp {b:List Int}(a:dj b)(c:Int×Int):ua F0 c b=some ((dU c b).1,((dU c b).2:Int),()):=by have d:=a.1;rw[aid,amr,ai];exact aqo c a 0 0 0 _ _ [] (b.length+1) j8 0 _ (aR _) (by omega) (by rw[bz];omega)
def aDW (c:Int×Int){b:List Int}(e:dj b):∀(f:Nat) (s:bd) (a:Nat),a<=b.length->kg s->kg (FX c b f s a).1
 |0,_,_,_,h=>h|f+1,s,a,g,h=>by
  cases d:HT c b a with
  |none =>
   rw[iv d];exact h
  |some r =>
   obtain⟨i,j⟩:=r;have:=azi e g d;rw[C1 d];exact aDW c e f i j this.2.1 this.2.2
def aBN (c:Int×Int){b:List Int}(a:dj b):kg (dU c b).1:=aDW c a _ _ _ (aR _) aub
def eM (a b:bd):Bool:=(a.1==b.1)&&((a.2.1==b.2.1)&&(gn a.2.2.1 b.2.2.1&&(a.2.2.2.toList==b.2.2.2.toList)))
def aw1 {a b:bd}(c:kg a)(d:kg b):DI F0 a b=some (eM a b,()):=by rw[aha,aiw c.1 d.1,ai];unfold eM;cases (a.1==b.1)<;>cases (a.2.1==b.2.1)<;>cases gn a.2.2.1 b.2.2.1<;>rfl
def abq {a b:bd}(c:kg a):tT F0 a b=some (eM a b,()):=by rw[ahR,LY c.1,ai];unfold eM;cases (a.1==b.1)<;>cases (a.2.1==b.2.1)<;>cases gn a.2.2.1 b.2.2.1<;>rfl
def aud (c:Int×Int)(r:aw):Bool:=mU c r&&(eM (dU c r.2.2.2.2.2.2.1.1).1 r.2.2.2.1&&(((dU c r.2.2.2.2.2.2.1.1).2:Int)==(r.2.2.2.2.2.2.1.1.length:Int)))
def aE7 {r:aw}(h:amw r)(a:dj r.2.2.2.2.2.2.1.1)(c:Int×Int):YM F0 c r=some (aud c r,()):=by rw[awz,abp a,ai,dR h,ai,abq (aBN c a),ai];unfold aud;cases mU c r<;>cases eM (dU c r.2.2.2.2.2.2.1.1).1 r.2.2.2.1<;>rfl
def rp (w:ah)(i:Nat):aw:=w.2.2.1.getD ((aE w).getD i 0).toNat UQ
def aue {w:ah}{i j:Nat}(hi:i<(aE w).length)(e:(aE w)[i]=(j:Int))(a:j<w.2.2.1.length):rp w i=w.2.2.1[j]:=by unfold rp;rw[aI hi,e,ho,aI a]
def aqp (w:ah)(i k:Nat):Bool:= !(((w.2.2.2.2.getD k L1).2.2==(aE w).getD i 0)&&decide ((w.2.2.2.2.getD k L1).1>(rp w i).2.2.2.1.1))
def aw2 (w:ah)(i:Nat):Bool:=aud w.1 (rp w i)&&(List.range w.2.2.2.2.length).all (aqp w i)
def aqq (w:ah):Bool:=eC w&&(List.range (aE w).length).all (aw2 w)
def aGZ (w:ah):Prop:=∀r∈w.2.2.1,dj r.2.2.2.2.2.2.1.1
def aE8 {V:Type}(a b:Bool)(x y:V):br a (br b x y) y=if (!(a&&b))=true then y else x:=by cases a<;>cases b<;>rfl
def aG0 {w:ah}(h:j2 w){γ:Type}(J:Ex->St->Option γ)(n:Nat){i:Nat}(hi:i<(aE w).length) :
  jG F0 (j0 F0 J n) F0.n (gl (aE w)[i] ((aE w).length:Int) (i:Int) w.2.2.2.2 (w.2.2.2.2.length:Int) 0 w.1.1 w.1.2 w.2.1 w.2.2.1 w.2.2.2.1 w.2.2.2.2 (aE w)) =
  if (List.range w.2.2.2.2.length).all (aqp w i)=true then mQ F0 J n (j1 ((aE w).length:Int) ((i+1:Nat):Int) w.1.1 w.1.2 w.2.1 w.2.2.1 w.2.2.2.1 w.2.2.2.2 (aE w)) else J .ret (nZ false):=by
 have hlen:(aE w).length<=1048576:=bY (j3 w.2.1 w.2.2.1.length) h.r;have c:=h.s;obtain⟨d,e,b⟩:=oY hi;refine ej (fun m k=>jG F0 (j0 F0 J n) m (gl (aE w)[i] ((aE w).length:Int) (i:Int) w.2.2.2.2 (w.2.2.2.2.length:Int) k w.1.1 w.1.2 w.2.1 w.2.2.1 w.2.2.2.1 w.2.2.2.2 (aE w))) w.2.2.2.2.length (aqp w i) _ _ (fun m k a=>?_) (fun m=>?_) _ (by rw[bz];omega)
 .unfold aqp;rw[BV,aM a,ae,an a,ab,e,an b,aV a,aV b,ab,ZE,al (by omega),aE8,aI a,aue hi e b,aI hi,e]
 .rw[BV,aB,aa,XP,al (by omega)]
def aqr {w:ah}(h:j2 w)(d:aGZ w):Bn F0 w=some (aqq w,()):=by
 have hlen:(aE w).length<=1048576:=bY (j3 w.2.1 w.2.2.1.length) h.r;rw[aft,eP h,ai,ng h,ai];dsimp only;rw[ej (fun m k=>mQ F0 (n0 F0) m (j1 ((aE w).length:Int) k w.1.1 w.1.2 w.2.1 w.2.2.1 w.2.2.2.1 w.2.2.2.2 (aE w))) (aE w).length (aw2 w) (some (true,())) (some (false,())) (fun m k a=>?_) (fun m=>?_) _ (by rw[bz];omega),oG]
 .unfold aqq;cases eC w<;>rfl
 .obtain⟨f,e,b⟩:=oY a;have c:=bP b;rw[BW,aM a,ae,an a,ab,aV a,aG0 h _ _ a,e,an b,ab,aV b,show((w.1.1,w.1.2):Int×Int)=w.1 from rfl,aE7 (h.rl _ c) (d _ c),ai,ZF];unfold aw2;rw[aue a e b];dsimp only;cases aud w.1 w.2.2.1[f]<;>rfl
 .rw[BW,aB,aa,XQ]
def X5 {l:gX}(g:Ve l){list:List dG}(m:list.length<=1048576):ri F0 l list=some (eV l list,gY l list,()):=by
 rw[apF,XS (by have:=g.1;omega) (by have:=g.2;omega),ai];refine cu (fun n i (z:List Int×gX)=>ED F0 (GO F0) n (vA list (list.length:Int) i z.1 [] [] z.2.1 z.2.2)) list.length (fun k z=>z.1=gY l (list.take k)/\z.2=eV l (list.take k)) _ (fun n k z e f=>.inr ⟨(z.1++[(ef z.2 list[k]).2],(ef z.2 list[k]).1),?_,?_⟩) (fun n z f=>?_) F0.n 0 ([],l) (aR _) ⟨rfl,rfl⟩ (by rw[bz];omega)
 .obtain⟨d,c⟩:=f;have h:Ve z.2:=by rw[c];exact Jk g
  have o:z.1.length<=1048576:=by rw[d,Jl,bB];omega
  rw[Lx,aM e,ae,an e,ab,abn e]
  try rw[aLd]
  rw[ap5 (l:=(z.2.1,z.2.2)) (by have:=h.1;show z.2.1.length<=_;omega) (by have:=h.2;show z.2.2.length<=_;omega),ai];simp only;rw[ar (a:=z.1.length) (b:=[(ef (z.2.1,z.2.2) list[k]).2].length) (k:=8) (by omega) (by omega) (by simp only[aW,bm];omega),ab,al (by omega)]
 .obtain⟨d,c⟩:=f;have j:list.take (k+1)=list.take k++[list[k]]:=by rw[Mg,n6 e];rfl
  refine⟨?_,?_⟩
  .rw[j,Sw,<-d,<-c];rfl
  .rw[j,On,<-c]
 .obtain⟨d,c⟩:=f;rw[kc]at d c;rw[Lx,aB,aa,afh,d,c]
def aBO {l:List UInt8}(f:l.length<=1073741824):rf F0 (tx l)=some ((a7 l).1.flatMap (·.2),()):=by
 rw[asI,Su f,ai];have hlen:=rn l;have dd:=Ss l;generalize h:(a7 l).1=ss at hlen dd;refine cu (fun n i xs=>Jb F0 (Ls F0) n (A0 (ss.length:Int) i xs ss)) ss.length (fun k xs=>xs=(ss.take k).flatMap (·.2)) _ (fun n k xs c d=>.inr ⟨_,?_,rfl⟩) (fun n xs d=>?_) F0.n 0 [] (aR _) rfl (by rw[bz];omega)
 .have j:=(dd _ (bP c)).2.2.1;have e:=afC (ss:=ss.take k) fun x e=>dd x (ZL e)
  rw[<-d,bB]at e;rw[N3,aM c,ae,an c,ab,abn c,ar (a:=xs.length) (b:=ss[k].2.length) (k:=32) (by omega) (by omega) (by omega),ab,al (by omega),d];have g:(ss.take (k+1)).flatMap (·.2)=(ss.take k).flatMap (·.2)++ss[k].2:=by rw[show ss.take (k+1)=ss.take k++[ss[k]] by rw[Mg,n6 c];rfl,auT];simp
  rw[g]
 .rw[kc]at d;rw[N3,aB,aa,ah0,d]
def Vf (b:ByteArray):List dG:=(a7 b.data.toList).1.flatMap (·.2)
def Bq (b:ByteArray):(Vf b).length<=60:=by have a:=afC (Ss b.data.toList);have c:=rn b.data.toList;unfold Vf;omega
def azj {b:ByteArray}(h:b.size<=1048576):v8 F0 b=some (Vf b,()):=aEP (UP h)
def aiA {b:ByteArray}(h:b.size<=1048576):rf F0 b=some (Vf b,()):=aBO (UP h)
def L5:Ve Sv:=⟨rfl,rfl⟩
def iS (c:Int×Int)(r:aw):gX:=if mU c r=true then eV Sv (Vf r.2.2.2.1.2.2.2) else ([],[])
def aE9 {r:aw}(h:amw r)(c:Int×Int):KN F0 c r=some (iS c r,()):=by have a:=Bq r.2.2.2.1.2.2.2;rw[asj,hU h,ai,abm,ai,azj h.s.2,ai,ap6 L5 (bY (Bq _) (by omega)),ai];unfold iS;cases mU c r<;>rfl
def aqs {r:aw}(h:amw r)(c:Int×Int):lC F0 c r=some (iS c r,()):=by have a:=Bq r.2.2.2.1.2.2.2;rw[asJ,dR h,ai,LR,ai,aiA h.s.2,ai,X5 L5 (bY (Bq _) (by omega)),ai];unfold iS;cases mU c r<;>rfl
def azk (c:Int×Int)(r:aw):(iS c r).1.length<=4:=by
 unfold iS;split
 .exact Nat.le_of_eq (Jk L5).1
 .exact aR _
def UR:List Int->Int->Int
 |[],n=>n|x::l,n=>UR l (aj (n+x))
def aqt:∀(l:List Int) (x n:Int),UR (l++[x]) n=aj (UR l n+x)
 |[],_,_=>rfl|_::l,x,_=>aqt l x _
def aBP {l:gX}(h:l.1.length<=1048576):Sp F0 l=some (UR l.1 0,()):=by
 rw[asO];refine cu (fun n i (q:Int)=>Jj F0 (LL F0) n (Bl q l.1 (l.1.length:Int) i)) l.1.length (fun k q=>q=UR (l.1.take k) 0) _ (fun n k q a b=>.inr ⟨UR (l.1.take (k+1)) 0,?_,rfl⟩) (fun n q b=>?_) _ 0 0 (aR _) rfl (by rw[bz];omega)
 .rw[Oi,aM a,ae,an a,ab,aV a,al (by omega),ee a,aqt,<-b]
 .rw[Oi,aB,aa,aii,b,kc]
def Rt (c:Int):Bool:=(c==0) || (c==4)
def okP (xs:List dG)(cs:List Int)(i k:Nat):Bool:= !(Rt (cs.getD i 0)&&(Rt (cs.getD k 0)&&(((xs.getD i mW).1==(xs.getD k mW).1)&&((xs.getD i mW).2.2.2==(xs.getD k mW).2.2.2))))
def azl (b:ByteArray):Bool:=(List.range (Vf b).length).all fun i=>(List.range i).all (okP (Vf b) (gY Sv (Vf b)) i)
def aw3 (w:ah)(i:Nat):Bool:= !(UR (iS w.1 (rp w i)).1 0 != 400)&&azl (rp w i).2.2.2.1.2.2.2
def acY (w:ah):Bool:=eC w&&(List.range (aE w).length).all (aw3 w)
def aBQ {V:Type}(a b e f:Bool)(x y:V):br a (br b (br e (br f x y) y) y) y=if (!(a&&(b&&(e&&f))))=true then y else x:=by cases a<;>cases b<;>cases e<;>cases f<;>rfl
def aG1 {w:ah}{d e:Int}{a:List Int}{xs:List dG}{cs:List Int}(h:cs.length=xs.length)(j:xs.length<=1048576){γ:Type}(J:Ex->St->Option γ)(n:Nat){i:Nat}(hi:i<xs.length) :
  e6 F0 (jX F0 J n) F0.n (dQ (i:Int) d e (xs.length:Int) (i:Int) (i:Int) (i:Int) 0 w.1.1 w.1.2 w.2.1 w.2.2.1 w.2.2.2.1 w.2.2.2.2 (xs[i]).1 (xs[i]).2.1 (xs[i]).2.2.1 (xs[i]).2.2.2 xs cs a) =
  if (List.range i).all (okP xs cs i)=true then jF F0 J n (gi d e (xs.length:Int) ((i+1:Nat):Int) w.1.1 w.1.2 w.2.1 w.2.2.1 w.2.2.2.1 w.2.2.2.2 xs cs a) else J .ret (wB false):=by
 refine ej (fun m k=>e6 F0 (jX F0 J n) m (dQ (i:Int) d e (xs.length:Int) (i:Int) (i:Int) (i:Int) k w.1.1 w.1.2 w.2.1 w.2.2.1 w.2.2.2.1 w.2.2.2.2 (xs[i]).1 (xs[i]).2.1 (xs[i]).2.2.1 (xs[i]).2.2.2 xs cs a)) i (okP xs cs i) _ _ (fun m k f=>?_) (fun m=>?_) _ (by rw[bz];omega)
 .have g:k<xs.length:=by omega
  have b:i<cs.length:=by omega
  have c:k<cs.length:=by omega
  rw[BR,aM f,ae,an f,ab,an b,ab,aV b,ayQ,ai,an c,ab,aV c,ayQ,ai,aV g,ZB,al (by omega)];dsimp only;rw[aBQ];unfold okP Rt;rw[aI hi,aI g,aI b,aI c]
 .rw[BR,aB,aa,XM,al (by omega)]
def aFa {w:ah}{c d:Int}{b:List Int}{xs:List dG}{cs:List Int}(e:cs.length=xs.length)(f:xs.length<=1048576){γ:Type}(J:Ex->St->Option γ)(n:Nat) :
  jF F0 (jY F0 J n) F0.n (gi c d (xs.length:Int) 0 w.1.1 w.1.2 w.2.1 w.2.2.1 w.2.2.2.1 w.2.2.2.2 xs cs b) =
  if ((List.range xs.length).all fun i=>(List.range i).all (okP xs cs i))=true then mP F0 J n (jZ c (aj (d+1)) w.1.1 w.1.2 w.2.1 w.2.2.1 w.2.2.2.1 w.2.2.2.2 b) else J .ret (nX false):=by
 refine ej (fun m k=>jF F0 (jY F0 J n) m (gi c d (xs.length:Int) k w.1.1 w.1.2 w.2.1 w.2.2.1 w.2.2.2.1 w.2.2.2.2 xs cs b)) xs.length (fun i=>(List.range i).all (okP xs cs i)) _ _ (fun m k a=>?_) (fun m=>?_) _ (by rw[bz];omega)
 .rw[BS,aM a,ae,an a,ab,show okT (k:Int) (xs.length:Int)=true by simp[okT];omega,ab,aV a,aG1 e f _ _ a,ZC]
 .rw[BS,aB,aa,XN]
def aqu {w:ah}(h:j2 w):Bm F0 w=some (acY w,()):=by
 have hlen:(aE w).length<=1048576:=bY (j3 w.2.1 w.2.2.1.length) h.r;rw[afr,eP h,ai,ng h,ai];dsimp only;rw[ej (fun m k=>mP F0 (nY F0) m (jZ ((aE w).length:Int) k w.1.1 w.1.2 w.2.1 w.2.2.1 w.2.2.2.1 w.2.2.2.2 (aE w))) (aE w).length (aw3 w) (some (true,())) (some (false,())) (fun m k b=>?_) (fun m=>?_) _ (by rw[bz];omega),oG]
 .unfold acY;cases eC w<;>rfl
 .obtain⟨a,e,c⟩:=oY b;have d:=h.rl _ (bP c);have f:=azk w.1 w.2.2.1[a];have g:=Bq (w.2.2.1[a]).2.2.2.1.2.2.2;rw[BU,aM b,ae,an b,ab,aV b,e,an c,ab,aV c,show((w.1.1,w.1.2):Int×Int)=w.1 from rfl,aqs d,ai,aBP (by show(iS w.1 w.2.2.1[a]).1.length<=_;omega),ai,ab,aiA d.s.2,ai,LR,ai,X5 L5 (bY (Bq _) (by omega)),ai,aFa (Jl _ _) (bY (Bq _) (by omega)),ZD,al (by omega)];unfold aw3;rw[aue b e c];dsimp only;rw[show((List.range (Vf (w.2.2.1[a]).2.2.2.1.2.2.2).length).all fun i=>(List.range i).all (okP (Vf (w.2.2.1[a]).2.2.2.1.2.2.2) (gY Sv (Vf (w.2.2.1[a]).2.2.2.1.2.2.2)) i))=azl (w.2.2.1[a]).2.2.2.1.2.2.2 from rfl];cases (UR (iS w.1 w.2.2.1[a]).1 0 != 400)<;>cases azl (w.2.2.1[a]).2.2.2.1.2.2.2<;>rfl
 .rw[BU,aB,aa,XO]
def aDX (w:ah):Bool:=aua w&&(YV w&&(YW w&&(acY w&&aqq w)))
def asT {w:ah}(h:j2 w)(a:aGZ w):EL F0 w=some (aDX w,()):=by rw[aij,asS h,ai,amx h,ai,amz h,ai,aqu h,ai,aqr h a,ai];unfold aDX;cases aua w<;>cases YV w<;>cases YW w<;>cases acY w<;>rfl
abbrev xx:=List Int×Int×Int
def SG (c:xx):Prop:=c.1.length<=1048576/\0<=c.2.1/\c.2.1<=1048576
def aw4 (n:Int):0<=aj ((BitVec.ofInt 64 n &&& BitVec.ofInt 64 255).toNat:Int)/\aj ((BitVec.ofInt 64 n &&& BitVec.ofInt 64 255).toNat:Int)<=255:=by
 have h:(BitVec.ofInt 64 n &&& BitVec.ofInt 64 255).toNat<=255:=by rw[BitVec.toNat_and];exact bY Nat.and_le_right (by decide)
 rw[aG (by omega) (by omega)];omega
def aDY {c:xx}(h:SG c):∃(v:Int) (a:xx),kH F0 c=some ((v,()),a,())/\0<=v/\v<=255/\SG a:=by
 rw[anU];by_cases hlt:c.2.1<(c.1.length:Int)
 .rw[aL hlt,ae,show bG c.2.1 (c.1.length:Int)=true by simp[bG];exact⟨h.2.1,hlt⟩,ab];have b:=h.1;have d:=h.2.1;refine⟨_,_,rfl,(aw4 _).1,(aw4 _).2,h.1,?_,?_⟩
  .show 0<=aj (c.2.1+1);rw[aG (by omega) (by omega)];omega
  .show aj (c.2.1+1)<=1048576;rw[aG (by omega) (by omega)];omega
 .rw[aQ hlt,aa];exact⟨_,_,rfl,(aw4 _).1,(aw4 _).2,h⟩
def aw5 {a n:Int}(b:0<=a)(c:0<n):0<=Int.tmod a n/\Int.tmod a n<n:=by rw[amZ b];exact⟨Vn _ (by omega),am2 _ c⟩
def aqv {c:xx}(h:SG c){n:Int}(b:0<n)(e:n<=256):∃(v:Int) (a:xx),av F0 c n=some ((v,()),a,())/\0<=v/\v<n/\SG a:=by obtain⟨v,a,f,d,i,g⟩:=aDY h;rw[S7,aQ (show ¬n<=0 by omega),aa,aL e,ae,f,ai,show(!(n==0))=true by rw[bU.2 (show n≠0 by omega)];rfl,ab];exact⟨_,_,rfl,(aw5 d b).1,(aw5 d b).2,g⟩
def aBR {c:xx}(h:SG c){l:List Int}(j:0<l.length)(k:l.length<=256):∃(v:Int) (a:xx),jL F0 c l=some ((v,()),a,())/\v∈l/\SG a:=by
 obtain⟨v,a,d,f,g,i⟩:=aqv h (n:=(l.length:Int)) (by omega) (by omega);have b:v.toNat<l.length:=by omega
 rw[adY,d,ai,show bG v (l.length:Int)=true by simp[bG];exact⟨f,g⟩,ab];refine⟨_,_,rfl,?_,i⟩;have e:v=(v.toNat:Int):=by omega
 show aK l v 0∈l;rw[e,aV b];exact bP b
def aIQ {c:xx}(h:SG c){n:Int}(b:0<n)(d:n<=256):∃(v:Bool) (a:xx),mX F0 c n=some ((v,()),a,())/\SG a:=by obtain⟨v,a,e,g,i,f⟩:=aqv h b d;rw[anW,e,ai];exact⟨_,_,rfl,f⟩
def aKe {code:List Int}(h:code.length<=1048576):∃b:xx,Ka F0 code=some (((b,()),()))/\SG b:=by
 rw[ar1];suffices d:∀(a:Nat) (q:Int) (k n:Nat),k+a=code.length->a<n->∃c:Int,H3 F0 (J9 F0) n (yb code q (k:Int) code)=some ((((code,0,c):xx),()),()) by obtain⟨c,e⟩:=d code.length (aj (26583+(code.length:Int))) 0 F0.n (wG _) (by rw[bz];omega);exact⟨_,e,h,Mi _,by show(0:Int)<=1048576;decide⟩
 intro a
 induction a with
 |zero =>
  intro q k n f g;obtain⟨n,rfl⟩:∃m,n=m+1:=⟨n-1,by omega⟩;obtain rfl:k=code.length:=by omega
  rw[Mp,aB,aa,PD];exact⟨q,rfl⟩
 |succ a i =>
  intro q k n f g;obtain⟨n,rfl⟩:∃m,n=m+1:=⟨n-1,by omega⟩;have hlt:k<code.length:=by omega
  rw[Mp,aM hlt,ae];cases decide ((k:Int)<4000) with
  |false =>
   rw[aa,PD];exact⟨q,rfl⟩
  |true =>
   rw[ae,an hlt,ab,al (by omega)];exact i _ (k+1) n (by omega) (by omega)
def SH (c x:UInt8)(l:List UInt8):parts c (x::l)=if x=c then []::parts c l else match parts c l with
  |p::a=>(x::p)::a|[]=>[[x]]:=by
 conv=>lhs;unfold parts
 cases parts c l<;>rfl
def aiB {c:UInt8}:∀(a b:List UInt8),parts c (a++c::b)=parts c a++parts c b
 |[],b=>by rw[BA,SH,ag rfl];rfl
 |x::a,b=>by
  rw[GV,SH c x (a++c::b),SH c x a];by_cases d:x=c
  .rw[ag d,ag d,aiB a b];rfl
  .rw[af d,af d,aiB a b];have e:=FV c a;cases f:parts c a with
   |nil=>exact absurd f e|cons p g=>rfl
def azm {σ V:Type}{f:σ->List UInt8->Option (σ×V)}:∀{l m:List (List UInt8)} {s:σ} {r:List V},tr f s (l++m)=some r->∃a c,tr f s l=some a/\r=a++c/\c.length=m.length
 |[],m,s,r,h=>⟨[],r,rfl,rfl,Rm h⟩|p::l,m,s,r,h=>by
  rw[GV]at h;unfold tr at h ⊢;cases e:f s p with
  |none=>rw[e]at h;cases h
  |some x =>
   obtain⟨g,b⟩:=x;rw[e]at h;dsimp only at h ⊢;cases d:tr f g (l++m) with
   |none=>rw[d]at h;cases h
   |some n =>
    rw[d]at h;cases h;obtain⟨a,c,i,j,k⟩:=azm d;rw[i];exact⟨b::a,c,rfl,by rw[j];rfl,k⟩
def aqw {a t:List UInt8}(n:(47:UInt8) ∉ t)(h:bg (a++47::t)=true):bg a=true/\∃x,(a7 (a++47::t)).1=(a7 a).1++[x]:=by
 have o:a++47::t≠[]:=by simp
 unfold bg at h ⊢;unfold a7 at h ⊢;rw[af o,aiB,ap2 n]at h ⊢;cases f:parts 47 a with
 |nil=>exact absurd f (FV 47 a)
 |cons g c =>
  rw[f,GV]at h;rw[GV];dsimp only at h ⊢;by_cases d:¬g=[]\/30<(c++[t]).length
  .rw[ag d]at h;cases h
  .rw[af d]at h ⊢;have p:g=[]:=axQ fun b=>d (.inl b)
   have q:¬30<(c++[t]).length:=fun b=>d (.inr b)
   rw[aJ,cR]at q;cases i:tr ta 0 (c++[t]) with
   |none=>rw[i]at h;cases h
   |some r =>
    obtain⟨s,e,j,k,l⟩:=azm i;obtain⟨x,rfl⟩:∃x,e=[x]:=by
     cases e with
     |nil=>cases l
     |cons x e =>
      cases e with
      |nil=>exact⟨x,rfl⟩|cons _ _=>simp at l
    by_cases m:a=[]
    .subst m;have:c=[]:=by have:=f;unfold parts at this;exact(tz this).2.symm
     subst this;cases j;rw[ag rfl];exact⟨rfl,x,k⟩
    .rw[af m,af (fun b=>b.elim (fun b=>b p) (fun b=>by omega)),j];exact⟨rfl,x,k⟩
def n4 (l:List dG):List UInt8:=Lib.join (l.map txL) [44]
def Ow (l:List dG):List UInt8:=if l.all gm=true then n4 l else []
def aIR {l:List dG}(h:l.all gm=true):∀x∈l.map txL,x.length<=90:=by intro x a;obtain⟨y,b,rfl⟩:=EY.1 a;exact apY (ea.1 h y b)
def L6 {l:List dG}(h:l.all gm=true):(n4 l).length<=91*l.length:=by have:=aIu (aIR h) 44;rw[o8]at this;exact this
def afT {l:List dG}{k:Nat}(a:k<l.length):(l.take (k+1)).all gm=((l.take k).all gm&&gm l[k]):=by rw[Mg,n6 a,List.all_append];simp
def Pe {U V:Type}{l:List U}{f:U->V}{k:Nat}(a:k<l.length):(l.take (k+1)).map f=(l.take k).map f++[f l[k]]:=by rw[Mg,n6 a,adr];rfl
def Jp {l:List dG}{k:Nat}(a:k<l.length)(h:gm l[k]=false):l.all gm=false:=by rw[agv];exact⟨l[k],bP a,by simp[h]⟩
def auf {x:dG}(h:gm x=true):acM x=txL x:=ag h
def azn {l:List dG}(h:l.length<=1048576):Is F0 l=some (tx (Ow l),()):=by
 rw[alb];refine cu (fun n i (c:ByteArray)=>p8 F0 (rR F0) n (mg l c i)) l.length (fun k c=>(l.take k).all gm=true/\c=tx (n4 (l.take k))) _ (fun n k c a f=>?_) (fun n c f=>?_) _ 0 _ (aR _) ⟨rfl,rfl⟩ (by rw[bz];omega)
 .obtain⟨b,rfl⟩:=f;have g:=L6 b;rw[bB,ads (by omega)]at g;rw[G9,aM a,ae,an a,ab,abn a,Rk,ai,aei];dsimp only;cases d:gm l[k]with
  |false =>
   left;rw[ek,ae,Ow,Jp a d];rfl
  |true =>
   right;have o:=apY d;refine⟨tx (n4 (l.take (k+1))),?_,by rw[afT a,b,d];rfl,rfl⟩;rw[aN,aa,ab,ab,apZ,ai,ai,auf d,show ByteArray.mk #[44]=tx [44] from rfl,fW];dsimp only;rw[hZ (by rw[bD,bD,cR];omega),ab,hZ (by rw[bD,bD,aJ,cR];omega),ab,hZ (by rw[bD,bD];omega),ab,fW,fW,al (by omega)];by_cases j:k=0
   .subst j;rw[show decide (((0:Nat):Int)>0)=false from rfl,aa,show n4 (l.take (0+1))=n4 (l.take 0)++txL l[0] by rw[n4,Pe a];simp[n4,Lib.join_one,Lib.join_nil]]
   .have m:(l.take k).map txL≠[]:=by intro e;have:=n7 List.length e;rw[o8,bB,bm]at this;omega
    rw[aL (show(k:Int)>0 by omega),ae,show n4 (l.take (k+1))=n4 (l.take k)++[44]++txL l[k] by rw[n4,Pe a,aEJ m];rfl]
 .obtain⟨b,rfl⟩:=f;rw[kc]at b ⊢;rw[G9,aB,aa,ab7,Ow,ag b]
def aIS (l:List dG):((l.map fun x=>tx (txL x)).map fun b=>b.data.toList)=l.map txL:=by rw[List.map_map];exact List.map_congr_left fun n _=>fl _
def aw6 {l:List dG}(h:l.length<=524288):Jd F0 l=some (tx (Ow l),()):=by
 rw[aml];refine cu (fun n i (c:List ByteArray)=>A7 F0 (sS F0) n (sR l (l.length:Int) i c)) l.length (fun k c=>(l.take k).all gm=true/\c=(l.take k).map fun x=>tx (txL x)) _ (fun n k c a d=>?_) (fun n c d=>?_) F0.n 0 [] (aR _) ⟨rfl,rfl⟩ (by rw[bz];omega)
 .obtain⟨b,rfl⟩:=d;rw[HI,aM a,ae,an a,ab,abn a,CU,ai,afl];dsimp only;cases e:gm l[k]with
  |false =>
   left;rw[ek,ae,Ow,Jp a e];rfl
  |true =>
   right;refine⟨(l.take (k+1)).map fun x=>tx (txL x),?_,by rw[afT a,b,e];rfl,rfl⟩;rw[aN,aa,aj5,ai,auf e,ar (by omega) (by omega) (by rw[o8,bB,cR];omega),ab,al (by omega),Pe a]
 .obtain⟨b,rfl⟩:=d;rw[kc]at b ⊢;rw[HI,aB,aa,acC,show ByteArray.mk #[44]=tx [44] from rfl,aim (aIS l) (by rw[o8];omega) (by have:=L6 b;unfold n4 at this;omega),ai,Ow,ag b];rfl
def Ox (up:List UInt8)(view:Int)(l:List dG):List UInt8:=up++[47]++Lib.itoa view++[124]++n4 l
def SJ (up:List UInt8)(view:Int)(l:List dG):List UInt8:=if l.all gm=true/\bg (Ox up view l)=true then Ox up view l else []
def acZ (up:List UInt8){view:Int}(a:I64 view){l:List dG}(b:l.all gm=true):(Ox up view l).length<=up.length+23+91*l.length:=by have:=L6 b;have:=Sq a;simp only[Ox,aJ,cR];omega
def aqx {up:List UInt8}(f:up.length<=1048576){view:Int}(c:I64 view){l:List dG}(h:l.length<=1048576):kO F0 (tx up) view l=some (tx (SJ up view l),()):=by
 have g:=Sq c;rw[aop];refine cu (fun n i (_:Unit)=>DC F0 (uT F0) n (uS (tx up) view l i)) l.length (fun k _=>(l.take k).all gm=true) _ (fun n k out b a=>?_) (fun n out a=>?_) _ 0 () (aR _) rfl (by rw[bz];omega)
 .rw[KC,aM b,ae,an b,ab,abn b,Rk,ai,ag7];dsimp only;cases d:gm l[k]with
  |false =>
   left;rw[ek,ae,SJ,af (by rw[Jp b d];simp)];rfl
  |true =>
   right;exact⟨(),by rw[aN,aa,al (by omega)],by rw[afT b,a,d];rfl⟩
 .rw[kc]at a;have j:=L6 a;have e:=acZ up c a;rw[KC,aB,aa,aej,CS c,ai,azn h,ai,Ow,ag a,show ByteArray.mk #[47]=tx [47] from rfl,show ByteArray.mk #[124]=tx [124] from rfl];dsimp only;rw[hZ (by rw[bD,bD,cR];omega),ab,fW,hZ (by rw[bD,bD,aJ,cR];omega),ab,fW,hZ (by rw[bD,bD,aJ,aJ,cR,cR];omega),ab,fW,
   hZ (by rw[bD,bD,aJ,aJ,aJ,cR,cR];omega),ab,fW,show up++[47]++Lib.itoa view++[124]++n4 l=Ox up view l from rfl,Sx (by omega),ai,SJ]
  dsimp only;cases e:bg (Ox up view l) with
  |false=>rw[af (by simp)];rfl
  |true=>rw[ag ⟨a,rfl⟩];rfl
def azo {up:List UInt8}(f:up.length<=1048576){view:Int}(c:I64 view){l:List dG}(h:l.length<=2):FJ F0 (tx up) view l=some (tx (SJ up view l),()):=by
 have g:=Sq c;rw[apK];refine cu (fun n i (_:Unit)=>EI F0 (vI F0) n (vH (tx up) view l l (l.length:Int) i)) l.length (fun k _=>(l.take k).all gm=true) _ (fun n k out b a=>?_) (fun n out a=>?_) _ 0 () (aR _) rfl (by rw[bz];omega)
 .rw[LD,aM b,ae,an b,ab,abn b,CU,ai,ah8];dsimp only;cases d:gm l[k]with
  |false =>
   left;rw[ek,ae,SJ,af (by rw[Jp b d];simp)];rfl
  |true =>
   right;exact⟨(),by rw[aN,aa,al (by omega)],by rw[afT b,a,d];rfl⟩
 .rw[kc]at a;have j:=L6 a;have e:=acZ up c a;rw[LD,aB,aa,afm,Rj c,ai,aw6 (by omega),ai,Ow,ag a,show ByteArray.mk #[47]=tx [47] from rfl,show ByteArray.mk #[124]=tx [124] from rfl];dsimp only;rw[hZ (by rw[bD,bD,cR];omega),ab,fW,hZ (by rw[bD,bD,aJ,cR];omega),ab,fW,hZ (by rw[bD,bD,aJ,aJ,cR,cR];omega),ab,fW,
   hZ (by rw[bD,bD,aJ,aJ,aJ,cR,cR];omega),ab,fW,show up++[47]++Lib.itoa view++[124]++n4 l=Ox up view l from rfl,Oo (by omega),ai,SJ]
  dsimp only;rw[aQ (show ¬((l.length:Int)>2) by omega),aa];cases e:bg (Ox up view l) with
  |false=>rw[af (by simp)];rfl
  |true=>rw[ag ⟨a,rfl⟩];rfl
def Gd {U:Type}(X:Option U)(P:U->Prop):Prop:=∃v,X=some v/\P v
abbrev DrT (U:Type):=(U×Unit)×(xx×Unit)
def Dr {U:Type}(X:Option (DrT U))(Q:U->Prop):Prop:=Gd X fun z=>Q z.1.1/\SG z.2.1
def Gd.bind {U V:Type}{X:Option U}{P:U->Prop}(h:Gd X P){f:U->Option V}{R:V->Prop}(a:∀v,P v->Gd (f v) R):Gd (X.bind f) R:=by obtain⟨v,rfl,b⟩:=h;exact a v b
def Dr.bind {U V:Type}{X:Option (DrT U)}{Q:U->Prop}(h:Dr X Q){f:DrT U->Option V}{R:V->Prop}(a:∀z:DrT U,Q z.1.1->SG z.2.1->Gd (f z) R):Gd (X.bind f) R:=by obtain⟨z,rfl,b,c⟩:=h;exact a z b c
def Gd.let {U V:Type}{X:Option U}{v:U}(h:X=some v){f:U->Option V}{R:V->Prop}(a:Gd (f v) R):Gd (X.bind f) R:=by subst h;exact a
def Gd.ret {U:Type}{v:U}{P:U->Prop}(h:P v):Gd (some v) P:=⟨v,rfl,h⟩
def Gd.br {U:Type}{c:Bool}{x y:Option U}{P:U->Prop}(a:c=true->Gd x P)(b:c=false->Gd y P):Gd (br c x y) P:=by
 cases c with
 |true=>exact a rfl|false=>exact b rfl
def Gd.ck {U:Type}{c:Bool}{x:Option U}{P:U->Prop}(a:c=true)(b:Gd x P):Gd (ck c x) P:=by subst a;exact b
def Gd.br0 {U:Type}{c:Bool}{x y:Option U}{P:U->Prop}(h:c=false)(a:Gd y P):Gd (Am.br c x y) P:=by subst h;exact a
def amP {ζ V:Type}(X:Nat->Int->ζ->Option V)(L:Nat)(I:Nat->ζ->Prop)(P:V->Prop)
  (c:∀n k z,k<L->I k z->(∀a,I (k+1) a->Gd (X n ((k+1:Nat):Int) a) P)->Gd (X (n+1) (k:Int) z) P) (d:∀n z,I L z->Gd (X (n+1) (L:Int) z) P) :
  ∀n k z,k<=L->I k z->L-k<n->Gd (X n (k:Int) z) P:=by
 intro n
 induction n with
 |zero=>intro k z _ _ h;omega
 |succ n e =>
  intro k z g b i;by_cases h:k=L
  .subst h;exact d n z b
  .exact c n k z (by omega) b fun a f=>e (k+1) a (by omega) f (by omega)
def amQ {c:xx}(h:SG c):Dr (U:=Int) (kH F0 c) fun v=>0<=v/\v<=255:=by obtain⟨v,f,e,a,b,d⟩:=aDY h;exact⟨_,e,⟨a,b⟩,d⟩
def aIT {x y z w:Int}(a:0<=x)(b:x<=255)(c:0<=y)(d:y<=255)(e:0<=z)(f:z<=255)(w0:0<=w)(w1:w<=255):0<=aj (aj (aj (aj (x*16777216)+aj (y*65536))+aj (z*256))+w):=by rw[aG (n:=x*16777216) (by omega) (by omega),aG (n:=y*65536) (by omega) (by omega),aG (n:=z*256) (by omega) (by omega),aG (n:=x*16777216+y*65536) (by omega) (by omega),aG (n:=x*16777216+y*65536+z*256) (by omega) (by omega),aG (by omega) (by omega)];omega
def gZ {c:xx}(h:SG c){n:Int}(a:0<n)(r:n<=9223372036854775807):Dr (U:=Int) (av F0 c n) fun v=>0<=v/\v<n:=by
 by_cases b:n<=256
 .obtain⟨v,s,e,j,k,l⟩:=aqv h a b;exact⟨_,e,⟨j,k⟩,l⟩
 .unfold Dr;rw[S7];refine Gd.br0 (aQ (by omega)) (Gd.br0 (aQ b) ?_);refine Dr.bind (amQ h) fun x d m=>Dr.bind (amQ m) fun y f o=>Dr.bind (amQ o) fun z g p=>Dr.bind (amQ p) fun w i q=>Gd.ck ?_ (Gd.ret ⟨?_,q⟩)
  .rw[bU.2 (show n≠0 by omega)];rfl
  .exact aw5 (aIT d.1 d.2 f.1 f.2 g.1 g.2 i.1 i.2) a
def amR {c:xx}(h:SG c){n:Int}(a:0<n)(b:n<=256):Dr (U:=Bool) (mX F0 c n) fun _=>True:=by obtain⟨v,f,e,d⟩:=aIQ h a b;exact⟨_,e,trivial,d⟩
def ac0 {c:xx}(h:SG c){l:List Int}(a:0<l.length)(b:l.length<=256):Dr (U:=Int) (jL F0 c l) fun v=>v∈l:=by obtain⟨v,g,e,d,f⟩:=aBR h a b;exact⟨_,e,d,f⟩
def aKf {code:List Int}(h:code.length<=1048576):Gd (Ka F0 code) fun z=>SG z.1.1:=by obtain⟨c,e,a⟩:=aKe h;exact⟨_,e,a⟩
def aLe {x y z w:Int}(b:0<=x)(c:x<4)(d:0<=y)(e:y<4)(a:z∈[(0:Int),5,60,100,1000])(w0:0<=w)(w1:w<3):gm (x,y,z,w)=true:=by simp only[cS,abC,or_false]at a;simp only[gm,inB,aF,bW];rcases a with rfl|rfl|rfl|rfl|rfl<;>omega
def aug {c:xx}(h:SG c):Dr (U:=dG) (mh F0 c) fun v=>gm v=true:=by
 unfold Dr;rw[Zk];refine Dr.bind (gZ h (n:=4) (by omega) (by omega)) fun x a e=>Dr.bind (gZ e (n:=4) (by omega) (by omega)) fun y b f=>Dr.bind (ac0 f (l:=[0,5,60,100,1000]) (by decide) (by decide)) fun z g i=>Dr.bind (gZ i (n:=3) (by omega) (by omega)) fun w d j=>Gd.ret ⟨?_,j⟩
 exact aLe a.1 a.2 b.1 b.2 g d.1 d.2
def auh {up:List UInt8}{view:Int}(a:I64 view)(l:List dG):(SJ up view l).length<=up.length+23+91*l.length:=by
 unfold SJ;split
 .rename_i h;exact acZ up a h.1
 .exact aR _
def aqy {l h n:Int}(a:0<=l)(b:l<=h)(c:h<=n):S5 l h n=true:=by simp[S5,a,b,c]
def aqz (l:List UInt8):∀(k:Nat),k<=l.length->(gu l k=0/\∀a,a<k->l.getD a 0≠47)\/(0<gu l k/\gu l k<=k/\l.getD (gu l k-1) 0=47/\∀a,gu l k<=a->a<k->l.getD a 0≠47)
 |0,_=>.inl ⟨rfl,fun a h=>absurd h (S0 _)⟩
 |k+1,n=>by
  have f:∀b:UInt8,((b.toNat:Int) != 47)=true↔b≠47:=by
   intro b;rw[EZ];constructor
   .rintro h rfl;exact h rfl
   .intro h c;refine h (UInt8.toNat_inj.1 ?_);show b.toNat=47;omega
  unfold gu;split
  .rename_i h;rw[f]at h;rcases aqz l k (by omega) with ⟨d,c⟩|⟨d,c,g,i⟩
   .refine .inl ⟨d,fun a o=>?_⟩;by_cases e:a=k
    .rw[e];exact h
    .exact c a (by omega)
   .refine .inr ⟨d,by omega,g,fun a j p=>?_⟩;by_cases e:a=k
    .rw[e];exact h
    .exact i a j (by omega)
  .rename_i h;rw[f]at h;refine .inr ⟨agy _,bF _,axQ fun m=>h m,fun a d c=>by omega⟩
def X6 {l:List UInt8}(h:bg l=true)(b:l≠[]):∃t,(47:UInt8) ∉ t/\l=fL l++47::t:=by
 have j:0<gu l l.length:=by obtain⟨t,rfl⟩:=aqg h b;exact aiy _ (agy _)
 rcases aqz l l.length (bF _) with ⟨k,_⟩|⟨_,m,a,c⟩
 .omega
 .have hlt:gu l l.length-1<l.length:=by omega
  have d:fL l=l.take (gu l l.length-1):=by unfold fL;rw[ag h]
  refine⟨l.drop (gu l l.length),fun f=>?_,?_⟩
  .obtain⟨g,i,e⟩:=ai4 f;rw[List.getElem_drop]at e;rw[bc]at i;refine c (gu l l.length+g) (by omega) (by omega) ?_;rw[EW,n6 (by omega)];exact e
  .rw[d]
   conv=>lhs;rw[<-ZK (gu l l.length-1) l]
   congr 1
   rw[Vi hlt];rw[EW,n6 hlt]at a;rw[show l[gu l l.length-1]=47 from a,show gu l l.length-1+1=gu l l.length by omega]
def C2 {l:List UInt8}(h:bg l=true):bg (fL l)=true:=by
 by_cases a:l=[]
 .subst a;rfl
 .obtain⟨t,b,e⟩:=X6 h a;exact(aqw b (e▸h)).1
def aG2 {l:List UInt8}(h:bg l=true)(a:l≠[]):(fL l).length<l.length:=by obtain⟨t,_,e⟩:=X6 h a;have:=n7 List.length e;rw[aJ,aW]at this;omega
def afU {l:List UInt8}(h:bg l=true)(b:l≠[]):∃x,(a7 l).1=(a7 (fL l)).1++[x]/\aC l=x.1:=by obtain⟨t,c,e⟩:=X6 h b;obtain⟨_,x,a⟩:=aqw c (e▸h);rw[<-e]at a;refine⟨x,a,?_⟩;unfold aC;rw[a,List.getLast?_append];rfl
def aL9 (r:List Rn):Int:=match r.getLast? with|some s=>s.1|none=>0
def aui:∀{ps:List (List UInt8)} {c:Int} {r1:List Rn} {x:Rn},tr ta c ps=some (r1++[x])->(match r1.getLast? with|some s=>s.1|none=>c)<x.1
 |[],c,r1,x,h=>by cases r1<;>cases h
 |p::ps,c,r1,x,h=>by
  unfold tr at h;cases a:ta c p with
  |none=>rw[a]at h;cases h
  |some y =>
   obtain⟨i,b⟩:=y;rw[a]at h;dsimp only at h;have j:=XR a;have hlt:c<b.1:=by
    unfold ta at a;split at a
    .rename_i k;cases a;exact k.2.2.2.1
    .cases a
   cases d:tr ta i ps with
   |none=>rw[d]at h;cases h
   |some r =>
    rw[d]at h;have h:=eR h;cases r1 with
    |nil =>
     obtain⟨e,f⟩:=tz h;rw[<-e];exact hlt
    |cons z r1 =>
     obtain⟨e,f⟩:=tz h;rw[f]at d;have:=aui d;rw[j.2]at this;rw[<-e];cases r1 with
     |nil=>exact this
     |cons w r1 =>
      rw[List.getLast?_cons_cons];cases g:(w::r1).getLast? with
      |none=>exact absurd (List.getLast?_eq_none_iff.1 g) (by simp)
      |some s =>
       rw[g]at this;exact this
def amS {l:List UInt8}(h:bg l=true)(d:l≠[]):aC (fL l)<aC l:=by
 obtain⟨x,b,f⟩:=afU h d;rw[f];have a:=h;unfold bg at a;unfold a7 at a b;rw[af d]at a b;cases e:parts 47 l with
 |nil=>rw[e]at a;cases a
 |cons j g =>
  rw[e]at a b;dsimp only at a b;split at a
  .cases a
  .rename_i i;rw[af i]at b;cases c:tr ta 0 g with
   |none=>rw[c]at a;cases a
   |some r =>
    rw[c]at b;dsimp only at b;rw[show r=_ from b]at c;exact aui c
def aiC (c:UInt8):∀l:List UInt8,l.length+1=((parts c l).map fun p=>p.length+1).sum
 |[]=>rfl|x::l=>by
  have a:=aiC c l;rw[SH];split
  .rw[sZ,Vp,<-a,aW,bm];omega
  .have d:=FV c l;cases b:parts c l with
   |nil=>exact absurd b d
   |cons p e =>
    rw[b]at a;rw[sZ,Vp]at a ⊢;rw[aW,aW];omega
def aBS {U:Type}{f:U->Nat}{b:Nat}:∀{l:List U},(∀x∈l,f x<=b)->(l.map f).sum<=b*l.length
 |[],_=>aR _|x::l,h=>by
  have c:=h x pT;have d:=aBS fun y a=>h y (jH x a)
  rw[sZ,Vp,aW,Nat.mul_succ];omega
def aiD {σ V:Type}{f:σ->List UInt8->Option (σ×V)}{Q:List UInt8->Prop}(e:∀s p c b,f s p=some (c,b)->Q p):∀{P:List (List UInt8)} {s:σ} {r:List V},tr f s P=some r->∀p∈P,Q p
 |[],_,_,_,p,a=>by cases a
 |q::P,s,r,h,p,a=>by
  unfold tr at h;cases d:f s q with
  |none=>rw[d]at h;cases h
  |some y =>
   obtain⟨c,b⟩:=y;rw[d]at h;dsimp only at h;cases g:tr f c P with
   |none=>rw[g]at h;cases h
   |some i =>
    rcases cS.1 a with rfl|a
    .exact e _ _ _ _ d
    .exact aiD e g p a
def aIU {l:List UInt8}(h:(ZH l).2=true):l.length<=90:=by
 unfold ZH at h;split at h
 .rename_i a;rw[<-a.2];exact apY a.1
 .cases h
def aG3 {l:List UInt8}(h:(lH l).2=true):l.length<=91*(lH l).1.length:=by
 unfold lH at h ⊢;split at h
 .rename_i a;rw[ag a,a];exact bF _
 .rename_i a;rw[af a];cases c:tr txF () (parts 44 l) with
  |none=>rw[c]at h;cases h
  |some r =>
   have g:=Rm c;have i:=aiC 44 l;have:=aBS (f:=fun p:List UInt8=>p.length+1) (b:=91) (l:=parts 44 l) (aiD (f:=txF) (Q:=fun p=>p.length+1<=91) (fun s p j b d=>by
    unfold txF at d;split at d
    .rename_i e;have:=aIU e;omega
    .cases d) c)
   dsimp only;omega
def aIV {l:List UInt8}(h:(fx l).2=true):l.length<=6:=by
 unfold fx at h;split at h
 .cases h
 .rename_i a;omega
def aKg (l:List UInt8)(c:UInt8):l.length<=(l.takeWhile (· != c)).length+((l.dropWhile (· != c)).drop 1).length+1:=by have h:=n7 List.length (List.takeWhile_append_dropWhile (p:=(· != c)) (l:=l));rw[aJ]at h;rw[bc];omega
def aG4 {g:Int}{p:List UInt8}{f:Int}{b:Rn}(h:ta g p=some (f,b)):p.length<=189:=by
 unfold ta at h;split at h
 .rename_i a;have c:=aIV a.2.1;have d:=aG3 a.2.2.1;have e:=a.2.2.2.2.2;have i:=aKg p 124;unfold eL at c d e;dsimp only at c d e;omega
 .cases h
def aIW {l:List UInt8}(h:bg l=true):l.length<=5700:=by
 by_cases d:l=[]
 .rw[d];exact aR _
 unfold bg a7 at h;rw[af d]at h;have e:=aiC 47 l;cases g:parts 47 l with
 |nil=>rw[g]at h;cases h
 |cons k a =>
  rw[g]at h e;dsimp only at h;split at h
  .cases h
  .rename_i i;have m:k=[]:=axQ fun c=>i (.inl c)
   have o:¬30<a.length:=fun c=>i (.inr c)
   cases j:tr ta 0 a with
   |none=>rw[j]at h;cases h
   |some r =>
    have:=aBS (f:=fun p:List UInt8=>p.length+1) (b:=190) (l:=a) (aiD (f:=ta) (Q:=fun p=>p.length+1<=190) (fun s p q b n=>by have:=aG4 n;omega) j);rw[sZ,Vp,m,bm]at e;omega
def Pf:Nat->Int->List Int
 |0,v=>[v]|k+1,v=>if v<128 then [v] else (v%128+128)::Pf k (v/128)
def ax (v:Int):List Int:=if 0<=v/\v<=2147483647 then Pf 4 v else []
def aqA:∀(k:Nat) (v:Int),1<=(Pf k v).length/\(Pf k v).length<=k+1
 |0,v=>⟨bF _,bF _⟩|k+1,v=>by
  unfold Pf;have:=aqA k (v/128);split
  .exact⟨bF _,by rw[cR];omega⟩
  .rw[aW];omega
def aqB:∀(k:Nat) (v:Int),0<=v->v<128 ^ (k+1)->∀x∈Pf k v,0<=x/\x<=255
 |0,v,b,c,x,a=>by rw[fM.1 a];have:(128:Int) ^ (0+1)=128:=rfl;omega
 |k+1,v,b,c,x,a=>by
  unfold Pf at a;split at a
  .rw[fM.1 a];omega
  .rcases cS.1 a with rfl|a
   .omega
   .refine aqB k (v/128) (by omega) ?_ x a;have e:(128:Int) ^ (k+1+1)=128 ^ (k+1)*128:=S2 _ _;omega
def b6 (v:Int):(ax v).length<=5:=by
 unfold ax;split
 .exact(aqA 4 v).2
 .exact aR _
def fC (v:Int):∀x∈ax v,0<=x/\x<=255:=by
 unfold ax;split
 .rename_i h;have b:(128:Int) ^ (4+1)=34359738368:=by decide
  exact aqB 4 v h.1 (by omega)
 .intro x a;cases a
def azp:∀(j k:Nat) (v n:Int) (rest:List Int),j+k=4->0<=v->v<128 ^ (j+1)->(k≠0->v≠0)->0<=n->n+v*128 ^ k<=2147483647->Rr (j+1) (Pf j v++rest) k n=some (n+v*128 ^ k,k+(Pf j v).length)
 |0,k,v,n,rest,f,g,i,a,l,b=>by have q:(128:Int) ^ (0+1)=128:=rfl;unfold Pf Rr;rw[List.singleton_append];dsimp only;rw[ag (by omega),af (fun h=>h.elim (fun h=>a h.1 h.2) (fun h=>by omega))];rfl
 |j+1,k,v,n,rest,f,g,i,a,l,b=>by
  unfold Pf;have m:=SC (k:=k) (by omega);have o:(128:Int) ^ (k+1)=128 ^ k*128:=S2 _ _;have r:(128:Int) ^ (j+1+1)=128 ^ (j+1)*128:=S2 _ _;split
  .rename_i c;unfold Rr;rw[List.singleton_append];dsimp only;rw[ag c,af (fun h=>h.elim (fun h=>a h.1 h.2) (fun h=>by omega))];rfl
  .rename_i c;unfold Rr;rw[GV];dsimp only;have p:0<=v%128/\v%128<128:=⟨Vn _ (by omega),am2 _ (by omega)⟩;rw[af (by omega),show(v%128+128)%128=v%128 by omega];have e:v*128 ^ k=v%128*128 ^ k+v/128*128 ^ (k+1):=by
    rw[o];have:v=v%128+128*(v/128):=(Int.emod_add_mul_ediv v 128).symm;generalize (128:Int) ^ k=P at *
    calc v*P=(v%128+128*(v/128))*P:=by rw[<-this]
     _=v%128*P+v/128*(P*128):=by rw[Int.add_mul,Int.mul_comm 128,Int.mul_assoc,Int.mul_comm 128]
   have s:=aqh (d:=v%128) (P:=128 ^ k) p.1 (by omega) m.1;have:=azp j (k+1) (v/128) (n+v%128*128 ^ k) rest (by omega) (by omega) (by omega) (fun _=>by omega) (by omega) (by rw[Int.add_assoc,<-e];exact b);rw[this,Int.add_assoc,<-e,aW]
   congr 2
   omega
def afV {pre rest:List Int}{v:Int}(a:0<=v)(b:v<=2147483647):rr (pre++(ax v++rest)) pre.length=some (v,pre.length+(ax v).length):=by
 have c:(128:Int) ^ (4+1)=34359738368:=by decide
 unfold rr ax;rw[ana,ag ⟨a,b⟩,azp 4 0 v 0 rest rfl a (by omega) (fun h=>absurd rfl h) (Mi _) (by have:(128:Int) ^ 0=1:=rfl;omega)];have:(128:Int) ^ 0=1:=rfl;dsimp only;rw[this,Int.mul_one,Int.zero_add,wG]
def fS (s:ByteArray):List Int:=ax (s.size:Int)++bytesOf s
def X7 (s:ByteArray):(bytesOf s).length=s.size:=by unfold bytesOf;rw[o8];rfl
def asU (s:ByteArray):∀x∈bytesOf s,0<=x/\x<=255:=by intro x a;obtain⟨b,_,rfl⟩:=EY.1 a;have:=UInt8.toNat_lt b;omega
def aFc (s:ByteArray):strOf (bytesOf s)=s:=by
 unfold strOf bytesOf;rw[List.map_map];have:(s.data.toList.map ((fun n:Int=>UInt8.ofNat n.toNat)∘fun b:UInt8=>(b.toNat:Int)))=s.data.toList:=by
  rw[List.map_congr_left (g:=id)]
  .exact List.map_id _
  .intro b _;show UInt8.ofNat ((b.toNat:Int).toNat)=b;rw[ho];exact UInt8.ofNat_toNat
 rw[this]
def aG5 {pre rest:List Int}{s:ByteArray}(h:s.size<=1048576):acT (pre++(fS s++rest)) pre.length=some (s,pre.length+(fS s).length):=by
 have a:=X7 s;unfold acT fS;rw[hl,afV (by omega) (by omega)];dsimp only;rw[af ?_]
 .congr 1
  refine te ?_ ?_
  .show strOf _=s;have e:((pre++(ax (s.size:Int)++(bytesOf s++rest))).take (pre.length+(ax (s.size:Int)).length+((s.size:Int)).toNat)).drop (pre.length+(ax (s.size:Int)).length)=bytesOf s:=by rw[ho,<-hl,<-hl,<-aJ,<-a,<-aJ,abD,ana]
   rw[e,aFc]
  .show _=pre.length+(ax _++bytesOf s).length;rw[aJ,a,ho,Vm]
 .rw[aJ,aJ,aJ,a];omega
def kz {pre rest:List Int}{v:Int}(a:0<=v)(b:v<=2147483647):aT (pre++(ax v++rest)) (pre.length,true)=(v,(pre++ax v).length,true):=by unfold aT;rw[afV a b,aJ];rfl
def SK {pre rest:List Int}{s:ByteArray}(h:s.size<=1048576):cV (pre++(fS s++rest)) (pre.length,true)=(s,(pre++fS s).length,true):=by unfold cV;rw[aG5 h,aJ];rfl
def jx (l:List Int):List Int:=l.flatMap ax
def akg (v:Int):Prop:=0<=v/\v<=2147483647
def aqC:∀(l pre rest xs:List Int) (f:Nat) (i n:Int),(∀x∈l,akg x)->n=i+l.length->l.length<f->ki (pre++(jx l++rest)) n f i (pre.length,true) xs=(xs++l,(pre++jx l).length,true)
 |[],pre,rest,xs,f+1,i,n,_,a,_=>by unfold ki;rw[af (fun h=>by have:=h.1;simp at a;omega)];simp[jx]
 |x::l,pre,rest,xs,f+1,i,n,b,a,d=>by
  have c:=b x pT;unfold ki;rw[aW]at a d;rw[ag ⟨by omega,rfl⟩];have e:pre++(jx (x::l)++rest)=pre++(ax x++(jx l++rest)):=by simp[jx]
  rw[e,kz c.1 c.2];dsimp only;have g:pre++(ax x++(jx l++rest))=(pre++ax x)++(jx l++rest):=by simp
  rw[g,aqC l (pre++ax x) rest (xs++[x]) f (i+1) n (fun y j=>b y (jH _ j)) (by omega) (by omega)];simp[jx]
def Br (l:List Int):List Int:=ax (l.length:Int)++jx l
def aqD (k:Nat)(v:Int):1<=(Pf k v).length:=(aqA k v).1
def aiE:∀{l:List Int},(∀x∈l,akg x)->l.length<=(jx l).length/\(jx l).length<=5*l.length
 |[],_=>⟨bF _,bF _⟩|x::l,h=>by
  have a:=h x pT;have c:=aiE fun y b=>h y (jH _ b)
  have d:1<=(ax x).length/\(ax x).length<=5:=by refine⟨?_,b6 x⟩;unfold ax;rw[ag (show 0<=x/\x<=2147483647 from a)];exact aqD 4 x
  have e:jx (x::l)=ax x++jx l:=rfl;rw[e,aJ,aW];omega
def auj {pre rest l:List Int}(a:∀x∈l,akg x)(h:l.length<=1048576):BY (pre++(Br l++rest)) (pre.length,true)=(l,(pre++Br l).length,true):=by
 unfold BY Br;rw[hl,kz (by omega) (by omega)];dsimp only;have e:pre++(ax (l.length:Int)++(jx l++rest))=(pre++ax (l.length:Int))++(jx l++rest):=by simp
 have:=aiE a;rw[e,aqC l (pre++ax (l.length:Int)) rest [] _ 0 _ a (by omega) (by simp only[aJ];omega)];simp
def kj (q:bZ):List Int:=ax q.1++(fS q.2.1++Br q.2.2)
structure aIX (q:bZ):Prop where
 v:akg q.1
 n:q.2.1.size<=1048576
 w:q.2.2.length<=1048576
 m:∀x∈q.2.2,akg x
def aqE {pre rest:List Int}{q:bZ}(h:aIX q):wD (pre++(kj q++rest)) (pre.length,true)=(q,(pre++kj q).length,true):=by
 unfold wD kj;have a:pre++(ax q.1++(fS q.2.1++Br q.2.2)++rest)=pre++(ax q.1++(fS q.2.1++(Br q.2.2++rest))):=by simp
 have b:pre++(ax q.1++(fS q.2.1++(Br q.2.2++rest)))=(pre++ax q.1)++(fS q.2.1++(Br q.2.2++rest)):=by simp
 have c:pre++(ax q.1++(fS q.2.1++(Br q.2.2++rest)))=(pre++ax q.1++fS q.2.1)++(Br q.2.2++rest):=by simp
 have d:aT (pre++(ax q.1++(fS q.2.1++(Br q.2.2++rest)))) (pre.length,true)=(q.1,(pre++ax q.1).length,true):=kz h.v.1 h.v.2;have e:cV (pre++(ax q.1++(fS q.2.1++(Br q.2.2++rest)))) ((pre++ax q.1).length,true)=(q.2.1,(pre++ax q.1++fS q.2.1).length,true):=by rw[b];exact SK h.n
 have f:BY (pre++(ax q.1++(fS q.2.1++(Br q.2.2++rest)))) ((pre++ax q.1++fS q.2.1).length,true)=(q.2.2,(pre++ax q.1++fS q.2.1++Br q.2.2).length,true):=by rw[c];exact auj h.m h.w
 rw[a,d];dsimp only;rw[e];dsimp only;rw[f];simp
def aw7 {a b:ByteArray}(h:(a.toList==b.toList)=true):a=b:=by have:=UO a.data.toList b.data.toList;rw[<-J8,<-J8,h]at this;rw[J8 a,J8 b,lE this.symm]
def Ru {a b:bZ}(h:gn a b=true):a=b:=by simp only[gn,aF,bf,bW]at h;exact te h.1 (te (aw7 (bf.2 h.2.1)) h.2.2)
def aFd {a b:dG}(h:aix a b=true):a=b:=by simp only[aix,aF,bf]at h;exact te h.1 (te h.2.1 (te h.2.2.1 h.2.2.2.1))
def aw8 {a b:cq}(h:oX a b=true):a=b:=by simp only[oX,aF]at h;exact te (aw7 h.1) (Ru h.2)
def ac1 {a b:b4}(h:sU a b=true):a=b:=by simp only[sU,aF]at h;obtain⟨c,d,e,f,g,i,j⟩:=h;exact te (bf.1 c) (te (bf.1 d) (te (aw8 e) (te (Ru f) (te (Ru g) (te (bf.1 i) (aFd j))))))
def azq {a b:bd}(h:eM a b=true):a=b:=by simp only[eM,aF]at h;obtain⟨c,d,e,f⟩:=h;exact te (bf.1 c) (te (bf.1 d) (te (Ru e) (aw7 f)))
def azr (a:bZ):gn a a=true:=by simp[gn]
def asV (a:bd):eM a a=true:=by simp[eM,azr]
def JM {n:Int}{s:List Int}(h:kf n s=true):∀x∈s,0<=x/\x<n:=by intro x b;obtain⟨k,a,rfl⟩:=ai4 b;have:=ea.1 h k (eS.2 a);rw[EW,n6 a]at this;simp only[aF,bW]at this;exact⟨this.1,this.2.1⟩
def aqF {n:Int}{s:List Int}(h:kf n s=true){k:Nat}(a:k+1<s.length):s[k]<s[k+1]:=by
 have:=ea.1 h (k+1) (eS.2 a);rw[show k+1-1=k from rfl,EW,EW,n6 a,n6 (by omega)]at this;simp only[aF,kB,bW]at this;rcases this.2.2 with h1|h1
 .omega
 .exact h1
def azs {n:Int}{s:List Int}(h:kf n s=true):∀(k:Nat) (a:k<s.length),(k:Int)<=s[k]
 |0,a=>(JM h _ (bP a)).1|k+1,a=>by have b:=azs h k (by omega);have c:=aqF h a;omega
def aiF {n:Int}{s:List Int}(h:kf n s=true):(s.length:Int)<=max n 0:=by
 rcases agt s.length with a|a
 .omega
 .have b:=azs h (s.length-1) (by omega);have c:=(JM h s[s.length-1] (bP _)).2;omega
def oZ {b:ByteArray}(h:bg b.data.toList=true):b.size<=5700:=aIW h
def j4 {c:Int×Int}{q:bZ}(h:eT c q=true):bw c=true/\bg q.2.1.data.toList=true/\aC q.2.1.data.toList=q.1/\(q.2.1.data.toList=[]->q.2.2=[])/\(q.2.1.data.toList≠[]->kf c.1 q.2.2=true/\(q.2.2.length:Int)>=Bp c):=by
 unfold eT ZI at h;simp only[aF,bW]at h;obtain⟨d,e,f,a⟩:=h;refine⟨d,e,f,fun b=>?_,fun b=>?_⟩
 .rw[ag b]at a;exact lE a
 .rw[af b]at a;simp only[aF,bW]at a;exact a
def abr {v:Int}(a:0<=v)(b:v<=1000000):akg v:=⟨a,by omega⟩
def sX {c:Int×Int}{q:bZ}(h:eT c q=true):aIX q/\q.2.2.length<=7/\q.2.1.size<=5700:=by
 obtain⟨f,g,k,i,j⟩:=j4 h;have l:=b5 f;have d:=oZ g;have m:=mS q.2.1.data.toList;by_cases e:q.2.1.data.toList=[]
 .have a:=i e;refine⟨⟨abr (by omega) (by omega),by omega,by rw[a];exact aR _,fun x b=>by rw[a]at b;cases b⟩,by rw[a];exact aR _,d⟩
 .obtain⟨a,_⟩:=j e;have n:=aiF a;refine⟨⟨abr (by omega) (by omega),by omega,by omega,fun x b=>?_⟩,by omega,d⟩;have:=JM a x b;exact abr (by omega) (by omega)
def ru (b:ByteArray):di b=true↔b.data.toList=[]:=by unfold di;have:=UO b.data.toList [];rw[<-J8,show tx []=ak from rfl]at this;rw[this,bW]
def afW {c:Int×Int}{p:bZ}(h:iu c p=true):bw c=true/\1<=p.1/\p.1<=60/\kf c.1 p.2.2=true/\p.2.2≠[]/\bg p.2.1.data.toList=true/\(p.2.1.data.toList≠[]->aC p.2.1.data.toList=p.1):=by
 unfold iu at h;simp only[aF,kB,gE,bW,ai6,bf,bU]at h;obtain⟨b,⟨d,f⟩,g,i,a⟩:=h;refine⟨b,d,f,g,fun e=>i (by rw[e];rfl),?_,fun j=>?_⟩
 .rcases a with a|a
  .rw[(ru _).1 a];exact aqb
  .exact a.1
 .rcases a with a|a
  .exact absurd ((ru _).1 a) j
  .exact a.2
def YX {c:Int×Int}{q:bZ}(h:iu c q=true):aIX q/\q.2.2.length<=7/\q.2.1.size<=5700:=by obtain⟨b,g,i,a,_,d,_⟩:=afW h;have j:=b5 b;have e:=oZ d;have k:=aiF a;refine⟨⟨abr (by omega) (by omega),by omega,by omega,fun x f=>?_⟩,by omega,e⟩;have:=JM a x f;exact abr (by omega) (by omega)
def C3 (m:b4):List Int :=
 ax m.1++(if m.1=1 then fS m.2.2.1.1++kj m.2.2.1.2 else if m.1=2 then kj m.2.2.2.1 else if m.1=3 then ax m.2.1++(ax m.2.2.2.2.2.1++kj m.2.2.2.2.1)
  else ax m.2.2.2.2.2.2.1++(ax m.2.2.2.2.2.2.2.1++(ax m.2.2.2.2.2.2.2.2.1++ax m.2.2.2.2.2.2.2.2.2)))
def afX {v:Int}(h:akg v)(rest:List Int):iE (ax v++rest)=(v,(ax v).length,true):=by have:=kz (pre:=[]) (rest:=rest) h.1 h.2;exact this
def aG6 {c:Int×Int}{m:b4}(h:c8 c m=true):afQ (C3 m)=(m,(C3 m).length,true):=by
 unfold c8 at h;simp only[aF]at h;obtain⟨D,E,d⟩:=h;have q:=ac1 E;obtain⟨aKh,view,⟨f,i⟩,part,b,cv,tx⟩:=m;dsimp only at d q ⊢;by_cases t:aKh=1
 .subst t;rw[ag (by rfl)]at d;simp only[fB,aF]at d;have k:=(sX d.1).1;have Q:=oZ d.2.1;have e:C3 (1,view,(f,i),part,b,cv,tx)=ax 1++(fS f++(kj i++[])):=by simp[C3]
  have l:ax 1++(fS f++(kj i++[]))=(ax 1++fS f)++(kj i++[]):=by simp
  have n:=afX (v:=1) (abr (by decide) (by decide)) (fS f++(kj i++[]));have o:cV (ax 1++(fS f++(kj i++[]))) ((ax 1).length,true)=(f,(ax 1++fS f).length,true):=SK (by omega);have p:wD (ax 1++(fS f++(kj i++[]))) ((ax 1++fS f).length,true)=(i,(ax 1++fS f++kj i).length,true):=by rw[l];exact aqE k
  rw[e];unfold afQ aIK;rw[n];dsimp only;rw[ag (by rfl),o];dsimp only;rw[p];rw[<-q];simp[named]
 .by_cases u:aKh=2
  .subst u;rw[af (by decide),ag (by rfl)]at d;simp only[aF]at d;have k:=(YX d.1).1;obtain⟨a,g,j⟩:=part;have e:C3 (2,view,(f,i),(a,g,j),b,cv,tx)=ax 2++(ax a++(fS g++(Br j++[]))):=by simp[C3,kj]
   have l:ax 2++(ax a++(fS g++(Br j++[])))=(ax 2++ax a)++(fS g++(Br j++[])):=by simp
   have r:ax 2++(ax a++(fS g++(Br j++[])))=(ax 2++ax a++fS g)++(Br j++[]):=by simp
   have n:=afX (v:=2) (abr (by decide) (by decide)) (ax a++(fS g++(Br j++[])));have o:aT (ax 2++(ax a++(fS g++(Br j++[])))) ((ax 2).length,true)=(a,(ax 2++ax a).length,true):=kz k.v.1 k.v.2;have p:cV (ax 2++(ax a++(fS g++(Br j++[])))) ((ax 2++ax a).length,true)=(g,(ax 2++ax a++fS g).length,true):=by rw[l];exact SK k.n
   have s:BY (ax 2++(ax a++(fS g++(Br j++[])))) ((ax 2++ax a++fS g).length,true)=(j,(ax 2++ax a++fS g++Br j).length,true):=by rw[r];exact auj k.m k.w
   rw[e];unfold afQ aIL;rw[n];dsimp only;rw[af (by decide),ag (by rfl),o];dsimp only;rw[p];dsimp only;rw[s];rw[<-q];simp[named]
  .by_cases w:aKh=3
   .subst w;rw[af (by decide),af (by decide),ag (by rfl)]at d;simp only[aF,gE,bW]at d;obtain⟨⟨R,S⟩,k,⟨F,G⟩⟩:=d;have x:=b5 D;rw[XW x.1 x.2.1]at G;have k:=(sX k).1;have y:akg cv:=abr F (by omega);have e:C3 (3,view,(f,i),part,b,cv,tx)=ax 3++(ax view++(ax cv++(kj b++[]))):=by simp[C3]
    have l:ax 3++(ax view++(ax cv++(kj b++[])))=(ax 3++ax view)++(ax cv++(kj b++[])):=by simp
    have r:ax 3++(ax view++(ax cv++(kj b++[])))=(ax 3++ax view++ax cv)++(kj b++[]):=by simp
    have n:=afX (v:=3) (abr (by decide) (by decide)) (ax view++(ax cv++(kj b++[])));have o:aT (ax 3++(ax view++(ax cv++(kj b++[])))) ((ax 3).length,true)=(view,(ax 3++ax view).length,true):=kz (by omega) (by omega);have p:aT (ax 3++(ax view++(ax cv++(kj b++[])))) ((ax 3++ax view).length,true)=(cv,(ax 3++ax view++ax cv).length,true):=by rw[l];exact kz y.1 y.2
    have s:wD (ax 3++(ax view++(ax cv++(kj b++[])))) ((ax 3++ax view++ax cv).length,true)=(b,(ax 3++ax view++ax cv++kj b).length,true):=by rw[r];exact aqE k
    rw[e];unfold afQ aIM;rw[n];dsimp only;rw[af (by decide),af (by decide),ag (by rfl),o];dsimp only;rw[p];dsimp only;rw[s];rw[<-q];simp[named]
   .rw[af (by simpa using t),af (by simpa using u),af (by simpa using w)]at d;simp only[aF,bf]at d;obtain⟨H,I⟩:=d;subst H;obtain⟨t1,t2,t3,t4⟩:=tx;obtain⟨⟨z,K⟩,⟨A,L⟩,⟨B,M⟩,⟨C,N⟩⟩:=mR I;dsimp only at z K A L B M C N;have e:C3 (4,view,(f,i),part,b,cv,t1,t2,t3,t4)=ax 4++(ax t1++(ax t2++(ax t3++(ax t4++[])))):=by simp[C3]
    have l:ax 4++(ax t1++(ax t2++(ax t3++(ax t4++[]))))=(ax 4++ax t1)++(ax t2++(ax t3++(ax t4++[]))):=by simp
    have r:ax 4++(ax t1++(ax t2++(ax t3++(ax t4++[]))))=(ax 4++ax t1++ax t2)++(ax t3++(ax t4++[])):=by simp
    have O:ax 4++(ax t1++(ax t2++(ax t3++(ax t4++[]))))=(ax 4++ax t1++ax t2++ax t3)++(ax t4++[]):=by simp
    have n:=afX (v:=4) (abr (by decide) (by decide)) (ax t1++(ax t2++(ax t3++(ax t4++[]))));have o:aT (ax 4++(ax t1++(ax t2++(ax t3++(ax t4++[]))))) ((ax 4).length,true)=(t1,(ax 4++ax t1).length,true):=kz z (by omega);have p:aT (ax 4++(ax t1++(ax t2++(ax t3++(ax t4++[]))))) ((ax 4++ax t1).length,true)=(t2,(ax 4++ax t1++ax t2).length,true):=by rw[l];exact kz A (by omega)
    have s:aT (ax 4++(ax t1++(ax t2++(ax t3++(ax t4++[]))))) ((ax 4++ax t1++ax t2).length,true)=(t3,(ax 4++ax t1++ax t2++ax t3).length,true):=by rw[r];exact kz B (by omega)
    have P:aT (ax 4++(ax t1++(ax t2++(ax t3++(ax t4++[]))))) ((ax 4++ax t1++ax t2++ax t3).length,true)=(t4,(ax 4++ax t1++ax t2++ax t3++ax t4).length,true):=by rw[O];exact kz C (by omega)
    rw[e];unfold afQ aIN;rw[n];dsimp only;rw[af (by decide),af (by decide),af (by decide),ag (by rfl),o];dsimp only;rw[p];dsimp only;rw[s];dsimp only;rw[P];rw[<-q];simp[named]
def aiG {c:Int×Int}{m:b4}(h:c8 c m=true):gv c (C3 m)=(m,true):=by unfold gv fin;rw[aG6 h];dsimp only;rw[ag ⟨rfl,rfl,h⟩]
def e7 {a b:List Int}(c:∀x∈a,0<=x/\x<=255)(d:∀x∈b,0<=x/\x<=255):∀x∈a++b,0<=x/\x<=255:=fun x e=>(gF.1 e).elim (c x) (d x)
def ac2 (s:ByteArray):∀x∈fS s,0<=x/\x<=255:=e7 (fC _) (asU s)
def azt (l:List Int):∀x∈jx l,0<=x/\x<=255:=fun x a=>by obtain⟨y,_,h⟩:=List.mem_flatMap.1 a;exact fC y x h
def SL (q:bZ):∀x∈kj q,0<=x/\x<=255:=e7 (fC _) (e7 (ac2 _) (e7 (fC _) (azt _)))
def X8 (s:ByteArray):(fS s).length<=s.size+5:=by have:=b6 (s.size:Int);unfold fS;rw[aJ,X7];omega
def X9 {q:bZ}(h:aIX q):(kj q).length<=q.2.1.size+5*q.2.2.length+15:=by have a:=b6 q.1;have b:=X8 q.2.1;have c:=b6 (q.2.2.length:Int);have d:=(aiE h.m).2;unfold kj Br;rw[aJ,aJ,aJ];omega
def aqG {c:Int×Int}{m:b4}(h:c8 c m=true):(C3 m).length<=12000/\(∀x∈C3 m,0<=x/\x<=255)/\1<=(C3 m).length:=by
 unfold c8 at h;simp only[aF]at h;obtain⟨l,_,a⟩:=h;have n:=b6 m.1;have pos:m.1=1\/m.1=2\/m.1=3\/m.1=4:=by
  by_cases e:m.1=1
  .exact .inl e
  .by_cases f:m.1=2
   .exact .inr (.inl f)
   .by_cases g:m.1=3
    .exact .inr (.inr (.inl g))
    .rw[af (by simpa using e),af (by simpa using f),af (by simpa using g)]at a;simp only[aF,bf]at a;exact .inr (.inr (.inr a.1))
 have one:1<=(ax m.1).length:=by unfold ax;rw[ag (by omega)];exact aqD 4 _
 unfold C3;refine⟨?_,e7 (fC _) ?_,by rw[aJ];omega⟩
 .rw[aJ];rcases pos with k|k|k|k
  .rw[ag (by simpa using k)]at a;simp only[fB,aF]at a;have b:=sX a.1;have o:=oZ a.2.1;have i:=X8 m.2.2.1.1;have d:=X9 b.1;rw[ag k,aJ];omega
  .rw[af (by simp[k]),ag (by simpa using k)]at a;simp only[aF]at a;have b:=YX a.1;have d:=X9 b.1;rw[af (by omega),ag k];omega
  .rw[af (by simp[k]),af (by simp[k]),ag (by simpa using k)]at a;simp only[aF]at a;have b:=sX a.2.1;have i:=b6 m.2.1;have j:=b6 m.2.2.2.2.2.1;have d:=X9 b.1;rw[af (by omega),af (by omega),ag k,aJ,aJ];omega
  .have i:=b6 m.2.2.2.2.2.2.1;have d:=b6 m.2.2.2.2.2.2.2.1;have j:=b6 m.2.2.2.2.2.2.2.2.1;have p:=b6 m.2.2.2.2.2.2.2.2.2;rw[af (by omega),af (by omega),af (by omega),aJ,aJ,aJ];omega
 .split
  .exact e7 (ac2 _) (SL _)
  .split
   .exact SL _
   .split
    .exact e7 (fC _) (e7 (fC _) (SL _))
    .exact e7 (fC _) (e7 (fC _) (e7 (fC _) (fC _)))
def dz (s:bd):List Int:=ax s.1++(ax s.2.1++(kj s.2.2.1++fS s.2.2.2))
def cL {c:Int×Int}{s:bd}(h:bh c s=true):(0<=s.1/\s.1<=60)/\(0<=s.2.1/\s.2.1<=60)/\eT c s.2.2.1=true/\bg s.2.2.2.data.toList=true:=by simp only[bh,gE,aF,bW]at h;exact h
def aFe {c:Int×Int}{s:bd}(h:bh c s=true):L4 (dz s)=(s,(dz s).length,true):=by
 obtain⟨⟨b,g⟩,⟨f,i⟩,a,j⟩:=cL h;have a:=(sX a).1;have k:=oZ j;obtain⟨v,l,q,d⟩:=s;dsimp only at b g f i a k ⊢;have e:dz (v,l,q,d)=ax v++(ax l++(kj q++(fS d++[]))):=by simp[dz]
 have m:ax v++(ax l++(kj q++(fS d++[])))=(ax v++ax l)++(kj q++(fS d++[])):=by simp
 have n:ax v++(ax l++(kj q++(fS d++[])))=(ax v++ax l++kj q)++(fS d++[]):=by simp
 have o:=afX (v:=v) ⟨b,by omega⟩ (ax l++(kj q++(fS d++[])));have p:aT (ax v++(ax l++(kj q++(fS d++[])))) ((ax v).length,true)=(l,(ax v++ax l).length,true):=kz f (by omega);have r:wD (ax v++(ax l++(kj q++(fS d++[])))) ((ax v++ax l).length,true)=(q,(ax v++ax l++kj q).length,true):=by rw[m];exact aqE a
 have t:cV (ax v++(ax l++(kj q++(fS d++[])))) ((ax v++ax l++kj q).length,true)=(d,(ax v++ax l++kj q++fS d).length,true):=by rw[n];exact SK (by omega)
 rw[e];unfold L4;rw[o];dsimp only;rw[p];dsimp only;rw[r];dsimp only;rw[t];simp
def aBT {c:Int×Int}{s:bd}(h:bh c s=true):n2 c (dz s)=(s,true):=by unfold n2;rw[aFe h];dsimp only;rw[ag ⟨rfl,rfl,h⟩]
def Rv {c:Int×Int}{s:bd}(h:bh c s=true):1<=(dz s).length/\(dz s).length<=12000:=by
 obtain⟨⟨d,e⟩,_,a,b⟩:=cL h;have a:=sX a;have f:=oZ b;have g:=b6 s.1;have i:=b6 s.2.1;have j:=X9 a.1;have k:=X8 s.2.2.2;have one:1<=(ax s.1).length:=by unfold ax;rw[ag (by omega)];exact aqD 4 _
 unfold dz;rw[aJ,aJ,aJ];omega
def azu (s:bd):∀x∈dz s,0<=x/\x<=255:=e7 (fC _) (e7 (fC _) (e7 (SL _) (ac2 _)))
def dA (s:bd):List Int:=ax ((dz s).length:Int)++(dz s++[10])
def ca (l:List bd):List Int:=l.flatMap dA
def azv (s:bd):∀x∈dA s,0<=x/\x<=255:=e7 (fC _) (e7 (azu s) fun x a=>by rw[fM.1 a];omega)
def aiH {c:Int×Int}{s:bd}(h:bh c s=true):1<=(dA s).length/\(dA s).length<=12010:=by have a:=Rv h;have b:=b6 ((dz s).length:Int);unfold dA;rw[aJ,aJ,cR];omega
def aFf {c:Int×Int}{s:bd}(h:bh c s=true)(pre rest:List Int):HT c (pre++(dA s++rest)) pre.length=some (s,(pre++dA s).length):=by
 have g:=Rv h;have e:pre++(dA s++rest)=pre++(ax ((dz s).length:Int)++(dz s++(10::rest))):=by simp[dA]
 have b:=afV (pre:=pre) (rest:=dz s++(10::rest)) (v:=((dz s).length:Int)) (by omega) (by omega);rw[e,CZ b];have a:pre++(ax ((dz s).length:Int)++(dz s++(10::rest)))=(pre++ax ((dz s).length:Int))++(dz s++(10::rest)):=by simp
 have d:X4 (pre++(ax ((dz s).length:Int)++(dz s++(10::rest)))) (pre.length+(ax ((dz s).length:Int)).length) (pre.length+(ax ((dz s).length:Int)).length+((dz s).length:Int).toNat)=dz s:=by unfold X4;rw[a,ho,<-aJ,<-hl,<-aJ,abD,ana]
 have f:(pre++(ax ((dz s).length:Int)++(dz s++(10::rest)))).getD (pre.length+(ax ((dz s).length:Int)).length+((dz s).length:Int).toNat) 0=10:=by rw[a,ho,<-aJ,<-hl,<-aJ,EW,axP (bF _),Nat.sub_self];rfl
 rw[d,f,aBT h,af ?_,af (by decide),ag rfl,ho]
 .simp only[dA,aJ,cR]
  congr 2
  omega
 .simp only[aJ,aW];omega
def auk:∀(i k:Nat) (v:Int) (j q:Nat) (n:Int),k<(Pf i v).length->0<=v->Rr j ((Pf i v).take k) q n=none
 |i,0,v,j,q,n,_,_=>by rw[List.take_zero];cases j<;>rfl
 |0,k+1,v,j,q,n,a,_=>by unfold Pf at a;rw[cR]at a;omega
 |i+1,k+1,v,j,q,n,a,c=>by
  unfold Pf at a ⊢;split at a
  .rw[cR]at a;omega
  .rename_i b;rw[af b,auS];cases j with
   |zero=>rfl
   |succ j =>
    unfold Rr;rw[aW]at a;have:=Vn v (show(128:Int)≠0 by decide);rw[af (by omega)];exact auk i k (v/128) j (q+1) _ (by omega) (by omega)
def aBU {c:Int×Int}{s:bd}(h:bh c s=true)(pre:List Int){k:Nat}(f:k<(dA s).length):HT c (pre++(dA s).take k) pre.length=none:=by
 have g:=Rv h;by_cases a:k<(ax ((dz s).length:Int)).length
 .refine C0 ?_;unfold rr;rw[ana];have e:(dA s).take k=(ax ((dz s).length:Int)).take k:=by unfold dA;rw[aCH (by omega)]
  rw[e];have b:ax ((dz s).length:Int)=Pf 4 ((dz s).length:Int):=by unfold ax;rw[ag (by omega)]
  rw[b]at a ⊢;rw[auk 4 k _ 5 0 0 a (by omega)]
 .have e:(dA s).take k=ax ((dz s).length:Int)++(dz s++[10]).take (k-(ax ((dz s).length:Int)).length):=by unfold dA;rw[auY,am1 (by omega)]
  have hlen:(dA s).length=(ax ((dz s).length:Int)).length+((dz s).length+1):=by simp[dA]
  have d:=afV (pre:=pre) (rest:=(dz s++[10]).take (k-(ax ((dz s).length:Int)).length)) (v:=((dz s).length:Int)) (by omega) (by omega);rw[e,CZ d,ag ?_];rw[aJ,aJ,bB,aJ,cR];omega
def aFg {c:Int×Int}(pre:List Int):HT c pre pre.length=none:=by refine C0 ?_;unfold rr;rw[Vl];rfl
def aKi (c:Int×Int)(t:List Int):Prop:=t=[]\/∃s k,bh c s=true/\k<(dA s).length/\t=(dA s).take k
def akh {c:Int×Int}{t:List Int}(a:aKi c t):∀(l:List bd) (pre:List Int) (f:Nat) (s:bd),(∀x∈l,bh c x=true)->l.length<f ->
  FX c (pre++(ca l++t)) f s pre.length=(l.getLastD s,(pre++ca l).length)
 |[],pre,f+1,s,_,_=>by
  have d:HT c (pre++(ca []++t)) pre.length=none:=by
   rcases a with rfl|⟨x,k,g,h,rfl⟩
   .have:pre++(ca []++[])=pre:=by simp[ca]
    rw[this];exact aFg pre
   .exact aBU g pre h
  rw[iv d];simp[ca]
 |x::l,pre,f+1,s,b,i=>by
  have j:=b x pT;have e:pre++(ca (x::l)++t)=pre++(dA x++(ca l++t)):=by simp[ca]
  have m:pre++(dA x++(ca l++t))=(pre++dA x)++(ca l++t):=by simp
  have n:(pre++ca (x::l)).length=(pre++dA x++ca l).length:=by simp[ca]
  rw[aW]at i;rw[e,C1 (aFf j pre (ca l++t)),m,n,akh a l (pre++dA x) f x (fun y o=>b y (jH _ o)) (by omega)];cases l<;>rfl
def ac3 {c:Int×Int}:∀{l:List bd},(∀x∈l,bh c x=true)->l.length<=(ca l).length
 |[],_=>bF _|x::l,h=>by
  have b:=aiH (h x pT);have d:=ac3 fun y a=>h y (jH _ a)
  have e:ca (x::l)=dA x++ca l:=rfl;rw[e,aJ,aW];omega
def L7 {c:Int×Int}{t:List Int}(b:aKi c t){l:List bd}(a:∀x∈l,bh c x=true):dU c (ca l++t)=(l.getLastD j8,(ca l).length):=by have:=akh b l [] ((ca l++t).length+1) j8 a (by have:=ac3 a;rw[aJ];omega);rw[BA,BA]at this;exact this
def ac4 {c:Int×Int}:∀{l:List bd} (k:Nat),(∀x∈l,bh c x=true)->∃i t,i<=l.length/\aKi c t/\(ca l).take k=ca (l.take i)++t/\(ca (l.take i)).length<=k/\∀a,a<=l.length->(ca (l.take a)).length<=k->a<=i\/ca (l.take a)=ca (l.take i)
 |[],k,_=>⟨0,[],bF _,.inl rfl,by simp[ca],aR _,fun a d _=>.inl d⟩
 |x::l,k,h=>by
  have g:=h x pT;have hlen:=aiH g;have e:ca (x::l)=dA x++ca l:=rfl;by_cases m:k<(dA x).length
  .refine⟨0,(dA x).take k,aR _,.inr ⟨x,k,g,m,rfl⟩,?_,aR _,fun a d f=>?_⟩
   .rw[e,aCH (by omega)];rfl
   .cases a with
    |zero=>exact .inl (bF _)
    |succ a =>
     rw[auS]at f;have b:ca (x::l.take a)=dA x++ca (l.take a):=rfl;rw[b,aJ]at f;omega
  .obtain⟨i,t,r,n,o,s,p⟩:=ac4 (k-(dA x).length) fun y q=>h y (jH x q)
   have b:∀a,ca ((x::l).take (a+1))=dA x++ca (l.take a):=fun a=>rfl
   refine⟨i+1,t,by rw[aW];omega,n,?_,?_,fun a d f=>?_⟩
   .rw[e,b,auY,am1 (by omega),o,hl]
   .rw[b,aJ];omega
   .cases a with
    |zero=>exact .inl (aR _)
    |succ a =>
     rw[b,aJ]at f;rw[aW]at d;rcases p a (by omega) (by omega) with j|j
     .exact .inl (by omega)
     .exact .inr (by rw[b,b,j])
def aBV {U V γ:Type}(X:Nat->Int->List V->Option γ)(a:List U)(f:U->V)(R:Option γ)
  (c:∀n k xs (h:k<a.length),xs.length=k->X (n+1) (k:Int) xs=X n ((k+1:Nat):Int) (xs++[f a[k]])) (d:∀n,X (n+1) (a.length:Int) (a.map f)=R) (n:Nat) (e:a.length<n):X n 0 []=R:=by
 refine cu X a.length (fun k xs=>xs=(a.take k).map f) R (fun n k xs b h=>.inr ⟨_,c n k xs b (by rw[h,o8,bB];omega),?_⟩) (fun n xs h=>?_) n 0 [] (aR _) rfl (by omega)
 .rw[ee b,adr,h];rfl
 .rw[h,kc];exact d n
def aki {U γ:Type}(X:Nat->Int->List U->Option γ)(a:List U)(R:Option γ)
  (b:∀n k xs (h:k<a.length),xs.length=k->X (n+1) (k:Int) xs=X n ((k+1:Nat):Int) (xs++[a[k]])) (c:∀n,X (n+1) (a.length:Int) a=R) (n:Nat) (d:a.length<n):X n 0 []=R :=
 aBV X a id R b (fun n=>by rw[List.map_id];exact c n) n d
def amT {U γ:Type}(X:Nat->Int->List U->Option γ)(a:List U)(p:U->Bool)(R:Option γ)
  (c:∀n k xs (h:k<a.length),xs.length<=k->X (n+1) (k:Int) xs=X n ((k+1:Nat):Int) (if p a[k]=true then xs++[a[k]] else xs)) (d:∀n,X (n+1) (a.length:Int) (a.filter p)=R) (n:Nat) (f:a.length<n):X n 0 []=R:=by
 refine cu X a.length (fun k xs=>xs=(a.take k).filter p) R (fun n k xs b h=>.inr ⟨_,c n k xs b (by rw[h];exact bY (am3 _ _) (by rw[bB];omega)),?_⟩) (fun n xs h=>?_) n 0 [] (aR _) rfl (by omega)
 .rw[ee b,List.filter_append,h];cases e:p a[k]<;>simp[e]
 .rw[h,kc];exact d n
def wE {q:bZ}(h:q.2.2.length<=1048576):iY F0 q=some (q,()):=by rw[aoh,ar (a:=0) (by omega) (by omega) (by omega),ab];rfl
def nh {q:bZ}(h:q.2.2.length<=1048576):gy F0 q=some (q,()):=by rw[ak6,ar (a:=0) (by omega) (by omega) (by omega),ab];rfl
def w8 {q:bZ}(h:q.2.2.length<=1048576):gU F0 q=some (q,()):=ap9 (by omega)
def Bs {q:bZ}(h:q.2.2.length<=1048576):fh F0 q=some (q,()):=by rw[ahJ,n1 (by omega),ai]
def Oy {s:bd}(h:kg s):nu F0 s=some (s,()):=by rw[ak5,wE h.1.2,ai]
def Jq {s:bd}(h:kg s):ly F0 s=some (s,()):=by rw[ahI,w8 h.1.2,ai]
def afY {l:List bZ}(h:l.length<=1048576)(b:∀q∈l,uc q):gz F0 l=some (l,()):=by
 rw[agZ];refine aki (fun n k xs=>uE F0 (yD F0) n (pd l k xs)) l _ (fun n k xs a c=>?_) (fun n=>?_) _ (by rw[bz];omega)
 .rw[Fb,aM a,ae,an a,ab,aV a,nh (b _ (bP a)).2,ai,ar (by omega) (by omega) (by simp only[aW,bm];omega),ab,al (by omega)]
 .rw[Fb,aB,aa,Zg]
def abt {l:List bZ}(h:l.length<=1048576)(b:∀q∈l,uc q):eJ F0 l=some (l,()):=by
 rw[aeR];refine aki (fun n k xs=>so F0 (wj F0) n (nK l (l.length:Int) k xs)) l _ (fun n k xs a c=>?_) (fun n=>?_) _ (by rw[bz];omega)
 .rw[BJ,aM a,ae,an a,ab,aV a,Bs (b _ (bP a)).2,ai,ar (by omega) (by omega) (by simp only[aW,bm];omega),ab,al (by omega)]
 .rw[BJ,aB,aa,W8]
def Oz {d:List Int×Int}(h:d.1.length<=1048576):iL F0 d=some (d,()):=by rw[ak7,ar (a:=0) (by omega) (by omega) (by omega),ab];rfl
def Jr {d:List Int×Int}(h:d.1.length<=1048576):lz F0 d=some (d,()):=by rw[ahK,ar (a:=0) (by omega) (by omega) (by omega),ab];rfl
def Ya {l:List dG}(h:l.length<=1048576):iP F0 l=some (l,()):=by rw[alW,ar (a:=0) (by omega) (by omega) (by omega),ab];rfl
def aBW {b:cq}(h:b.2.2.2.length<=1048576):MG F0 b=some (b,()):=by rw[aoi,wE h,ai]
def asW {b:cq}(h:b.2.2.2.length<=1048576):AD F0 b=some (b,()):=by rw[aeS,w8 h,ai]
def akj {m:b4}(h:fU m):yF F0 m=some (m,()):=by rw[ak8,aBW h.2.1.2,ai,nh h.2.2.1.2,ai,wE h.2.2.2.2,ai]
def akk {m:b4}(h:fU m):AE F0 m=some (m,()):=by rw[alX,asW h.2.1.2,ai,Bs h.2.2.1.2,ai,w8 h.2.2.2.2,ai]
def afZ {l:List jw}(h:l.length<=1048576)(b:∀q∈l,fU q.2):tG F0 l=some (l,()):=by
 rw[ag0];refine aki (fun n k xs=>uI F0 (yG F0) n (pe l k xs)) l _ (fun n k xs a c=>?_) (fun n=>?_) _ (by rw[bz];omega)
 .rw[Fc,aM a,ae,an a,ab,ab,aV a,akj (b _ (bP a)),ai,ar (by omega) (by omega) (by simp only[aW,bm];omega),ab,al (by omega)]
 .rw[Fc,aB,aa,Zh]
def asX {l:List jw}(h:l.length<=1048576)(b:∀q∈l,fU q.2):AF F0 l=some (l,()):=by
 rw[aeU];refine aki (fun n k xs=>sw F0 (wo F0) n (nL l (l.length:Int) k xs)) l _ (fun n k xs a c=>?_) (fun n=>?_) _ (by rw[bz];omega)
 .rw[BK,aM a,ae,an a,ab,aV a,akk (b _ (bP a)),ai,ar (by omega) (by omega) (by simp only[aW,bm];omega),ab,al (by omega)]
 .rw[BK,aB,aa,Xa]
structure aFh (r:aw):Prop where
 l:amw r
 d:dj r.2.2.2.2.2.2.1.1
def dV {r:aw}(h:aFh r):ba F0 r=some (r,()):=by rw[ak9,Oy h.l.s,ai,ar (a:=0) (by omega) (by omega) (by have:=h.l.p;omega),ab,afY h.l.t h.l.tq,ai,Oz h.d.1,ai,afZ h.l.h h.l.hm,ai];rfl
def dW {r:aw}(h:aFh r):az F0 r=some (r,()):=by rw[alY,Jq h.l.s,ai,Ya h.l.p,ai,abt h.l.t h.l.tq,ai,Jr h.d.1,ai,asX h.l.h h.l.hm,ai]
def af0 {x:gr}(h:x.2.length<=1048576):tP F0 x=some (x,()):=by rw[ahL,ar (a:=0) (by omega) (by omega) (by omega),ab];rfl
structure Pg (w:ah):Prop where
 l:j2 w
 b:∀r∈w.2.2.1,dj r.2.2.2.2.2.2.1.1
def Pg.rep {w:ah}(h:Pg w){r:aw}(a:r∈w.2.2.1):aFh r:=⟨h.l.rl r a,h.b r a⟩
def lD {w:ah}(h:Pg w):aS F0 w=some (w,()):=by
 have d:=h.l.l;have e:=h.l.r;have f:=h.l.n;have g:=h.l.s;rw[aeW,n1 (by omega),ai,ar (a:=0) (by omega) (by omega) (by omega),ab];refine aki (fun n k xs=>sy F0 (wu F0) n (nN w w.2.2.1 (w.2.2.1.length:Int) k 0 0 w.1.1 w.1.2 [] [] [] [] w.2.1 xs [] ([]++w.2.2.2.2))) w.2.2.1 _ (fun n k xs b c=>?_) (fun n=>?_) _ (by rw[bz];omega)
 .rw[BM,aM b,ae,an b,ab,aV b,dW (h.rep (bP b)),ai,ar (by omega) (by omega) (by simp only[aW,bm];omega),ab,al (by omega)]
 .rw[BM,aB,aa,Xd];refine aki (fun n k xs=>sx F0 (wq F0) n (nM w.2.2.2.1 (w.2.2.2.1.length:Int) k 0 0 w.1.1 w.1.2 [] [] [] [] w.2.1 w.2.2.1 xs ([]++w.2.2.2.2))) w.2.2.2.1 _ (fun n k xs b c=>?_) (fun n=>?_) _ (by rw[bz];omega)
  .rw[BL,aM b,ae,an b,ab,aV b,af0 (h.l.nb _ (bP b)).1,ai,ar (by omega) (by omega) (by simp only[aW,bm];omega),ab,al (by omega)]
  .rw[BL,aB,aa,Xc];rfl
def akl {w:ah}(h:Pg w):yK F0 w=some (w,()):=by
 have d:=h.l.l;have e:=h.l.r;have f:=h.l.n;have g:=h.l.s;rw[ala,ar (a:=0) (by omega) (by omega) (by omega),ab,ar (a:=0) (by omega) (by omega) (by omega),ab];refine aki (fun n k xs=>yJ F0 (Cm F0) n (rP w k 0 0 w.1.1 w.1.2 [] [] [] [] ([]++w.2.1) xs [] ([]++w.2.2.2.2))) w.2.2.1 _ (fun n k xs b c=>?_) (fun n=>?_) _ (by rw[bz];omega)
 .rw[G6,aM b,ae,an b,ab,aV b,dV (h.rep (bP b)),ai,ar (by omega) (by omega) (by simp only[aW,bm];omega),ab,al (by omega)]
 .rw[G6,aB,aa,ab5];refine aki (fun n k xs=>yI F0 (Cl F0) n (rO w k 0 0 w.1.1 w.1.2 [] [] [] [] ([]++w.2.1) w.2.2.1 xs ([]++w.2.2.2.2))) w.2.2.2.1 _ (fun n k xs b c=>?_) (fun n=>?_) _ (by rw[bz];omega)
  .have i:=(h.l.nb _ (bP b)).1;rw[G5,aM b,ae,an b,ab,ab,aV b,ar (a:=0) (by omega) (by omega) (by omega),ab,ar (by omega) (by omega) (by simp only[aW,bm];omega),ab,al (by omega)];rfl
  .rw[G5,aB,aa,ab4];rfl
def YY {n:Int}(a:0<=n)(b:n<=255):IntKind.wrap .u8 n=n:=by simp[IntKind.wrap,IntKind.signed,IntKind.bits];omega
def azw:∀(k:Nat) (v:Int) (xs:List Int) (n:Nat),0<=v->v<128 ^ (k+1)->xs.length+k<=1000->k<n->k<=4->DL F0 (Gs F0) n (uY v xs)=some (xs++Pf k v,())
 |0,v,xs,n,a,c,d,e,f=>by obtain⟨n,rfl⟩:∃m,n=m+1:=⟨n-1,by omega⟩;have g:(128:Int) ^ (0+1)=128:=rfl;rw[KG,aQ (show ¬v>127 by omega),aa,MS,ar (by omega) (by omega) (by first|omega|(simp only[aJ,aW,bm];omega)|(rw[bc,bB];omega)),ab,YY a (by omega)];rfl
 |k+1,v,xs,n,a,c,d,e,f=>by
  obtain⟨n,rfl⟩:∃m,n=m+1:=⟨n-1,by omega⟩;have h:=SC (k:=k) (by omega);have g:(128:Int) ^ (k+1)=128 ^ k*128:=S2 _ _;have i:(128:Int) ^ (k+1+1)=128 ^ (k+1)*128:=S2 _ _;rw[KG];unfold Pf;by_cases b:v<128
  .rw[aQ (show ¬v>127 by omega),aa,MS,ar (by omega) (by omega) (by first|omega|(simp only[aJ,aW,bm];omega)|(rw[bc,bB];omega)),ab,YY a (by omega),ag b]
  .rw[aL (show v>127 by omega),ae,ar (by omega) (by omega) (by first|omega|(simp only[aJ,aW,bm];omega)|(rw[bc,bB];omega)),ab,am0 a,aG (n:=v/128) (by omega) (by omega),amZ a,
    aG (n:=v%128+128) (by omega) (by omega),YY (by omega) (by omega),azw k (v/128) (xs++[v%128+128]) n (by omega) (by omega) (by rw[aJ,cR];omega) (by omega) (by omega),af b,hl]
   rfl
def azx:∀(k:Nat) (v:Int) (xs:List Int) (n:Nat),0<=v->v<128 ^ (k+1)->xs.length+k<=1000->k<n->k<=4->tN F0 (vl F0) n (ow v xs)=some (xs++Pf k v,())
 |0,v,xs,n,a,c,d,e,f=>by obtain⟨n,rfl⟩:∃m,n=m+1:=⟨n-1,by omega⟩;have g:(128:Int) ^ (0+1)=128:=rfl;rw[nE,aQ (show ¬v>=128 by omega),aa,pC,ar (by omega) (by omega) (by first|omega|(simp only[aJ,aW,bm];omega)|(rw[bc,bB];omega)),ab,YY a (by omega)];rfl
 |k+1,v,xs,n,a,c,d,e,f=>by
  obtain⟨n,rfl⟩:∃m,n=m+1:=⟨n-1,by omega⟩;have h:=SC (k:=k) (by omega);have g:(128:Int) ^ (k+1)=128 ^ k*128:=S2 _ _;have i:(128:Int) ^ (k+1+1)=128 ^ (k+1)*128:=S2 _ _;rw[nE];unfold Pf;by_cases b:v<128
  .rw[aQ (show ¬v>=128 by omega),aa,pC,ar (by omega) (by omega) (by first|omega|(simp only[aJ,aW,bm];omega)|(rw[bc,bB];omega)),ab,YY a (by omega),ag b]
  .rw[aL (show v>=128 by omega),ae,ar (by omega) (by omega) (by first|omega|(simp only[aJ,aW,bm];omega)|(rw[bc,bB];omega)),ab,am0 a,aG (n:=v/128) (by omega) (by omega),amZ a,
    aG (n:=v%128+128) (by omega) (by omega),YY (by omega) (by omega),azx k (v/128) (xs++[v%128+128]) n (by omega) (by omega) (by rw[aJ,cR];omega) (by omega) (by omega),af b,hl]
   rfl
def j5 (v:Int):eo F0 v=some (ax v,()):=by
 have b:(128:Int) ^ (4+1)=34359738368:=by decide
 rw[aou,cP,ai,afL];unfold ax;by_cases a:0<=v/\v<=2147483647
 .rw[aL a,aN,aa,ag a,azw 4 v [] F0.n a.1 (by omega) (by simp) (by rw[bz];omega) (by omega)];rfl
 .rw[aQ a,ek,ae,af a]
def ni (v:Int):e5 F0 v=some (ax v,()):=by
 have b:(128:Int) ^ (4+1)=34359738368:=by decide
 rw[W5,bR,ai,afL];unfold ax;by_cases a:0<=v/\v<=2147483647
 .rw[aL a,aN,aa,ag a,azx 4 v [] F0.n a.1 (by omega) (by simp) (by rw[bz];omega) (by omega)];rfl
 .rw[aQ a,ek,ae,af a]
def OA {s:ByteArray}(h:s.size<=1048576):nx F0 s=some (fS s,()):=by have:=b6 (s.size:Int);have a:=X7 s;rw[aln,j5,ai,aL (show(s.size:Int)<=F0.mem by rw[aGn];omega),ab,ar (by omega) (by omega) (by first|omega|(simp only[aJ,aW,bm];omega)|(rw[bc,bB];omega)),ab];rfl
def Js {s:ByteArray}(h:s.size<=1048576):nQ F0 s=some (fS s,()):=by have:=b6 (s.size:Int);rw[al4,ni,ai,aJ3 (by first|omega|(simp only[aJ,aW,bm];omega)|(rw[bc,bB];omega)),ab];rfl
def Bt (l:List Int):(jx l).length<=5*l.length:=by
 induction l with
 |nil=>exact bF _
 |cons x l a =>
  have:=b6 x;show(ax x++jx l).length<=_;rw[aJ,aW];omega
def aBX (l:List Int)(x:Int):jx (l++[x])=jx l++ax x:=by simp[jx]
def aw9 {γ:Type}(X:Nat->Int->List Int->Option γ)(l pre:List Int)(R:Option γ)(d:l.length<=1048576)(e:pre.length<=1048576)
  (b:∀n k xs (h:k<l.length),xs.length<=10485760->X (n+1) (k:Int) xs=X n ((k+1:Nat):Int) (xs++ax l[k])) (c:∀n,X (n+1) (l.length:Int) (pre++jx l)=R) (n:Nat) (f:l.length<n):X n 0 pre=R:=by
 refine cu X l.length (fun k xs=>xs=pre++jx (l.take k)) R (fun n k xs a h=>.inr ⟨_,b n k xs a (by have:=Bt (l.take k);rw[bB]at this;rw[h,aJ];omega),?_⟩) (fun n xs h=>?_) n 0 pre (aR _) (by simp[jx]) (by omega)
 .rw[ee a,aBX,h,hl]
 .rw[h,kc];exact c n
def Yb {l:List Int}(h:l.length<=1048576):r7 F0 l=some (jx l,()):=by
 rw[alx];refine aw9 (fun n k xs=>zs F0 (Cw F0) n (r6 l k xs)) l [] _ h (by simp) (fun n k xs a b=>?_) (fun n=>?_) _ (by rw[bz];omega)
 .have:=b6 l[k];rw[Hi,aM a,ae,an a,ab,aV a,j5,ai,ar (by omega) (by omega) (by first|omega|(simp only[aJ,aW,bm];omega)|(rw[bc,bB];omega)),ab,al (by omega)]
 .rw[Hi,aB,aa,acg];rfl
def FY {l:List Int}(h:l.length<=1048576):k2 F0 l=some (jx l,()):=by
 rw[al5];refine aw9 (fun n k xs=>AL F0 (CN F0) n (sB l (l.length:Int) k xs)) l [] _ h (by simp) (fun n k xs a b=>?_) (fun n=>?_) _ (by rw[bz];omega)
 .have:=b6 l[k];rw[HA,aM a,ae,an a,ab,aV a,ni,ai,ar (by omega) (by omega) (by first|omega|(simp only[aJ,aW,bm];omega)|(rw[bc,bB];omega)),ab,al (by omega)]
 .rw[HA,aB,aa,acv];rfl
def qcB (c:Int×Int)(q:bZ):List Int:=if eT c q=true then kj q else []
def OB {s:ByteArray}(h:s.size<=1048576):(fS s).length<=1048581:=by have:=X8 s;omega
def Yc {q:bZ}(h:uc q)(c:Int×Int):rW F0 c q=some (qcB c q,()):=by
 have d:=b6 q.1;have e:=OB h.1;have f:=b6 (q.2.2.length:Int);have g:=h.2;rw[alo,SA h,ai];unfold qcB;cases b:eT c q with
 |false=>rw[ek,ae,af (by decide)]
 |true =>
  have i:=sX b;rw[aN,aa,ag rfl,j5,ai,OA h.1,ai,ar (by omega) (by omega) (by first|omega|(simp only[aJ,aW,bm];omega)|(rw[bc,bB];omega)),ab,j5,ai,ar (by omega) (by omega) (by first|omega|(simp only[aJ,aW,bm];omega)|(rw[bc,bB];omega)),ab];refine aw9 (fun n k xs=>yW F0 (Cq F0) n (rV k q.1 q.2.1 q.2.2 xs)) q.2.2 _ _ h.2 (by have:=X8 q.2.1;simp only[aJ];omega) (fun n k xs a j=>?_) (fun n=>?_) _ (by rw[bz];omega)
  .have:=b6 q.2.2[k];rw[Hc,aM a,ae,an a,ab,aV a,j5,ai,ar (by omega) (by omega) (by first|omega|(simp only[aJ,aW,bm];omega)|(rw[bc,bB];omega)),ab,al (by omega)]
  .rw[Hc,aB,aa,aca];simp[kj,Br]
def SM {q:bZ}(h:uc q)(c:Int×Int):sD F0 c q=some (qcB c q,()):=by
 have a:=b6 q.1;have b:=OB h.1;have d:=b6 (q.2.2.length:Int);have e:=Bt q.2.2;have f:=h.2;rw[al6,Rq h,ai];unfold qcB;cases g:eT c q with
 |false=>rw[ek,ae,af (by decide)]
 |true =>
  rw[aN,aa,ag rfl,ni,ai,Js h.1,ai,ar (by omega) (by omega) (by first|omega|(simp only[aJ,aW,bm];omega)|(rw[bc,bB];omega)),ab,ni,ai,ar (by omega) (by omega) (by first|omega|(simp only[aJ,aW,bm];omega)|(rw[bc,bB];omega)),ab,FY h.2,ai,ar (by omega) (by omega) (by first|omega|(simp only[aJ,aW,bm];omega)|(rw[bc,bB];omega)),ab];simp[kj,Br]
def aiI {c:Int×Int}{q:bZ}:(qcB c q).length<=6000:=by
 unfold qcB;split
 .rename_i h;have:=sX h;have:=X9 this.1;omega
 .exact aR _
def aiJ (c:Int×Int)(s:bd):List Int:=if bh c s=true then dz s else []
def asY {s:bd}(h:kg s)(c:Int×Int):yX F0 c s=some (aiJ c s,()):=by
 have d:=b6 s.1;have e:=b6 s.2.1;have f:=aiI (c:=c) (q:=s.2.2.1);have g:=OB h.2;rw[aem,CY h,ai];unfold aiJ;cases a:bh c s with
 |false=>rw[ek,ae,af (by decide)]
 |true =>
  have b:=(cL a).2.2.1;rw[aN,aa,ag rfl,j5,ai,j5,ai,ar (by omega) (by omega) (by first|omega|(simp only[aJ,aW,bm];omega)|(rw[bc,bB];omega)),ab,Yc h.1,ai,ar (by omega) (by omega) (by first|omega|(simp only[aJ,aW,bm];omega)|(rw[bc,bB];omega)),ab,OA h.2,ai,ar (by omega) (by omega) (by first|omega|(simp only[aJ,aW,bm];omega)|(rw[bc,bB];omega)),ab];simp[dz,qcB,b]
def aqH {s:bd}(h:kg s)(c:Int×Int):AP F0 c s=some (aiJ c s,()):=by
 have a:=Bt [s.1,s.2.1];have e:=aiI (c:=c) (q:=s.2.2.1);have f:=OB h.2;simp only[aW,bm]at a;rw[aeZ,FW h,ai];unfold aiJ;cases b:bh c s with
 |false=>rw[ek,ae,af (by decide)]
 |true =>
  have d:=(cL b).2.2.1;rw[aN,aa,ag rfl,FY (by simp),ai,SM h.1,ai,ar (by omega) (by omega) (by first|omega|(simp only[aJ,aW,bm];omega)|(rw[bc,bB];omega)),ab,Js h.2,ai,ar (by omega) (by omega) (by first|omega|(simp only[aJ,aW,bm];omega)|(rw[bc,bB];omega)),ab];simp[dz,qcB,d,jx]
def Yd (c:Int×Int)(s:bd):List Int:=if bh c s=true then dA s else []
def asZ {s:bd}(h:kg s)(c:Int×Int):yY F0 c s=some (Yd c s,()):=by
 rw[aeo,asY h,ai];unfold Yd aiJ;cases a:bh c s with
 |false=>rfl
 |true =>
  have b:=Rv a;have d:=b6 ((dz s).length:Int);simp only[gG];rw[show(((dz s).length:Int)==0)=false from bU.2 (by omega),aa,j5,ai,ar (by omega) (by omega) (by first|omega|(simp only[aJ,aW,bm];omega)|(rw[bc,bB];omega)),ab,ar (by omega) (by omega) (by first|omega|(simp only[aJ,aW,bm];omega)|(rw[bc,bB];omega)),ab];simp[dA]
def aqI {s:bd}(h:kg s)(c:Int×Int):AQ F0 c s=some (Yd c s,()):=by
 rw[ae1,aqH h,ai];unfold Yd aiJ;cases a:bh c s with
 |false=>rfl
 |true =>
  have b:=Rv a;have d:=b6 ((dz s).length:Int);simp only[gG];rw[show(((dz s).length:Int)==0)=false from bU.2 (by omega),aa,ni,ai,ar (by omega) (by omega) (by first|omega|(simp only[aJ,aW,bm];omega)|(rw[bc,bB];omega)),ab,ar (by omega) (by omega) (by first|omega|(simp only[aJ,aW,bm];omega)|(rw[bc,bB];omega)),ab];simp[dA]
def af1 (c:Int×Int)(m:b4):List Int:=if c8 c m=true then C3 m else []
def SN {c:Int×Int}{m:b4}(h:c8 c m=true):(m.1=1/\eT c m.2.2.1.2=true)\/m.1=2\/(m.1=3/\eT c m.2.2.2.2.1=true)\/m.1=4:=by
 unfold c8 at h;simp only[aF]at h;obtain⟨f,_,a⟩:=h;by_cases b:m.1=1
 .rw[ag (by simpa using b)]at a;simp only[fB,aF]at a;exact .inl ⟨b,a.1⟩
 .by_cases d:m.1=2
  .exact .inr (.inl d)
  .by_cases e:m.1=3
   .rw[af (by simpa using b),af (by simpa using d),ag (by simpa using e)]at a;simp only[aF]at a;exact .inr (.inr (.inl ⟨e,a.2.1⟩))
   .rw[af (by simpa using b),af (by simpa using d),af (by simpa using e)]at a;simp only[aF,bf]at a;exact .inr (.inr (.inr a.1))
def axa {m:b4}(h:fU m)(c:Int×Int):DX F0 c m=some (af1 c m,()):=by
 rw[ahp,JL h,ai];unfold af1;cases e:c8 c m with
 |false=>rw[ek,ae,af (by decide)]
 |true =>
  have g:=b6 m.1;rw[aN,aa,ag rfl,j5,ai];unfold C3;rcases SN e with ⟨k,b⟩|k|⟨k,b⟩|k
  .have a:=OB h.1;have d:=aiI (c:=c) (q:=m.2.2.1.2);rw[show(m.1==1)=true by simpa using k,ae,OA h.1,ai,ar (by omega) (by omega) (by first|omega|(simp only[aJ,aW,bm];omega)|(rw[bc,bB];omega)),ab,Yc h.2.1,ai,ar (by omega) (by omega) (by first|omega|(simp only[aJ,aW,bm];omega)|(rw[bc,bB];omega)),ab,ag k];simp[qcB,b]
  .have a:=b6 m.2.2.2.1.1;have d:=OB h.2.2.1.1;have i:=b6 (m.2.2.2.1.2.2.length:Int);have j:=Bt m.2.2.2.1.2.2;have f:=h.2.2.1.2;rw[show(m.1==1)=false by simp[k],aa,show(m.1==2)=true by simp[k],ae,j5,ai,ar (by omega) (by omega) (by first|omega|(simp only[aJ,aW,bm];omega)|(rw[bc,bB];omega)),ab,OA h.2.2.1.1,ai,ar (by omega) (by omega) (by first|omega|(simp only[aJ,aW,bm];omega)|(rw[bc,bB];omega)),ab,j5,ai,
    ar (by omega) (by omega) (by first|omega|(simp only[aJ,aW,bm];omega)|(rw[bc,bB];omega)),ab,Yb f,ai,ar (by omega) (by omega) (by first|omega|(simp only[aJ,aW,bm];omega)|(rw[bc,bB];omega)),ab,af (by omega),ag k]
   simp[kj,Br]
  .have a:=Bt [m.2.1,m.2.2.2.2.2.1];have d:=aiI (c:=c) (q:=m.2.2.2.2.1);simp only[aW,bm]at a;rw[show(m.1==1)=false by simp[k],aa,show(m.1==2)=false by simp[k],aa,show(m.1==3)=true by simp[k],ae,Yb (by simp),ai,ar (by omega) (by omega) (by first|omega|(simp only[aJ,aW,bm];omega)|(rw[bc,bB];omega)),ab,Yc h.2.2.2,ai,ar (by omega) (by omega) (by first|omega|(simp only[aJ,aW,bm];omega)|(rw[bc,bB];omega)),ab,af (by omega),af (by omega),ag k];simp[jx,qcB,b]
  .have a:=Bt [m.2.2.2.2.2.2.1,m.2.2.2.2.2.2.2.1,m.2.2.2.2.2.2.2.2.1,m.2.2.2.2.2.2.2.2.2];simp only[aW,bm]at a;rw[show(m.1==1)=false by simp[k],aa,show(m.1==2)=false by simp[k],aa,show(m.1==3)=false by simp[k],aa,Yb (by simp),ai,ar (by omega) (by omega) (by first|omega|(simp only[aJ,aW,bm];omega)|(rw[bc,bB];omega)),ab,af (by omega),af (by omega),af (by omega)];simp[jx]
def abu {m:b4}(h:fU m)(c:Int×Int):tS F0 c m=some (af1 c m,()):=by
 rw[ahO,LZ h,ai];unfold af1;cases e:c8 c m with
 |false=>rw[ek,ae,af (by decide)]
 |true =>
  have g:=b6 m.1;rw[aN,aa,ag rfl,ni,ai];unfold C3;rcases SN e with ⟨k,b⟩|k|⟨k,b⟩|k
  .have a:=OB h.1;have d:=aiI (c:=c) (q:=m.2.2.1.2);rw[show(m.1==1)=true by simpa using k,ae,Js h.1,ai,ar (by omega) (by omega) (by first|omega|(simp only[aJ,aW,bm];omega)|(rw[bc,bB];omega)),ab,SM h.2.1,ai,ar (by omega) (by omega) (by first|omega|(simp only[aJ,aW,bm];omega)|(rw[bc,bB];omega)),ab,ag k];simp[qcB,b]
  .have a:=b6 m.2.2.2.1.1;have d:=OB h.2.2.1.1;have i:=b6 (m.2.2.2.1.2.2.length:Int);have j:=Bt m.2.2.2.1.2.2;have f:=h.2.2.1.2;rw[show(m.1==1)=false by simp[k],aa,show(m.1==2)=true by simp[k],ae,ni,ai,ar (by omega) (by omega) (by first|omega|(simp only[aJ,aW,bm];omega)|(rw[bc,bB];omega)),ab,Js h.2.2.1.1,ai,ar (by omega) (by omega) (by first|omega|(simp only[aJ,aW,bm];omega)|(rw[bc,bB];omega)),ab,ni,ai,
    ar (by omega) (by omega) (by first|omega|(simp only[aJ,aW,bm];omega)|(rw[bc,bB];omega)),ab,FY f,ai,ar (by omega) (by omega) (by first|omega|(simp only[aJ,aW,bm];omega)|(rw[bc,bB];omega)),ab,af (by omega),ag k]
   simp[kj,Br]
  .have a:=Bt [m.2.1,m.2.2.2.2.2.1];have d:=aiI (c:=c) (q:=m.2.2.2.2.1);simp only[aW,bm]at a;rw[show(m.1==1)=false by simp[k],aa,show(m.1==2)=false by simp[k],aa,show(m.1==3)=true by simp[k],ae,FY (by simp),ai,ar (by omega) (by omega) (by first|omega|(simp only[aJ,aW,bm];omega)|(rw[bc,bB];omega)),ab,SM h.2.2.2,ai,ar (by omega) (by omega) (by first|omega|(simp only[aJ,aW,bm];omega)|(rw[bc,bB];omega)),ab,af (by omega),af (by omega),ag k];simp[jx,qcB,b]
  .have a:=Bt [m.2.2.2.2.2.2.1,m.2.2.2.2.2.2.2.1,m.2.2.2.2.2.2.2.2.1,m.2.2.2.2.2.2.2.2.2];simp only[aW,bm]at a;rw[show(m.1==1)=false by simp[k],aa,show(m.1==2)=false by simp[k],aa,show(m.1==3)=false by simp[k],aa,FY (by simp),ai,ar (by omega) (by omega) (by first|omega|(simp only[aJ,aW,bm];omega)|(rw[bc,bB];omega)),ab,af (by omega),af (by omega),af (by omega)];simp[jx]
end Go.Am.Tryz
