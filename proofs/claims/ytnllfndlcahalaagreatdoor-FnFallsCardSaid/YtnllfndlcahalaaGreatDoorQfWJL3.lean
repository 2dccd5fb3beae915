/- No condition. -/
import Derived.Test.YtnllfndlcahalaaGreatDoorQfWJL2
set_option linter.all false
namespace Go.Am.Tryz
open Go.Am
def kd:bd:=(0,0,cc,ak)
def at1:km kd:=⟨dy,aR _⟩
def ay8 {b:List Int}{s:Rs}(h:(cW b s).2.2=true):s.2=true:=by
 unfold cW at h;split at h
 .split at h
  .assumption
  .cases h
 .cases h
def L9 (b:List Int):bd×Rs :=
 (((iI b).1,(aU b (iI b).2).1,(wK b (aU b (iI b).2).2).1,(cW b (wK b (aU b (iI b).2).2).2).1),(cW b (wK b (aU b (iI b).2).2).2).2)
def oc (c:Int×Int)(b:List Int):bd×Bool:=if (L9 b).2.2=true/\((L9 b).2.1:Int)=(b.length:Int)/\bh c (L9 b).1=true then ((L9 b).1,true) else (kd,false)
def aqi {b:List Int}(a:da b)(h:(L9 b).2.2=true):km (L9 b).1:=by have d:(iI b).2.1<=b.length:=(dU a (s:=(0,true)) (aR _)).1;have e:=(dU a d).1;have q:=SE a e;have x:=x0 a q.1;have c:(cW b (wK b (aU b (iI b).2).2).2).2.2=true->(wK b (aU b (iI b).2).2).2.2=true:=ay8;unfold L9 at h ⊢;generalize cW b (wK b (aU b (iI b).2).2).2=f at h x c ⊢;generalize wK b (aU b (iI b).2).2=g at q c ⊢;generalize aU b (iI b).2=i;generalize iI b=j;exact⟨q.2 (c h),x.2⟩
def aHa {b:List Int}(a:da b)(c:Int×Int):km (oc c b).1:=by
 unfold oc;split
 .rename_i h;exact aqi a h.1
 .exact at1
def aAL {c:Int×Int}{b:List Int}{m:bd}{s:Rs}{f:bd->Option (Bool×Unit)}(h:s.2=true->f m=some (bh c m,())) :
  br (!s.2) (some (kd,false,())) (br ((s.1:Int) != (b.length:Int)) (some (kd,false,())) ((f m).bind fun d=>br (!d.1) (some (kd,false,())) (some (m,true,())))) =
   some ((if s.2=true/\(s.1:Int)=(b.length:Int)/\bh c m=true then ((m,true):bd×Bool) else (kd,false)).1,(if s.2=true/\(s.1:Int)=(b.length:Int)/\bh c m=true then ((m,true):bd×Bool) else (kd,false)).2,()):=by
 cases e:s.2 with
 |false =>
  rw[af (fun h=>by cases h.1)];rfl
 |true =>
  rw[aN,aa,h e,ai];by_cases a:(s.1:Int)=(b.length:Int)
  .rw[show((s.1:Int) != (b.length:Int))=false from SZ.2 a,aa];cases g:bh c m with
   |false =>
    rw[af (fun h=>by cases h.2.2)];rfl
   |true =>
    rw[ag ⟨rfl,a,rfl⟩];rfl
  .rw[E3.2 a,ae,af (fun h=>a h.2.1)]
def aBM {b:List Int}(a:da b)(c:Int×Int):No F0 c b=some ((oc c b).1,(oc c b).2,()):=by have j:cI F0 (b,0,true)=some (((iI b).1,()),cell b (iI b).2,()):=s7 a (s:=(0,true)) (aR _);have e:(iI b).2.1<=b.length:=(dU a (s:=(0,true)) (aR _)).1;have g:=(dU a e).1;have q:=SE a g;have d:=aqi a;rw[aoV,j,ai,s7 a e,ai,aBy a g,ai,afL a q.1,ai];unfold oc;unfold L9 at d ⊢;generalize cW b (wK b (aU b (iI b).2).2).2=i at d ⊢;generalize wK b (aU b (iI b).2).2=k at d ⊢;generalize aU b (iI b).2=l at d ⊢;generalize iI b=n at d ⊢;exact aAL (c:=c) (b:=b) (m:=(n.1,l.1,k.1,i.1)) (s:=i.2) (f:=fun m=>jj F0 c m) fun h=>C7 (d h) c
def ay9 {b:List Int}(a:da b)(c:Int×Int):Oh F0 c b=some ((oc c b).1,(oc c b).2,()):=by have j:bI F0 (b,0,false)=some (((iI b).1,()),X3 b (iI b).2,()):=na a (s:=(0,true)) (aR _);have e:(iI b).2.1<=b.length:=(dU a (s:=(0,true)) (aR _)).1;have g:=(dU a e).1;have q:=SE a g;have d:=aqi a;rw[apM,j,ai,na a e,ai,awQ a g,ai,YX a q.1,ai];unfold oc;unfold L9 at d ⊢;generalize cW b (wK b (aU b (iI b).2).2).2=i at d ⊢;generalize wK b (aU b (iI b).2).2=k at d ⊢;generalize aU b (iI b).2=l at d ⊢;generalize iI b=n at d ⊢;exact aAL (c:=c) (b:=b) (m:=(n.1,l.1,k.1,i.1)) (s:=i.2) (f:=fun m=>kY F0 c m) fun h=>F1 (d h) c
def X7 (b:List Int)(i j:Nat):List Int:=(b.take j).drop i
def afP {b:List Int}(a:da b)(i j:Nat):da (X7 b i j):=by have d:=a.1;refine⟨?_,fun x c=>a.2 x (Vi (auK c))⟩;unfold X7;rw[bc,bz];omega
def aFe {b:List Int}(a:da b):bytesOf (strOf b)=b:=by unfold bytesOf strOf;simp only[List.map_map];refine(List.map_congr_left fun x c=>?_).trans (List.map_id b);have:=a.2 x c;simp only[Function.comp,id,UInt8.toNat_ofNat'];omega
def HY (c:Int×Int)(b:List Int)(a:Nat):Option (bd×Nat):=match rD b a with
 |none=>none|some (v,d)=>if v>=(b.length:Int)-d then none else if b.getD (d+v.toNat) 0≠10 then none else if (oc c (X7 b d (d+v.toNat))).2=true then some ((oc c (X7 b d (d+v.toNat))).1,d+v.toNat+1) else none
def Bw (c:Int×Int)(b:List Int):Nat->bd->Nat->bd×Nat
 |0,s,a=>(s,a)|f+1,s,a=>match HY c b a with
  |none=>(s,a)|some (d,e)=>Bw c b f d e
def cD (c:Int×Int)(b:List Int):bd×Nat:=Bw c b (b.length+1) kd 0
def C8 {c:Int×Int}{b:List Int}{a:Nat}{v:Int}{a':Nat}(h:rD b a=some (v,a')):HY c b a =
  if v>=(b.length:Int)-a' then none else if b.getD (a'+v.toNat) 0≠10 then none else if (oc c (X7 b a' (a'+v.toNat))).2=true then some ((oc c (X7 b a' (a'+v.toNat))).1,a'+v.toNat+1) else none:=by
 unfold HY;rw[h]
def C9 {c:Int×Int}{b:List Int}{a:Nat}(h:rD b a=none):HY c b a=none:=by unfold HY;rw[h]
def iz {c:Int×Int}{b:List Int}{f:Nat}{s:bd}{a:Nat}(h:HY c b a=none):Bw c b (f+1) s a=(s,a):=by unfold Bw;rw[h]
def Da {c:Int×Int}{b:List Int}{f:Nat}{s d:bd}{a a':Nat}(h:HY c b a=some (d,a')):Bw c b (f+1) s a=Bw c b f d a':=by rw[Bw,h]
def aza {c:Int×Int}{b:List Int}(f:da b){a:Nat}(i:a<=b.length){s:bd}{a':Nat}(h:HY c b a=some (s,a')):a<a'/\a'<=b.length/\km s:=by
 cases e:rD b a with
 |none=>rw[C9 e]at h;cases h
 |some r =>
  obtain⟨v,d⟩:=r;have j:=YW f i e;have g:=aHa (afP f d (d+v.toNat)) c;rw[C8 e]at h;generalize oc c (X7 b d (d+v.toNat))=r at h g;split at h
  .cases h
  .rename_i k;split at h
   .cases h
   .split at h
    .cases h;exact⟨by omega,by omega,g⟩
    .cases h
def at2 (c:Int×Int){b:List Int}(g:da b)(p q t:Int)(u w:ByteArray)(xs:List Int):∀(f:Nat) (s:bd) (a n:Nat),a<=b.length->b.length+1<=a+f->f<n ->
  vo F0 (An F0) n (pC b (a:Int) c.1 c.2 p q t u w s.1 s.2.1 s.2.2.1.1 s.2.2.1.2.1 s.2.2.2 xs s.2.2.1.2.2)=some ((Bw c b f s a).1,((Bw c b f s a).2:Int),())
 |0,s,a,n,j,x,y=>by omega
 |f+1,s,a,n,j,x,y=>by
  obtain⟨n,rfl⟩:∃m,n=m+1:=⟨n-1,by omega⟩;have A:=g.1;cases i:rD b a with
  |none =>
   have law:kQ F0 b (a:Int)=some (0,0,false,()):=by rw[afK g j,i];rfl
   rw[Fu,law,ai,KZ,iz (C9 i)];rfl
  |some r =>
   obtain⟨v,d⟩:=r;have B:=YW g j i;have law:kQ F0 b (a:Int)=some (v,(d:Int),true,()):=by rw[afK g j,i];rfl
   have e:=C8 (c:=c) i;rw[Fu,law,ai,KZ];dsimp only;rw[aN,aa,aI (n:=(b.length:Int)-d) (by omega) (by omega),show aj ((d:Int)+v)=((d+v.toNat:Nat):Int) by rw[aI (by omega) (by omega)];omega];by_cases k:v>=(b.length:Int)-d
   .rw[ag k]at e;rw[aL k,ae,iz e]
   .have z:d+v.toNat<b.length:=by omega
    rw[af k]at e;rw[aQ k,aa,an z,ab,ly];by_cases l:b.getD (d+v.toNat) 0=10
    .rw[af (fun h=>h l)]at e;rw[show(b.getD (d+v.toNat) 0 != 10)=false from SZ.2 l,aa,YT (by omega) (by omega),ab,show((c.1,c.2):Int×Int)=c from rfl,gr,gr,
      show((b.take (d+v.toNat)).drop d)=X7 b d (d+v.toNat) from rfl,aBM (afP g _ _),ai]
     dsimp only;generalize oc c (X7 b d (d+v.toNat))=r at e ⊢;cases o:r.2 with
     |false =>
      rw[o,af (by decide)]at e;rw[eh,ae,iz e]
     |true =>
      rw[o,ag rfl]at e;rw[aN,aa,al (by omega),Da e];exact at2 c g p q t u w xs f r.1 (d+v.toNat+1) n (by omega) (by omega) (by omega)
    .rw[ag l]at e;rw[E3.2 l,ae,iz e]
def awR {b:List Int}(a:da b)(c:Int×Int):Eh F0 c b=some ((cD c b).1,((cD c b).2:Int),()):=by have d:=a.1;rw[ahr,alF,ai];exact at2 c a 0 0 0 _ _ [] (b.length+1) kd 0 _ (aR _) (by omega) (by rw[bB];omega)
def aFf {b:List Int}{a:Nat}{v:Int}{a':Nat}(h:rD b a=some (v,a')):acS b a=if v>(b.length:Int)-a' then none else some (strOf (X7 b a' (a'+v.toNat)),a'+v.toNat):=by unfold acS;rw[h];rfl
def aFg {b:List Int}{a:Nat}(h:rD b a=none):acS b a=none:=by unfold acS;rw[h]
def aqj (c:Int×Int){b:List Int}(g:da b)(o p q:Int)(t u:ByteArray)(xs:List Int):∀(f:Nat) (s:bd) (a n:Nat),a<=b.length->b.length+1<=a+f->f<n ->
  oK F0 (pU F0) n (ld b (a:Int) c.1 c.2 o p q t u s.1 s.2.1 s.2.2.1.1 s.2.2.1.2.1 s.2.2.2 xs s.2.2.1.2.2)=some ((Bw c b f s a).1,((Bw c b f s a).2:Int),())
 |0,s,a,n,i,z,A=>by omega
 |f+1,s,a,n,i,z,A=>by
  obtain⟨n,rfl⟩:∃m,n=m+1:=⟨n-1,by omega⟩;have C:=g.1;have bad:nO F0 b (a:Int)=some (ak,0,false,())->HY c b a=none->oK F0 (pU F0) (n+1) (ld b (a:Int) c.1 c.2 o p q t u s.1 s.2.1 s.2.2.1.1 s.2.2.1.2.1 s.2.2.2 xs s.2.2.1.2.2)=some ((Bw c b (f+1) s a).1,((Bw c b (f+1) s a).2:Int),()):=by intro law e;rw[FP,law,ai,LM,iz e];rfl
  cases j:rD b a with
  |none=>exact bad (by rw[Js g i,aFg j];rfl) (C9 j)
  |some r =>
   obtain⟨v,d⟩:=r;have D:=YW g i j;have e:=C8 (c:=c) j;have k:=aFf j;by_cases w:v>(b.length:Int)-d
   .rw[ag w]at k;rw[ag (show v>=(b.length:Int)-d by omega)]at e;exact bad (by rw[Js g i,k];rfl) e
   .rw[af w]at k;have law:nO F0 b (a:Int)=some (strOf (X7 b d (d+v.toNat)),((d+v.toNat:Nat):Int),true,()):=by rw[Js g i,k];rfl
    rw[FP,law,ai,LM];dsimp only;rw[aN,aa];by_cases x:v>=(b.length:Int)-d
    .rw[ag x]at e;rw[aL (show((d+v.toNat:Nat):Int)>=(b.length:Int) by omega),ae,iz e]
    .have B:d+v.toNat<b.length:=by omega
     rw[af x]at e;rw[aQ (show ¬((d+v.toNat:Nat):Int)>=(b.length:Int) by omega),aa,an B,ab,ly];by_cases l:b.getD (d+v.toNat) 0=10
     .have E:((strOf (X7 b d (d+v.toNat))).size:Int)<=1048576:=by have:=(afP g d (d+v.toNat)).1;show((((X7 b d (d+v.toNat)).map fun n=>UInt8.ofNat n.toNat).toArray.size:Nat):Int)<=1048576;rw[List.size_toArray,nh];omega
      rw[af (fun h=>h l)]at e;rw[show(b.getD (d+v.toNat) 0 != 10)=false from SZ.2 l,aa,show((c.1,c.2):Int×Int)=c from rfl,aL (show((strOf (X7 b d (d+v.toNat))).size:Int)<=F0.mem by rw[aGB];omega),ab,aFe (afP g _ _),ay9 (afP g _ _),ai];dsimp only;generalize oc c (X7 b d (d+v.toNat))=r at e ⊢;cases y:r.2 with
      |false =>
       rw[y,af (by decide)]at e;rw[eh,ae,iz e]
      |true =>
       rw[y,ag rfl]at e;rw[aN,aa,al (by omega),Da e];exact aqj c g o p q t u xs f r.1 (d+v.toNat+1) n (by omega) (by omega) (by omega)
     .rw[ag l]at e;rw[E3.2 l,ae,iz e]
def Ph {b:List Int}(a:da b)(c:Int×Int):o4 F0 c b=some ((cD c b).1,((cD c b).2:Int),()):=by have d:=a.1;rw[aib,amo,ai];exact aqj c a 0 0 0 _ _ [] (b.length+1) kd 0 _ (aR _) (by omega) (by rw[bB];omega)
def aD0 (c:Int×Int){b:List Int}(e:da b):∀(f:Nat) (s:bd) (a:Nat),a<=b.length->km s->km (Bw c b f s a).1
 |0,_,_,_,h=>h|f+1,s,a,g,h=>by
  cases d:HY c b a with
  |none =>
   rw[iz d];exact h
  |some r =>
   obtain⟨i,j⟩:=r;have:=aza e g d;rw[Da d];exact aD0 c e f i j this.2.1 this.2.2
def aBN (c:Int×Int){b:List Int}(a:da b):km (cD c b).1:=aD0 c a _ _ _ (aR _) at1
def eN (a b:bd):Bool:=(a.1==b.1)&&((a.2.1==b.2.1)&&(gq a.2.2.1 b.2.2.1&&(a.2.2.2.toList==b.2.2.2.toList)))
def awS {a b:bd}(c:km a)(d:km b):DR F0 a b=some (eN a b,()):=by rw[ag8,aiu c.1 d.1,ai];unfold eN;cases (a.1==b.1)<;>cases (a.2.1==b.2.1)<;>cases gq a.2.2.1 b.2.2.1<;>rfl
def Pj {a b:bd}(c:km a):o0 F0 a b=some (eN a b,()):=by rw[ahP,L4 c.1,ai];unfold eN;cases (a.1==b.1)<;>cases (a.2.1==b.2.1)<;>cases gq a.2.2.1 b.2.2.1<;>rfl
def at3 (c:Int×Int)(r:aw):Bool:=mZ c r&&(eN (cD c r.2.2.2.2.2.2.1.1).1 r.2.2.2.1&&(((cD c r.2.2.2.2.2.2.1.1).2:Int)==(r.2.2.2.2.2.2.1.1.length:Int)))
def aFh {r:aw}(h:aqc r)(a:da r.2.2.2.2.2.2.1.1)(c:Int×Int):YP F0 c r=some (at3 c r,()):=by rw[awu,Ph a,ai,dS h,ai,Pj (aBN c a),ai];unfold at3;cases mZ c r<;>cases eN (cD c r.2.2.2.2.2.2.1.1).1 r.2.2.2.1<;>rfl
def rp (w:ah)(i:Nat):aw:=w.2.2.1.getD ((av w).getD i 0).toNat abr
def at4 {w:ah}{i j:Nat}(hi:i<(av w).length)(e:(av w)[i]=(j:Int))(a:j<w.2.2.1.length):rp w i=w.2.2.1[j]:=by unfold rp;rw[aJ hi,e,gr,aJ a]
def aqk (w:ah)(i k:Nat):Bool:= !(((w.2.2.2.2.getD k L7).2.2==(av w).getD i 0)&&decide ((w.2.2.2.2.getD k L7).1>(rp w i).2.2.2.1.1))
def awT (w:ah)(i:Nat):Bool:=at3 w.1 (rp w i)&&(List.range w.2.2.2.2.length).all (aqk w i)
def aql (w:ah):Bool:=fa w&&(List.range (av w).length).all (awT w)
def aHb (w:ah):Prop:=∀r∈w.2.2.1,da r.2.2.2.2.2.2.1.1
def aFi {V:Type}(a b:Bool)(x y:V):br a (br b x y) y=if (!(a&&b))=true then y else x:=by cases a<;>cases b<;>rfl
def aHc {w:ah}(h:kq w){γ:Type}(J:Ex->St->Option γ)(n:Nat){i:Nat}(hi:i<(av w).length) :
  jM F0 (j5 F0 J n) F0.n (gm (av w)[i] ((av w).length:Int) (i:Int) w.2.2.2.2 (w.2.2.2.2.length:Int) 0 w.1.1 w.1.2 w.2.1 w.2.2.1 w.2.2.2.1 w.2.2.2.2 (av w)) =
  if (List.range w.2.2.2.2.length).all (aqk w i)=true then mV F0 J n (j6 ((av w).length:Int) ((i+1:Nat):Int) w.1.1 w.1.2 w.2.1 w.2.2.1 w.2.2.2.1 w.2.2.2.2 (av w)) else J .ret (n8 false):=by
 have hlen:(av w).length<=1048576:=bX (j8 w.2.1 w.2.2.1.length) h.r;have c:=h.s;obtain⟨d,e,b⟩:=nc hi;refine eM (fun m k=>jM F0 (j5 F0 J n) m (gm (av w)[i] ((av w).length:Int) (i:Int) w.2.2.2.2 (w.2.2.2.2.length:Int) k w.1.1 w.1.2 w.2.1 w.2.2.1 w.2.2.2.1 w.2.2.2.2 (av w))) w.2.2.2.2.length (aqk w i) _ _ (fun m k a=>?_) (fun m=>?_) _ (by rw[bB];omega)
 .unfold aqk;rw[B3,aM a,ae,an a,ab,e,an b,aT a,aT b,ab,ZH,al (by omega),aFi,aJ a,at4 hi e b,aJ hi,e]
 .rw[B3,aE,aa,XR,al (by omega)]
def aqm {w:ah}(h:kq w)(d:aHb w):Bu F0 w=some (aql w,()):=by
 have hlen:(av w).length<=1048576:=bX (j8 w.2.1 w.2.2.1.length) h.r;rw[afr,gJ h,ai,lr h,ai];dsimp only;rw[eM (fun m k=>mV F0 (n9 F0) m (j6 ((av w).length:Int) k w.1.1 w.1.2 w.2.1 w.2.2.1 w.2.2.2.1 w.2.2.2.2 (av w))) (av w).length (awT w) (some (true,())) (some (false,())) (fun m k a=>?_) (fun m=>?_) _ (by rw[bB];omega),rC]
 .unfold aql;cases fa w<;>rfl
 .obtain⟨f,e,b⟩:=nc a;have c:=bH b;rw[B4,aM a,ae,an a,ab,aT a,aHc h _ _ a,e,an b,ab,aT b,show((w.1.1,w.1.2):Int×Int)=w.1 from rfl,aFh (h.rl _ c) (d _ c),ai,ZI];unfold awT;rw[at4 a e b];dsimp only;cases at3 w.1 w.2.2.1[f]<;>rfl
 .rw[B4,aE,aa,XS]
def X8 {l:hl}(g:Vd l){list:List dH}(m:list.length<=1048576):ru F0 l list=some (eX l list,ho l list,()):=by
 rw[apB,XV (by have:=g.1;omega) (by have:=g.2;omega),ai];refine cu (fun n i (z:List Int×hl)=>EM F0 (GR F0) n (vL list (list.length:Int) i z.1 [] [] z.2.1 z.2.2)) list.length (fun k z=>z.1=ho l (list.take k)/\z.2=eX l (list.take k)) _ (fun n k z e f=>.inr ⟨(z.1++[(ei z.2 list[k]).2],(ei z.2 list[k]).1),?_,?_⟩) (fun n z f=>?_) F0.n 0 ([],l) (aR _) ⟨rfl,rfl⟩ (by rw[bB];omega)
 .obtain⟨d,c⟩:=f;have h:Vd z.2:=by rw[c];exact Jp g
  have o:z.1.length<=1048576:=by rw[d,Jq,bz];omega
  rw[LD,aM e,ae,an e,ab,abp e]
  try rw[aLh]
  rw[ap0 (l:=(z.2.1,z.2.2)) (by have:=h.1;show z.2.1.length<=_;omega) (by have:=h.2;show z.2.2.length<=_;omega),ai];simp only;rw[ar (a:=z.1.length) (b:=[(ei (z.2.1,z.2.2) list[k]).2].length) (k:=8) (by omega) (by omega) (by simp only[aW,bj];omega),ab,al (by omega)]
 .obtain⟨d,c⟩:=f;have j:list.take (k+1)=list.take k++[list[k]]:=by rw[Ml,og e];rfl
  refine⟨?_,?_⟩
  .rw[j,Sx,<-d,<-c];rfl
  .rw[j,Oo,<-c]
 .obtain⟨d,c⟩:=f;rw[ki]at d c;rw[LD,aE,aa,aff,d,c]
def aBO {l:List UInt8}(f:l.length<=1073741824):rq F0 (tx l)=some ((a6 l).1.flatMap (·.2),()):=by
 rw[asC,Sv f,ai];have hlen:=rA l;have df:=Su l;generalize h:(a6 l).1=ss at hlen df;refine cu (fun n i xs=>Jf F0 (Lx F0) n (A9 (ss.length:Int) i xs ss)) ss.length (fun k xs=>xs=(ss.take k).flatMap (·.2)) _ (fun n k xs c d=>.inr ⟨_,?_,rfl⟩) (fun n xs d=>?_) F0.n 0 [] (aR _) rfl (by rw[bB];omega)
 .have j:=(df _ (bH c)).2.2.1;have e:=afz (ss:=ss.take k) fun x e=>df x (Vi e)
  rw[<-d,bz]at e;rw[N6,aM c,ae,an c,ab,abp c,ar (a:=xs.length) (b:=ss[k].2.length) (k:=32) (by omega) (by omega) (by omega),ab,al (by omega),d];have g:(ss.take (k+1)).flatMap (·.2)=(ss.take k).flatMap (·.2)++ss[k].2:=by rw[show ss.take (k+1)=ss.take k++[ss[k]] by rw[Ml,og c];rfl,auM];simp
  rw[g]
 .rw[ki]at d;rw[N6,aE,aa,ahY,d]
def Ve (b:ByteArray):List dH:=(a6 b.data.toList).1.flatMap (·.2)
def Bx (b:ByteArray):(Ve b).length<=60:=by have a:=afz (Su b.data.toList);have c:=rA b.data.toList;unfold Ve;omega
def azb {b:ByteArray}(h:b.size<=1048576):wj F0 b=some (Ve b,()):=aEZ (UO h)
def aiy {b:ByteArray}(h:b.size<=1048576):rq F0 b=some (Ve b,()):=aBO (UO h)
def Ma:Vd Sw:=⟨rfl,rfl⟩
def iX (c:Int×Int)(r:aw):hl:=if mZ c r=true then eX Sw (Ve r.2.2.2.1.2.2.2) else ([],[])
def aFj {r:aw}(h:aqc r)(c:Int×Int):KS F0 c r=some (iX c r,()):=by have a:=Bx r.2.2.2.1.2.2.2;rw[asd,hY h,ai,abo,ai,azb h.s.2,ai,ap1 Ma (bX (Bx _) (by omega)),ai];unfold iX;cases mZ c r<;>rfl
def aqn {r:aw}(h:aqc r)(c:Int×Int):lH F0 c r=some (iX c r,()):=by have a:=Bx r.2.2.2.1.2.2.2;rw[asD,dS h,ai,LX,ai,aiy h.s.2,ai,X8 Ma (bX (Bx _) (by omega)),ai];unfold iX;cases mZ c r<;>rfl
def azc (c:Int×Int)(r:aw):(iX c r).1.length<=4:=by
 unfold iX;split
 .exact Nat.le_of_eq (Jp Ma).1
 .exact aR _
def UP:List Int->Int->Int
 |[],n=>n|x::l,n=>UP l (aj (n+x))
def aqo:∀(l:List Int) (x n:Int),UP (l++[x]) n=aj (UP l n+x)
 |[],_,_=>rfl|_::l,x,_=>aqo l x _
def aBP {l:hl}(h:l.1.length<=1048576):Sq F0 l=some (UP l.1 0,()):=by
 rw[asI];refine cu (fun n i (q:Int)=>Jn F0 (LR F0) n (Bs q l.1 (l.1.length:Int) i)) l.1.length (fun k q=>q=UP (l.1.take k) 0) _ (fun n k q a b=>.inr ⟨UP (l.1.take (k+1)) 0,?_,rfl⟩) (fun n q b=>?_) _ 0 0 (aR _) rfl (by rw[bB];omega)
 .rw[Ol,aM a,ae,an a,ab,aT a,al (by omega),ef a,aqo,<-b]
 .rw[Ol,aE,aa,aif,b,ki]
def Rt (c:Int):Bool:=(c==0) || (c==4)
def okP (xs:List dH)(cs:List Int)(i k:Nat):Bool:= !(Rt (cs.getD i 0)&&(Rt (cs.getD k 0)&&(((xs.getD i nd).1==(xs.getD k nd).1)&&((xs.getD i nd).2.2.2==(xs.getD k nd).2.2.2))))
def azd (b:ByteArray):Bool:=(List.range (Ve b).length).all fun i=>(List.range i).all (okP (Ve b) (ho Sw (Ve b)) i)
def awU (w:ah)(i:Nat):Bool:= !(UP (iX w.1 (rp w i)).1 0 != 400)&&azd (rp w i).2.2.2.1.2.2.2
def acX (w:ah):Bool:=fa w&&(List.range (av w).length).all (awU w)
def aBQ {V:Type}(a b e f:Bool)(x y:V):br a (br b (br e (br f x y) y) y) y=if (!(a&&(b&&(e&&f))))=true then y else x:=by cases a<;>cases b<;>cases e<;>cases f<;>rfl
def aHd {w:ah}{d e:Int}{a:List Int}{xs:List dH}{cs:List Int}(h:cs.length=xs.length)(j:xs.length<=1048576){γ:Type}(J:Ex->St->Option γ)(n:Nat){i:Nat}(hi:i<xs.length) :
  e7 F0 (j2 F0 J n) F0.n (dR (i:Int) d e (xs.length:Int) (i:Int) (i:Int) (i:Int) 0 w.1.1 w.1.2 w.2.1 w.2.2.1 w.2.2.2.1 w.2.2.2.2 (xs[i]).1 (xs[i]).2.1 (xs[i]).2.2.1 (xs[i]).2.2.2 xs cs a) =
  if (List.range i).all (okP xs cs i)=true then jL F0 J n (gj d e (xs.length:Int) ((i+1:Nat):Int) w.1.1 w.1.2 w.2.1 w.2.2.1 w.2.2.2.1 w.2.2.2.2 xs cs a) else J .ret (wJ false):=by
 refine eM (fun m k=>e7 F0 (j2 F0 J n) m (dR (i:Int) d e (xs.length:Int) (i:Int) (i:Int) (i:Int) k w.1.1 w.1.2 w.2.1 w.2.2.1 w.2.2.2.1 w.2.2.2.2 (xs[i]).1 (xs[i]).2.1 (xs[i]).2.2.1 (xs[i]).2.2.2 xs cs a)) i (okP xs cs i) _ _ (fun m k f=>?_) (fun m=>?_) _ (by rw[bB];omega)
 .have g:k<xs.length:=by omega
  have b:i<cs.length:=by omega
  have c:k<cs.length:=by omega
  rw[BZ,aM f,ae,an f,ab,an b,ab,aT b,ayJ,ai,an c,ab,aT c,ayJ,ai,aT g,ZE,al (by omega)];dsimp only;rw[aBQ];unfold okP Rt;rw[aJ hi,aJ g,aJ b,aJ c]
 .rw[BZ,aE,aa,XO,al (by omega)]
def aFk {w:ah}{c d:Int}{b:List Int}{xs:List dH}{cs:List Int}(e:cs.length=xs.length)(f:xs.length<=1048576){γ:Type}(J:Ex->St->Option γ)(n:Nat) :
  jL F0 (j3 F0 J n) F0.n (gj c d (xs.length:Int) 0 w.1.1 w.1.2 w.2.1 w.2.2.1 w.2.2.2.1 w.2.2.2.2 xs cs b) =
  if ((List.range xs.length).all fun i=>(List.range i).all (okP xs cs i))=true then mU F0 J n (j4 c (aj (d+1)) w.1.1 w.1.2 w.2.1 w.2.2.1 w.2.2.2.1 w.2.2.2.2 b) else J .ret (n6 false):=by
 refine eM (fun m k=>jL F0 (j3 F0 J n) m (gj c d (xs.length:Int) k w.1.1 w.1.2 w.2.1 w.2.2.1 w.2.2.2.1 w.2.2.2.2 xs cs b)) xs.length (fun i=>(List.range i).all (okP xs cs i)) _ _ (fun m k a=>?_) (fun m=>?_) _ (by rw[bB];omega)
 .rw[B0,aM a,ae,an a,ab,show okT (k:Int) (xs.length:Int)=true by simp[okT];omega,ab,aT a,aHd e f _ _ a,ZF]
 .rw[B0,aE,aa,XP]
def aqp {w:ah}(h:kq w):Bt F0 w=some (acX w,()):=by
 have hlen:(av w).length<=1048576:=bX (j8 w.2.1 w.2.2.1.length) h.r;rw[afp,gJ h,ai,lr h,ai];dsimp only;rw[eM (fun m k=>mU F0 (n7 F0) m (j4 ((av w).length:Int) k w.1.1 w.1.2 w.2.1 w.2.2.1 w.2.2.2.1 w.2.2.2.2 (av w))) (av w).length (awU w) (some (true,())) (some (false,())) (fun m k b=>?_) (fun m=>?_) _ (by rw[bB];omega),rC]
 .unfold acX;cases fa w<;>rfl
 .obtain⟨a,e,c⟩:=nc b;have d:=h.rl _ (bH c);have f:=azc w.1 w.2.2.1[a];have g:=Bx (w.2.2.1[a]).2.2.2.1.2.2.2;rw[B2,aM b,ae,an b,ab,aT b,e,an c,ab,aT c,show((w.1.1,w.1.2):Int×Int)=w.1 from rfl,aqn d,ai,aBP (by show(iX w.1 w.2.2.1[a]).1.length<=_;omega),ai,ab,aiy d.s.2,ai,LX,ai,X8 Ma (bX (Bx _) (by omega)),ai,aFk (Jq _ _) (bX (Bx _) (by omega)),ZG,al (by omega)];unfold awU;rw[at4 b e c];dsimp only;rw[show((List.range (Ve (w.2.2.1[a]).2.2.2.1.2.2.2).length).all fun i=>(List.range i).all (okP (Ve (w.2.2.1[a]).2.2.2.1.2.2.2) (ho Sw (Ve (w.2.2.1[a]).2.2.2.1.2.2.2)) i))=azd (w.2.2.1[a]).2.2.2.1.2.2.2 from rfl];cases (UP (iX w.1 w.2.2.1[a]).1 0 != 400)<;>cases azd (w.2.2.1[a]).2.2.2.1.2.2.2<;>rfl
 .rw[B2,aE,aa,XQ]
def aD1 (w:ah):Bool:=at0 w&&(YY w&&(YZ w&&(acX w&&aql w)))
def abt {w:ah}(h:kq w)(a:aHb w):gI F0 w=some (aD1 w,()):=by rw[aih,asM h,ai,amv h,ai,amx h,ai,aqp h,ai,aqm h a,ai];unfold aD1;cases at0 w<;>cases YY w<;>cases YZ w<;>cases acX w<;>rfl
abbrev x5:=List Int×Int×Int
def SH (c:x5):Prop:=c.1.length<=1048576/\0<=c.2.1/\c.2.1<=1048576
def awV (n:Int):0<=aj ((BitVec.ofInt 64 n &&& BitVec.ofInt 64 255).toNat:Int)/\aj ((BitVec.ofInt 64 n &&& BitVec.ofInt 64 255).toNat:Int)<=255:=by
 have h:(BitVec.ofInt 64 n &&& BitVec.ofInt 64 255).toNat<=255:=by rw[BitVec.toNat_and];exact bX Nat.and_le_right (by decide)
 rw[aI (by omega) (by omega)];omega
def aD2 {c:x5}(h:SH c):∃(v:Int) (a:x5),kL F0 c=some ((v,()),a,())/\0<=v/\v<=255/\SH a:=by
 rw[anQ];by_cases hlt:c.2.1<(c.1.length:Int)
 .rw[aL hlt,ae,show bE c.2.1 (c.1.length:Int)=true by simp[bE];exact⟨h.2.1,hlt⟩,ab];have b:=h.1;have d:=h.2.1;refine⟨_,_,rfl,(awV _).1,(awV _).2,h.1,?_,?_⟩
  .show 0<=aj (c.2.1+1);rw[aI (by omega) (by omega)];omega
  .show aj (c.2.1+1)<=1048576;rw[aI (by omega) (by omega)];omega
 .rw[aQ hlt,aa];exact⟨_,_,rfl,(awV _).1,(awV _).2,h⟩
def afQ {a n:Int}(b:0<=a)(c:0<n):0<=Int.tmod a n/\Int.tmod a n<n:=by rw[amV b];exact⟨Vn _ (by omega),amY _ c⟩
def aqq {c:x5}(h:SH c){n:Int}(b:0<n)(e:n<=256):∃(v:Int) (a:x5),ax F0 c n=some ((v,()),a,())/\0<=v/\v<n/\SH a:=by obtain⟨v,a,f,d,i,g⟩:=aD2 h;rw[S7,aQ (show ¬n<=0 by omega),aa,aL e,ae,f,ai,show(!(n==0))=true by rw[bT.2 (show n≠0 by omega)];rfl,ab];exact⟨_,_,rfl,(afQ d b).1,(afQ d b).2,g⟩
def aBR {c:x5}(h:SH c){l:List Int}(j:0<l.length)(k:l.length<=256):∃(v:Int) (a:x5),jR F0 c l=some ((v,()),a,())/\v∈l/\SH a:=by
 obtain⟨v,a,d,f,g,i⟩:=aqq h (n:=(l.length:Int)) (by omega) (by omega);have b:v.toNat<l.length:=by omega
 rw[adW,d,ai,show bE v (l.length:Int)=true by simp[bE];exact⟨f,g⟩,ab];refine⟨_,_,rfl,?_,i⟩;have e:v=(v.toNat:Int):=by omega
 show aH l v 0∈l;rw[e,aT b];exact bH b
def aIZ {c:x5}(h:SH c){n:Int}(b:0<n)(d:n<=256):∃(v:Bool) (a:x5),nj F0 c n=some ((v,()),a,())/\SH a:=by obtain⟨v,a,e,g,i,f⟩:=aqq h b d;rw[anS,e,ai];exact⟨_,_,rfl,f⟩
def aKk {code:List Int}(h:code.length<=1048576):∃b:x5,Kf F0 code=some (((b,()),()))/\SH b:=by
 rw[arV];suffices d:∀(a:Nat) (q:Int) (k n:Nat),k+a=code.length->a<n->∃c:Int,H7 F0 (Ke F0) n (yk code q (k:Int) code)=some ((((code,0,c):x5),()),()) by obtain⟨c,e⟩:=d code.length (aj (26583+(code.length:Int))) 0 F0.n (wO _) (by rw[bB];omega);exact⟨_,e,h,G1 _,by show(0:Int)<=1048576;decide⟩
 intro a
 induction a with
 |zero =>
  intro q k n f g;obtain⟨n,rfl⟩:∃m,n=m+1:=⟨n-1,by omega⟩;obtain rfl:k=code.length:=by omega
  rw[Mt,aE,aa,PG];exact⟨q,rfl⟩
 |succ a i =>
  intro q k n f g;obtain⟨n,rfl⟩:∃m,n=m+1:=⟨n-1,by omega⟩;have hlt:k<code.length:=by omega
  rw[Mt,aM hlt,ae];cases decide ((k:Int)<4000) with
  |false =>
   rw[aa,PG];exact⟨q,rfl⟩
  |true =>
   rw[ae,an hlt,ab,al (by omega)];exact i _ (k+1) n (by omega) (by omega)
def SJ (c x:UInt8)(l:List UInt8):parts c (x::l)=if x=c then []::parts c l else match parts c l with
  |p::a=>(x::p)::a|[]=>[[x]]:=by
 conv=>lhs;unfold parts
 cases parts c l<;>rfl
def aiz {c:UInt8}:∀(a b:List UInt8),parts c (a++c::b)=parts c a++parts c b
 |[],b=>by rw[BH,SJ,ag rfl];rfl
 |x::a,b=>by
  rw[GZ,SJ c x (a++c::b),SJ c x a];by_cases d:x=c
  .rw[ag d,ag d,aiz a b];rfl
  .rw[af d,af d,aiz a b];have e:=FZ c a;cases f:parts c a with
   |nil=>exact absurd f e|cons p g=>rfl
def aze {σ V:Type}{f:σ->List UInt8->Option (σ×V)}:∀{l m:List (List UInt8)} {s:σ} {r:List V},tF f s (l++m)=some r->∃a c,tF f s l=some a/\r=a++c/\c.length=m.length
 |[],m,s,r,h=>⟨[],r,rfl,rfl,Rm h⟩|p::l,m,s,r,h=>by
  rw[GZ]at h;unfold tF at h ⊢;cases e:f s p with
  |none=>rw[e]at h;cases h
  |some x =>
   obtain⟨g,b⟩:=x;rw[e]at h;dsimp only at h ⊢;cases d:tF f g (l++m) with
   |none=>rw[d]at h;cases h
   |some n =>
    rw[d]at h;cases h;obtain⟨a,c,i,j,k⟩:=aze d;rw[i];exact⟨b::a,c,rfl,by rw[j];rfl,k⟩
def aqr {a t:List UInt8}(n:(47:UInt8) ∉ t)(h:bg (a++47::t)=true):bg a=true/\∃x,(a6 (a++47::t)).1=(a6 a).1++[x]:=by
 have o:a++47::t≠[]:=by simp
 unfold bg at h ⊢;unfold a6 at h ⊢;rw[af o,aiz,apX n]at h ⊢;cases f:parts 47 a with
 |nil=>exact absurd f (FZ 47 a)
 |cons g c =>
  rw[f,GZ]at h;rw[GZ];dsimp only at h ⊢;by_cases d:¬g=[]\/30<(c++[t]).length
  .rw[ag d]at h;cases h
  .rw[af d]at h ⊢;have p:g=[]:=axJ fun b=>d (.inl b)
   have q:¬30<(c++[t]).length:=fun b=>d (.inr b)
   rw[aK,cS]at q;cases i:tF tn 0 (c++[t]) with
   |none=>rw[i]at h;cases h
   |some r =>
    obtain⟨s,e,j,k,l⟩:=aze i;obtain⟨x,rfl⟩:∃x,e=[x]:=by
     cases e with
     |nil=>cases l
     |cons x e =>
      cases e with
      |nil=>exact⟨x,rfl⟩|cons _ _=>simp at l
    by_cases m:a=[]
    .subst m;have:c=[]:=by have:=f;unfold parts at this;exact(tL this).2.symm
     subst this;cases j;rw[ag rfl];exact⟨rfl,x,k⟩
    .rw[af m,af (fun b=>b.elim (fun b=>b p) (fun b=>by omega)),j];exact⟨rfl,x,k⟩
def od (l:List dH):List UInt8:=Lib.join (l.map txL) [44]
def Ox (l:List dH):List UInt8:=if l.all gn=true then od l else []
def aI0 {l:List dH}(h:l.all gn=true):∀x∈l.map txL,x.length<=90:=by intro x a;obtain⟨y,b,rfl⟩:=E2.1 a;exact apT (eb.1 h y b)
def Mb {l:List dH}(h:l.all gn=true):(od l).length<=91*l.length:=by have:=aID (aI0 h) 44;rw[nh]at this;exact this
def afR {l:List dH}{k:Nat}(a:k<l.length):(l.take (k+1)).all gn=((l.take k).all gn&&gn l[k]):=by rw[Ml,og a,List.all_append];simp
def Pk {U V:Type}{l:List U}{f:U->V}{k:Nat}(a:k<l.length):(l.take (k+1)).map f=(l.take k).map f++[f l[k]]:=by rw[Ml,og a,adr];rfl
def Ju {l:List dH}{k:Nat}(a:k<l.length)(h:gn l[k]=false):l.all gn=false:=by rw[agt];exact⟨l[k],bH a,by simp[h]⟩
def at5 {x:dH}(h:gn x=true):acL x=txL x:=ag h
def azf {l:List dH}(h:l.length<=1048576):Iw F0 l=some (tx (Ox l),()):=by
 rw[ak8];refine cu (fun n i (c:ByteArray)=>qV F0 (rZ F0) n (mm l c i)) l.length (fun k c=>(l.take k).all gn=true/\c=tx (od (l.take k))) _ (fun n k c a f=>?_) (fun n c f=>?_) _ 0 _ (aR _) ⟨rfl,rfl⟩ (by rw[bB];omega)
 .obtain⟨b,rfl⟩:=f;have g:=Mb b;rw[bz,ads (by omega)]at g;rw[He,aM a,ae,an a,ab,abp a,Rk,ai,aeg];dsimp only;cases d:gn l[k]with
  |false =>
   left;rw[eh,ae,Ox,Ju a d];rfl
  |true =>
   right;have o:=apT d;refine⟨tx (od (l.take (k+1))),?_,by rw[afR a,b,d];rfl,rfl⟩;rw[aN,aa,ab,ab,apU,ai,ai,at5 d,show ByteArray.mk #[44]=tx [44] from rfl,fX];dsimp only;rw[h9 (by rw[bD,bD,cS];omega),ab,h9 (by rw[bD,bD,aK,cS];omega),ab,h9 (by rw[bD,bD];omega),ab,fX,fX,al (by omega)];by_cases j:k=0
   .subst j;rw[show decide (((0:Nat):Int)>0)=false from rfl,aa,show od (l.take (0+1))=od (l.take 0)++txL l[0] by rw[od,Pk a];simp[od,Lib.join_one,Lib.join_nil]]
   .have m:(l.take k).map txL≠[]:=by intro e;have:=oh List.length e;rw[nh,bz,bj]at this;omega
    rw[aL (show(k:Int)>0 by omega),ae,show od (l.take (k+1))=od (l.take k)++[44]++txL l[k] by rw[od,Pk a,aET m];rfl]
 .obtain⟨b,rfl⟩:=f;rw[ki]at b ⊢;rw[He,aE,aa,ab8,Ox,ag b]
def aI1 (l:List dH):((l.map fun x=>tx (txL x)).map fun b=>b.data.toList)=l.map txL:=by rw[List.map_map];exact List.map_congr_left fun n _=>fq _
def awW {l:List dH}(h:l.length<=524288):Jh F0 l=some (tx (Ox l),()):=by
 rw[ami];refine cu (fun n i (c:List ByteArray)=>Bf F0 (s0 F0) n (sZ l (l.length:Int) i c)) l.length (fun k c=>(l.take k).all gn=true/\c=(l.take k).map fun x=>tx (txL x)) _ (fun n k c a d=>?_) (fun n c d=>?_) F0.n 0 [] (aR _) ⟨rfl,rfl⟩ (by rw[bB];omega)
 .obtain⟨b,rfl⟩:=d;rw[HN,aM a,ae,an a,ab,abp a,C4,ai,afj];dsimp only;cases e:gn l[k]with
  |false =>
   left;rw[eh,ae,Ox,Ju a e];rfl
  |true =>
   right;refine⟨(l.take (k+1)).map fun x=>tx (txL x),?_,by rw[afR a,b,e];rfl,rfl⟩;rw[aN,aa,aj3,ai,at5 e,ar (by omega) (by omega) (by rw[nh,bz,cS];omega),ab,al (by omega),Pk a]
 .obtain⟨b,rfl⟩:=d;rw[ki]at b ⊢;rw[HN,aE,aa,acD,show ByteArray.mk #[44]=tx [44] from rfl,aik (aI1 l) (by rw[nh];omega) (by have:=Mb b;unfold od at this;omega),ai,Ox,ag b];rfl
def Oy (up:List UInt8)(view:Int)(l:List dH):List UInt8:=up++[47]++Lib.itoa view++[124]++od l
def SK (up:List UInt8)(view:Int)(l:List dH):List UInt8:=if l.all gn=true/\bg (Oy up view l)=true then Oy up view l else []
def acY (up:List UInt8){view:Int}(a:I64 view){l:List dH}(b:l.all gn=true):(Oy up view l).length<=up.length+23+91*l.length:=by have:=Mb b;have:=Sr a;simp only[Oy,aK,cS];omega
def aqs {up:List UInt8}(f:up.length<=1048576){view:Int}(c:I64 view){l:List dH}(h:l.length<=1048576):kS F0 (tx up) view l=some (tx (SK up view l),()):=by
 have g:=Sr c;rw[aol];refine cu (fun n i (_:Unit)=>DL F0 (u4 F0) n (u3 (tx up) view l i)) l.length (fun k _=>(l.take k).all gn=true) _ (fun n k out b a=>?_) (fun n out a=>?_) _ 0 () (aR _) rfl (by rw[bB];omega)
 .rw[KH,aM b,ae,an b,ab,abp b,Rk,ai,ag5];dsimp only;cases d:gn l[k]with
  |false =>
   left;rw[eh,ae,SK,af (by rw[Ju b d];simp)];rfl
  |true =>
   right;exact⟨(),by rw[aN,aa,al (by omega)],by rw[afR b,a,d];rfl⟩
 .rw[ki]at a;have j:=Mb a;have e:=acY up c a;rw[KH,aE,aa,aeh,C2 c,ai,azf h,ai,Ox,ag a,show ByteArray.mk #[47]=tx [47] from rfl,show ByteArray.mk #[124]=tx [124] from rfl];dsimp only;rw[h9 (by rw[bD,bD,cS];omega),ab,fX,h9 (by rw[bD,bD,aK,cS];omega),ab,fX,h9 (by rw[bD,bD,aK,aK,cS,cS];omega),ab,fX,
   h9 (by rw[bD,bD,aK,aK,aK,cS,cS];omega),ab,fX,show up++[47]++Lib.itoa view++[124]++od l=Oy up view l from rfl,Sy (by omega),ai,SK]
  dsimp only;cases e:bg (Oy up view l) with
  |false=>rw[af (by simp)];rfl
  |true=>rw[ag ⟨a,rfl⟩];rfl
def azg {up:List UInt8}(f:up.length<=1048576){view:Int}(c:I64 view){l:List dH}(h:l.length<=2):FN F0 (tx up) view l=some (tx (SK up view l),()):=by
 have g:=Sr c;rw[apG];refine cu (fun n i (_:Unit)=>ES F0 (vT F0) n (vS (tx up) view l l (l.length:Int) i)) l.length (fun k _=>(l.take k).all gn=true) _ (fun n k out b a=>?_) (fun n out a=>?_) _ 0 () (aR _) rfl (by rw[bB];omega)
 .rw[LJ,aM b,ae,an b,ab,abp b,C4,ai,ah6];dsimp only;cases d:gn l[k]with
  |false =>
   left;rw[eh,ae,SK,af (by rw[Ju b d];simp)];rfl
  |true =>
   right;exact⟨(),by rw[aN,aa,al (by omega)],by rw[afR b,a,d];rfl⟩
 .rw[ki]at a;have j:=Mb a;have e:=acY up c a;rw[LJ,aE,aa,afk,Rj c,ai,awW (by omega),ai,Ox,ag a,show ByteArray.mk #[47]=tx [47] from rfl,show ByteArray.mk #[124]=tx [124] from rfl];dsimp only;rw[h9 (by rw[bD,bD,cS];omega),ab,fX,h9 (by rw[bD,bD,aK,cS];omega),ab,fX,h9 (by rw[bD,bD,aK,aK,cS,cS];omega),ab,fX,
   h9 (by rw[bD,bD,aK,aK,aK,cS,cS];omega),ab,fX,show up++[47]++Lib.itoa view++[124]++od l=Oy up view l from rfl,Oq (by omega),ai,SK]
  dsimp only;rw[aQ (show ¬((l.length:Int)>2) by omega),aa];cases e:bg (Oy up view l) with
  |false=>rw[af (by simp)];rfl
  |true=>rw[ag ⟨a,rfl⟩];rfl
def Gd {U:Type}(X:Option U)(P:U->Prop):Prop:=∃v,X=some v/\P v
abbrev DrT (U:Type):=(U×Unit)×(x5×Unit)
def Dr {U:Type}(X:Option (DrT U))(Q:U->Prop):Prop:=Gd X fun z=>Q z.1.1/\SH z.2.1
def Gd.bind {U V:Type}{X:Option U}{P:U->Prop}(h:Gd X P){f:U->Option V}{R:V->Prop}(a:∀v,P v->Gd (f v) R):Gd (X.bind f) R:=by obtain⟨v,rfl,b⟩:=h;exact a v b
def Dr.bind {U V:Type}{X:Option (DrT U)}{Q:U->Prop}(h:Dr X Q){f:DrT U->Option V}{R:V->Prop}(a:∀z:DrT U,Q z.1.1->SH z.2.1->Gd (f z) R):Gd (X.bind f) R:=by obtain⟨z,rfl,b,c⟩:=h;exact a z b c
def Gd.let {U V:Type}{X:Option U}{v:U}(h:X=some v){f:U->Option V}{R:V->Prop}(a:Gd (f v) R):Gd (X.bind f) R:=by subst h;exact a
def Gd.ret {U:Type}{v:U}{P:U->Prop}(h:P v):Gd (some v) P:=⟨v,rfl,h⟩
def Gd.br {U:Type}{c:Bool}{x y:Option U}{P:U->Prop}(a:c=true->Gd x P)(b:c=false->Gd y P):Gd (br c x y) P:=by
 cases c with
 |true=>exact a rfl|false=>exact b rfl
def Gd.ck {U:Type}{c:Bool}{x:Option U}{P:U->Prop}(a:c=true)(b:Gd x P):Gd (ck c x) P:=by subst a;exact b
def Gd.br0 {U:Type}{c:Bool}{x y:Option U}{P:U->Prop}(h:c=false)(a:Gd y P):Gd (Am.br c x y) P:=by subst h;exact a
def amK {ζ V:Type}(X:Nat->Int->ζ->Option V)(L:Nat)(I:Nat->ζ->Prop)(P:V->Prop)
  (c:∀n k z,k<L->I k z->(∀a,I (k+1) a->Gd (X n ((k+1:Nat):Int) a) P)->Gd (X (n+1) (k:Int) z) P) (d:∀n z,I L z->Gd (X (n+1) (L:Int) z) P) :
  ∀n k z,k<=L->I k z->L-k<n->Gd (X n (k:Int) z) P:=by
 intro n
 induction n with
 |zero=>intro k z _ _ h;omega
 |succ n e =>
  intro k z g b i;by_cases h:k=L
  .subst h;exact d n z b
  .exact c n k z (by omega) b fun a f=>e (k+1) a (by omega) f (by omega)
def amL {c:x5}(h:SH c):Dr (U:=Int) (kL F0 c) fun v=>0<=v/\v<=255:=by obtain⟨v,f,e,a,b,d⟩:=aD2 h;exact⟨_,e,⟨a,b⟩,d⟩
def aI2 {x y z w:Int}(a:0<=x)(b:x<=255)(c:0<=y)(d:y<=255)(e:0<=z)(f:z<=255)(w0:0<=w)(w1:w<=255):0<=aj (aj (aj (aj (x*16777216)+aj (y*65536))+aj (z*256))+w):=by rw[aI (n:=x*16777216) (by omega) (by omega),aI (n:=y*65536) (by omega) (by omega),aI (n:=z*256) (by omega) (by omega),aI (n:=x*16777216+y*65536) (by omega) (by omega),aI (n:=x*16777216+y*65536+z*256) (by omega) (by omega),aI (by omega) (by omega)];omega
def hz {c:x5}(h:SH c){n:Int}(a:0<n)(r:n<=9223372036854775807):Dr (U:=Int) (ax F0 c n) fun v=>0<=v/\v<n:=by
 by_cases b:n<=256
 .obtain⟨v,s,e,j,k,l⟩:=aqq h a b;exact⟨_,e,⟨j,k⟩,l⟩
 .unfold Dr;rw[S7];refine Gd.br0 (aQ (by omega)) (Gd.br0 (aQ b) ?_);refine Dr.bind (amL h) fun x d m=>Dr.bind (amL m) fun y f o=>Dr.bind (amL o) fun z g p=>Dr.bind (amL p) fun w i q=>Gd.ck ?_ (Gd.ret ⟨?_,q⟩)
  .rw[bT.2 (show n≠0 by omega)];rfl
  .exact afQ (aI2 d.1 d.2 f.1 f.2 g.1 g.2 i.1 i.2) a
def amM {c:x5}(h:SH c){n:Int}(a:0<n)(b:n<=256):Dr (U:=Bool) (nj F0 c n) fun _=>True:=by obtain⟨v,f,e,d⟩:=aIZ h a b;exact⟨_,e,trivial,d⟩
def acZ {c:x5}(h:SH c){l:List Int}(a:0<l.length)(b:l.length<=256):Dr (U:=Int) (jR F0 c l) fun v=>v∈l:=by obtain⟨v,g,e,d,f⟩:=aBR h a b;exact⟨_,e,d,f⟩
def aKl {code:List Int}(h:code.length<=1048576):Gd (Kf F0 code) fun z=>SH z.1.1:=by obtain⟨c,e,a⟩:=aKk h;exact⟨_,e,a⟩
def aLi {x y z w:Int}(b:0<=x)(c:x<4)(d:0<=y)(e:y<4)(a:z∈[(0:Int),5,60,100,1000])(w0:0<=w)(w1:w<3):gn (x,y,z,w)=true:=by simp only[cT,abD,or_false]at a;simp only[gn,inB,aG,bV];rcases a with rfl|rfl|rfl|rfl|rfl<;>omega
def at6 {c:x5}(h:SH c):Dr (U:=dH) (mn F0 c) fun v=>gn v=true:=by
 unfold Dr;rw[Zn];refine Dr.bind (hz h (n:=4) (by omega) (by omega)) fun x a e=>Dr.bind (hz e (n:=4) (by omega) (by omega)) fun y b f=>Dr.bind (acZ f (l:=[0,5,60,100,1000]) (by decide) (by decide)) fun z g i=>Dr.bind (hz i (n:=3) (by omega) (by omega)) fun w d j=>Gd.ret ⟨?_,j⟩
 exact aLi a.1 a.2 b.1 b.2 g d.1 d.2
def at7 {up:List UInt8}{view:Int}(a:I64 view)(l:List dH):(SK up view l).length<=up.length+23+91*l.length:=by
 unfold SK;split
 .rename_i h;exact acY up a h.1
 .exact aR _
def aiA {l h n:Int}(a:0<=l)(b:l<=h)(c:h<=n):RZ l h n=true:=by simp[RZ,a,b,c]
def aqt (l:List UInt8):∀(k:Nat),k<=l.length->(gx l k=0/\∀a,a<k->l.getD a 0≠47)\/(0<gx l k/\gx l k<=k/\l.getD (gx l k-1) 0=47/\∀a,gx l k<=a->a<k->l.getD a 0≠47)
 |0,_=>.inl ⟨rfl,fun a h=>absurd h (S1 _)⟩
 |k+1,n=>by
  have f:∀b:UInt8,((b.toNat:Int) != 47)=true↔b≠47:=by
   intro b;rw[E3];constructor
   .rintro h rfl;exact h rfl
   .intro h c;refine h (UInt8.toNat_inj.1 ?_);show b.toNat=47;omega
  unfold gx;split
  .rename_i h;rw[f]at h;rcases aqt l k (by omega) with ⟨d,c⟩|⟨d,c,g,i⟩
   .refine .inl ⟨d,fun a o=>?_⟩;by_cases e:a=k
    .rw[e];exact h
    .exact c a (by omega)
   .refine .inr ⟨d,by omega,g,fun a j p=>?_⟩;by_cases e:a=k
    .rw[e];exact h
    .exact i a j (by omega)
  .rename_i h;rw[f]at h;refine .inr ⟨agw _,bG _,axJ fun m=>h m,fun a d c=>by omega⟩
def X9 {l:List UInt8}(h:bg l=true)(b:l≠[]):∃t,(47:UInt8) ∉ t/\l=fO l++47::t:=by
 have j:0<gx l l.length:=by obtain⟨t,rfl⟩:=aqb h b;exact aiw _ (agw _)
 rcases aqt l l.length (bG _) with ⟨k,_⟩|⟨_,m,a,c⟩
 .omega
 .have hlt:gx l l.length-1<l.length:=by omega
  have d:fO l=l.take (gx l l.length-1):=by unfold fO;rw[ag h]
  refine⟨l.drop (gx l l.length),fun f=>?_,?_⟩
  .obtain⟨g,i,e⟩:=ai4 f;rw[List.getElem_drop]at e;rw[bc]at i;refine c (gx l l.length+g) (by omega) (by omega) ?_;rw[BG,og (by omega)];exact e
  .rw[d]
   conv=>lhs;rw[<-ZM (gx l l.length-1) l]
   congr 1
   rw[Vh hlt];rw[BG,og hlt]at a;rw[show l[gx l l.length-1]=47 from a,show gx l l.length-1+1=gx l l.length by omega]
def Db {l:List UInt8}(h:bg l=true):bg (fO l)=true:=by
 by_cases a:l=[]
 .subst a;rfl
 .obtain⟨t,b,e⟩:=X9 h a;exact(aqr b (e▸h)).1
def aHe {l:List UInt8}(h:bg l=true)(a:l≠[]):(fO l).length<l.length:=by obtain⟨t,_,e⟩:=X9 h a;have:=oh List.length e;rw[aK,aW]at this;omega
def afS {l:List UInt8}(h:bg l=true)(b:l≠[]):∃x,(a6 l).1=(a6 (fO l)).1++[x]/\aD l=x.1:=by obtain⟨t,c,e⟩:=X9 h b;obtain⟨_,x,a⟩:=aqr c (e▸h);rw[<-e]at a;refine⟨x,a,?_⟩;unfold aD;rw[a,List.getLast?_append];rfl
def aMc (r:List Rn):Int:=match r.getLast? with|some s=>s.1|none=>0
def aua:∀{ps:List (List UInt8)} {c:Int} {r1:List Rn} {x:Rn},tF tn c ps=some (r1++[x])->(match r1.getLast? with|some s=>s.1|none=>c)<x.1
 |[],c,r1,x,h=>by cases r1<;>cases h
 |p::ps,c,r1,x,h=>by
  unfold tF at h;cases a:tn c p with
  |none=>rw[a]at h;cases h
  |some y =>
   obtain⟨i,b⟩:=y;rw[a]at h;dsimp only at h;have j:=XU a;have hlt:c<b.1:=by
    unfold tn at a;split at a
    .rename_i k;cases a;exact k.2.2.2.1
    .cases a
   cases d:tF tn i ps with
   |none=>rw[d]at h;cases h
   |some r =>
    rw[d]at h;have h:=eT h;cases r1 with
    |nil =>
     obtain⟨e,f⟩:=tL h;rw[<-e];exact hlt
    |cons z r1 =>
     obtain⟨e,f⟩:=tL h;rw[f]at d;have:=aua d;rw[j.2]at this;rw[<-e];cases r1 with
     |nil=>exact this
     |cons w r1 =>
      rw[List.getLast?_cons_cons];cases g:(w::r1).getLast? with
      |none=>exact absurd (List.getLast?_eq_none_iff.1 g) (by simp)
      |some s =>
       rw[g]at this;exact this
def amN {l:List UInt8}(h:bg l=true)(d:l≠[]):aD (fO l)<aD l:=by
 obtain⟨x,b,f⟩:=afS h d;rw[f];have a:=h;unfold bg at a;unfold a6 at a b;rw[af d]at a b;cases e:parts 47 l with
 |nil=>rw[e]at a;cases a
 |cons j g =>
  rw[e]at a b;dsimp only at a b;split at a
  .cases a
  .rename_i i;rw[af i]at b;cases c:tF tn 0 g with
   |none=>rw[c]at a;cases a
   |some r =>
    rw[c]at b;dsimp only at b;rw[show r=_ from b]at c;exact aua c
def aiB (c:UInt8):∀l:List UInt8,l.length+1=((parts c l).map fun p=>p.length+1).sum
 |[]=>rfl|x::l=>by
  have a:=aiB c l;rw[SJ];split
  .rw[tf,Vp,<-a,aW,bj];omega
  .have d:=FZ c l;cases b:parts c l with
   |nil=>exact absurd b d
   |cons p e =>
    rw[b]at a;rw[tf,Vp]at a ⊢;rw[aW,aW];omega
def aBS {U:Type}{f:U->Nat}{b:Nat}:∀{l:List U},(∀x∈l,f x<=b)->(l.map f).sum<=b*l.length
 |[],_=>aR _|x::l,h=>by
  have c:=h x pZ;have d:=aBS fun y a=>h y (jN x a)
  rw[tf,Vp,aW,Nat.mul_succ];omega
def aiC {σ V:Type}{f:σ->List UInt8->Option (σ×V)}{Q:List UInt8->Prop}(e:∀s p c b,f s p=some (c,b)->Q p):∀{P:List (List UInt8)} {s:σ} {r:List V},tF f s P=some r->∀p∈P,Q p
 |[],_,_,_,p,a=>by cases a
 |q::P,s,r,h,p,a=>by
  unfold tF at h;cases d:f s q with
  |none=>rw[d]at h;cases h
  |some y =>
   obtain⟨c,b⟩:=y;rw[d]at h;dsimp only at h;cases g:tF f c P with
   |none=>rw[g]at h;cases h
   |some i =>
    rcases cT.1 a with rfl|a
    .exact e _ _ _ _ d
    .exact aiC e g p a
def aI3 {l:List UInt8}(h:(ZJ l).2=true):l.length<=90:=by
 unfold ZJ at h;split at h
 .rename_i a;rw[<-a.2];exact apT a.1
 .cases h
def aHf {l:List UInt8}(h:(lM l).2=true):l.length<=91*(lM l).1.length:=by
 unfold lM at h ⊢;split at h
 .rename_i a;rw[ag a,a];exact bG _
 .rename_i a;rw[af a];cases c:tF txF () (parts 44 l) with
  |none=>rw[c]at h;cases h
  |some r =>
   have g:=Rm c;have i:=aiB 44 l;have:=aBS (f:=fun p:List UInt8=>p.length+1) (b:=91) (l:=parts 44 l) (aiC (f:=txF) (Q:=fun p=>p.length+1<=91) (fun s p j b d=>by
    unfold txF at d;split at d
    .rename_i e;have:=aI3 e;omega
    .cases d) c)
   dsimp only;omega
def aI4 {l:List UInt8}(h:(fB l).2=true):l.length<=6:=by
 unfold fB at h;split at h
 .cases h
 .rename_i a;omega
def aKm (l:List UInt8)(c:UInt8):l.length<=(l.takeWhile (· != c)).length+((l.dropWhile (· != c)).drop 1).length+1:=by have h:=oh List.length (List.takeWhile_append_dropWhile (p:=(· != c)) (l:=l));rw[aK]at h;rw[bc];omega
def aHg {g:Int}{p:List UInt8}{f:Int}{b:Rn}(h:tn g p=some (f,b)):p.length<=189:=by
 unfold tn at h;split at h
 .rename_i a;have c:=aI4 a.2.1;have d:=aHf a.2.2.1;have e:=a.2.2.2.2.2;have i:=aKm p 124;unfold eL at c d e;dsimp only at c d e;omega
 .cases h
def aI5 {l:List UInt8}(h:bg l=true):l.length<=5700:=by
 by_cases d:l=[]
 .rw[d];exact aR _
 unfold bg a6 at h;rw[af d]at h;have e:=aiB 47 l;cases g:parts 47 l with
 |nil=>rw[g]at h;cases h
 |cons k a =>
  rw[g]at h e;dsimp only at h;split at h
  .cases h
  .rename_i i;have m:k=[]:=axJ fun c=>i (.inl c)
   have o:¬30<a.length:=fun c=>i (.inr c)
   cases j:tF tn 0 a with
   |none=>rw[j]at h;cases h
   |some r =>
    have:=aBS (f:=fun p:List UInt8=>p.length+1) (b:=190) (l:=a) (aiC (f:=tn) (Q:=fun p=>p.length+1<=190) (fun s p q b n=>by have:=aHg n;omega) j);rw[tf,Vp,m,bj]at e;omega
def Pl:Nat->Int->List Int
 |0,v=>[v]|k+1,v=>if v<128 then [v] else (v%128+128)::Pl k (v/128)
def ay (v:Int):List Int:=if 0<=v/\v<=2147483647 then Pl 4 v else []
def aqu:∀(k:Nat) (v:Int),1<=(Pl k v).length/\(Pl k v).length<=k+1
 |0,v=>⟨bG _,bG _⟩|k+1,v=>by
  unfold Pl;have:=aqu k (v/128);split
  .exact⟨bG _,by rw[cS];omega⟩
  .rw[aW];omega
def aqv:∀(k:Nat) (v:Int),0<=v->v<128 ^ (k+1)->∀x∈Pl k v,0<=x/\x<=255
 |0,v,b,c,x,a=>by rw[fm.1 a];have:(128:Int) ^ (0+1)=128:=rfl;omega
 |k+1,v,b,c,x,a=>by
  unfold Pl at a;split at a
  .rw[fm.1 a];omega
  .rcases cT.1 a with rfl|a
   .omega
   .refine aqv k (v/128) (by omega) ?_ x a;have e:(128:Int) ^ (k+1+1)=128 ^ (k+1)*128:=S3 _ _;omega
def b7 (v:Int):(ay v).length<=5:=by
 unfold ay;split
 .exact(aqu 4 v).2
 .exact aR _
def fG (v:Int):∀x∈ay v,0<=x/\x<=255:=by
 unfold ay;split
 .rename_i h;have b:(128:Int) ^ (4+1)=34359738368:=by decide
  exact aqv 4 v h.1 (by omega)
 .intro x a;cases a
def azh:∀(j k:Nat) (v n:Int) (rest:List Int),j+k=4->0<=v->v<128 ^ (j+1)->(k≠0->v≠0)->0<=n->n+v*128 ^ k<=2147483647->Rr (j+1) (Pl j v++rest) k n=some (n+v*128 ^ k,k+(Pl j v).length)
 |0,k,v,n,rest,f,g,i,a,l,b=>by have q:(128:Int) ^ (0+1)=128:=rfl;unfold Pl Rr;rw[List.singleton_append];dsimp only;rw[ag (by omega),af (fun h=>h.elim (fun h=>a h.1 h.2) (fun h=>by omega))];rfl
 |j+1,k,v,n,rest,f,g,i,a,l,b=>by
  unfold Pl;have m:=SD (k:=k) (by omega);have o:(128:Int) ^ (k+1)=128 ^ k*128:=S3 _ _;have r:(128:Int) ^ (j+1+1)=128 ^ (j+1)*128:=S3 _ _;split
  .rename_i c;unfold Rr;rw[List.singleton_append];dsimp only;rw[ag c,af (fun h=>h.elim (fun h=>a h.1 h.2) (fun h=>by omega))];rfl
  .rename_i c;unfold Rr;rw[GZ];dsimp only;have p:0<=v%128/\v%128<128:=⟨Vn _ (by omega),amY _ (by omega)⟩;rw[af (by omega),show(v%128+128)%128=v%128 by omega];have e:v*128 ^ k=v%128*128 ^ k+v/128*128 ^ (k+1):=by
    rw[o];have:v=v%128+128*(v/128):=(Int.emod_add_mul_ediv v 128).symm;generalize (128:Int) ^ k=P at *
    calc v*P=(v%128+128*(v/128))*P:=by rw[<-this]
     _=v%128*P+v/128*(P*128):=by rw[Int.add_mul,Int.mul_comm 128,Int.mul_assoc,Int.mul_comm 128]
   have s:=aqd (d:=v%128) (P:=128 ^ k) p.1 (by omega) m.1;have:=azh j (k+1) (v/128) (n+v%128*128 ^ k) rest (by omega) (by omega) (by omega) (fun _=>by omega) (by omega) (by rw[Int.add_assoc,<-e];exact b);rw[this,Int.add_assoc,<-e,aW]
   congr 2
   omega
def afT {pre rest:List Int}{v:Int}(a:0<=v)(b:v<=2147483647):rD (pre++(ay v++rest)) pre.length=some (v,pre.length+(ay v).length):=by
 have c:(128:Int) ^ (4+1)=34359738368:=by decide
 unfold rD ay;rw[am6,ag ⟨a,b⟩,azh 4 0 v 0 rest rfl a (by omega) (fun h=>absurd rfl h) (G1 _) (by have:(128:Int) ^ 0=1:=rfl;omega)];have:(128:Int) ^ 0=1:=rfl;dsimp only;rw[this,Int.mul_one,Int.zero_add,wO]
def fV (s:ByteArray):List Int:=ay (s.size:Int)++bytesOf s
def Ya (s:ByteArray):(bytesOf s).length=s.size:=by unfold bytesOf;rw[nh];rfl
def asN (s:ByteArray):∀x∈bytesOf s,0<=x/\x<=255:=by intro x a;obtain⟨b,_,rfl⟩:=E2.1 a;have:=UInt8.toNat_lt b;omega
def aFm (s:ByteArray):strOf (bytesOf s)=s:=by
 unfold strOf bytesOf;rw[List.map_map];have:(s.data.toList.map ((fun n:Int=>UInt8.ofNat n.toNat)∘fun b:UInt8=>(b.toNat:Int)))=s.data.toList:=by
  rw[List.map_congr_left (g:=id)]
  .exact List.map_id _
  .intro b _;show UInt8.ofNat ((b.toNat:Int).toNat)=b;rw[gr];exact UInt8.ofNat_toNat
 rw[this]
def aHh {pre rest:List Int}{s:ByteArray}(h:s.size<=1048576):acS (pre++(fV s++rest)) pre.length=some (s,pre.length+(fV s).length):=by
 have a:=Ya s;unfold acS fV;rw[hI,afT (by omega) (by omega)];dsimp only;rw[af ?_]
 .congr 1
  refine p0 ?_ ?_
  .show strOf _=s;have e:((pre++(ay (s.size:Int)++(bytesOf s++rest))).take (pre.length+(ay (s.size:Int)).length+((s.size:Int)).toNat)).drop (pre.length+(ay (s.size:Int)).length)=bytesOf s:=by rw[gr,<-hI,<-hI,<-aK,<-a,<-aK,abE,am6]
   rw[e,aFm]
  .show _=pre.length+(ay _++bytesOf s).length;rw[aK,a,gr,Vl]
 .rw[aK,aK,aK,a];omega
def kF {pre rest:List Int}{v:Int}(a:0<=v)(b:v<=2147483647):aU (pre++(ay v++rest)) (pre.length,true)=(v,(pre++ay v).length,true):=by unfold aU;rw[afT a b,aK];rfl
def SL {pre rest:List Int}{s:ByteArray}(h:s.size<=1048576):cW (pre++(fV s++rest)) (pre.length,true)=(s,(pre++fV s).length,true):=by unfold cW;rw[aHh h,aK];rfl
def jC (l:List Int):List Int:=l.flatMap ay
def ake (v:Int):Prop:=0<=v/\v<=2147483647
def aqw:∀(l pre rest xs:List Int) (f:Nat) (i n:Int),(∀x∈l,ake x)->n=i+l.length->l.length<f->kp (pre++(jC l++rest)) n f i (pre.length,true) xs=(xs++l,(pre++jC l).length,true)
 |[],pre,rest,xs,f+1,i,n,_,a,_=>by unfold kp;rw[af (fun h=>by have:=h.1;simp at a;omega)];simp[jC]
 |x::l,pre,rest,xs,f+1,i,n,b,a,d=>by
  have c:=b x pZ;unfold kp;rw[aW]at a d;rw[ag ⟨by omega,rfl⟩];have e:pre++(jC (x::l)++rest)=pre++(ay x++(jC l++rest)):=by simp[jC]
  rw[e,kF c.1 c.2];dsimp only;have g:pre++(ay x++(jC l++rest))=(pre++ay x)++(jC l++rest):=by simp
  rw[g,aqw l (pre++ay x) rest (xs++[x]) f (i+1) n (fun y j=>b y (jN _ j)) (by omega) (by omega)];simp[jC]
def By (l:List Int):List Int:=ay (l.length:Int)++jC l
def aqx (k:Nat)(v:Int):1<=(Pl k v).length:=(aqu k v).1
def aiD:∀{l:List Int},(∀x∈l,ake x)->l.length<=(jC l).length/\(jC l).length<=5*l.length
 |[],_=>⟨bG _,bG _⟩|x::l,h=>by
  have a:=h x pZ;have c:=aiD fun y b=>h y (jN _ b)
  have d:1<=(ay x).length/\(ay x).length<=5:=by refine⟨?_,b7 x⟩;unfold ay;rw[ag (show 0<=x/\x<=2147483647 from a)];exact aqx 4 x
  have e:jC (x::l)=ay x++jC l:=rfl;rw[e,aK,aW];omega
def aub {pre rest l:List Int}(a:∀x∈l,ake x)(h:l.length<=1048576):B6 (pre++(By l++rest)) (pre.length,true)=(l,(pre++By l).length,true):=by
 unfold B6 By;rw[hI,kF (by omega) (by omega)];dsimp only;have e:pre++(ay (l.length:Int)++(jC l++rest))=(pre++ay (l.length:Int))++(jC l++rest):=by simp
 have:=aiD a;rw[e,aqw l (pre++ay (l.length:Int)) rest [] _ 0 _ a (by omega) (by simp only[aK];omega)];simp
def kr (q:bZ):List Int:=ay q.1++(fV q.2.1++By q.2.2)
structure aI6 (q:bZ):Prop where
 v:ake q.1
 n:q.2.1.size<=1048576
 w:q.2.2.length<=1048576
 m:∀x∈q.2.2,ake x
def aqy {pre rest:List Int}{q:bZ}(h:aI6 q):wK (pre++(kr q++rest)) (pre.length,true)=(q,(pre++kr q).length,true):=by
 unfold wK kr;have a:pre++(ay q.1++(fV q.2.1++By q.2.2)++rest)=pre++(ay q.1++(fV q.2.1++(By q.2.2++rest))):=by simp
 have b:pre++(ay q.1++(fV q.2.1++(By q.2.2++rest)))=(pre++ay q.1)++(fV q.2.1++(By q.2.2++rest)):=by simp
 have c:pre++(ay q.1++(fV q.2.1++(By q.2.2++rest)))=(pre++ay q.1++fV q.2.1)++(By q.2.2++rest):=by simp
 have d:aU (pre++(ay q.1++(fV q.2.1++(By q.2.2++rest)))) (pre.length,true)=(q.1,(pre++ay q.1).length,true):=kF h.v.1 h.v.2;have e:cW (pre++(ay q.1++(fV q.2.1++(By q.2.2++rest)))) ((pre++ay q.1).length,true)=(q.2.1,(pre++ay q.1++fV q.2.1).length,true):=by rw[b];exact SL h.n
 have f:B6 (pre++(ay q.1++(fV q.2.1++(By q.2.2++rest)))) ((pre++ay q.1++fV q.2.1).length,true)=(q.2.2,(pre++ay q.1++fV q.2.1++By q.2.2).length,true):=by rw[c];exact aub h.m h.w
 rw[a,d];dsimp only;rw[e];dsimp only;rw[f];simp
def awX {a b:ByteArray}(h:(a.toList==b.toList)=true):a=b:=by have:=UN a.data.toList b.data.toList;rw[<-Kd,<-Kd,h]at this;rw[Kd a,Kd b,ng this.symm]
def Ru {a b:bZ}(h:gq a b=true):a=b:=by simp only[gq,aG,bf,bV]at h;exact p0 h.1 (p0 (awX (bf.2 h.2.1)) h.2.2)
def aFn {a b:dH}(h:aiv a b=true):a=b:=by simp only[aiv,aG,bf]at h;exact p0 h.1 (p0 h.2.1 (p0 h.2.2.1 h.2.2.2.1))
def awY {a b:cq}(h:o6 a b=true):a=b:=by simp only[o6,aG]at h;exact p0 (awX h.1) (Ru h.2)
def ac0 {a b:b0}(h:s6 a b=true):a=b:=by simp only[s6,aG]at h;obtain⟨c,d,e,f,g,i,j⟩:=h;exact p0 (bf.1 c) (p0 (bf.1 d) (p0 (awY e) (p0 (Ru f) (p0 (Ru g) (p0 (bf.1 i) (aFn j))))))
def azi {a b:bd}(h:eN a b=true):a=b:=by simp only[eN,aG]at h;obtain⟨c,d,e,f⟩:=h;exact p0 (bf.1 c) (p0 (bf.1 d) (p0 (Ru e) (awX f)))
def azj (a:bZ):gq a a=true:=by simp[gq]
def abu (a:bd):eN a a=true:=by simp[eN,azj]
def Dc {n:Int}{s:List Int}(h:iH n s=true):∀x∈s,0<=x/\x<n:=by intro x b;obtain⟨k,a,rfl⟩:=ai4 b;have:=eb.1 h k (eU.2 a);rw[BG,og a]at this;simp only[aG,bV]at this;exact⟨this.1,this.2.1⟩
def aqz {n:Int}{s:List Int}(h:iH n s=true){k:Nat}(a:k+1<s.length):s[k]<s[k+1]:=by
 have:=eb.1 h (k+1) (eU.2 a);rw[show k+1-1=k from rfl,BG,BG,og a,og (by omega)]at this;simp only[aG,kj,bV]at this;rcases this.2.2 with h1|h1
 .omega
 .exact h1
def azk {n:Int}{s:List Int}(h:iH n s=true):∀(k:Nat) (a:k<s.length),(k:Int)<=s[k]
 |0,a=>(Dc h _ (bH a)).1|k+1,a=>by have b:=azk h k (by omega);have c:=aqz h a;omega
def aiE {n:Int}{s:List Int}(h:iH n s=true):(s.length:Int)<=max n 0:=by
 rcases amX s.length with a|a
 .omega
 .have b:=azk h (s.length-1) (by omega);have c:=(Dc h s[s.length-1] (bH _)).2;omega
def o7 {b:ByteArray}(h:bg b.data.toList=true):b.size<=5700:=aI5 h
def j9 {c:Int×Int}{q:bZ}(h:eV c q=true):bq c=true/\bg q.2.1.data.toList=true/\aD q.2.1.data.toList=q.1/\(q.2.1.data.toList=[]->q.2.2=[])/\(q.2.1.data.toList≠[]->iH c.1 q.2.2=true/\(q.2.2.length:Int)>=tH c):=by
 unfold eV ZK at h;simp only[aG,bV]at h;obtain⟨d,e,f,a⟩:=h;refine⟨d,e,f,fun b=>?_,fun b=>?_⟩
 .rw[ag b]at a;exact ng a
 .rw[af b]at a;simp only[aG,bV]at a;exact a
def abv {v:Int}(a:0<=v)(b:v<=1000000):ake v:=⟨a,by omega⟩
def ta {c:Int×Int}{q:bZ}(h:eV c q=true):aI6 q/\q.2.2.length<=7/\q.2.1.size<=5700:=by
 obtain⟨f,g,k,i,j⟩:=j9 h;have l:=b3 f;have d:=o7 g;have m:=mX q.2.1.data.toList;by_cases e:q.2.1.data.toList=[]
 .have a:=i e;refine⟨⟨abv (by omega) (by omega),by omega,by rw[a];exact aR _,fun x b=>by rw[a]at b;cases b⟩,by rw[a];exact aR _,d⟩
 .obtain⟨a,_⟩:=j e;have n:=aiE a;refine⟨⟨abv (by omega) (by omega),by omega,by omega,fun x b=>?_⟩,by omega,d⟩;have:=Dc a x b;exact abv (by omega) (by omega)
def rE (b:ByteArray):dj b=true↔b.data.toList=[]:=by unfold dj;have:=UN b.data.toList [];rw[<-Kd,show tx []=ak from rfl]at this;rw[this,bV]
def afU {c:Int×Int}{p:bZ}(h:iy c p=true):bq c=true/\1<=p.1/\p.1<=60/\iH c.1 p.2.2=true/\p.2.2≠[]/\bg p.2.1.data.toList=true/\(p.2.1.data.toList≠[]->aD p.2.1.data.toList=p.1):=by
 unfold iy at h;simp only[aG,kj,gp,bV,ai6,bf,bT]at h;obtain⟨b,⟨d,f⟩,g,i,a⟩:=h;refine⟨b,d,f,g,fun e=>i (by rw[e];rfl),?_,fun j=>?_⟩
 .rcases a with a|a
  .rw[(rE _).1 a];exact ap6
  .exact a.1
 .rcases a with a|a
  .exact absurd ((rE _).1 a) j
  .exact a.2
def Y0 {c:Int×Int}{q:bZ}(h:iy c q=true):aI6 q/\q.2.2.length<=7/\q.2.1.size<=5700:=by obtain⟨b,g,i,a,_,d,_⟩:=afU h;have j:=b3 b;have e:=o7 d;have k:=aiE a;refine⟨⟨abv (by omega) (by omega),by omega,by omega,fun x f=>?_⟩,by omega,e⟩;have:=Dc a x f;exact abv (by omega) (by omega)
def Dd (m:b0):List Int :=
 ay m.1++(if m.1=1 then fV m.2.2.1.1++kr m.2.2.1.2 else if m.1=2 then kr m.2.2.2.1 else if m.1=3 then ay m.2.1++(ay m.2.2.2.2.2.1++kr m.2.2.2.2.1)
  else ay m.2.2.2.2.2.2.1++(ay m.2.2.2.2.2.2.2.1++(ay m.2.2.2.2.2.2.2.2.1++ay m.2.2.2.2.2.2.2.2.2)))
def afV {v:Int}(h:ake v)(rest:List Int):iI (ay v++rest)=(v,(ay v).length,true):=by have:=kF (pre:=[]) (rest:=rest) h.1 h.2;exact this
def aHi {c:Int×Int}{m:b0}(h:c9 c m=true):afN (Dd m)=(m,(Dd m).length,true):=by
 unfold c9 at h;simp only[aG]at h;obtain⟨D,E,d⟩:=h;have q:=ac0 E;obtain⟨aKn,view,⟨f,i⟩,part,b,cw,tx⟩:=m;dsimp only at d q ⊢;by_cases t:aKn=1
 .subst t;rw[ag (by rfl)]at d;simp only[fF,aG]at d;have k:=(ta d.1).1;have Q:=o7 d.2.1;have e:Dd (1,view,(f,i),part,b,cw,tx)=ay 1++(fV f++(kr i++[])):=by simp[Dd]
  have l:ay 1++(fV f++(kr i++[]))=(ay 1++fV f)++(kr i++[]):=by simp
  have n:=afV (v:=1) (abv (by decide) (by decide)) (fV f++(kr i++[]));have o:cW (ay 1++(fV f++(kr i++[]))) ((ay 1).length,true)=(f,(ay 1++fV f).length,true):=SL (by omega);have p:wK (ay 1++(fV f++(kr i++[]))) ((ay 1++fV f).length,true)=(i,(ay 1++fV f++kr i).length,true):=by rw[l];exact aqy k
  rw[e];unfold afN aIT;rw[n];dsimp only;rw[ag (by rfl),o];dsimp only;rw[p];rw[<-q];simp[named]
 .by_cases u:aKn=2
  .subst u;rw[af (by decide),ag (by rfl)]at d;simp only[aG]at d;have k:=(Y0 d.1).1;obtain⟨a,g,j⟩:=part;have e:Dd (2,view,(f,i),(a,g,j),b,cw,tx)=ay 2++(ay a++(fV g++(By j++[]))):=by simp[Dd,kr]
   have l:ay 2++(ay a++(fV g++(By j++[])))=(ay 2++ay a)++(fV g++(By j++[])):=by simp
   have r:ay 2++(ay a++(fV g++(By j++[])))=(ay 2++ay a++fV g)++(By j++[]):=by simp
   have n:=afV (v:=2) (abv (by decide) (by decide)) (ay a++(fV g++(By j++[])));have o:aU (ay 2++(ay a++(fV g++(By j++[])))) ((ay 2).length,true)=(a,(ay 2++ay a).length,true):=kF k.v.1 k.v.2;have p:cW (ay 2++(ay a++(fV g++(By j++[])))) ((ay 2++ay a).length,true)=(g,(ay 2++ay a++fV g).length,true):=by rw[l];exact SL k.n
   have s:B6 (ay 2++(ay a++(fV g++(By j++[])))) ((ay 2++ay a++fV g).length,true)=(j,(ay 2++ay a++fV g++By j).length,true):=by rw[r];exact aub k.m k.w
   rw[e];unfold afN aIU;rw[n];dsimp only;rw[af (by decide),ag (by rfl),o];dsimp only;rw[p];dsimp only;rw[s];rw[<-q];simp[named]
  .by_cases w:aKn=3
   .subst w;rw[af (by decide),af (by decide),ag (by rfl)]at d;simp only[aG,gp,bV]at d;obtain⟨⟨R,S⟩,k,⟨F,G⟩⟩:=d;have x:=b3 D;rw[XZ x.1 x.2.1]at G;have k:=(ta k).1;have y:ake cw:=abv F (by omega);have e:Dd (3,view,(f,i),part,b,cw,tx)=ay 3++(ay view++(ay cw++(kr b++[]))):=by simp[Dd]
    have l:ay 3++(ay view++(ay cw++(kr b++[])))=(ay 3++ay view)++(ay cw++(kr b++[])):=by simp
    have r:ay 3++(ay view++(ay cw++(kr b++[])))=(ay 3++ay view++ay cw)++(kr b++[]):=by simp
    have n:=afV (v:=3) (abv (by decide) (by decide)) (ay view++(ay cw++(kr b++[])));have o:aU (ay 3++(ay view++(ay cw++(kr b++[])))) ((ay 3).length,true)=(view,(ay 3++ay view).length,true):=kF (by omega) (by omega);have p:aU (ay 3++(ay view++(ay cw++(kr b++[])))) ((ay 3++ay view).length,true)=(cw,(ay 3++ay view++ay cw).length,true):=by rw[l];exact kF y.1 y.2
    have s:wK (ay 3++(ay view++(ay cw++(kr b++[])))) ((ay 3++ay view++ay cw).length,true)=(b,(ay 3++ay view++ay cw++kr b).length,true):=by rw[r];exact aqy k
    rw[e];unfold afN aIV;rw[n];dsimp only;rw[af (by decide),af (by decide),ag (by rfl),o];dsimp only;rw[p];dsimp only;rw[s];rw[<-q];simp[named]
   .rw[af (by simpa using t),af (by simpa using u),af (by simpa using w)]at d;simp only[aG,bf]at d;obtain⟨H,I⟩:=d;subst H;obtain⟨t1,t2,t3,t4⟩:=tx;obtain⟨⟨z,K⟩,⟨A,L⟩,⟨B,M⟩,⟨C,N⟩⟩:=mW I;dsimp only at z K A L B M C N;have e:Dd (4,view,(f,i),part,b,cw,t1,t2,t3,t4)=ay 4++(ay t1++(ay t2++(ay t3++(ay t4++[])))):=by simp[Dd]
    have l:ay 4++(ay t1++(ay t2++(ay t3++(ay t4++[]))))=(ay 4++ay t1)++(ay t2++(ay t3++(ay t4++[]))):=by simp
    have r:ay 4++(ay t1++(ay t2++(ay t3++(ay t4++[]))))=(ay 4++ay t1++ay t2)++(ay t3++(ay t4++[])):=by simp
    have O:ay 4++(ay t1++(ay t2++(ay t3++(ay t4++[]))))=(ay 4++ay t1++ay t2++ay t3)++(ay t4++[]):=by simp
    have n:=afV (v:=4) (abv (by decide) (by decide)) (ay t1++(ay t2++(ay t3++(ay t4++[]))));have o:aU (ay 4++(ay t1++(ay t2++(ay t3++(ay t4++[]))))) ((ay 4).length,true)=(t1,(ay 4++ay t1).length,true):=kF z (by omega);have p:aU (ay 4++(ay t1++(ay t2++(ay t3++(ay t4++[]))))) ((ay 4++ay t1).length,true)=(t2,(ay 4++ay t1++ay t2).length,true):=by rw[l];exact kF A (by omega)
    have s:aU (ay 4++(ay t1++(ay t2++(ay t3++(ay t4++[]))))) ((ay 4++ay t1++ay t2).length,true)=(t3,(ay 4++ay t1++ay t2++ay t3).length,true):=by rw[r];exact kF B (by omega)
    have P:aU (ay 4++(ay t1++(ay t2++(ay t3++(ay t4++[]))))) ((ay 4++ay t1++ay t2++ay t3).length,true)=(t4,(ay 4++ay t1++ay t2++ay t3++ay t4).length,true):=by rw[O];exact kF C (by omega)
    rw[e];unfold afN aIW;rw[n];dsimp only;rw[af (by decide),af (by decide),af (by decide),ag (by rfl),o];dsimp only;rw[p];dsimp only;rw[s];dsimp only;rw[P];rw[<-q];simp[named]
def aiF {c:Int×Int}{m:b0}(h:c9 c m=true):gy c (Dd m)=(m,true):=by unfold gy fin;rw[aHi h];dsimp only;rw[ag ⟨rfl,rfl,h⟩]
def e8 {a b:List Int}(c:∀x∈a,0<=x/\x<=255)(d:∀x∈b,0<=x/\x<=255):∀x∈a++b,0<=x/\x<=255:=fun x e=>(gK.1 e).elim (c x) (d x)
def ac1 (s:ByteArray):∀x∈fV s,0<=x/\x<=255:=e8 (fG _) (asN s)
def azl (l:List Int):∀x∈jC l,0<=x/\x<=255:=fun x a=>by obtain⟨y,_,h⟩:=List.mem_flatMap.1 a;exact fG y x h
def SM (q:bZ):∀x∈kr q,0<=x/\x<=255:=e8 (fG _) (e8 (ac1 _) (e8 (fG _) (azl _)))
def Yb (s:ByteArray):(fV s).length<=s.size+5:=by have:=b7 (s.size:Int);unfold fV;rw[aK,Ya];omega
def Yc {q:bZ}(h:aI6 q):(kr q).length<=q.2.1.size+5*q.2.2.length+15:=by have a:=b7 q.1;have b:=Yb q.2.1;have c:=b7 (q.2.2.length:Int);have d:=(aiD h.m).2;unfold kr By;rw[aK,aK,aK];omega
def aqA {c:Int×Int}{m:b0}(h:c9 c m=true):(Dd m).length<=12000/\(∀x∈Dd m,0<=x/\x<=255)/\1<=(Dd m).length:=by
 unfold c9 at h;simp only[aG]at h;obtain⟨l,_,a⟩:=h;have n:=b7 m.1;have pos:m.1=1\/m.1=2\/m.1=3\/m.1=4:=by
  by_cases e:m.1=1
  .exact .inl e
  .by_cases f:m.1=2
   .exact .inr (.inl f)
   .by_cases g:m.1=3
    .exact .inr (.inr (.inl g))
    .rw[af (by simpa using e),af (by simpa using f),af (by simpa using g)]at a;simp only[aG,bf]at a;exact .inr (.inr (.inr a.1))
 have one:1<=(ay m.1).length:=by unfold ay;rw[ag (by omega)];exact aqx 4 _
 unfold Dd;refine⟨?_,e8 (fG _) ?_,by rw[aK];omega⟩
 .rw[aK];rcases pos with k|k|k|k
  .rw[ag (by simpa using k)]at a;simp only[fF,aG]at a;have b:=ta a.1;have o:=o7 a.2.1;have i:=Yb m.2.2.1.1;have d:=Yc b.1;rw[ag k,aK];omega
  .rw[af (by simp[k]),ag (by simpa using k)]at a;simp only[aG]at a;have b:=Y0 a.1;have d:=Yc b.1;rw[af (by omega),ag k];omega
  .rw[af (by simp[k]),af (by simp[k]),ag (by simpa using k)]at a;simp only[aG]at a;have b:=ta a.2.1;have i:=b7 m.2.1;have j:=b7 m.2.2.2.2.2.1;have d:=Yc b.1;rw[af (by omega),af (by omega),ag k,aK,aK];omega
  .have i:=b7 m.2.2.2.2.2.2.1;have d:=b7 m.2.2.2.2.2.2.2.1;have j:=b7 m.2.2.2.2.2.2.2.2.1;have p:=b7 m.2.2.2.2.2.2.2.2.2;rw[af (by omega),af (by omega),af (by omega),aK,aK,aK];omega
 .split
  .exact e8 (ac1 _) (SM _)
  .split
   .exact SM _
   .split
    .exact e8 (fG _) (e8 (fG _) (SM _))
    .exact e8 (fG _) (e8 (fG _) (e8 (fG _) (fG _)))
def dz (s:bd):List Int:=ay s.1++(ay s.2.1++(kr s.2.2.1++fV s.2.2.2))
def cM {c:Int×Int}{s:bd}(h:bh c s=true):(0<=s.1/\s.1<=60)/\(0<=s.2.1/\s.2.1<=60)/\eV c s.2.2.1=true/\bg s.2.2.2.data.toList=true:=by simp only[bh,gp,aG,bV]at h;exact h
def aFo {c:Int×Int}{s:bd}(h:bh c s=true):L9 (dz s)=(s,(dz s).length,true):=by
 obtain⟨⟨b,g⟩,⟨f,i⟩,a,j⟩:=cM h;have a:=(ta a).1;have k:=o7 j;obtain⟨v,l,q,d⟩:=s;dsimp only at b g f i a k ⊢;have e:dz (v,l,q,d)=ay v++(ay l++(kr q++(fV d++[]))):=by simp[dz]
 have m:ay v++(ay l++(kr q++(fV d++[])))=(ay v++ay l)++(kr q++(fV d++[])):=by simp
 have n:ay v++(ay l++(kr q++(fV d++[])))=(ay v++ay l++kr q)++(fV d++[]):=by simp
 have o:=afV (v:=v) ⟨b,by omega⟩ (ay l++(kr q++(fV d++[])));have p:aU (ay v++(ay l++(kr q++(fV d++[])))) ((ay v).length,true)=(l,(ay v++ay l).length,true):=kF f (by omega);have r:wK (ay v++(ay l++(kr q++(fV d++[])))) ((ay v++ay l).length,true)=(q,(ay v++ay l++kr q).length,true):=by rw[m];exact aqy a
 have t:cW (ay v++(ay l++(kr q++(fV d++[])))) ((ay v++ay l++kr q).length,true)=(d,(ay v++ay l++kr q++fV d).length,true):=by rw[n];exact SL (by omega)
 rw[e];unfold L9;rw[o];dsimp only;rw[p];dsimp only;rw[r];dsimp only;rw[t];simp
def aBT {c:Int×Int}{s:bd}(h:bh c s=true):oc c (dz s)=(s,true):=by unfold oc;rw[aFo h];dsimp only;rw[ag ⟨rfl,rfl,h⟩]
def Rv {c:Int×Int}{s:bd}(h:bh c s=true):1<=(dz s).length/\(dz s).length<=12000:=by
 obtain⟨⟨d,e⟩,_,a,b⟩:=cM h;have a:=ta a;have f:=o7 b;have g:=b7 s.1;have i:=b7 s.2.1;have j:=Yc a.1;have k:=Yb s.2.2.2;have one:1<=(ay s.1).length:=by unfold ay;rw[ag (by omega)];exact aqx 4 _
 unfold dz;rw[aK,aK,aK];omega
def azm (s:bd):∀x∈dz s,0<=x/\x<=255:=e8 (fG _) (e8 (fG _) (e8 (SM _) (ac1 _)))
def dA (s:bd):List Int:=ay ((dz s).length:Int)++(dz s++[10])
def cd (l:List bd):List Int:=l.flatMap dA
def azn (s:bd):∀x∈dA s,0<=x/\x<=255:=e8 (fG _) (e8 (azm s) fun x a=>by rw[fm.1 a];omega)
def aiG {c:Int×Int}{s:bd}(h:bh c s=true):1<=(dA s).length/\(dA s).length<=12010:=by have a:=Rv h;have b:=b7 ((dz s).length:Int);unfold dA;rw[aK,aK,cS];omega
def aFp {c:Int×Int}{s:bd}(h:bh c s=true)(pre rest:List Int):HY c (pre++(dA s++rest)) pre.length=some (s,(pre++dA s).length):=by
 have g:=Rv h;have e:pre++(dA s++rest)=pre++(ay ((dz s).length:Int)++(dz s++(10::rest))):=by simp[dA]
 have b:=afT (pre:=pre) (rest:=dz s++(10::rest)) (v:=((dz s).length:Int)) (by omega) (by omega);rw[e,C8 b];have a:pre++(ay ((dz s).length:Int)++(dz s++(10::rest)))=(pre++ay ((dz s).length:Int))++(dz s++(10::rest)):=by simp
 have d:X7 (pre++(ay ((dz s).length:Int)++(dz s++(10::rest)))) (pre.length+(ay ((dz s).length:Int)).length) (pre.length+(ay ((dz s).length:Int)).length+((dz s).length:Int).toNat)=dz s:=by unfold X7;rw[a,gr,<-aK,<-hI,<-aK,abE,am6]
 have f:(pre++(ay ((dz s).length:Int)++(dz s++(10::rest)))).getD (pre.length+(ay ((dz s).length:Int)).length+((dz s).length:Int).toNat) 0=10:=by rw[a,gr,<-aK,<-hI,<-aK,BG,axI (bG _),Nat.sub_self];rfl
 rw[d,f,aBT h,af ?_,af (by decide),ag rfl,gr]
 .simp only[dA,aK,cS]
  congr 2
  omega
 .simp only[aK,aW];omega
def auc:∀(i k:Nat) (v:Int) (j q:Nat) (n:Int),k<(Pl i v).length->0<=v->Rr j ((Pl i v).take k) q n=none
 |i,0,v,j,q,n,_,_=>by rw[List.take_zero];cases j<;>rfl
 |0,k+1,v,j,q,n,a,_=>by unfold Pl at a;rw[cS]at a;omega
 |i+1,k+1,v,j,q,n,a,c=>by
  unfold Pl at a ⊢;split at a
  .rw[cS]at a;omega
  .rename_i b;rw[af b,auL];cases j with
   |zero=>rfl
   |succ j =>
    unfold Rr;rw[aW]at a;have:=Vn v (show(128:Int)≠0 by decide);rw[af (by omega)];exact auc i k (v/128) j (q+1) _ (by omega) (by omega)
def aBU {c:Int×Int}{s:bd}(h:bh c s=true)(pre:List Int){k:Nat}(f:k<(dA s).length):HY c (pre++(dA s).take k) pre.length=none:=by
 have g:=Rv h;by_cases a:k<(ay ((dz s).length:Int)).length
 .refine C9 ?_;unfold rD;rw[am6];have e:(dA s).take k=(ay ((dz s).length:Int)).take k:=by unfold dA;rw[aCL (by omega)]
  rw[e];have b:ay ((dz s).length:Int)=Pl 4 ((dz s).length:Int):=by unfold ay;rw[ag (by omega)]
  rw[b]at a ⊢;rw[auc 4 k _ 5 0 0 a (by omega)]
 .have e:(dA s).take k=ay ((dz s).length:Int)++(dz s++[10]).take (k-(ay ((dz s).length:Int)).length):=by unfold dA;rw[auT,ai2 (by omega)]
  have hlen:(dA s).length=(ay ((dz s).length:Int)).length+((dz s).length+1):=by simp[dA]
  have d:=afT (pre:=pre) (rest:=(dz s++[10]).take (k-(ay ((dz s).length:Int)).length)) (v:=((dz s).length:Int)) (by omega) (by omega);rw[e,C8 d,ag ?_];rw[aK,aK,bz,aK,cS];omega
def aFq {c:Int×Int}(pre:List Int):HY c pre pre.length=none:=by refine C9 ?_;unfold rD;rw[Vk];rfl
def aKo (c:Int×Int)(t:List Int):Prop:=t=[]\/∃s k,bh c s=true/\k<(dA s).length/\t=(dA s).take k
def akf {c:Int×Int}{t:List Int}(a:aKo c t):∀(l:List bd) (pre:List Int) (f:Nat) (s:bd),(∀x∈l,bh c x=true)->l.length<f ->
  Bw c (pre++(cd l++t)) f s pre.length=(l.getLastD s,(pre++cd l).length)
 |[],pre,f+1,s,_,_=>by
  have d:HY c (pre++(cd []++t)) pre.length=none:=by
   rcases a with rfl|⟨x,k,g,h,rfl⟩
   .have:pre++(cd []++[])=pre:=by simp[cd]
    rw[this];exact aFq pre
   .exact aBU g pre h
  rw[iz d];simp[cd]
 |x::l,pre,f+1,s,b,i=>by
  have j:=b x pZ;have e:pre++(cd (x::l)++t)=pre++(dA x++(cd l++t)):=by simp[cd]
  have m:pre++(dA x++(cd l++t))=(pre++dA x)++(cd l++t):=by simp
  have n:(pre++cd (x::l)).length=(pre++dA x++cd l).length:=by simp[cd]
  rw[aW]at i;rw[e,Da (aFp j pre (cd l++t)),m,n,akf a l (pre++dA x) f x (fun y o=>b y (jN _ o)) (by omega)];cases l<;>rfl
def ac2 {c:Int×Int}:∀{l:List bd},(∀x∈l,bh c x=true)->l.length<=(cd l).length
 |[],_=>bG _|x::l,h=>by
  have b:=aiG (h x pZ);have d:=ac2 fun y a=>h y (jN _ a)
  have e:cd (x::l)=dA x++cd l:=rfl;rw[e,aK,aW];omega
def Bz {c:Int×Int}{t:List Int}(b:aKo c t){l:List bd}(a:∀x∈l,bh c x=true):cD c (cd l++t)=(l.getLastD kd,(cd l).length):=by have:=akf b l [] ((cd l++t).length+1) kd a (by have:=ac2 a;rw[aK];omega);rw[BH,BH]at this;exact this
def ac3 {c:Int×Int}:∀{l:List bd} (k:Nat),(∀x∈l,bh c x=true)->∃i t,i<=l.length/\aKo c t/\(cd l).take k=cd (l.take i)++t/\(cd (l.take i)).length<=k/\∀a,a<=l.length->(cd (l.take a)).length<=k->a<=i\/cd (l.take a)=cd (l.take i)
 |[],k,_=>⟨0,[],bG _,.inl rfl,by simp[cd],aR _,fun a d _=>.inl d⟩
 |x::l,k,h=>by
  have g:=h x pZ;have hlen:=aiG g;have e:cd (x::l)=dA x++cd l:=rfl;by_cases m:k<(dA x).length
  .refine⟨0,(dA x).take k,aR _,.inr ⟨x,k,g,m,rfl⟩,?_,aR _,fun a d f=>?_⟩
   .rw[e,aCL (by omega)];rfl
   .cases a with
    |zero=>exact .inl (bG _)
    |succ a =>
     rw[auL]at f;have b:cd (x::l.take a)=dA x++cd (l.take a):=rfl;rw[b,aK]at f;omega
  .obtain⟨i,t,r,n,o,s,p⟩:=ac3 (k-(dA x).length) fun y q=>h y (jN x q)
   have b:∀a,cd ((x::l).take (a+1))=dA x++cd (l.take a):=fun a=>rfl
   refine⟨i+1,t,by rw[aW];omega,n,?_,?_,fun a d f=>?_⟩
   .rw[e,b,auT,ai2 (by omega),o,hI]
   .rw[b,aK];omega
   .cases a with
    |zero=>exact .inl (aR _)
    |succ a =>
     rw[b,aK]at f;rw[aW]at d;rcases p a (by omega) (by omega) with j|j
     .exact .inl (by omega)
     .exact .inr (by rw[b,b,j])
def aBV {U V γ:Type}(X:Nat->Int->List V->Option γ)(a:List U)(f:U->V)(R:Option γ)
  (c:∀n k xs (h:k<a.length),xs.length=k->X (n+1) (k:Int) xs=X n ((k+1:Nat):Int) (xs++[f a[k]])) (d:∀n,X (n+1) (a.length:Int) (a.map f)=R) (n:Nat) (e:a.length<n):X n 0 []=R:=by
 refine cu X a.length (fun k xs=>xs=(a.take k).map f) R (fun n k xs b h=>.inr ⟨_,c n k xs b (by rw[h,nh,bz];omega),?_⟩) (fun n xs h=>?_) n 0 [] (aR _) rfl (by omega)
 .rw[ef b,adr,h];rfl
 .rw[h,ki];exact d n
def akg {U γ:Type}(X:Nat->Int->List U->Option γ)(a:List U)(R:Option γ)
  (b:∀n k xs (h:k<a.length),xs.length=k->X (n+1) (k:Int) xs=X n ((k+1:Nat):Int) (xs++[a[k]])) (c:∀n,X (n+1) (a.length:Int) a=R) (n:Nat) (d:a.length<n):X n 0 []=R :=
 aBV X a id R b (fun n=>by rw[List.map_id];exact c n) n d
def amO {U γ:Type}(X:Nat->Int->List U->Option γ)(a:List U)(p:U->Bool)(R:Option γ)
  (c:∀n k xs (h:k<a.length),xs.length<=k->X (n+1) (k:Int) xs=X n ((k+1:Nat):Int) (if p a[k]=true then xs++[a[k]] else xs)) (d:∀n,X (n+1) (a.length:Int) (a.filter p)=R) (n:Nat) (f:a.length<n):X n 0 []=R:=by
 refine cu X a.length (fun k xs=>xs=(a.take k).filter p) R (fun n k xs b h=>.inr ⟨_,c n k xs b (by rw[h];exact bX (amZ _ _) (by rw[bz];omega)),?_⟩) (fun n xs h=>?_) n 0 [] (aR _) rfl (by omega)
 .rw[ef b,List.filter_append,h];cases e:p a[k]<;>simp[e]
 .rw[h,ki];exact d n
def wL {q:bZ}(h:q.2.2.length<=1048576):jv F0 q=some (q,()):=by rw[aod,ar (a:=0) (by omega) (by omega) (by omega),ab];rfl
def nr {q:bZ}(h:q.2.2.length<=1048576):gC F0 q=some (q,()):=by rw[ak3,ar (a:=0) (by omega) (by omega) (by omega),ab];rfl
def x1 {q:bZ}(h:q.2.2.length<=1048576):gZ F0 q=some (q,()):=ap4 (by omega)
def BA {q:bZ}(h:q.2.2.length<=1048576):fl F0 q=some (q,()):=by rw[ahH,oa (by omega),ai]
def Oz {s:bd}(h:km s):nD F0 s=some (s,()):=by rw[ak2,wL h.1.2,ai]
def Jv {s:bd}(h:km s):lD F0 s=some (s,()):=by rw[ahG,x1 h.1.2,ai]
def afW {l:List bZ}(h:l.length<=1048576)(b:∀q∈l,um q):gD F0 l=some (l,()):=by
 rw[agX];refine akg (fun n k xs=>uP F0 (yM F0) n (pj l k xs)) l _ (fun n k xs a c=>?_) (fun n=>?_) _ (by rw[bB];omega)
 .rw[Fg,aM a,ae,an a,ab,aT a,nr (b _ (bH a)).2,ai,ar (by omega) (by omega) (by simp only[aW,bj];omega),ab,al (by omega)]
 .rw[Fg,aE,aa,Zj]
def abw {l:List bZ}(h:l.length<=1048576)(b:∀q∈l,um q):eJ F0 l=some (l,()):=by
 rw[aeP];refine akg (fun n k xs=>sA F0 (wz F0) n (nS l (l.length:Int) k xs)) l _ (fun n k xs a c=>?_) (fun n=>?_) _ (by rw[bB];omega)
 .rw[BQ,aM a,ae,an a,ab,aT a,BA (b _ (bH a)).2,ai,ar (by omega) (by omega) (by simp only[aW,bj];omega),ab,al (by omega)]
 .rw[BQ,aE,aa,W9]
def OA {d:List Int×Int}(h:d.1.length<=1048576):iP F0 d=some (d,()):=by rw[ak4,ar (a:=0) (by omega) (by omega) (by omega),ab];rfl
def Jw {d:List Int×Int}(h:d.1.length<=1048576):lE F0 d=some (d,()):=by rw[ahI,ar (a:=0) (by omega) (by omega) (by omega),ab];rfl
def Yd {l:List dH}(h:l.length<=1048576):iT F0 l=some (l,()):=by rw[alT,ar (a:=0) (by omega) (by omega) (by omega),ab];rfl
def aBW {b:cq}(h:b.2.2.2.length<=1048576):MK F0 b=some (b,()):=by rw[aoe,wL h,ai]
def asO {b:cq}(h:b.2.2.2.length<=1048576):AM F0 b=some (b,()):=by rw[aeQ,x1 h,ai]
def akh {m:b0}(h:fU m):yO F0 m=some (m,()):=by rw[ak5,aBW h.2.1.2,ai,nr h.2.2.1.2,ai,wL h.2.2.2.2,ai]
def aki {m:b0}(h:fU m):AN F0 m=some (m,()):=by rw[alU,asO h.2.1.2,ai,BA h.2.2.1.2,ai,x1 h.2.2.2.2,ai]
def afX {l:List jB}(h:l.length<=1048576)(b:∀q∈l,fU q.2):tR F0 l=some (l,()):=by
 rw[agY];refine akg (fun n k xs=>uT F0 (yP F0) n (pn l k xs)) l _ (fun n k xs a c=>?_) (fun n=>?_) _ (by rw[bB];omega)
 .rw[Fh,aM a,ae,an a,ab,ab,aT a,akh (b _ (bH a)),ai,ar (by omega) (by omega) (by simp only[aW,bj];omega),ab,al (by omega)]
 .rw[Fh,aE,aa,Zk]
def asP {l:List jB}(h:l.length<=1048576)(b:∀q∈l,fU q.2):AO F0 l=some (l,()):=by
 rw[aeS];refine akg (fun n k xs=>sE F0 (wB F0) n (nT l (l.length:Int) k xs)) l _ (fun n k xs a c=>?_) (fun n=>?_) _ (by rw[bB];omega)
 .rw[BR,aM a,ae,an a,ab,aT a,aki (b _ (bH a)),ai,ar (by omega) (by omega) (by simp only[aW,bj];omega),ab,al (by omega)]
 .rw[BR,aE,aa,Xb]
structure aFr (r:aw):Prop where
 l:aqc r
 d:da r.2.2.2.2.2.2.1.1
def dV {r:aw}(h:aFr r):ba F0 r=some (r,()):=by rw[ak6,Oz h.l.s,ai,ar (a:=0) (by omega) (by omega) (by have:=h.l.p;omega),ab,afW h.l.t h.l.tq,ai,OA h.d.1,ai,afX h.l.h h.l.hm,ai];rfl
def dW {r:aw}(h:aFr r):aA F0 r=some (r,()):=by rw[alV,Jv h.l.s,ai,Yd h.l.p,ai,abw h.l.t h.l.tq,ai,Jw h.d.1,ai,asP h.l.h h.l.hm,ai]
def afY {x:gw}(h:x.2.length<=1048576):ua F0 x=some (x,()):=by rw[ahJ,ar (a:=0) (by omega) (by omega) (by omega),ab];rfl
structure Pm (w:ah):Prop where
 l:kq w
 b:∀r∈w.2.2.1,da r.2.2.2.2.2.2.1.1
def Pm.rep {w:ah}(h:Pm w){r:aw}(a:r∈w.2.2.1):aFr r:=⟨h.l.rl r a,h.b r a⟩
def lI {w:ah}(h:Pm w):aS F0 w=some (w,()):=by
 have d:=h.l.l;have e:=h.l.r;have f:=h.l.n;have g:=h.l.s;rw[aeU,oa (by omega),ai,ar (a:=0) (by omega) (by omega) (by omega),ab];refine akg (fun n k xs=>sG F0 (wD F0) n (nV w w.2.2.1 (w.2.2.1.length:Int) k 0 0 w.1.1 w.1.2 [] [] [] [] w.2.1 xs [] ([]++w.2.2.2.2))) w.2.2.1 _ (fun n k xs b c=>?_) (fun n=>?_) _ (by rw[bB];omega)
 .rw[BU,aM b,ae,an b,ab,aT b,dW (h.rep (bH b)),ai,ar (by omega) (by omega) (by simp only[aW,bj];omega),ab,al (by omega)]
 .rw[BU,aE,aa,Xe];refine akg (fun n k xs=>sF F0 (wC F0) n (nU w.2.2.2.1 (w.2.2.2.1.length:Int) k 0 0 w.1.1 w.1.2 [] [] [] [] w.2.1 w.2.2.1 xs ([]++w.2.2.2.2))) w.2.2.2.1 _ (fun n k xs b c=>?_) (fun n=>?_) _ (by rw[bB];omega)
  .rw[BS,aM b,ae,an b,ab,aT b,afY (h.l.nb _ (bH b)).1,ai,ar (by omega) (by omega) (by simp only[aW,bj];omega),ab,al (by omega)]
  .rw[BS,aE,aa,Xd];rfl
def akj {w:ah}(h:Pm w):yT F0 w=some (w,()):=by
 have d:=h.l.l;have e:=h.l.r;have f:=h.l.n;have g:=h.l.s;rw[ak7,ar (a:=0) (by omega) (by omega) (by omega),ab,ar (a:=0) (by omega) (by omega) (by omega),ab];refine akg (fun n k xs=>yS F0 (Ct F0) n (rX w k 0 0 w.1.1 w.1.2 [] [] [] [] ([]++w.2.1) xs [] ([]++w.2.2.2.2))) w.2.2.1 _ (fun n k xs b c=>?_) (fun n=>?_) _ (by rw[bB];omega)
 .rw[Hb,aM b,ae,an b,ab,aT b,dV (h.rep (bH b)),ai,ar (by omega) (by omega) (by simp only[aW,bj];omega),ab,al (by omega)]
 .rw[Hb,aE,aa,ab6];refine akg (fun n k xs=>yR F0 (Cs F0) n (rW w k 0 0 w.1.1 w.1.2 [] [] [] [] ([]++w.2.1) w.2.2.1 xs ([]++w.2.2.2.2))) w.2.2.2.1 _ (fun n k xs b c=>?_) (fun n=>?_) _ (by rw[bB];omega)
  .have i:=(h.l.nb _ (bH b)).1;rw[Ha,aM b,ae,an b,ab,ab,aT b,ar (a:=0) (by omega) (by omega) (by omega),ab,ar (by omega) (by omega) (by simp only[aW,bj];omega),ab,al (by omega)];rfl
  .rw[Ha,aE,aa,ab5];rfl
def Y1 {n:Int}(a:0<=n)(b:n<=255):IntKind.wrap .u8 n=n:=by simp[IntKind.wrap,IntKind.signed,IntKind.bits];omega
def azo:∀(k:Nat) (v:Int) (xs:List Int) (n:Nat),0<=v->v<128 ^ (k+1)->xs.length+k<=1000->k<n->k<=4->DU F0 (Gv F0) n (va v xs)=some (xs++Pl k v,())
 |0,v,xs,n,a,c,d,e,f=>by obtain⟨n,rfl⟩:∃m,n=m+1:=⟨n-1,by omega⟩;have g:(128:Int) ^ (0+1)=128:=rfl;rw[KL,aQ (show ¬v>127 by omega),aa,MV,ar (by omega) (by omega) (by first|omega|(simp only[aK,aW,bj];omega)|(rw[bc,bz];omega)),ab,Y1 a (by omega)];rfl
 |k+1,v,xs,n,a,c,d,e,f=>by
  obtain⟨n,rfl⟩:∃m,n=m+1:=⟨n-1,by omega⟩;have h:=SD (k:=k) (by omega);have g:(128:Int) ^ (k+1)=128 ^ k*128:=S3 _ _;have i:(128:Int) ^ (k+1+1)=128 ^ (k+1)*128:=S3 _ _;rw[KL];unfold Pl;by_cases b:v<128
  .rw[aQ (show ¬v>127 by omega),aa,MV,ar (by omega) (by omega) (by first|omega|(simp only[aK,aW,bj];omega)|(rw[bc,bz];omega)),ab,Y1 a (by omega),ag b]
  .rw[aL (show v>127 by omega),ae,ar (by omega) (by omega) (by first|omega|(simp only[aK,aW,bj];omega)|(rw[bc,bz];omega)),ab,amW a,aI (n:=v/128) (by omega) (by omega),amV a,
    aI (n:=v%128+128) (by omega) (by omega),Y1 (by omega) (by omega),azo k (v/128) (xs++[v%128+128]) n (by omega) (by omega) (by rw[aK,cS];omega) (by omega) (by omega),af b,hI]
   rfl
def azp:∀(k:Nat) (v:Int) (xs:List Int) (n:Nat),0<=v->v<128 ^ (k+1)->xs.length+k<=1000->k<n->k<=4->tY F0 (vy F0) n (oE v xs)=some (xs++Pl k v,())
 |0,v,xs,n,a,c,d,e,f=>by obtain⟨n,rfl⟩:∃m,n=m+1:=⟨n-1,by omega⟩;have g:(128:Int) ^ (0+1)=128:=rfl;rw[nM,aQ (show ¬v>=128 by omega),aa,pH,ar (by omega) (by omega) (by first|omega|(simp only[aK,aW,bj];omega)|(rw[bc,bz];omega)),ab,Y1 a (by omega)];rfl
 |k+1,v,xs,n,a,c,d,e,f=>by
  obtain⟨n,rfl⟩:∃m,n=m+1:=⟨n-1,by omega⟩;have h:=SD (k:=k) (by omega);have g:(128:Int) ^ (k+1)=128 ^ k*128:=S3 _ _;have i:(128:Int) ^ (k+1+1)=128 ^ (k+1)*128:=S3 _ _;rw[nM];unfold Pl;by_cases b:v<128
  .rw[aQ (show ¬v>=128 by omega),aa,pH,ar (by omega) (by omega) (by first|omega|(simp only[aK,aW,bj];omega)|(rw[bc,bz];omega)),ab,Y1 a (by omega),ag b]
  .rw[aL (show v>=128 by omega),ae,ar (by omega) (by omega) (by first|omega|(simp only[aK,aW,bj];omega)|(rw[bc,bz];omega)),ab,amW a,aI (n:=v/128) (by omega) (by omega),amV a,
    aI (n:=v%128+128) (by omega) (by omega),Y1 (by omega) (by omega),azp k (v/128) (xs++[v%128+128]) n (by omega) (by omega) (by rw[aK,cS];omega) (by omega) (by omega),af b,hI]
   rfl
def ka (v:Int):eo F0 v=some (ay v,()):=by
 have b:(128:Int) ^ (4+1)=34359738368:=by decide
 rw[aoq,cQ,ai,afI];unfold ay;by_cases a:0<=v/\v<=2147483647
 .rw[aL a,aN,aa,ag a,azo 4 v [] F0.n a.1 (by omega) (by simp) (by rw[bB];omega) (by omega)];rfl
 .rw[aQ a,eh,ae,af a]
def ns (v:Int):e6 F0 v=some (ay v,()):=by
 have b:(128:Int) ^ (4+1)=34359738368:=by decide
 rw[W6,bR,ai,afI];unfold ay;by_cases a:0<=v/\v<=2147483647
 .rw[aL a,aN,aa,ag a,azp 4 v [] F0.n a.1 (by omega) (by simp) (by rw[bB];omega) (by omega)];rfl
 .rw[aQ a,eh,ae,af a]
def OB {s:ByteArray}(h:s.size<=1048576):nF F0 s=some (fV s,()):=by have:=b7 (s.size:Int);have a:=Ya s;rw[alj,ka,ai,aL (show(s.size:Int)<=F0.mem by rw[aGB];omega),ab,ar (by omega) (by omega) (by first|omega|(simp only[aK,aW,bj];omega)|(rw[bc,bz];omega)),ab];rfl
def Jx {s:ByteArray}(h:s.size<=1048576):nY F0 s=some (fV s,()):=by have:=b7 (s.size:Int);rw[al1,ns,ai,aJ9 (by first|omega|(simp only[aK,aW,bj];omega)|(rw[bc,bz];omega)),ab];rfl
def BB (l:List Int):(jC l).length<=5*l.length:=by
 induction l with
 |nil=>exact bG _
 |cons x l a =>
  have:=b7 x;show(ay x++jC l).length<=_;rw[aK,aW];omega
def aBX (l:List Int)(x:Int):jC (l++[x])=jC l++ay x:=by simp[jC]
def awZ {γ:Type}(X:Nat->Int->List Int->Option γ)(l pre:List Int)(R:Option γ)(d:l.length<=1048576)(e:pre.length<=1048576)
  (b:∀n k xs (h:k<l.length),xs.length<=10485760->X (n+1) (k:Int) xs=X n ((k+1:Nat):Int) (xs++ay l[k])) (c:∀n,X (n+1) (l.length:Int) (pre++jC l)=R) (n:Nat) (f:l.length<n):X n 0 pre=R:=by
 refine cu X l.length (fun k xs=>xs=pre++jC (l.take k)) R (fun n k xs a h=>.inr ⟨_,b n k xs a (by have:=BB (l.take k);rw[bz]at this;rw[h,aK];omega),?_⟩) (fun n xs h=>?_) n 0 pre (aR _) (by simp[jC]) (by omega)
 .rw[ef a,aBX,h,hI]
 .rw[h,ki];exact c n
def Ye {l:List Int}(h:l.length<=1048576):sh F0 l=some (jC l,()):=by
 rw[alu];refine awZ (fun n k xs=>Aa F0 (CD F0) n (sg l k xs)) l [] _ h (by simp) (fun n k xs a b=>?_) (fun n=>?_) _ (by rw[bB];omega)
 .have:=b7 l[k];rw[Hn,aM a,ae,an a,ab,aT a,ka,ai,ar (by omega) (by omega) (by first|omega|(simp only[aK,aW,bj];omega)|(rw[bc,bz];omega)),ab,al (by omega)]
 .rw[Hn,aE,aa,ach];rfl
def F2 {l:List Int}(h:l.length<=1048576):k6 F0 l=some (jC l,()):=by
 rw[al2];refine awZ (fun n k xs=>AU F0 (CU F0) n (sJ l (l.length:Int) k xs)) l [] _ h (by simp) (fun n k xs a b=>?_) (fun n=>?_) _ (by rw[bB];omega)
 .have:=b7 l[k];rw[HF,aM a,ae,an a,ab,aT a,ns,ai,ar (by omega) (by omega) (by first|omega|(simp only[aK,aW,bj];omega)|(rw[bc,bz];omega)),ab,al (by omega)]
 .rw[HF,aE,aa,acw];rfl
def qcB (c:Int×Int)(q:bZ):List Int:=if eV c q=true then kr q else []
def OC {s:ByteArray}(h:s.size<=1048576):(fV s).length<=1048581:=by have:=Yb s;omega
def Yf {q:bZ}(h:um q)(c:Int×Int):r6 F0 c q=some (qcB c q,()):=by
 have d:=b7 q.1;have e:=OC h.1;have f:=b7 (q.2.2.length:Int);have g:=h.2;rw[alk,SB h,ai];unfold qcB;cases b:eV c q with
 |false=>rw[eh,ae,af (by decide)]
 |true =>
  have i:=ta b;rw[aN,aa,ag rfl,ka,ai,OB h.1,ai,ar (by omega) (by omega) (by first|omega|(simp only[aK,aW,bj];omega)|(rw[bc,bz];omega)),ab,ka,ai,ar (by omega) (by omega) (by first|omega|(simp only[aK,aW,bj];omega)|(rw[bc,bz];omega)),ab];refine awZ (fun n k xs=>y6 F0 (Cx F0) n (r5 k q.1 q.2.1 q.2.2 xs)) q.2.2 _ _ h.2 (by have:=Yb q.2.1;simp only[aK];omega) (fun n k xs a j=>?_) (fun n=>?_) _ (by rw[bB];omega)
  .have:=b7 q.2.2[k];rw[Hh,aM a,ae,an a,ab,aT a,ka,ai,ar (by omega) (by omega) (by first|omega|(simp only[aK,aW,bj];omega)|(rw[bc,bz];omega)),ab,al (by omega)]
  .rw[Hh,aE,aa,acb];simp[kr,By]
def SN {q:bZ}(h:um q)(c:Int×Int):sL F0 c q=some (qcB c q,()):=by
 have a:=b7 q.1;have b:=OC h.1;have d:=b7 (q.2.2.length:Int);have e:=BB q.2.2;have f:=h.2;rw[al3,Rq h,ai];unfold qcB;cases g:eV c q with
 |false=>rw[eh,ae,af (by decide)]
 |true =>
  rw[aN,aa,ag rfl,ns,ai,Jx h.1,ai,ar (by omega) (by omega) (by first|omega|(simp only[aK,aW,bj];omega)|(rw[bc,bz];omega)),ab,ns,ai,ar (by omega) (by omega) (by first|omega|(simp only[aK,aW,bj];omega)|(rw[bc,bz];omega)),ab,F2 h.2,ai,ar (by omega) (by omega) (by first|omega|(simp only[aK,aW,bj];omega)|(rw[bc,bz];omega)),ab];simp[kr,By]
def aiH {c:Int×Int}{q:bZ}:(qcB c q).length<=6000:=by
 unfold qcB;split
 .rename_i h;have:=ta h;have:=Yc this.1;omega
 .exact aR _
def aiI (c:Int×Int)(s:bd):List Int:=if bh c s=true then dz s else []
def asQ {s:bd}(h:km s)(c:Int×Int):y7 F0 c s=some (aiI c s,()):=by
 have d:=b7 s.1;have e:=b7 s.2.1;have f:=aiH (c:=c) (q:=s.2.2.1);have g:=OC h.2;rw[aek,C7 h,ai];unfold aiI;cases a:bh c s with
 |false=>rw[eh,ae,af (by decide)]
 |true =>
  have b:=(cM a).2.2.1;rw[aN,aa,ag rfl,ka,ai,ka,ai,ar (by omega) (by omega) (by first|omega|(simp only[aK,aW,bj];omega)|(rw[bc,bz];omega)),ab,Yf h.1,ai,ar (by omega) (by omega) (by first|omega|(simp only[aK,aW,bj];omega)|(rw[bc,bz];omega)),ab,OB h.2,ai,ar (by omega) (by omega) (by first|omega|(simp only[aK,aW,bj];omega)|(rw[bc,bz];omega)),ab];simp[dz,qcB,b]
def aqB {s:bd}(h:km s)(c:Int×Int):AY F0 c s=some (aiI c s,()):=by
 have a:=BB [s.1,s.2.1];have e:=aiH (c:=c) (q:=s.2.2.1);have f:=OC h.2;simp only[aW,bj]at a;rw[aeX,F1 h,ai];unfold aiI;cases b:bh c s with
 |false=>rw[eh,ae,af (by decide)]
 |true =>
  have d:=(cM b).2.2.1;rw[aN,aa,ag rfl,F2 (by simp),ai,SN h.1,ai,ar (by omega) (by omega) (by first|omega|(simp only[aK,aW,bj];omega)|(rw[bc,bz];omega)),ab,Jx h.2,ai,ar (by omega) (by omega) (by first|omega|(simp only[aK,aW,bj];omega)|(rw[bc,bz];omega)),ab];simp[dz,qcB,d,jC]
def Yg (c:Int×Int)(s:bd):List Int:=if bh c s=true then dA s else []
def asR {s:bd}(h:km s)(c:Int×Int):y8 F0 c s=some (Yg c s,()):=by
 rw[aem,asQ h,ai];unfold Yg aiI;cases a:bh c s with
 |false=>rfl
 |true =>
  have b:=Rv a;have d:=b7 ((dz s).length:Int);simp only[gL];rw[show(((dz s).length:Int)==0)=false from bT.2 (by omega),aa,ka,ai,ar (by omega) (by omega) (by first|omega|(simp only[aK,aW,bj];omega)|(rw[bc,bz];omega)),ab,ar (by omega) (by omega) (by first|omega|(simp only[aK,aW,bj];omega)|(rw[bc,bz];omega)),ab];simp[dA]
def aqC {s:bd}(h:km s)(c:Int×Int):AZ F0 c s=some (Yg c s,()):=by
 rw[aeZ,aqB h,ai];unfold Yg aiI;cases a:bh c s with
 |false=>rfl
 |true =>
  have b:=Rv a;have d:=b7 ((dz s).length:Int);simp only[gL];rw[show(((dz s).length:Int)==0)=false from bT.2 (by omega),aa,ns,ai,ar (by omega) (by omega) (by first|omega|(simp only[aK,aW,bj];omega)|(rw[bc,bz];omega)),ab,ar (by omega) (by omega) (by first|omega|(simp only[aK,aW,bj];omega)|(rw[bc,bz];omega)),ab];simp[dA]
def afZ (c:Int×Int)(m:b0):List Int:=if c9 c m=true then Dd m else []
def SO {c:Int×Int}{m:b0}(h:c9 c m=true):(m.1=1/\eV c m.2.2.1.2=true)\/m.1=2\/(m.1=3/\eV c m.2.2.2.2.1=true)\/m.1=4:=by
 unfold c9 at h;simp only[aG]at h;obtain⟨f,_,a⟩:=h;by_cases b:m.1=1
 .rw[ag (by simpa using b)]at a;simp only[fF,aG]at a;exact .inl ⟨b,a.1⟩
 .by_cases d:m.1=2
  .exact .inr (.inl d)
  .by_cases e:m.1=3
   .rw[af (by simpa using b),af (by simpa using d),ag (by simpa using e)]at a;simp only[aG]at a;exact .inr (.inr (.inl ⟨e,a.2.1⟩))
   .rw[af (by simpa using b),af (by simpa using d),af (by simpa using e)]at a;simp only[aG,bf]at a;exact .inr (.inr (.inr a.1))
def aw0 {m:b0}(h:fU m)(c:Int×Int):Ee F0 c m=some (afZ c m,()):=by
 rw[ahn,JQ h,ai];unfold afZ;cases e:c9 c m with
 |false=>rw[eh,ae,af (by decide)]
 |true =>
  have g:=b7 m.1;rw[aN,aa,ag rfl,ka,ai];unfold Dd;rcases SO e with ⟨k,b⟩|k|⟨k,b⟩|k
  .have a:=OC h.1;have d:=aiH (c:=c) (q:=m.2.2.1.2);rw[show(m.1==1)=true by simpa using k,ae,OB h.1,ai,ar (by omega) (by omega) (by first|omega|(simp only[aK,aW,bj];omega)|(rw[bc,bz];omega)),ab,Yf h.2.1,ai,ar (by omega) (by omega) (by first|omega|(simp only[aK,aW,bj];omega)|(rw[bc,bz];omega)),ab,ag k];simp[qcB,b]
  .have a:=b7 m.2.2.2.1.1;have d:=OC h.2.2.1.1;have i:=b7 (m.2.2.2.1.2.2.length:Int);have j:=BB m.2.2.2.1.2.2;have f:=h.2.2.1.2;rw[show(m.1==1)=false by simp[k],aa,show(m.1==2)=true by simp[k],ae,ka,ai,ar (by omega) (by omega) (by first|omega|(simp only[aK,aW,bj];omega)|(rw[bc,bz];omega)),ab,OB h.2.2.1.1,ai,ar (by omega) (by omega) (by first|omega|(simp only[aK,aW,bj];omega)|(rw[bc,bz];omega)),ab,ka,ai,
    ar (by omega) (by omega) (by first|omega|(simp only[aK,aW,bj];omega)|(rw[bc,bz];omega)),ab,Ye f,ai,ar (by omega) (by omega) (by first|omega|(simp only[aK,aW,bj];omega)|(rw[bc,bz];omega)),ab,af (by omega),ag k]
   simp[kr,By]
  .have a:=BB [m.2.1,m.2.2.2.2.2.1];have d:=aiH (c:=c) (q:=m.2.2.2.2.1);simp only[aW,bj]at a;rw[show(m.1==1)=false by simp[k],aa,show(m.1==2)=false by simp[k],aa,show(m.1==3)=true by simp[k],ae,Ye (by simp),ai,ar (by omega) (by omega) (by first|omega|(simp only[aK,aW,bj];omega)|(rw[bc,bz];omega)),ab,Yf h.2.2.2,ai,ar (by omega) (by omega) (by first|omega|(simp only[aK,aW,bj];omega)|(rw[bc,bz];omega)),ab,af (by omega),af (by omega),ag k];simp[jC,qcB,b]
  .have a:=BB [m.2.2.2.2.2.2.1,m.2.2.2.2.2.2.2.1,m.2.2.2.2.2.2.2.2.1,m.2.2.2.2.2.2.2.2.2];simp only[aW,bj]at a;rw[show(m.1==1)=false by simp[k],aa,show(m.1==2)=false by simp[k],aa,show(m.1==3)=false by simp[k],aa,Ye (by simp),ai,ar (by omega) (by omega) (by first|omega|(simp only[aK,aW,bj];omega)|(rw[bc,bz];omega)),ab,af (by omega),af (by omega),af (by omega)];simp[jC]
def abx {m:b0}(h:fU m)(c:Int×Int):ud F0 c m=some (afZ c m,()):=by
 rw[ahM,L5 h,ai];unfold afZ;cases e:c9 c m with
 |false=>rw[eh,ae,af (by decide)]
 |true =>
  have g:=b7 m.1;rw[aN,aa,ag rfl,ns,ai];unfold Dd;rcases SO e with ⟨k,b⟩|k|⟨k,b⟩|k
  .have a:=OC h.1;have d:=aiH (c:=c) (q:=m.2.2.1.2);rw[show(m.1==1)=true by simpa using k,ae,Jx h.1,ai,ar (by omega) (by omega) (by first|omega|(simp only[aK,aW,bj];omega)|(rw[bc,bz];omega)),ab,SN h.2.1,ai,ar (by omega) (by omega) (by first|omega|(simp only[aK,aW,bj];omega)|(rw[bc,bz];omega)),ab,ag k];simp[qcB,b]
  .have a:=b7 m.2.2.2.1.1;have d:=OC h.2.2.1.1;have i:=b7 (m.2.2.2.1.2.2.length:Int);have j:=BB m.2.2.2.1.2.2;have f:=h.2.2.1.2;rw[show(m.1==1)=false by simp[k],aa,show(m.1==2)=true by simp[k],ae,ns,ai,ar (by omega) (by omega) (by first|omega|(simp only[aK,aW,bj];omega)|(rw[bc,bz];omega)),ab,Jx h.2.2.1.1,ai,ar (by omega) (by omega) (by first|omega|(simp only[aK,aW,bj];omega)|(rw[bc,bz];omega)),ab,ns,ai,
    ar (by omega) (by omega) (by first|omega|(simp only[aK,aW,bj];omega)|(rw[bc,bz];omega)),ab,F2 f,ai,ar (by omega) (by omega) (by first|omega|(simp only[aK,aW,bj];omega)|(rw[bc,bz];omega)),ab,af (by omega),ag k]
   simp[kr,By]
  .have a:=BB [m.2.1,m.2.2.2.2.2.1];have d:=aiH (c:=c) (q:=m.2.2.2.2.1);simp only[aW,bj]at a;rw[show(m.1==1)=false by simp[k],aa,show(m.1==2)=false by simp[k],aa,show(m.1==3)=true by simp[k],ae,F2 (by simp),ai,ar (by omega) (by omega) (by first|omega|(simp only[aK,aW,bj];omega)|(rw[bc,bz];omega)),ab,SN h.2.2.2,ai,ar (by omega) (by omega) (by first|omega|(simp only[aK,aW,bj];omega)|(rw[bc,bz];omega)),ab,af (by omega),af (by omega),ag k];simp[jC,qcB,b]
  .have a:=BB [m.2.2.2.2.2.2.1,m.2.2.2.2.2.2.2.1,m.2.2.2.2.2.2.2.2.1,m.2.2.2.2.2.2.2.2.2];simp only[aW,bj]at a;rw[show(m.1==1)=false by simp[k],aa,show(m.1==2)=false by simp[k],aa,show(m.1==3)=false by simp[k],aa,F2 (by simp),ai,ar (by omega) (by omega) (by first|omega|(simp only[aK,aW,bj];omega)|(rw[bc,bz];omega)),ab,af (by omega),af (by omega),af (by omega)];simp[jC]
end Go.Am.Tryz
