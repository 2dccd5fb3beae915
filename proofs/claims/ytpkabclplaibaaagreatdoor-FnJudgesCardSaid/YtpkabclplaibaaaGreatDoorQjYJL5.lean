/- No condition. -/
import Derived.Test.YtpkabclplaibaaaGreatDoorQjYJL4
set_option linter.all false
namespace Go.Am.Tryz
open Go.Am
def aev (w:aj):(au w).length<=w.2.2.1.length:=dz _ _
def apD {U ζ γ:Type}(X:Nat->Int->ζ->Option γ)(a:List U)(f:ζ->U->ζ)(I:ζ->Prop)(R:Option γ)(b:ζ)(d:I b)(e:∀z x,x∈a->I z->I (f z x))
  (g:∀n k z (h:k<a.length),I z->X (n+1) (k:Int) z=X n ((k+1:Nat):Int) (f z a[k])) (i:∀n,X (n+1) (a.length:Int) (a.foldl f b)=R) (n:Nat) (j:a.length<n):X n 0 b=R:=by
 refine ca X a.length (fun k z=>z=(a.take k).foldl f b/\I z) R (fun n k z c h=>.inr ⟨_,g n k z c h.2,?_,e _ _ (cB c) h.2⟩) (fun n z h=>?_) n 0 b (aX _) ⟨rfl,d⟩ (by omega)
 .rw[de c,List.foldl_append,h.1];rfl
 .rw[h.1,jr];exact i n
def isSaid (view:Int)(name:ByteArray)(dE:Int)(y:eA):Bool:=(y.1==view)&&((y.2.1.toList==name.toList)&&(y.2.2==dE))
def UU (l:List eA)(view:Int)(name:ByteArray)(dE:Int):Bool:=l.any (isSaid view name dE)
def azl {U:Type}{p:U->Bool}{l:List U}{k:Nat}(a:k<l.length):(l.drop k).any p=(p l[k] || (l.drop (k+1)).any p):=by rw[adx a,List.any_cons]
def akr {l:List eA}(h:l.length<=1048576)(view:Int)(name:ByteArray)(dE:Int):Dq F0 l view name dE=some (UU l view name dE,()):=by
 rw[aiv];refine ca (fun n k (z:Unit)=>nJ F0 (tI F0) n (iX l view name dE k)) l.length (fun k _=>UU l view name dE=(l.drop k).any (isSaid view name dE)) _ (fun n k z b a=>?_) (fun n z a=>?_) F0.n 0 () (aX _) rfl (by rw[bj];omega)
 .rw[azl b]at a;rw[IC,aK b,ae,al b,ad,ad,ad,aM b,ach,ag (by omega),a];unfold isSaid;cases c:(l[k].1==view) with
  |false=>exact .inr ⟨(),aa _ _,rfl⟩
  |true =>
   cases d:(l[k].2.1.toList==name.toList) with
   |false=>exact .inr ⟨(),by rw[ae,aa],rfl⟩
   |true =>
    cases e:(l[k].2.2==dE) with
    |false=>exact .inr ⟨(),by rw[ae,ae,aa],rfl⟩
    |true=>exact .inl rfl
 .rw[abo]at a;rw[IC,az,aa,Z6,a];rfl
def aks (a:List Int)(l:List eA)(view:Int)(name:ByteArray)(i:Int):Bool:=decide (i∈a) || UU l view name i
def signed (a:List Int)(l:List eA)(view:Int)(name:ByteArray)(dE:List Int):Bool:=dE.all (aks a l view name)
def YO {a:List Int}(d:a.length<=1048576){l:List eA}(c:l.length<=1048576)(view:Int)(name:ByteArray){dE:List Int}(e:dE.length<=1048576):u7 F0 a l view name dE=some (signed a l view name dE,()):=by
 rw[aiw,cu (fun m k=>sk F0 (tJ F0) m (nj a l view name dE k)) dE.length (fun k=>aks a l view name (dE.getD k 0)) (some (true,())) (some (false,())) (fun m k b=>?_) (fun m=>?_) _ (by rw[bj];omega),aaS,gb]
 .rfl
 .rw[ID,aK b,ae,al b,ad,ad,aM b,eg (by omega),ao,akr c,ao,aci,ag (by omega),aL b];unfold aks;cases decide (dE[k]∈a)<;>cases UU l view name dE[k]<;>rfl
 .rw[ID,az,aa,Z7]
def apE (a:List Int)(l:List eA)(q:b0):Bool:=signed a l q.1 q.2.1 q.2.2
def apF (c:Int×Int)(a:List Int)(l:List eA)(m:cq):Bool :=
 dZ c m&&(if m.1=1 then decide (eD c (bm m.2.2.1.1.data.toList)∈a)&&apE a l m.2.2.1.2 else if m.1=2 then apE a l m.2.2.2.1 else if m.1=3 then decide (m.2.2.2.2.2.1∈a)&&apE a l m.2.2.2.2.1 else true)
def aug {c:Int×Int}{a:List Int}(g:a.length<=1048576){l:List eA}(h:l.length<=1048576){m:cq}(b:kk m):KB F0 c a l m=some (apF c a l m,()):=by
 rw[aiy,HA b,ao,gv b.1,ao,Ju,ao,eg (by omega),ao,YO g h _ _ b.2.1.2,ao,YO g h _ _ b.2.2.1.2,ao,eg (by omega),ao,YO g h _ _ b.2.2.2.2,ao];unfold apF;cases dZ c m with
 |false=>rfl
 |true =>
  rw[aZ,aa,kO];by_cases d:m.1=1
  .rw[cH.2 d,ae,an d];dsimp only;cases decide (eD c (bm m.2.2.1.1.data.toList)∈a)<;>rfl
  .rw[bX.2 d,aa,ah d];by_cases e:m.1=2
   .rw[cH.2 e,ae,an e];rfl
   .rw[bX.2 e,aa,ah e];by_cases f:m.1=3
    .rw[cH.2 f,ae,an f];dsimp only;cases decide (m.2.2.2.2.2.1∈a)<;>rfl
    .rw[bX.2 f,aa,ah f]
def Xf (id:Int)(q:b0):List eA:=if dY q.2.1=true then [] else if id∈q.2.2 then [(q.1,q.2.1,id)] else []
def r5 (id:Int)(m:cq):List eA:=if m.1=4 then [] else if m.1=2 then Xf id m.2.2.2.1 else if m.1=1 then Xf id m.2.2.1.2 else Xf id m.2.2.2.2.1
def akt (id:Int)(q:b0):br (q.2.1.toList==ai.toList) (some (([]:List eA),())) (br (!decide (id∈q.2.2)) (some ([],())) (some ([(q.1,q.2.1,id)],())))=some (Xf id q,()):=by
 unfold Xf dY;cases (q.2.1.toList==ai.toList) with
 |true=>rfl
 |false =>
  by_cases h:id∈q.2.2
  .rw[aS h,ah (by decide),an h];rfl
  .rw[aT h,ah (by decide),ah h];rfl
def auh {m:cq}(d:kk m)(id:Int):KK F0 id m=some (r5 id m,()):=by
 rw[aiF,eg (aR d.2.2.1.2 (by omega)),ao,eg (aR d.2.1.2 (by omega)),ao,eg (aR d.2.2.2.2 (by omega)),ao];dsimp only;rw[akt id m.2.2.2.1,akt id m.2.2.1.2,akt id m.2.2.2.2.1];unfold r5;by_cases a:m.1=4
 .rw[an a,bX.2 (show m.1≠2 by omega),aa,bX.2 (show m.1≠1 by omega),aa,cH.2 a,ae]
 .rw[ah a,bX.2 a,aa,aa,aa];by_cases b:m.1=2
  .rw[an b,cH.2 b,ae]
  .rw[ah b,bX.2 b,aa];by_cases c:m.1=1
   .rw[an c,cH.2 c,ae]
   .rw[ah c,bX.2 c,aa]
def aui (id:Int)(m:cq):(r5 id m).length<=1:=by
 have a:∀q:b0,(Xf id q).length<=1:=fun q=>by
  unfold Xf;split
  .exact aX _
  .split
   .exact bu _
   .exact aX _
 unfold r5;split
 .exact aX _
 .split
  .exact a _
  .split
   .exact a _
   .exact a _
def Pp (l:List eA)(x:eA):List eA:=if l.length<300/\UU l x.1 x.2.1 x.2.2=false then l++[x] else l
def azm (id:Int)(l:List eA)(p:oM):List eA:=(r5 id p.2).foldl Pp l
def apG (id:Int)(list:List oM)(l:List eA):List eA:=list.foldl (azm id) l
def LW (w:aj)(id:Int)(list:List oM):aj:=if id∈au w then (w.1,w.2.1,w.2.2.1,w.2.2.2.1,apG id list w.2.2.2.2) else w
def aku {l:List eA}(h:l.length<=300)(x:eA):(Pp l x).length<=300:=by
 unfold Pp;split
 .rename_i a;rw[aW,ej];omega
 .exact h
def akv:∀{xs:List eA} {l:List eA},l.length<=300->(xs.foldl Pp l).length<=300
 |[],_,h=>h|x::xs,l,h=>akv (xs:=xs) (aku h x)
def aew (id:Int):∀{list:List oM} {l:List eA},l.length<=300->(apG id list l).length<=300
 |[],_,h=>h|p::list,l,h=>aew id (list:=list) (akv h)
def axn {w:aj}(h:akd w)(j:w.2.2.2.2.length<=300)(id:Int){list:List oM}(o:list.length<=1048576)(l:∀p∈list,kk p.2):IG F0 w id list=some (LW w id list,()):=by
 rw[alf,arz h,ao,Bw h.l,ao,eg (by have:=aev w;have:=h.l.r;dsimp only;omega),ao];unfold LW;by_cases b:id∈au w
 .rw[aS b,an b,aZ,aa];refine apD (fun n k z=>GL F0 (x0 F0) n (xV id list k 0 0 w.1.1 w.1.2 [] [] [] [] w.2.1 w.2.2.1 w.2.2.2.1 z)) list (azm id) (fun z=>z.length<=300) _ w.2.2.2.2 j (fun z p q d=>akv d) (fun n k z c d=>?_) (fun n=>?_) _ (by rw[bj];omega)
  .rw[KM,aK c,ae,al c,ad,aM c,auh (l _ (cB c)),ao];have r:=aui id list[k].2;refine apD (fun m a (y:List eA)=>q9 F0 (IF F0 (x0 F0) n) m (lq id list (k:Int) a 0 0 w.1.1 w.1.2 (r5 id list[k].2) [] [] [] [] w.2.1 w.2.2.1 w.2.2.2.1 y)) (r5 id list[k].2) Pp (fun y=>y.length<=300) _ z d (fun y x s g=>aku g x) (fun m a y e g=>?_) (fun m=>?_) _ (by rw[bj];omega)
   .rw[KL,aK e,ae,al e,ad,aM e,akr (by omega),ao,aE (by omega) (by omega) (by first|omega|(simp only[aW,bG,bd];omega)|(rw[b7,cp];omega)),ad,ag (by omega)];unfold Pp;by_cases i:y.length<300
    .rw[aS (show(y.length:Int)<300 by omega),ae];cases UU y (r5 id list[k].2)[a].1 (r5 id list[k].2)[a].2.1 (r5 id list[k].2)[a].2.2 with
     |true=>rw[ah (fun f=>by cases f.2)];rfl
     |false=>rw[an ⟨i,rfl⟩];rfl
    .rw[aT (show ¬(y.length:Int)<300 by omega),aa,ah (fun f=>i f.1)]
   .rw[KL,az,aa,ack,ag (by omega)];rfl
  .rw[KM,az,aa,acm];rfl
 .rw[aT b,ah b];rfl
def am7 (c:Int×Int)(a:List j7)(p:oM):List j7:=if a.length<60/\dZ c p.2=true/\ga 0 (ak (c.1-1)) p.1=true then a++[(p.1,N9 p.2)] else a
def auj (c:Int×Int)(list:List oM)(a:List j7):List j7:=list.foldl (am7 c) a
def avY (w:aj)(list:List oM):aj:=(w.1,w.2.1,w.2.2.1,auj w.1 list w.2.2.2.1,w.2.2.2.2)
def am8 {c:Int×Int}{a:List j7}(h:a.length<=60)(p:oM):(am7 c a p).length<=60:=by
 unfold am7;split
 .rename_i b;rw[aW,ej];omega
 .exact h
def axo (c:Int×Int)(m:cq):decide (((ake c m).length:Int)>0)=dZ c m:=by
 unfold ake;cases h:dZ c m with
 |false=>rfl
 |true =>
  have:=(YJ h).2.2;rw[an rfl];exact aS (by omega)
def aex {w:aj}(e:w.2.2.2.1.length<=60){list:List oM}(h:list.length<=1048576)(f:∀p∈list,kk p.2):w8 F0 w list=some ((avY w list,()),()):=by
 rw[afr];refine apD (fun n k z=>ik F0 (A8 F0) n (fl list k w.1.1 w.1.2 0 0 w.2.1 w.2.2.1 z w.2.2.2.2 [] [] [] [])) list (am7 w.1) (fun z=>z.length<=60) _ w.2.2.2.1 e (fun z p i c=>am8 c p) (fun n k z b c=>?_) (fun n=>?_) _ (by rw[bj];omega)
 .rw[Fk,aK b,ae,al b,ad,aM b,show((w.1.1,w.1.2):Int×Int)=w.1 from rfl,abd (f _ (cB b)),ao,ad,cE,ao,ad,aE (by omega) (by omega) (by first|omega|(simp only[aW,bG,bd];omega)|(rw[b7,cp];omega)),ad,ag (by omega)];dsimp only;rw[axo];unfold am7;by_cases d:z.length<60
  .rw[aS (show(z.length:Int)<60 by omega),ae];cases g:dZ w.1 list[k].2 with
   |false=>rw[ah (fun a=>by cases a.2.1)];rfl
   |true =>
    cases j:ga 0 (ak (w.1.1-1)) list[k].1 with
    |false=>rw[ah (fun a=>by cases a.2.2)];rfl
    |true=>rw[an ⟨d,rfl,rfl⟩,ae,ae,show ake w.1 list[k].2=N9 list[k].2 from an g]
  .rw[aT (show ¬(z.length:Int)<60 by omega),aa,ah (fun a=>d a.1)]
 .rw[Fk,az,aa,XU];rfl
def agv {c:Int×Int}{r:ay}{a:Int}{m:cq}:(EW c r a m).1.1=r.1:=by unfold EW;split<;>rfl
def azn {c:Int×Int}{r:ay}{q:b0}:(LU c r q).1.1=r.1:=by
 have h:(written c r q).1.1=r.1:=akj;unfold LU;split
 .split
  .exact h
  .split
   .exact h
   .rw[agv];exact h
 .rfl
def akw {c:Int×Int}{r:ay}{view:Int}{name:ByteArray}{a:Bool}:(ks c r view name a).1.1=r.1:=by
 unfold ks;split
 .rfl
 .split
  .split
   .exact azn
   .rfl
  .split
   .rfl
   .exact agv
def aCx {c:Int×Int}{r:ay}{name:ByteArray}:(own c r name).1.1=r.1:=by
 unfold own;split
 .rw[akw];rfl
 .rfl
def azo {r:ay}{b:cK}:(F1 r b).1=r.1:=by unfold F1;split<;>rfl
def abk {c:Int×Int}{r:ay}{b:cK}:(rF c r b).1.1=r.1:=by
 have h:(y0 c (F1 r b) (Po c r b)).1.1=r.1:=by rw[akj,azo]
 unfold rF Ue;split
 .split
  .split
   .rw[aCx];exact h
   .rfl
  .exact h
 .rfl
def arX {c:Int×Int}{r:ay}{p:b0}:(D0 c r p).1.1=r.1:=by
 unfold D0;split
 .rw[akw];rfl
 .rfl
def arY {imp:Bool}{c:Int×Int}{r:ay}{view:Int}{q:b0}{dE:Int}:(D7 imp c r view q dE).1.1=r.1:=by
 have h:(written c r q).1.1=r.1:=akj;have b:∀(l:Bool) (a:ay),(Uf l a view q).1=a.1:=fun l a=>by unfold Uf;split<;>rfl
 unfold D7 BB;split
 .split
  .split
   .rw[b];exact h
   .rfl
  .rw[b];exact h
 .rfl
def azp {imp:Bool}{c:Int×Int}{r:ay}{m:cq}:(Xe imp c r m).1.1=r.1:=by
 unfold Xe;split
 .exact abk
 .split
  .exact arX
  .split
   .exact arY
   .rfl
def avZ {imp:Bool}{c:Int×Int}{r:ay}{m:cq}:(YN imp c r m).1.1=r.1:=by
 unfold YN;split
 .exact azp (imp:=imp)
 .rfl
def azq {c:Int×Int}{r:ay}:(Xc c r).1.1=r.1:=by
 unfold Xc;split
 .rfl
 .split
  .split
   .rfl
   .rfl
  .split
   .rw[agv];rfl
   .rfl
def adr {c:Int×Int}{r:ay}{m:cq}:∀(j k:Nat) (o:ay),o.1=r.1->(Mn c r m j k o).1.1=r.1
 |0,_,_,h=>h|j+1,k,o,h=>by
  unfold Mn;split
  .exact adr j (k+1) o h
  .split
   .exact adr j (k+1) _ (by rw[agv];exact h)
   .rfl
def Ug (r:ay):ay:=(r.1,r.2.1,r.2.1,r.2.2.2)
def aY.Ug {c:Int×Int}{r:ay}(h:aY c r):aY c (Ug r):=by have a:=h.view;exact⟨⟨h.f.cf,h.f.i,h.f.v,by show ga 0 60 r.2.1=true;simp only[ga,aD,bJ];omega,h.f.s,h.f.p,h.f.t,h.f.d,h.f.n,h.f.h⟩,h.b⟩
def arZ (c:Int×Int)(r:ay):ay×Bool:=agu c (Ug r) (arP (ask c r).1)
def alX (c:Int×Int)(r:ay):ay×Int :=
 if (ask c r).2=true then (if (arZ c r).2=true/\(rF c (arZ c r).1 (ask c r).1).2=true then ((rF c (arZ c r).1 (ask c r).1).1,0) else (r,4)) else (r,3)
def azr {c:Int×Int}{r:ay}(h:aY c r):aY c (arZ c r).1:=h.Ug.aA1 _
def aY.alX {c:Int×Int}{r:ay}(h:aY c r):aY c (alX c r).1:=by
 unfold Tryz.alX;split
 .split
  .exact(azr h).akp _
  .exact h
 .exact h
def aA4 {c:Int×Int}{r:ay}:(alX c r).1.1=r.1:=by
 unfold alX;split
 .split
  .rw[abk];exact adr _ _ _ rfl
  .rfl
 .rfl
def Pq (c:Int×Int)(r:ay):Nat->ay×Int
 |0=>(r,3)|k+1=>if dY (r.2.2.2.2.2.1.getD k b1).2.1=true then Pq c r k
  else if (ks c r (r.2.2.2.2.2.1.getD k b1).1 (r.2.2.2.2.2.1.getD k b1).2.1 true).2=true then ((ks c r (r.2.2.2.2.2.1.getD k b1).1 (r.2.2.2.2.2.1.getD k b1).2.1 true).1,0) else (r,3)
def av0 (c:Int×Int)(r:ay):ay×Int:=Pq c r r.2.2.2.2.2.1.length
def ar0 {c:Int×Int}{r:ay}(h:aY c r):∀k,aY c (Pq c r k).1
 |0=>h|k+1=>by
  unfold Pq;split
  .exact ar0 h k
  .split
   .exact h.apw _ _ _
   .exact h
def am9 {c:Int×Int}{r:ay}:∀k,(Pq c r k).1.1=r.1
 |0=>rfl|k+1=>by
  unfold Pq;split
  .exact am9 k
  .split
   .exact akw
   .rfl
def aA5 (r:ay)(d:As):ay:=(r.1,r.2.1,r.2.2.1,r.2.2.2.1,r.2.2.2.2.1,r.2.2.2.2.2.1,d,r.2.2.2.2.2.2.2)
def ads (r:ay)(mR:Int):ay:=aA5 r (JA r.2.2.2.2.2.2.1 mR)
def ar1 (c:Int×Int)(r:ay)(mR:Int):ay:=aCt c (ads r mR)
def aY.ads {c:Int×Int}{r:ay}(h:aY c r)(mR:Int):aY c (ads r mR):=by
 have b:=arF h.f.d mR;have d:=dJ.1 h.f.d;have e:JA r.2.2.2.2.2.2.1 mR=(r.2.2.2.2.2.2.1.1.take (Xb r.2.2.2.2.2.2.1 mR).toNat,Xb r.2.2.2.2.2.2.1 mR):=an h.f.d;refine⟨⟨h.f.cf,h.f.i,h.f.v,h.f.a,h.f.s,h.f.p,h.f.t,?_,h.f.n,h.f.h⟩,?_⟩
 .show gL (JA r.2.2.2.2.2.2.1 mR)=true;rw[e];refine dJ.2 ⟨?_,?_,?_⟩
  .dsimp only;rw[cp];omega
  .dsimp only;omega
  .dsimp only;rw[cp];omega
 .show ∀x∈(JA r.2.2.2.2.2.2.1 mR).1,_;rw[e];exact fun x a=>h.b x (VC a)
def YP {c:Int×Int}(a:bq c=true):b2 c mL=true:=by unfold b2 fe af9 mL;simp only[a,ga];rfl
def axp {c:Int×Int}{b:List Int}(a:bq c=true):b2 c (pG c b).1=true:=by
 unfold pG;split
 .rename_i h;exact h.2.2
 .exact YP a
def ar2 {c:Int×Int}{b:List Int}(e:bq c=true):∀(f:Nat) (s:bK) (a:Nat),b2 c s=true->b2 c (FZ c b f s a).1=true
 |0,_,_,h=>h|f+1,s,a,h=>by
  cases d:QW c b a with
  |none=>rw[iH d];exact h
  |some z =>
   obtain⟨j,k⟩:=z;rw[Jx d];refine ar2 e f j k ?_;cases g:r4 b a with
   |none=>rw[Pc g]at d;cases d
   |some y =>
    obtain⟨v,l⟩:=y;rw[Pb g]at d;split at d
    .cases d
    .split at d
     .cases d
     .split at d
      .have i:=Au Prod.fst (eE d);dsimp only at i;rw[<-i];exact axp e
      .cases d
def ar3 {c:Int×Int}(a:bq c=true)(b:List Int):b2 c (ff c b).1=true:=ar2 a _ _ _ (YP a)
def aY.aDq {c:Int×Int}{r:ay}(h:aY c r):aY c (aCt c r):=by
 have b:=ar3 h.f.cf r.2.2.2.2.2.2.1.1;have d:=aeu c h.bt.d;have e:=dJ.1 h.f.d;obtain⟨f,g,i,j⟩:=fK b;refine⟨⟨h.f.cf,h.f.i,?_,rfl,b,rfl,rfl,?_,aX _,fun x a=>by cases a⟩,fun x a=>h.b x (VC a)⟩
 .show ga 1 60 (akf (ff c r.2.2.2.2.2.2.1.1).1)=true;simp only[ga,aD,bJ];unfold akf Hi sE
  repeat' split
  all_goals omega
 .show gL (r.2.2.2.2.2.2.1.1.take (ff c r.2.2.2.2.2.2.1.1).2,((ff c r.2.2.2.2.2.2.1.1).2:Int))=true;refine dJ.2 ⟨?_,?_,?_⟩
  .dsimp only;rw[cp];omega
  .dsimp only;omega
  .dsimp only;rw[cp];omega
def aY.ar1 {c:Int×Int}{r:ay}(h:aY c r)(mR:Int):aY c (ar1 c r mR):=(h.ads mR).aDq
abbrev oP:=Int×Int×Int×cq
def aA6 (imp:Bool)(c:Int×Int)(r:ay)(m:cq):ay×Int:=if (YN imp c r m).2=true/\m.1=4 then ((YN imp c r m).1,0) else (r,3)
def apH (imp:Bool)(c:Int×Int)(r:ay)(d:oP):ay×Int :=
 if d.1=1 then alX c r else if d.1=6 then av0 c r else if d.1=7 then (if (Xc c r).2=true then ((Xc c r).1,0) else (r,3)) else if d.1=8 then (ar1 c r d.2.2.1,0) else aA6 imp c r d.2.2.2
def aY.apH {c:Int×Int}{r:ay}(h:aY c r)(imp:Bool)(d:oP):aY c (apH imp c r d).1:=by
 unfold Tryz.apH;split
 .exact h.alX
 .split
  .exact ar0 h _
  .split
   .split
    .exact h.aDn
    .exact h
   .split
    .exact h.ar1 _
    .unfold aA6;split
     .exact h.heard _ _
     .exact h
def aA7 {imp:Bool}{c:Int×Int}{r:ay}{d:oP}:(apH imp c r d).1.1=r.1:=by
 unfold apH;split
 .exact aA4
 .split
  .exact am9 _
  .split
   .split
    .exact azq
    .rfl
   .split
    .rfl
    .unfold aA6;split
     .exact avZ
     .rfl
def Hl:aj:=((0,0),[],[],[],[])
def ar4 (c:Int×Int)(x:j7):Prop:=cF x.2/\(j9 c x.2).2=true/\ga 0 (ak (c.1-1)) x.1=true
def ar5 (c:Int×Int)(x:eA):Prop:=ga 0 (ak (c.1-1)) x.2.2=true/\bF x.2.1.data.toList=true/\bm x.2.1.data.toList=x.1
structure a6 (w:aj):Prop where
 c:bq w.1=true
 l:j6 w.1.1 w.2.1=true
 lf:(w.2.1.length:Int)<=EU w.1
 n:(w.2.2.1.length:Int)=w.1.1
 g:∀r∈w.2.2.1,aY w.1 r
 id:∀(k:Nat) (h:k<w.2.2.1.length),(w.2.2.1[k]).1=(k:Int)
 nl:w.2.2.2.1.length<=60
 nb:∀x∈w.2.2.2.1,ar4 w.1 x
 sl:w.2.2.2.2.length<=300
 sb:∀x∈w.2.2.2.2,ar5 w.1 x
def a6.le7 {w:aj}(h:a6 w):4<=w.2.2.1.length/\w.2.2.1.length<=7:=by have:=ch h.c;have:=h.n;omega
def a6.abl {w:aj}(h:a6 w):w.2.1.length<=7:=by have a:=ch h.c;have:=UM h.l;omega
def auk {c:Int×Int}{x:eA}(h:ar5 c x):x.2.1.size<=1048576:=aR (jq h.2.1) (by omega)
def a6.w {w:aj}(h:a6 w):akd w :=
 ⟨⟨by have:=h.abl;omega,by have:=h.le7;omega,fun x a=>(h.g x a).l,by have:=h.nl;omega,fun x a=>(h.nb x a).1,by have:=h.sl;omega,fun x a=>auk (h.sb x a)⟩,fun r b=>(h.g r b).bt.d⟩
def adt {U:Type}{l:List U}{k:Nat}(h:k<l.length)(d:U):l.getD k d=l[k]:=aL h d
def a6.ok {w:aj}(h:a6 w):di w=true:=by
 unfold di apd LN uq;simp only[aD,agx,asv,Ri,fL,gP];refine⟨h.c,h.l,by have:=h.lf;omega,h.n,by have:=h.nl;omega,by have:=h.sl;omega,fun k a=>?_,fun k a=>?_,fun k a=>?_⟩
 .unfold ajN;rw[adt a,aD,cH];exact⟨(h.g _ (cB a)).ok,h.id k a⟩
 .unfold ada;rw[adt a,aD];exact(h.nb _ (cB a)).2
 .unfold adb;rw[adt a,aD,aD,cH];exact h.sb _ (cB a)
def cj (w:aj)(a:Int):ay:=w.2.2.1.getD a.toNat LM
def r6 (w:aj)(a:Int)(r:ay):aj:=(w.1,w.2.1,w.2.2.1.set a.toNat r,w.2.2.2)
def aul {w:aj}{a:Int}(b:0<=a)(c:a<w.2.2.1.length):cj w a∈w.2.2.1:=by unfold cj;rw[aL (show a.toNat<w.2.2.1.length by omega)];exact cB _
def a6.rep {w:aj}(h:a6 w){a:Int}(b:0<=a)(c:a<w.2.2.1.length):aY w.1 (cj w a)/\(cj w a).1=a:=by refine⟨h.g _ (aul b c),?_⟩;unfold cj;rw[aL (show a.toNat<w.2.2.1.length by omega),h.id _ (show a.toNat<w.2.2.1.length by omega)];omega
def a6.r6 {w:aj}(h:a6 w){a:Int}(j:0<=a){r:ay}(d:aY w.1 r)(f:r.1=a):a6 (r6 w a r):=by
 refine⟨h.c,h.l,h.lf,by show((w.2.2.1.set a.toNat r).length:Int)=_;rw[Rk];exact h.n,fun x b=>?_,fun k g=>?_,h.nl,h.nb,h.sl,h.sb⟩
 .rcases asu b with b|rfl
  .exact h.g x b
  .exact d
 .have c:k<(w.2.2.1.set a.toNat r).length:=g;have i:((w.2.2.1.set a.toNat r)[k]'c).1=(k:Int):=by
   rw[List.getElem_set];split
   .rename_i e;rw[f];omega
   .exact h.id k (by rw[Rk]at c;exact c)
  exact i
def av1 {c:Int×Int}{q:b0}(d:bF q.2.1.data.toList=true)(e:q.2.1.data.toList≠[]->bm q.2.1.data.toList=q.1){id:Int}(f:ga 0 (ak (c.1-1)) id=true):∀x∈Xf id q,ar5 c x:=by
 intro x a;unfold Xf at a;cases b:dY q.2.1 with
 |true=>rw[b,an rfl]at a;cases a
 |false =>
  rw[b,ah (by decide)]at a;split at a
  .rw[h7.1 a];refine⟨f,d,e fun g=>?_⟩;rw[(Jy _).2 g]at b;cases b
  .cases a
def azs {c:Int×Int}{m:cq}(f:dZ c m=true){id:Int}(b:ga 0 (ak (c.1-1)) id=true):∀x∈r5 id m,ar5 c x:=by
 have a:=apC f;have d:∀q:b0,fe c q=true->∀x∈Xf id q,ar5 c x:=fun q g=>by obtain⟨_,h,i,_⟩:=Pg g;exact av1 h (fun _=>i) b
 rcases a.k with k|k|k|k
 .have e:=a.b k;simp only[gw,aD]at e;unfold r5;rw[ah (by omega),ah (by omega),an k];exact d _ e.1
 .obtain⟨_,_,_,_,_,j,l⟩:=aa9 (a.p k).1;unfold r5;rw[ah (by omega),an k];exact av1 j l b
 .unfold r5;rw[ah (by omega),ah (by omega),ah (by omega)];exact d _ (a.v k).2.1
 .unfold r5;rw[an k];exact fun x n=>by cases n
def aum {l:List eA}{y x:eA}(h:x∈Pp l y):x∈l\/x=y:=by
 unfold Pp at h;split at h
 .rcases fM.1 h with h|h
  .exact .inl h
  .exact .inr (h7.1 h)
 .exact .inl h
def akx:∀{ys l:List eA} {x:eA},x∈ys.foldl Pp l->x∈l\/x∈ys
 |[],_,_,h=>.inl h|y::ys,l,x,h=>by
  rcases akx (ys:=ys) h with h|h
  .rcases aum h with h|rfl
   .exact .inl h
   .exact .inr JL
  .exact .inr (rH _ h)
def aey {id:Int}:∀{ps:List oM} {l:List eA} {x:eA},x∈apG id ps l->x∈l\/∃p∈ps,x∈r5 id p.2
 |[],_,_,h=>.inl h|p::ps,l,x,h=>by
  rcases aey (ps:=ps) h with h|⟨q,a,h⟩
  .rcases akx h with h|h
   .exact .inl h
   .exact .inr ⟨p,JL,h⟩
  .exact .inr ⟨q,rH _ a,h⟩
def Pr {w:aj}{id:Int}(h:id∈au w):0<=id/\id<w.2.2.1.length:=by have:=adf w.2.1 w.2.2.1.length id h;exact this
def a6.ga {w:aj}(h:a6 w){a:Int}(c:0<=a)(d:a<w.2.2.1.length):ga 0 (ak (w.1.1-1)) a=true:=by have b:=ch h.c;have e:=h.n;rw[ac4 b.1 b.2.1];simp only[Tryz.ga,aD,bJ];omega
def a6.azt {w:aj}(h:a6 w){a:Int}(b:Tryz.ga 0 (ak (w.1.1-1)) a=true):0<=a/\a<w.2.2.1.length:=by have c:=ch h.c;have d:=h.n;rw[ac4 c.1 c.2.1]at b;simp only[Tryz.ga,aD,bJ]at b;omega
def a6.LW {w:aj}(h:a6 w)(id:Int){list:List oM}(d:∀p∈list,dZ w.1 p.2=true):a6 (LW w id list):=by
 unfold Tryz.LW;by_cases b:id∈au w
 .rw[an b];have c:=Pr b;refine⟨h.c,h.l,h.lf,h.n,h.g,h.id,h.nl,h.nb,aew id h.sl,fun x a=>?_⟩;rcases aey a with a|⟨p,e,a⟩
  .exact h.sb x a
  .exact azs (d p e) (h.ga c.1 c.2) x a
 .rw[ah b];exact h
def axq {c:Int×Int}{m:cq}(h:dZ c m=true){a:Int}(b:ga 0 (ak (c.1-1)) a=true):ar4 c (a,N9 m):=by have d:=YJ h;exact⟨⟨by dsimp only;omega,d.2.1⟩,by rw[aw9 h],b⟩
def aky {c:Int×Int}:∀{ps:List oM} {l:List j7} {x:j7},x∈auj c ps l->x∈l\/ar4 c x
 |[],_,_,h=>.inl h|p::ps,l,x,h=>by
  rcases aky (ps:=ps) h with h|h
  .unfold am7 at h;split at h
   .rename_i a;rcases fM.1 h with h|h
    .exact .inl h
    .rw[h7.1 h];exact .inr (axq a.2.1 a.2.2)
   .exact .inl h
  .exact .inr h
def akz {c:Int×Int}:∀{ps:List oM} {l:List j7},l.length<=60->(auj c ps l).length<=60
 |[],_,h=>h|p::ps,l,h=>akz (ps:=ps) (am8 h p)
def a6.send {w:aj}(h:a6 w)(list:List oM):a6 (avY w list) :=
 ⟨h.c,h.l,h.lf,h.n,h.g,h.id,akz h.nl,fun x a=>(aky a).elim (h.nb x) (fun h=>h),h.sl,h.sb⟩
def a6.akA {w:aj}(h:a6 w){a:List j7}(b:a.length<=60)(c:∀x∈a,ar4 w.1 x):a6 (w.1,w.2.1,w.2.2.1,a,w.2.2.2.2) :=
 ⟨h.c,h.l,h.lf,h.n,h.g,h.id,b,c,h.sl,h.sb⟩
def aY.azu {c:Int×Int}{r:ay}(h:aY c r):∀p∈r.2.2.2.2.2.2.2,dZ c p.2=true:=fun p a=>arM (h.f.h p a)
def aY.aDr {c:Int×Int}{r:ay}(h:aY c r):∀p∈r.2.2.2.2.2.2.2,kk p.2:=fun p a=>aps (h.azu p a)
def Hm {w:aj}{a:Int}(c:0<=a)(e:a<w.2.2.1.length)(d:ay):aJ w.2.2.1 a d=cj w a:=by
 have b:a.toNat<w.2.2.1.length:=by omega
 unfold cj;rw[aL b];exact aL b d
def mN (w:aj)(a:Int):List oM:=(cj w a).2.2.2.2.2.2.2
def ana (w:aj)(a:Int):aj:=r6 (LW w a (mN w a)) a (akl (cj w a))
def aun (w:aj)(id:Int)(list:List oM):(LW w id list).1=w.1/\(LW w id list).2.2.1=w.2.2.1/\(LW w id list).2.2.2.1=w.2.2.2.1:=by unfold LW;split<;>exact⟨rfl,rfl,rfl⟩
def a6.ana {w:aj}(h:a6 w){a:Int}(b:0<=a)(d:a<w.2.2.1.length):a6 (ana w a):=by obtain⟨c,f⟩:=h.rep b d;have g:=h.LW a (list:=mN w a) c.azu;have e:=(aun w a (mN w a)).1;exact g.r6 b (by rw[e];exact c.akl) f
def YQ (a:List j7)(k:Nat):List j7:=a.take k++a.drop (k+1)
def y3 (w:aj)(a:Int):j7:=w.2.2.2.1.getD a.toNat atv
def akA (w:aj)(a:List j7):aj:=(w.1,w.2.1,w.2.2.1,a,w.2.2.2.2)
def anb (w:aj)(a:Int):aj:=akA w (YQ w.2.2.2.1 a.toNat)
def auo (imp:Bool)(w:aj)(x:j7):ay:=(YN imp w.1 (cj w x.1) (j9 w.1 x.2).1).1
def aup {a:List j7}{k:Nat}{x:j7}(h:x∈YQ a k):x∈a:=by
 rcases fM.1 h with h|h
 .exact VC h
 .exact anp h
def auq (a:List j7)(k:Nat):(YQ a k).length<=a.length:=by unfold YQ;rw[aW,cp,b7];omega
def a6.anb {w:aj}(h:a6 w)(a:Int):a6 (anb w a):=h.akA (aR (auq _ _) h.nl) fun x b=>h.nb x (aup b)
def a6.aDs {w:aj}(h:a6 w){a:Int}(b:0<=a)(c:a<w.2.2.2.1.length):ar4 w.1 (y3 w a):=by refine h.nb _ ?_;unfold y3;rw[aL (show a.toNat<w.2.2.2.1.length by omega)];exact cB _
def azv {c:Int×Int}{b:List Int}(h:(j9 c b).2=true):kk (j9 c b).1/\dZ c (j9 c b).1=true:=by
 have:dZ c (j9 c b).1=true:=by
  unfold j9 Rw at h ⊢;split at h
  .rename_i a;rw[an a];exact a.2.2
  .cases h
 exact⟨aps this,this⟩
def av2 (d:oP):Bool:=(d.1==3) || ((d.1==4) || (d.1==5))
def anc {d:oP}:av2 d=true↔d.1=3\/d.1=4\/d.1=5:=by simp[av2]
def azw (imp:Bool)(w:aj)(d:oP):aj×Int:=(r6 w d.2.1 (apH imp w.1 (cj w d.2.1) d).1,(apH imp w.1 (cj w d.2.1) d).2)
def ane {w:aj}(h:a6 w){a:Int}(b:ga 0 (ak ((w.2.2.2.1.length:Int)-1)) a=true):0<=a/\a<w.2.2.2.1.length:=by have c:=h.nl;rw[aB (by omega) (by omega)]at b;simp only[ga,aD,bJ]at b;omega
def a6.azw {w:aj}(h:a6 w)(imp:Bool){d:oP}(a:0<=d.2.1)(b:d.2.1<w.2.2.1.length):a6 (azw imp w d).1:=by obtain⟨c,e⟩:=h.rep a b;exact h.r6 a (c.apH imp d) (by rw[aA7];exact e)
def abm (w:aj)(x:aj×Int):aj×Int×aj:=if x.2=0 then (x.1,0,Hl) else (Hl,x.2,w)
def vo (w x:aj):abm w (x,0)=(x,0,Hl):=an rfl
def Ea (w y:aj){k:Int}(h:k≠0):abm w (y,k)=(Hl,k,w):=ah h
def aCy (w:aj)(a:Int):aj×Int:=(r6 w a (alX w.1 (cj w a)).1,(alX w.1 (cj w a)).2)
def aur {w:aj}(h:a6 w){a:Int}(c:0<=a)(e:a<w.2.2.1.length):KH F0 w a=some (abm w (aCy w a)):=by
 obtain⟨b,l⟩:=h.rep c e;rw[aiD,oL c (by omega),ad,Hm c e,avW b,ao,ad,dA b.bt,ao];unfold aCy alX;cases g:(ask w.1 (cj w a)).2 with
 |false=>rfl
 |true =>
  obtain⟨_,f,_,_⟩:=aCu g;obtain⟨i,j⟩:=UP f;have k:xx F0 w.1 ((cj w a).1,(cj w a).2.1,(cj w a).2.1,(cj w a).2.2.2) (1,0,(ask w.1 (cj w a)).1,(0,ai,[]),(0,ai,[]),0,0,0,0,0)=some ((arZ w.1 (cj w a)).1,(arZ w.1 (cj w a)).2,()):=arT b.Ug (YM i j);dsimp only;rw[k,ao,Xd (azr b) f,ao,aZ,aa,an rfl];cases (arZ w.1 (cj w a)).2 with
  |false=>rw[ah (fun d=>by cases d.1)];rfl
  |true =>
   cases (rF w.1 (arZ w.1 (cj w a)).1 (ask w.1 (cj w a)).1).2 with
   |false=>rw[ah (fun d=>by cases d.2)];rfl
   |true =>
    rw[an ⟨rfl,rfl⟩,aZ,aa,aa,ad];rfl
def azx (w:aj)(a:Int):aj×Int:=(r6 w a (av0 w.1 (cj w a)).1,(av0 w.1 (cj w a)).2)
def ar6 {w:aj}(h:a6 w){a:Int}(b:0<=a)(e:a<w.2.2.1.length):GN F0 w a=some (abm w (azx w a)):=by
 obtain⟨c,o⟩:=h.rep b e;have f:=c.f.l.t;rw[afA,oL b (by omega),ad,Hm b e,aB (by omega) (by omega)];unfold azx av0;generalize p:cj w a=r at c f;have key:∀(k n:Nat),k<=r.2.2.2.2.2.1.length->k<n ->
   x3 F0 (rb F0) n (ra a ((k:Int)-1) w.1.1 w.1.2 w.1.1 w.1.2 0 0 r.1 r.2.1 r.2.2.1 r.2.2.2.1.1 r.2.2.2.1.2.1 r.2.2.2.1.2.2.1.1 r.2.2.2.1.2.2.1.2.1 r.2.2.2.1.2.2.1.2.2 r.2.2.2.1.2.2.2 r.2.2.2.2.1 r.2.2.2.2.2.1 r.2.2.2.2.2.2.1.1 r.2.2.2.2.2.2.1.2 r.2.2.2.2.2.2.2 w.2.1 w.2.2.1 w.2.2.2.1 w.2.2.2.2 [] [] [] [])
    = some (abm w (r6 w a (Pq w.1 r k).1,(Pq w.1 r k).2)):=by
  intro k
  induction k with
  |zero =>
   intro n g i;obtain⟨n,rfl⟩:∃m,n=m+1:=⟨n-1,by omega⟩;rw[Fp,aT (show ¬((0:Nat):Int)-1>=0 by omega),aa,XY];rfl
  |succ k j =>
   intro n g i;obtain⟨n,rfl⟩:∃m,n=m+1:=⟨n-1,by omega⟩;have d:k<r.2.2.2.2.2.1.length:=by omega
   have l:=axj c (r.2.2.2.2.2.1[k]).1 (c.l.tq _ (cB d)).1 true;rw[Fp,show((k+1:Nat):Int)-1=(k:Int) by omega,aS (show(k:Int)>=0 by omega),ae,al d,ad,ad,ad,aM d,KO,oL b (by omega)];unfold Pq;rw[aL d,show((r.2.2.2.2.2.1[k]).2.1.toList==ai.toList)=dY (r.2.2.2.2.2.1[k]).2.1 from rfl];cases q:dY (r.2.2.2.2.2.1[k]).2.1 with
   |true =>
    rw[an rfl,ae,aB (by omega) (by omega)];exact j n (by omega) (by omega)
   |false =>
    rw[ah (by decide),aa];refine Eq.trans (Au (fun x=>Option.bind x _) l) ?_;rw[ao];cases (ks w.1 r (r.2.2.2.2.2.1[k]).1 (r.2.2.2.2.2.1[k]).2.1 true).2 with
    |false=>rfl
    |true =>
     rw[an rfl,an rfl];dsimp only;rw[aZ,aa,ad,KO];rfl
 exact key r.2.2.2.2.2.1.length F0.n (bu _) (by rw[bj];omega)
def azy {w:aj}{a:Int}(r:ay)(list:List oM):LW (r6 w a r) a list=r6 (LW w a list) a r:=by
 have e:au (r6 w a r)=au w:=by unfold au r6;dsimp only;rw[Rk]
 unfold LW;rw[e];split<;>rfl
def ar7 (w:aj)(a:Int):aj×Int:=if w.2.2.2.1.length+(mN w a).length<=60/\w.2.2.2.2.length+(mN w a).length<=300 then (avY (ana w a) (mN w a),0) else (w,4)
def ar8 {w:aj}(h:a6 w){a:Int}(b:0<=a)(d:a<w.2.2.1.length):GM F0 w a=some (abm w (ar7 w a)):=by
 obtain⟨c,k⟩:=h.rep b d;have q:(mN w a).length<=30:=c.f.n;have f:∀p∈mN w a,kk p.2:=c.aDr;have r:=h.nl;have s:=h.sl;have l:=arR c;have g:=h.r6 b c.akl k;have m:IG F0 (w.1,w.2.1,w.2.2.1.set a.toNat (akl (cj w a)),w.2.2.2) a (mN w a)=some (ana w a,()):=by have:=axn g.w g.sl a (list:=mN w a) (by omega) f;rw[azy]at this;exact this
 have o:=h.ana b d;rw[afy,oL b (by omega),ad,Hm b d,l,ao];dsimp only;rw[show(cj w a).2.2.2.2.2.2.2=mN w a from rfl,aB (n:=(w.2.2.2.1.length:Int)+(mN w a).length) (by omega) (by omega),aB (n:=(w.2.2.2.2.length:Int)+(mN w a).length) (by omega) (by omega),ad,m,ao,aex o.nl (by omega) f,ao];unfold ar7;by_cases i:w.2.2.2.1.length+(mN w a).length<=60
 .rw[aT (show ¬(w.2.2.2.1.length:Int)+(mN w a).length>60 by omega),aa];by_cases j:w.2.2.2.2.length+(mN w a).length<=300
  .rw[aT (show ¬(w.2.2.2.2.length:Int)+(mN w a).length>300 by omega),aa,an ⟨i,j⟩,vo];rfl
  .rw[aS (show(w.2.2.2.2.length:Int)+(mN w a).length>300 by omega),ae,ah (fun e=>j e.2),Ea _ _ (by decide)];rfl
 .rw[aS (show(w.2.2.2.1.length:Int)+(mN w a).length>60 by omega),ae,ah (fun e=>i e.1),Ea _ _ (by decide)];rfl
def azz (w:aj)(d:oP):aj×Int :=
 if ga 0 (ak ((w.2.2.2.1.length:Int)-1)) d.2.1=true then
  if d.1=5 then (if w.2.2.2.1.length<60 then (akA w (w.2.2.2.1++[y3 w d.2.1]),0) else (w,4))
  else if d.1=3/\(y3 w d.2.1).1 ∉ w.2.1 then (r6 (anb w d.2.1) (y3 w d.2.1).1 (auo false w (y3 w d.2.1)),0) else (anb w d.2.1,0)
 else (w,2)
def aA8 {imp:Bool}{c:Int×Int}{r:ay}{m:cq}(h:(YN imp c r m).2=false):(YN imp c r m).1=r:=by
 unfold YN at h ⊢;split
 .rename_i a;rw[an a]at h;cases h
 .rfl
def azA {w:aj}{a:Int}(b:0<=a)(c:a<w.2.2.1.length):w.2.2.1.set a.toNat (cj w a)=w.2.2.1:=by unfold cj;rw[aL (show a.toNat<w.2.2.1.length by omega)];exact anl _
def aA9 {w:aj}{a:Int}(c:0<=a)(e:a<w.2.2.2.1.length)(d:j7):aJ w.2.2.2.1 a d=y3 w a:=by
 have b:a.toNat<w.2.2.2.1.length:=by omega
 unfold y3;rw[aL b];exact aL b d
def aus {w:aj}(h:a6 w)(d:oP):u6 F0 w d=some (abm w (azz w d)):=by
 have t:=h.nl;have u:=h.abl;have v:=h.le7;rw[ait,cE,ao];unfold azz;cases l:ga 0 (ak ((w.2.2.2.1.length:Int)-1)) d.2.1 with
 |false=>rw[ah (by decide),Ea _ _ (by decide)];rfl
 |true =>
  obtain⟨i,j⟩:=ane h l;have b:=h.aDs i j;obtain⟨m,x⟩:=azv b.2.1;obtain⟨t0,t1⟩:=h.azt b.2.2;obtain⟨n,hid⟩:=h.rep t0 t1;have o:ak (d.2.1+1)=d.2.1+1:=aB (by omega) (by omega);have p:(d.2.1+1).toNat=d.2.1.toNat+1:=by omega
  have q:([]++w.2.2.2.1.take d.2.1.toNat)++(w.2.2.2.1.take (w.2.2.2.1.length:Int).toNat).drop (d.2.1+1).toNat=YQ w.2.2.2.1 d.2.1.toNat:=by rw[oR,jr,p];rfl
  have y:(w.2.2.2.1.take d.2.1.toNat).length<=60:=by rw[cp];omega
  have z:((w.2.2.2.1.take (w.2.2.2.1.length:Int).toNat).drop (d.2.1+1).toNat).length<=60:=by rw[b7,cp];omega
  have r:okT d.2.1 (w.2.2.2.1.length:Int)=true:=by simp[okT];omega
  rw[an rfl,aZ,aa,oL i j,ad,aA9 i j,aE (a:=0) (by omega) (by omega) (by have:=b.1.1;omega),ad,aE (by omega) (by omega) (by first|omega|(simp only[aW,bG,bd];omega)|(rw[b7,cp];omega)),ad,r,ad,o,YF (by omega) (by omega) (by omega),ad,aE (a:=0) (by omega) (by omega) (by omega),ad,aE (by omega) (by omega) (by rw[vr];omega),ad,
   q,eg (by omega),ao,ac9 b.1,ao,oL t0 t1,ad]
  dsimp only;rw[Hm t0 t1,arW n m,ao,ad];by_cases c:d.1=5
  .rw[cH.2 c,ae,an c];by_cases g:w.2.2.2.1.length<60
   .rw[aT (show ¬(w.2.2.2.1.length:Int)>=60 by omega),aa,an g,vo];rfl
   .rw[aS (show(w.2.2.2.1.length:Int)>=60 by omega),ae,ah g,Ea _ _ (by decide)];rfl
  .rw[bX.2 c,aa,ah c];by_cases e:d.1=3
   .rw[cH.2 e,ae];by_cases f:(y3 w d.2.1).1∈w.2.1
    .rw[aS f,aZ,aa,ah (fun k=>k.2 f),vo];rfl
    .rw[aT f,gQ,ae,an ⟨e,f⟩,vo];unfold auo;cases s:(YN false w.1 (cj w (y3 w d.2.1).1) (j9 w.1 (y3 w d.2.1).2).1).2 with
     |true=>rfl
     |false =>
      rw[aA8 s];have:=azA t0 t1;show some (((w.1,w.2.1,w.2.2.1,YQ w.2.2.2.1 d.2.1.toNat,w.2.2.2.2):aj),(0:Int),_)=some ((w.1,w.2.1,w.2.2.1.set _ _,YQ w.2.2.2.1 d.2.1.toNat,w.2.2.2.2),0,Hl);rw[this];rfl
   .rw[bX.2 e,aa,ah (fun k=>e k.1),vo];rfl
def azB (w:aj)(d:oP):aj×Int :=
 if ga 0 (ak (w.1.1-1)) d.2.1=true then (if apF w.1 w.2.1 w.2.2.2.2 d.2.2.2=true then (if w.2.2.2.1.length<60 then (avY w [(d.2.1,d.2.2.2)],0) else (w,4)) else (w,5)) else (w,2)
def aut {w:aj}(h:a6 w){d:oP}(a:kk d.2.2.2):KF F0 w d=some (abm w (azB w d)):=by
 have b:=h.nl;have e:=h.abl;have f:=h.sl;rw[aiA,cE,ao,aug (by omega) (by omega) a,ao,aex b (by simp) (fun p c=>by rw[h7.1 c];exact a),ao];unfold azB;cases ga 0 (ak (w.1.1-1)) d.2.1 with
 |false=>rfl
 |true =>
  cases apF w.1 w.2.1 w.2.2.2.2 d.2.2.2 with
  |false=>rfl
  |true =>
   by_cases g:w.2.2.2.1.length<60
   .rw[aT (show ¬(w.2.2.2.1.length:Int)>=60 by omega),an g];rfl
   .rw[aS (show(w.2.2.2.1.length:Int)>=60 by omega),ah g];rfl
def azC (w:aj)(d:oP):aj×Int:=if d.1=2 then ar7 w d.2.1 else azw false w d
def anf {w:aj}{x:aj×Int}:((some (abm w x):Option (aj×Int×aj)).bind fun r=>br (r.2.1==0) (some (r.1,(0:Int),Hl)) (br (r.2.1==0) none (some (Hl,r.2.1,w.1,r.2.2.2))))=some (abm w x):=by
 rw[ao];unfold abm;by_cases h:x.2=0
 .rw[an h];rfl
 .rw[ah h];dsimp only;rw[bX.2 h,aa,aa]
def auu {w:aj}(h:a6 w){d:oP}(o:kk d.2.2.2)(a:0<=d.2.1)(c:d.2.1<w.2.2.1.length):KS F0 w d=some (abm w (azC w d)):=by
 obtain⟨b,t⟩:=h.rep a c;have p:Ns F0 w.1 ((cj w d.2.1).1,(cj w d.2.1).2.1,(cj w d.2.1).2.2.1,(cj w d.2.1).2.2.2.1,(cj w d.2.1).2.2.2.2.1,(cj w d.2.1).2.2.2.2.2.1,JA (cj w d.2.1).2.2.2.2.2.2.1 d.2.2.1,(cj w d.2.1).2.2.2.2.2.2.2)=some (ar1 w.1 (cj w d.2.1) d.2.2.1,()):=ay9 (b.ads d.2.2.1).bt (b.ads d.2.2.1).ok;have e:=fun x:aj×Int=>anf (w:=w) (x:=x)
 unfold Hl at e;rw[aiL,oL a (by omega),ad,aur h a c,ar8 h a c,ar6 h a c,Hm a c,dA b.bt,atY b.bt.d.1,azh b,arW b o];have q:=e (aCy w d.2.1);have r:=e (ar7 w d.2.1);have s:=e (azx w d.2.1);unfold azC azw apH;by_cases f:d.1=1
 .rw[cH.2 f,ae,ah (by omega),an f];exact q
 .rw[bX.2 f,aa,ah f];by_cases g:d.1=2
  .rw[cH.2 g,ae,an g];exact r
  .rw[bX.2 g,aa,ah g];by_cases i:d.1=6
   .rw[cH.2 i,ae,an i];exact s
   .rw[bX.2 i,aa,ah i];by_cases j:d.1=8
    .rw[cH.2 j,ae,ah (by omega),an j,vo];simp only[ao,p,ad];rfl
    .rw[bX.2 j,aa];by_cases l:d.1=7
     .rw[cH.2 l,ae,an l,ao];cases (Xc w.1 (cj w d.2.1)).2 with
      |false=>rw[ah (by decide),Ea _ _ (k:=3) (show(3:Int)≠0 by decide)];rfl
      |true=>rw[an rfl,vo,ad];rfl
     .rw[bX.2 l,aa,ah l,ah j,ao];unfold aA6;cases (YN false w.1 (cj w d.2.1) d.2.2.2).2 with
      |false=>rw[ah (fun n=>by cases n.1),Ea _ _ (k:=3) (show(3:Int)≠0 by decide)];rfl
      |true =>
       by_cases m:d.2.2.2.1=4
       .rw[an ⟨rfl,m⟩,vo,aZ,aa,show(d.2.2.2.1 != 4)=false by simp[m],aa,ad];rfl
       .rw[ah (fun n=>m n.2),Ea _ _ (k:=3) (show(3:Int)≠0 by decide),aZ,aa,show(d.2.2.2.1 != 4)=true by simp[m],ae];rfl
def auv (w:aj)(d:oP):aj×Int:=if av2 d=true then azz w d else if d.1=10 then azB w d else if d.2.1∈au w then azC w d else (w,2)
def auw {w:aj}(h:a6 w){d:oP}(g:kk d.2.2.2):KT F0 w d=some (abm w (auv w d)):=by
 have hlen:=aev w;have p:=h.le7;have b:=fun x:aj×Int=>anf (w:=w) (x:=x)
 unfold Hl at b;have f:=b (azz w d);have k:=b (azB w d);have l:=b (azC w d);rw[aiN,aus h,aut h g,Bw h.w.l];unfold auv;by_cases c:av2 d=true
 .rw[an c];by_cases i:d.1=3
  .rw[cH.2 i,ae];exact f
  .rw[bX.2 i,aa];by_cases j:d.1=4
   .rw[cH.2 j,ae];exact f
   .have m:d.1=5:=by have:=anc.1 c;omega
    rw[bX.2 j,aa,cH.2 m,ae];exact f
 .have q:¬(d.1=3\/d.1=4\/d.1=5):=fun a=>c (anc.2 a)
  rw[ah c,bX.2 (show d.1≠3 by omega),aa,bX.2 (show d.1≠4 by omega),aa,bX.2 (show d.1≠5 by omega),aa];by_cases e:d.1=10
  .rw[cH.2 e,ae,an e];exact k
  .rw[bX.2 e,aa,ah e,ao,eg (by dsimp only;omega),ao];by_cases a:d.2.1∈au w
   .obtain⟨n,o⟩:=Pr a;rw[aS a,aZ,aa,an a,auu h g n o];exact l
   .rw[aT a,gQ,ae,ah a,Ea _ _ (by decide)];rfl
def ar9 (w:aj)(d:oP):aj:=if (auv w d).2=0 then (auv w d).1 else w
def asa {w:aj}(h:a6 w){d:oP}(b:kk d.2.2.2):GP F0 w d=some ((ar9 w d,()),()):=by
 rw[afC,auw h b,ao];unfold ar9 abm;by_cases a:(auv w d).2=0
 .rw[an a,an a];rfl
 .rw[ah a,ah a];dsimp only;rw[bX.2 a,aa,show((auv w d).2 != 0)=true by simp[a],ae]
def a6.aEj {w:aj}(h:a6 w)(d:oP):a6 (ar9 w d):=by
 unfold ar9;split
 .rename_i f;clear f;unfold auv;split
  .unfold azz;split
   .rename_i i;obtain⟨b,c⟩:=ane h i;have e:=h.aDs b c;split
    .split
     .rename_i g;refine h.akA (by rw[aW,ej];omega) fun x a=>?_
      rcases fM.1 a with a|a
      .exact h.nb x a
      .rw[h7.1 a];exact e
     .exact h
    .split
     .obtain⟨t0,t1⟩:=h.azt e.2.2;obtain⟨j,hid⟩:=h.rep t0 t1;exact(h.anb d.2.1).r6 t0 (j.heard false _) (by unfold auo;rw[avZ];exact hid)
     .exact h.anb _
   .exact h
  .split
   .unfold azB;split
    .split
     .split
      .exact h.send _
      .exact h
     .exact h
    .exact h
   .split
    .rename_i k;obtain⟨b,c⟩:=Pr k;unfold azC;split
     .unfold ar7;split
      .exact(h.ana b c).send _
      .exact h
     .exact h.azw false b c
    .exact h
 .exact h
def Uh (i:Int):ay:=(i,1,0,mL,[],[],([],0),[])
def auy (c:Int×Int)(a:List Int):aj:=(c,a,(List.range c.1.toNat).map fun i:Nat=>Uh (i:Int),[],[])
def asb {c:Int×Int}(a:bq c=true){i:Int}(e:0<=i)(f:i<c.1):aY c (Uh i):=by have d:=ch a;refine⟨⟨a,?_,rfl,rfl,YP a,rfl,rfl,rfl,aX _,fun x b=>by cases b⟩,fun x b=>by cases b⟩;show ga 0 (ak (c.1-1)) i=true;rw[ac4 d.1 d.2.1];simp only[ga,aD,bJ];omega
def azD {c:Int×Int}(a:bq c=true){b:List Int}(e:j6 c.1 b=true)(f:(b.length:Int)<=EU c):a6 (auy c b):=by
 have n:=ch a;refine⟨a,e,f,?_,fun r g=>?_,fun k h=>?_,aX _,(fun x d=>by cases d),aX _,(fun x d=>by cases d)⟩
 .show(((List.range c.1.toNat).map fun i:Nat=>Uh (i:Int)).length:Int)=c.1;rw[n1,al5];omega
 .obtain⟨i,j,rfl⟩:=JN.1 g;have:=gP.1 j;exact asb a (by omega) (by omega)
 .have l:k<((List.range c.1.toNat).map fun i:Nat=>Uh (i:Int)).length:=h;have m:(((List.range c.1.toNat).map fun i:Nat=>Uh (i:Int))[k]'l).1=(k:Int):=by rw[List.getElem_map,List.getElem_range];rfl
  exact m
def auz {c:Int×Int}(b:bq c=true){i:Int}(d:0<=i)(e:i<c.1):Kc F0 c i=some (Uh i,true,()):=by
 have a:=asb b d e;have f:cR F0 c (i,1,0,(0,0,(0,ai,[]),ai),[],[],([],0),[])=some (true,()):=by have:=fx a.l c;rw[a.ok]at this;exact this
 rw[ahZ,f];rfl
def abn {c:Int×Int}{b:List Int}(h:a6 (auy c b)):sg F0 c b=some (auy c b,true,()):=by
 have d:=ch h.c;have e:bq c=true:=h.c;have g:b.length<=7:=h.abl;have j:(c.1.toNat:Int)=c.1:=agB (by have:4<=c.1:=d.1;omega);have l:c.1.toNat<=7:=by have:c.1<=7:=d.2.1;omega
 rw[abW,aE (a:=0) (by omega) (by omega) (by omega),ad];refine ay5 (fun n k xs=>tg F0 (wx F0) n (n8 k c.1 c.2 0 0 c.1 c.2 [] [] [] [] ([]++b) xs [] [])) (List.range c.1.toNat) (fun i:Nat=>Uh (i:Int)) _ (fun n k xs f m=>?_) (fun n=>?_) _ (by rw[bj,al5];omega)
 .have o:k<c.1.toNat:=by rw[al5]at f;exact f
  rw[De,aS (show(k:Int)<c.1 by omega),ae,show((c.1,c.2):Int×Int)=c from rfl,gK,ao,e,ae,auz e (by omega) (by omega),ao,aE (by omega) (by omega) (by first|omega|(simp only[aW,bG,bd];omega)|(rw[b7,cp];omega)),ad,ag (by omega),List.getElem_range]
 .have cX:eJ F0 ((c.1,c.2),[]++b,((List.range c.1.toNat).map fun i:Nat=>Uh (i:Int),([],[])))=some (true,()):=by have:=pF h.w.l;rw[h.ok]at this;exact this
  rw[De,al5,aT (show ¬(c.1.toNat:Int)<c.1 by omega),aa,U4,cX];rfl
def New (w:aj):Prop:=∃c a,w=auy c a/\a6 (auy c a)
def New.g {w:aj}(h:New w):a6 w:=by obtain⟨c,l,rfl,a⟩:=h;exact a
def aEl (n:Int):j6 n []=true:=rfl
def aEm {n x:Int}(a:0<=x)(b:x<n):j6 n [x]=true:=by simp[j6,a,b]
def auA {c:Int×Int}(h:bq c=true):1<=EU c:=by have a:=ch h;unfold EU;rw[an h];exact(aqL a.1 a.2.1).1
def azE {c:cW}(h:iP c):Dr (U:=aj) (n9 F0 c) New:=by
 unfold Dr;rw[Sg];refine Dr.bind (cn h (l:=[4,4,4,5,7]) (by decide) (by decide)) fun x g i=>Dr.bind (aF i (n:=3) (by omega) (by omega)) fun y d j=>Dr.bind (yX j (n:=3) (by omega) (by omega)) fun z o e=>?_
 have p:x.1.1=4\/x.1.1=5\/x.1.1=7:=by simp only[dK,agy,or_false]at g;omega
 have q:=d.1;have r:=d.2;have b:bq (x.1.1,ak (1+y.1.1))=true:=by rw[aB (by omega) (by omega)];simp only[bq,ga,aD,bJ];omega
 have k:=auA b;refine Gd.br (fun _=>?_) fun _=>?_
 .refine Dr.bind (aF e (n:=x.1.1) (by omega) (by omega)) fun v f m=>?_
  have a:a6 (auy (x.1.1,ak (1+y.1.1)) [v.1.1]):=azD b (aEm f.1 f.2) (by simpa using k);exact Gd.let (abn a) (Gd.ret ⟨⟨_,_,rfl,a⟩,m⟩)
 .have a:a6 (auy (x.1.1,ak (1+y.1.1)) []):=azD b (aEl _) (by simp;omega);exact Gd.let (abn a) (Gd.ret ⟨⟨_,_,rfl,a⟩,e⟩)
def auB {a b:Int}{V:Type}{f:Int×Unit->Option V}{P:V->Prop}(h:Gd (f (Hi a b,())) P):Gd ((bA F0 a b).bind f) P:=Gd.let (UO a b) h
def auC {a b:Int}{V:Type}{f:Int×Unit->Option V}{P:V->Prop}(h:Gd (f (sE a b,())) P):Gd ((c9 F0 a b).bind f) P:=Gd.let (Bz a b) h
def adu {up:ByteArray}(d:up.size<=6000){view:Int}(a:Hx view){l:List ez}(e:l.length<=10){V:Type}{f:ByteArray×Unit->Option V}{P:V->Prop}(h:∀b:ByteArray,b.size<=7000->Gd (f (b,())) P):Gd ((eY F0 up view l).bind f) P:=by have c:=Pf (up:=up.data.toList) (by show up.size<=_;omega) a (l:=l) (by omega);have g:=UK (up:=up.data.toList) a l;refine Gd.let c (h _ ?_);rw[bc];have:up.data.toList.length=up.size:=rfl;omega
def YR {w:aj}(h:a6 w)(view:Int)(name:ByteArray)(d:name.size<=1048576){c:cW}(e:iP c) :
  Gd (cz F0 (dR F0) F0.n (bZ view name 0 c.1 c.2.1 c.2.2 w.1.1 w.1.2 w.2.1 w.2.2.1 w.2.2.2.1 w.2.2.2.2 0 0 ai 0 ai 0 ai 0 ai 0 0 0 0 0 ([]++w.2.1) [] [] [])) fun z:DrT cq=>(∃q:b0,z.1.1=Hk q/\Bu q)/\iP z.2.1:=by
 have g:=h.sl;have j:=h.abl;refine hG (fun n i (z:List Int)=>cz F0 (dR F0) n (bZ view name i c.1 c.2.1 c.2.2 w.1.1 w.1.2 w.2.1 w.2.2.1 w.2.2.2.1 w.2.2.2.2 0 0 ai 0 ai 0 ai 0 ai 0 0 0 0 0 z [] [] [])) w.2.2.2.2.length (fun k z=>z.length<=7+k) _ (fun n k z b f a=>?_) (fun n z f=>?_) F0.n 0 ([]++w.2.1) (aX _) (by show w.2.1.length<=_;omega) (by rw[bj];omega)
 .rw[sh,aK b,ae,al b,ad,ad,ad,ag (by omega)];refine Gd.br (fun _=>Gd.br (fun _=>Gd.let (Jr (by omega) _) ?_) fun _=>?_) fun _=>?_
  .exact a _ (by have:=TQ z (aJ w.2.2.2.2 (k:Int) O5).2.2;exact aR (TQ _ _) (by omega))
  .exact a _ (by omega)
  .exact a _ (by omega)
 .rw[sh,az,aa,MX];exact Gd.ret ⟨⟨(view,name,z),rfl,d,by show z.length<=_;omega⟩,e⟩
def azF {c:cW}(k:iP c){w:aj}(h:a6 w):Dr (U:=cq) (og F0 c w) fun m=>∃q:b0,m=Hk q/\Bu q:=by
 have t:=h.sl;have u:=h.abl;unfold Dr;rw[Sj];refine Dr.bind (aF k (n:=4) (by omega) (by omega)) fun x e f=>?_
 have v:=e.1;have A:=e.2;refine adu (aX _) (by rw[aB (by omega) (by omega)];exact⟨by omega,by omega⟩) (aX _) fun b l=>?_
 refine Gd.ck (aE (a:=0) (by omega) (by omega) (by omega)) (Gd.br (fun hlen=>?_) fun _=>YR h _ _ (by show b.size<=_;omega) f);have B:0<w.2.2.2.2.length:=by have:=C2 hlen;omega
 refine auB ?_;have m0:0<Hi (w.2.2.2.2.length:Int) 8:=by unfold Hi;split<;>omega
 have m1:Hi (w.2.2.2.2.length:Int) 8<=w.2.2.2.2.length:=by unfold Hi;split<;>omega
 refine Dr.bind (aF f (n:=Hi (w.2.2.2.2.length:Int) 8) m0 (by omega)) fun y g o=>?_
 have C:=g.1;have D:=g.2;have p:ak (ak ((w.2.2.2.2.length:Int)-1)-y.1.1)=((w.2.2.2.2.length-1-y.1.1.toNat:Nat):Int):=by rw[aB (n:=(w.2.2.2.2.length:Int)-1) (by omega) (by omega),aB (by omega) (by omega)];omega
 have d:w.2.2.2.2.length-1-y.1.1.toNat<w.2.2.2.2.length:=by omega
 have i:=h.sb _ (cB d);have r:=jq i.2.1;have E:=rA (w.2.2.2.2[w.2.2.2.2.length-1-y.1.1.toNat]).2.1.data.toList;have s:=i.2.2;rw[p];refine Gd.ck (al d) (Dr.bind (yX o (n:=3) (by omega) (by omega)) fun z F j=>?_);rw[aM d];refine Gd.br (fun _=>Gd.let (aaV (aR r (by omega))) ?_) fun _=>YR h _ _ (by omega) j
 refine adu (up:=upB (w.2.2.2.2[w.2.2.2.2.length-1-y.1.1.toNat]).2.1) (aR (Ua _) (by omega)) (by rw[<-s];exact⟨by omega,by omega⟩) (by simp) fun b l=>YR h _ _ (by show b.size<=_;omega) j
def YS {c:Int×Int}{q:b0}{view:Int}{l:List ez}:(gd c q view l).1.1.size<=1048576/\Bu (gd c q view l).1.2:=by
 unfold gd;split
 .rename_i a;exact UP a.1
 .exact⟨aX _,eb⟩
def azG {w:aj}(h:a6 w){q:b0}(b:fe w.1 q=true)(dE:Int){view:Int}(d:0<=view)(e:view<=61){c:cW}(f:iP c) :
  Gd (bB F0 (bb F0) F0.n (ba dE view 0 c.1 c.2.1 c.2.2 w.1.1 w.1.2 w.2.1 w.2.2.1 w.2.2.2.1 w.2.2.2.2 0 0 ai 0 ai 0 ai 0 ai 0 0 0 0 0 q.1 q.2.1 [] [] [] q.2.2)) fun z:DrT cq=>kk z.1.1/\iP z.2.1:=by
 have out:∀v:Int,0<=v->v<=61->Gd (bb F0 (.exit 1) (fW v c.1 c.2.1 c.2.2 w.1.1 w.1.2 w.2.1 w.2.2.1 w.2.2.2.1 w.2.2.2.2 0 0 ai 0 ai 0 ai 0 ai 0 0 0 0 0 q.1 q.2.1 [] [] [] q.2.2)) fun z:DrT cq=>kk z.1.1/\iP z.2.1:=fun v o p=>by
  rw[QY];refine Dr.bind (Bx f) fun x r g=>?_
  have i:=abh (c:=w.1) b (view:=v) ⟨by omega,by omega⟩ (l:=[x.1.1]) (by simp);exact Gd.let i (Gd.ret ⟨YM YS.1 YS.2,g⟩)
 refine hG (fun n k (v:Int)=>bB F0 (bb F0) n (ba dE v k c.1 c.2.1 c.2.2 w.1.1 w.1.2 w.2.1 w.2.2.1 w.2.2.2.1 w.2.2.2.2 0 0 ai 0 ai 0 ai 0 ai 0 0 0 0 0 q.1 q.2.1 [] [] [] q.2.2)) 7 (fun k v=>0<=v/\v<=61) _ (fun n k v s a j=>?_) (fun n v a=>?_) F0.n 0 view (aX _) ⟨d,e⟩ (by rw[bj];omega)
 .have i0:=a.1;have i1:=a.2;rw[wC,aS (show(k:Int)<7 by omega),ae];refine Gd.br (fun m=>Gd.let (Ju _ _) (Gd.br (fun _=>?_) fun _=>out v i0 i1)) fun _=>out v i0 i1
  have t:=C2 m;rw[aB (n:=v+1) (by omega) (by omega),ag (by omega)];exact j (v+1) ⟨by omega,by omega⟩
 .rw[wC,aT (show ¬((7:Nat):Int)<7 by omega),aa];exact out v a.1 a.2
def asc {w:aj}(h:a6 w){q:b0}(b:fe w.1 q=true)(dE:Int){m:cq}(g:kk m){c:cW}(i:iP c) :
  Gd ((af F0 c 4).bind fun a=>br (a.1.1==0) (some ((m,()),a.2.1,())) (br (a.1.1==1) ((af F0 a.2.1 2).bind fun f=>(bA F0 (ak ((ak (q.1+1))+f.1.1)) 60).bind fun j=>some (((3,j.1,(ai,0,ai,[]),(0,ai,[]),q,dE,0,0,0,0),()),f.2.1,())) (bB F0 (bb F0) F0.n (ba dE (ak (q.1+1)) 0 a.2.1.1 a.2.1.2.1 a.2.1.2.2 w.1.1 w.1.2 w.2.1 w.2.2.1 w.2.2.2.1 w.2.2.2.2 0 0 ai 0 ai 0 ai 0 ai 0 0 0 0 0 q.1 q.2.1 [] [] [] q.2.2)))) fun z:DrT cq=>kk z.1.1/\iP z.2.1:=by
 obtain⟨_,_,l,_⟩:=Pg b;have o:=rA q.2.1.data.toList;have e:ak (q.1+1)=q.1+1:=aB (by omega) (by omega);refine Dr.bind (aF i (n:=4) (by omega) (by omega)) fun x p d=>Gd.br (fun _=>Gd.ret ⟨g,d⟩) fun _=>Gd.br (fun _=>?_) fun _=>?_
 .exact Dr.bind (aF d (n:=2) (by omega) (by omega)) fun y r k=>auB (Gd.ret ⟨UQ (YK b) dE,k⟩)
 .rw[e];exact azG h b dE (by omega) (by omega) d
def asd {c:Int×Int}(a:bq c=true):fe c b1=true:=by unfold fe af9;simp only[a];rfl
def ase:GA F0=some (b1,()):=by rw[ae5];rfl
def aCz {c:cW}(v:iP c){w:aj}(h:a6 w):Dr (U:=cq) (gC F0 c w) kk:=by
 have D:=h.le7;have E:=h.abl;unfold Dr;rw[XM];refine Dr.bind (azF v h) fun x A f=>?_
 obtain⟨q,e,o⟩:=A;obtain⟨⟨m,u⟩,⟨F,G⟩⟩:=x;dsimp only at e f ⊢;subst e;have p:=UR o;have dE:∀(Q:b0),fe w.1 Q=true->∀g:cW,iP g->Gd (br (decide ((w.2.1.length:Int)>0)) ((af F0 g (w.2.1.length:Int)).bind fun i=>ck (bh i.1.1 (w.2.1.length:Int)) ((af F0 i.2.1 4).bind fun a=>br (a.1.1==0) (some ((Hk q,()),a.2.1,())) (br (a.1.1==1) ((af F0 a.2.1 2).bind fun d=>(bA F0 (ak ((ak (Q.1+1))+d.1.1)) 60).bind fun k=>some (((3,k.1,(ai,0,ai,[]),(0,ai,[]),Q,aJ w.2.1 i.1.1 0,0,0,0,0),()),d.2.1,())) (bB F0 (bb F0) F0.n (ba (aJ w.2.1 i.1.1 0) (ak (Q.1+1)) 0 a.2.1.1 a.2.1.2.1 a.2.1.2.2 w.1.1 w.1.2 w.2.1 w.2.2.1 w.2.2.2.1 w.2.2.2.2 0 0 ai 0 ai 0 ai 0 ai 0 0 0 0 0 Q.1 Q.2.1 [] [] [] Q.2.2))))) ((af F0 g 4).bind fun a=>br (a.1.1==0) (some ((Hk q,()),a.2.1,())) (br (a.1.1==1) ((af F0 a.2.1 2).bind fun d=>(bA F0 (ak ((ak (Q.1+1))+d.1.1)) 60).bind fun k=>some (((3,k.1,(ai,0,ai,[]),(0,ai,[]),Q,0,0,0,0,0),()),d.2.1,())) (bB F0 (bb F0) F0.n (ba 0 (ak (Q.1+1)) 0 a.2.1.1 a.2.1.2.1 a.2.1.2.2 w.1.1 w.1.2 w.2.1 w.2.2.1 w.2.2.2.1 w.2.2.2.2 0 0 ai 0 ai 0 ai 0 ai 0 0 0 0 0 Q.1 Q.2.1 [] [] [] Q.2.2))))) fun z:DrT cq=>kk z.1.1/\iP z.2.1:=fun Q r g s=>by
  refine Gd.br (fun B=>?_) fun _=>asc h r 0 p s
  have:=C2 B;refine Dr.bind (aF s (n:=(w.2.1.length:Int)) (by omega) (by omega)) fun y l j=>Gd.ck (oL l.1 l.2) (asc h r _ p j)
 refine Gd.let (O2 (q:=q) o w.1) (Gd.br (fun _=>Gd.let ase (Gd.br (fun _=>?_) fun _=>dE b1 (asd h.c) _ f)) fun cX=>dE q (by simpa using cX) _ f);refine Dr.bind (yX f (n:=2) (by omega) (by omega)) fun y l j=>Gd.br (fun _=>?_) fun _=>dE b1 (asd h.c) _ j
 refine Dr.bind (aF j (n:=(w.2.2.1.length:Int)) (by omega) (by omega)) fun z b C=>Gd.ck (oL b.1 b.2) ?_
 have t:=(h.rep b.1 b.2).1;rw[Hm b.1 b.2];exact Gd.let (pH t.l.s.1.2) (dE _ (fK t.f.s).2.2.1 _ C)
def aDt:cq:=(0,0,(ai,b1),b1,b1,0,ny)
def Hn:kk aDt:=⟨aX _,eb,eb,eb⟩
def asf (d:oP):Prop:=kk d.2.2.2/\ga 1 10 d.1=true
def adv {w:aj}(h:a6 w)(a:Int){c:cW}(b:iP c) :
  Gd (br ((w.2.2.2.1.length:Int)==0) (some (((2,a,0,0,0,(ai,0,ai,[]),(0,ai,[]),(0,ai,[]),0,0,0,0,0),()),c,())) ((bA F0 (w.2.2.2.1.length:Int) 4).bind fun e=>(af F0 c e.1).bind fun d=>some (((3,d.1.1,0,0,0,(ai,0,ai,[]),(0,ai,[]),(0,ai,[]),0,0,0,0,0),()),d.2.1,()))) fun z:DrT oP=>asf z.1.1/\iP z.2.1:=by
 refine Gd.br (fun _=>Gd.ret ⟨⟨Hn,by simp[ga]⟩,b⟩) fun f=>auB ?_
 have i:(w.2.2.2.1.length:Int)≠0:=by simpa using f
 have m0:0<Hi (w.2.2.2.1.length:Int) 4:=by unfold Hi;split<;>omega
 have m1:Hi (w.2.2.2.1.length:Int) 4<=4:=by unfold Hi;split<;>omega
 exact Dr.bind (aF b (n:=Hi (w.2.2.2.1.length:Int) 4) m0 (by omega)) fun y j g=>Gd.ret ⟨⟨Hn,by simp[ga]⟩,g⟩
def azH {a:Int}{n k:Nat}(b:0<=a)(c:a<n)(d:k<n)(e:n<=7):0<=Int.tmod (ak (a+(k:Int))) (n:Int)/\Int.tmod (ak (a+(k:Int))) (n:Int)<n:=by rw[aB (by omega) (by omega),al0 (by omega)];exact⟨agA _ (by omega),agw _ (by omega)⟩
def nz0 {n:Nat}(h:0<n):(!((n:Int)==0))=true:=by simp;omega
def akB {w:aj}(h:a6 w){a:Int}(i:0<=a)(j:a<w.2.2.1.length){c:cW}(d:iP c) :
  Gd (dt F0 (du F0) F0.n (cP (w.2.2.1.length:Int) a 0 c.1 c.2.1 c.2.2 w.1.1 w.1.2 w.2.1 w.2.2.1 w.2.2.2.1 w.2.2.2.2 0 0 0 0 0 ai 0 ai 0 ai 0 ai 0 0 0 0 0 [] [] [])) fun z:DrT oP=>asf z.1.1/\iP z.2.1:=by
 have l:=h.le7;have p:=h.abl;refine hG (fun n k (z:Unit)=>dt F0 (du F0) n (cP (w.2.2.1.length:Int) a k c.1 c.2.1 c.2.2 w.1.1 w.1.2 w.2.1 w.2.2.1 w.2.2.2.1 w.2.2.2.2 0 0 0 0 0 ai 0 ai 0 ai 0 ai 0 0 0 0 0 [] [] [])) w.2.2.1.length (fun _ _=>True) _ (fun n k z e m f=>?_) (fun n z m=>?_) F0.n 0 () (aX _) trivial (by rw[bj];omega)
 .obtain⟨b,g⟩:=azH i j e l.2;have o:=(h.rep b g).1;rw[u5,aK e,ae,nz0 (by omega),ad,oL b (by omega),ad,Hm b g,ad,ad,Q0,ag (by omega)];refine Gd.let (avW o) (Gd.br (fun _=>?_) fun _=>f () trivial);refine Gd.let (eg (by omega) _) (Gd.br (fun _=>?_) fun _=>f () trivial);exact Gd.ret ⟨⟨Hn,by simp[ga]⟩,d⟩
 .rw[u5,az,aa,OC];exact Gd.ret ⟨⟨Hn,by simp[ga]⟩,d⟩
def UW {w:aj}(h:a6 w){a:Int}(e:0<=a)(f:a<w.2.2.1.length){c:cW}(b:iP c) :
  Gd (ds F0 (cO F0) F0.n (cN (w.2.2.1.length:Int) a 0 c.1 c.2.1 c.2.2 w.1.1 w.1.2 w.2.1 w.2.2.1 w.2.2.2.1 w.2.2.2.2 0 0 0 0 0 ai 0 ai 0 ai 0 ai 0 0 0 0 0 [] [] [])) fun z:DrT oP=>asf z.1.1/\iP z.2.1:=by
 have g:=h.le7;refine hG (fun n k (z:Unit)=>ds F0 (cO F0) n (cN (w.2.2.1.length:Int) a k c.1 c.2.1 c.2.2 w.1.1 w.1.2 w.2.1 w.2.2.1 w.2.2.2.1 w.2.2.2.2 0 0 0 0 0 ai 0 ai 0 ai 0 ai 0 0 0 0 0 [] [] [])) w.2.2.1.length (fun _ _=>True) _ (fun n k z d i j=>?_) (fun n z i=>?_) F0.n 0 () (aX _) trivial (by rw[bj];omega)
 .obtain⟨l,m⟩:=azH e f d g.2;rw[u4,aK d,ae,nz0 (by omega),ad,oL l (by omega),ad,ad,QZ,ag (by omega)];refine Gd.br (fun _=>?_) fun _=>j () trivial
  exact Gd.ret ⟨⟨Hn,by simp[ga]⟩,b⟩
 .rw[u4,az,aa,OB];exact adv h a b
def akC {w:aj}(h:a6 w)(a:Int){c:cW}(b:iP c) :
  Gd (br (decide ((w.2.1.length:Int)>0)) ((gC F0 c w).bind fun d=>some (((10,a,0,d.1.1),()),d.2.1,())) (br ((w.2.2.2.1.length:Int)==0) (some (((2,a,0,0,0,(ai,0,ai,[]),(0,ai,[]),(0,ai,[]),0,0,0,0,0),()),c,())) ((bA F0 (w.2.2.2.1.length:Int) 4).bind fun f=>(af F0 c f.1).bind fun e=>some (((3,e.1.1,0,0,0,(ai,0,ai,[]),(0,ai,[]),(0,ai,[]),0,0,0,0,0),()),e.2.1,())))) fun z:DrT oP=>asf z.1.1/\iP z.2.1 :=
 Gd.br (fun _=>Dr.bind (aCz b h) fun x g i=>Gd.ret ⟨⟨g,by simp[ga]⟩,i⟩) fun _=>adv h a b
def aBa {c:cW}(i:iP c){w:aj}(h:a6 w):Dr (U:=oP) (p2 F0 c w) asf:=by
 have p:=h.le7;have q:=h.nl;unfold Dr;rw[U6];refine auC ?_;have m:sE (w.2.2.1.length:Int) 1=w.2.2.1.length:=by unfold sE;rw[ah (by omega)]
 dsimp only;rw[m];refine Dr.bind (aF i (n:=(w.2.2.1.length:Int)) (by omega) (by omega)) fun x j k=>?_
 obtain⟨b,d⟩:=j;refine Dr.bind (aF k (n:=20) (by omega) (by omega)) fun y r a=>?_
 refine Gd.br (fun _=>akB h b d a) fun _=>Gd.br (fun _=>akB h b d a) fun _=>Gd.br (fun _=>akB h b d a) fun _=>Gd.br (fun _=>UW h b d a) fun _=>Gd.br (fun _=>UW h b d a) fun _=>Gd.br (fun _=>UW h b d a) fun _=>Gd.br (fun _=>UW h b d a) fun _=>Gd.br (fun _=>Gd.ret ⟨⟨Hn,by simp[ga]⟩,a⟩) fun _=>Gd.br (fun _=>Gd.ret ⟨⟨Hn,by simp[ga]⟩,a⟩) fun _=>Gd.br (fun _=>?_) fun _=>Gd.br (fun _=>?_) fun _=>Gd.br (fun _=>akC h _ a) fun _=>Gd.br (fun _=>akC h _ a) fun _=>Gd.br (fun _=>akC h _ a) fun _=>adv h _ a
 .refine Dr.bind (yX a (n:=2) (by omega) (by omega)) fun z s g=>Gd.br (fun _=>?_) fun _=>?_
  .exact Dr.bind (cn g (l:=[0,0,5,40,9999]) (by decide) (by decide)) fun v f e=>Gd.ret ⟨⟨Hn,by simp[ga]⟩,e⟩
  .refine Dr.bind (aF g (n:=2) (by omega) (by omega)) fun v f e=>auC ?_
   have m0:0<sE (w.2.2.2.1.length:Int) 1:=by unfold sE;split<;>omega
   have m1:sE (w.2.2.2.1.length:Int) 1<=60:=by unfold sE;split<;>omega
   exact Dr.bind (aF e (n:=sE (w.2.2.2.1.length:Int) 1) m0 (by omega)) fun u t o=>Gd.ret ⟨⟨Hn,by have A:=f.1;have B:=f.2;simp only[ga];rw[aB (by omega) (by omega)];simp;omega⟩,o⟩
 .exact Dr.bind (Bx a) fun v f e=>Gd.ret ⟨⟨⟨aX _,eb,eb,eb⟩,by simp[ga]⟩,e⟩
structure QcX (q:b0):Prop where
 v:Hx q.1
 s:q.2.1.size<=100000
 w:q.2.2.length<=100
 i:∀x∈q.2.2,Hx x
def QcX.l {q:b0}(h:QcX q):Bu q:=⟨aR h.s (by omega),aR h.w (by omega)⟩
structure Ui (s:bK):Prop where
 v:Hx s.1
 k:Hx s.2.1
 q:QcX s.2.2.1
 d:s.2.2.2.size<=100000
def Ui.l {s:bK}(h:Ui s):oN s:=⟨h.q.l,aR h.d (by omega)⟩
def axr (r:ay):Prop:=ay6 r/\aEg r
def azI {lo a x:Int}(h:ga lo a x=true):lo<=x/\x<=a:=by simpa [ga,aD,bJ]using h
def azJ {n:Int}{s:List Int}(h:j6 n s=true):∀x∈s,0<=x/\x<n:=by intro x b;obtain⟨k,a,rfl⟩:=agC b;simp only[j6,aD,fL,gP,bJ]at h;have:=h k a;rw[aL a]at this;exact⟨this.1,this.2.1⟩
def aCA {c:Int×Int}{q:b0}(h:fe c q=true):QcX q:=by
 obtain⟨f,g,i,d,e⟩:=Pg h;have j:=rA q.2.1.data.toList;have k:=jq g;have l:=ch f;refine⟨⟨by omega,by omega⟩,by omega,?_,?_⟩
 .by_cases a:q.2.1.data.toList=[]
  .rw[d a];exact aX _
  .have:=UM (e a).1;omega
 .intro x b;by_cases a:q.2.1.data.toList=[]
  .rw[d a]at b;cases b
  .have:=azJ (e a).1 x b;exact⟨by omega,by omega⟩
def asg {c:Int×Int}{s:bK}(h:b2 c s=true):Ui s:=by obtain⟨d,e,a,b⟩:=fK h;have:=jq b;exact⟨⟨by omega,by omega⟩,⟨by omega,by omega⟩,aCA a,by omega⟩
def aY.x {c:Int×Int}{r:ay}(h:aY c r):axr r:=by have e:=ch h.f.cf;have b:=azI h.f.i;have f:=azI h.f.v;rw[aB (by omega) (by omega)]at b;have a:=asg h.f.s;have g:=YL h.f.p;have d:=C0 h.f.t;have i:=h.f.n;exact⟨h.bt,⟨by omega,by omega⟩,⟨by omega,by omega⟩,a.v,a.k,a.q.v,aR a.d (by omega),by omega,aR d.1 (by omega),by omega⟩
structure Uj (w:aj):Prop where
 l:w.2.1.length<=100
 r:w.2.2.1.length<=100
 rx:∀x∈w.2.2.1,axr x
 n:w.2.2.2.1.length<=1000
 nb:∀x∈w.2.2.2.1,cF x.2
 s:w.2.2.2.2.length<=1000
 st:∀x∈w.2.2.2.2,x.2.1.size<=100000
def Uj.wl {w:aj}(h:Uj w):dy w:=⟨aR h.l (by omega),aR h.r (by omega),fun x a=>(h.rx x a).1.l,aR h.n (by omega),h.nb,aR h.s (by omega),fun x a=>aR (h.st x a) (by omega)⟩
def Uj.wb {w:aj}(h:Uj w):api w:=fun r a=>(h.rx r a).1.d
def a6.x {w:aj}(h:a6 w):Uj w:=by have b:=h.le7;have c:=h.abl;exact⟨by omega,by omega,fun x a=>(h.g x a).x,aR h.nl (by omega),fun x a=>(h.nb x a).1,aR h.sl (by omega),fun x a=>aR (jq (h.sb x a).2.1) (by omega)⟩
end Go.Am.Tryz
