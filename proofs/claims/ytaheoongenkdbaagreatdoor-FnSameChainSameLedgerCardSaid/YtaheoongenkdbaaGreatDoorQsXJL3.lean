/- No condition. -/
import Derived.Test.YtaheoongenkdbaaGreatDoorQsXJL2
set_option linter.all false
namespace Go.Am.Tryz
open Go.Am
def rK:bU:=(0,0,b5,aj)
def azV:lK rK:=⟨dm,aQ _⟩
def auH {b:List Int}{s:Pl}(h:(cZ b s).2.2=true):s.2=true:=by
 unfold cZ at h;split at h
 .split at h
  .assumption
  .cases h
 .cases h
def Qq (b:List Int):bU×Pl :=
 (((gQ b).1,(aP b (gQ b).2).1,(vN b (aP b (gQ b).2).2).1,(cZ b (vN b (aP b (gQ b).2).2).2).1),(cZ b (vN b (aP b (gQ b).2).2).2).2)
def pz (c:Int×Int)(b:List Int):bU×Bool:=if (Qq b).2.2=true/\((Qq b).2.1:Int)=(b.length:Int)/\ch c (Qq b).1=true then ((Qq b).1,true) else (rK,false)
def amO {b:List Int}(a:dH b)(h:(Qq b).2.2=true):lK (Qq b).1:=by have d:(gQ b).2.1<=b.length:=(dI a (s:=(0,true)) (aQ _)).1;have e:=(dI a d).1;have q:=Qo a e;have x:=vJ a q.1;have c:(cZ b (vN b (aP b (gQ b).2).2).2).2.2=true->(vN b (aP b (gQ b).2).2).2.2=true:=auH;unfold Qq at h ⊢;generalize cZ b (vN b (aP b (gQ b).2).2).2=f at h x c ⊢;generalize vN b (aP b (gQ b).2).2=g at q c ⊢;generalize aP b (gQ b).2=i;generalize gQ b=j;exact⟨q.2 (c h),x.2⟩
def aBL {b:List Int}(a:dH b)(c:Int×Int):lK (pz c b).1:=by
 unfold pz;split
 .rename_i h;exact amO a h.1
 .exact azV
def av2 {c:Int×Int}{b:List Int}{m:bU}{s:Pl}{f:bU->Option (Bool×Unit)}(h:s.2=true->f m=some (ch c m,())) :
  br (!s.2) (some (rK,false,())) (br ((s.1:Int) != (b.length:Int)) (some (rK,false,())) ((f m).bind fun d=>br (!d.1) (some (rK,false,())) (some (m,true,())))) =
   some ((if s.2=true/\(s.1:Int)=(b.length:Int)/\ch c m=true then ((m,true):bU×Bool) else (rK,false)).1,(if s.2=true/\(s.1:Int)=(b.length:Int)/\ch c m=true then ((m,true):bU×Bool) else (rK,false)).2,()):=by
 cases e:s.2 with
 |false =>
  rw[af (fun h=>by cases h.1)];rfl
 |true =>
  rw[aG,aa,h e,ag];by_cases a:(s.1:Int)=(b.length:Int)
  .rw[show((s.1:Int) != (b.length:Int))=false from QH.2 a,aa];cases g:ch c m with
   |false =>
    rw[af (fun h=>by cases h.2.2)];rfl
   |true =>
    rw[ah ⟨rfl,a,rfl⟩];rfl
  .rw[Dk.2 a,ae,af (fun h=>a h.2.1)]
def awV {b:List Int}(a:dH b)(c:Int×Int):Lg F0 c b=some ((pz c b).1,(pz c b).2,()):=by have j:cH F0 (b,0,true)=some (((gQ b).1,()),cell b (gQ b).2,()):=rI a (s:=(0,true)) (aQ _);have e:(gQ b).2.1<=b.length:=(dI a (s:=(0,true)) (aQ _)).1;have g:=(dI a e).1;have q:=Qo a g;have d:=amO a;rw[alr,j,ag,rI a e,ag,awO a g,ag,acF a q.1,ag];unfold pz;unfold Qq at d ⊢;generalize cZ b (vN b (aP b (gQ b).2).2).2=i at d ⊢;generalize vN b (aP b (gQ b).2).2=k at d ⊢;generalize aP b (gQ b).2=l at d ⊢;generalize gQ b=n at d ⊢;exact av2 (c:=c) (b:=b) (m:=(n.1,l.1,k.1,i.1)) (s:=i.2) (f:=fun m=>hO F0 c m) fun h=>BJ (d h) c
def auI {b:List Int}(a:dH b)(c:Int×Int):Md F0 c b=some ((pz c b).1,(pz c b).2,()):=by have j:bB F0 (b,0,false)=some (((gQ b).1,()),Vh b (gQ b).2,()):=lL a (s:=(0,true)) (aQ _);have e:(gQ b).2.1<=b.length:=(dI a (s:=(0,true)) (aQ _)).1;have g:=(dI a e).1;have q:=Qo a g;have d:=amO a;rw[ami,j,ag,lL a e,ag,asF a g,ag,V3 a q.1,ag];unfold pz;unfold Qq at d ⊢;generalize cZ b (vN b (aP b (gQ b).2).2).2=i at d ⊢;generalize vN b (aP b (gQ b).2).2=k at d ⊢;generalize aP b (gQ b).2=l at d ⊢;generalize gQ b=n at d ⊢;exact av2 (c:=c) (b:=b) (m:=(n.1,l.1,k.1,i.1)) (s:=i.2) (f:=fun m=>jN F0 c m) fun h=>Eh (d h) c
def ZW (b:List Int)(i j:Nat):List Int:=(b.take j).drop i
def acJ {b:List Int}(a:dH b)(i j:Nat):dH (ZW b i j):=by have d:=a.1;refine⟨?_,fun x c=>a.2 x (ajr (avR c))⟩;unfold ZW;rw[a1,bz];omega
def azW {b:List Int}(a:dH b):bytesOf (strOf b)=b:=by unfold bytesOf strOf;simp only[List.map_map];refine(List.map_congr_left fun x c=>?_).trans (List.map_id b);have:=a.2 x c;simp only[Function.comp,id,UInt8.toNat_ofNat'];omega
def Vj (c:Int×Int)(b:List Int)(a:Nat):Option (bU×Nat):=match r4 b a with
 |none=>none|some (v,d)=>if v>=(b.length:Int)-d then none else if b.getD (d+v.toNat) 0≠10 then none else if (pz c (ZW b d (d+v.toNat))).2=true then some ((pz c (ZW b d (d+v.toNat))).1,d+v.toNat+1) else none
def JV (c:Int×Int)(b:List Int):Nat->bU->Nat->bU×Nat
 |0,s,a=>(s,a)|f+1,s,a=>match Vj c b a with
  |none=>(s,a)|some (d,e)=>JV c b f d e
def lM (c:Int×Int)(b:List Int):bU×Nat:=JV c b (b.length+1) rK 0
def Qr {c:Int×Int}{b:List Int}{a:Nat}{v:Int}{a':Nat}(h:r4 b a=some (v,a')):Vj c b a =
  if v>=(b.length:Int)-a' then none else if b.getD (a'+v.toNat) 0≠10 then none else if (pz c (ZW b a' (a'+v.toNat))).2=true then some ((pz c (ZW b a' (a'+v.toNat))).1,a'+v.toNat+1) else none:=by
 unfold Vj;rw[h]
def Qs {c:Int×Int}{b:List Int}{a:Nat}(h:r4 b a=none):Vj c b a=none:=by unfold Vj;rw[h]
def kg {c:Int×Int}{b:List Int}{f:Nat}{s:bU}{a:Nat}(h:Vj c b a=none):JV c b (f+1) s a=(s,a):=by unfold JV;rw[h]
def Qt {c:Int×Int}{b:List Int}{f:Nat}{s d:bU}{a a':Nat}(h:Vj c b a=some (d,a')):JV c b (f+1) s a=JV c b f d a':=by rw[JV,h]
def aBM {c:Int×Int}{b:List Int}(f:dH b){a:Nat}(i:a<=b.length){s:bU}{a':Nat}(h:Vj c b a=some (s,a')):a<a'/\a'<=b.length/\lK s:=by
 cases e:r4 b a with
 |none=>rw[Qs e]at h;cases h
 |some r =>
  obtain⟨v,d⟩:=r;have j:=V2 f i e;have g:=aBL (acJ f d (d+v.toNat)) c;rw[Qr e]at h;generalize pz c (ZW b d (d+v.toNat))=r at h g;split at h
  .cases h
  .rename_i k;split at h
   .cases h
   .split at h
    .cases h;exact⟨by omega,by omega,g⟩
    .cases h
def ap9 (c:Int×Int){b:List Int}(g:dH b)(p q t:Int)(u w:ByteArray)(xs:List Int):∀(f:Nat) (s:bU) (a n:Nat),a<=b.length->b.length+1<=a+f->f<n ->
  tO F0 (ym F0) n (oe b (a:Int) c.1 c.2 p q t u w s.1 s.2.1 s.2.2.1.1 s.2.2.1.2.1 s.2.2.2 xs s.2.2.1.2.2)=some ((JV c b f s a).1,((JV c b f s a).2:Int),())
 |0,s,a,n,j,x,y=>by omega
 |f+1,s,a,n,j,x,y=>by
  obtain⟨n,rfl⟩:∃m,n=m+1:=⟨n-1,by omega⟩;have A:=g.1;cases i:r4 b a with
  |none =>
   have law:jF F0 b (a:Int)=some (0,0,false,()):=by rw[acE g j,i];rfl
   rw[DH,law,ag,I4,kg (Qs i)];rfl
  |some r =>
   obtain⟨v,d⟩:=r;have B:=V2 g j i;have law:jF F0 b (a:Int)=some (v,(d:Int),true,()):=by rw[acE g j,i];rfl
   have e:=Qr (c:=c) i;rw[DH,law,ag,I4];dsimp only;rw[aG,aa,aF (n:=(b.length:Int)-d) (by omega) (by omega),show ai ((d:Int)+v)=((d+v.toNat:Nat):Int) by rw[aF (by omega) (by omega)];omega];by_cases k:v>=(b.length:Int)-d
   .rw[ah k]at e;rw[aH k,ae,kg e]
   .have z:d+v.toNat<b.length:=by omega
    rw[af k]at e;rw[aK k,aa,ao z,ad,j5];by_cases l:b.getD (d+v.toNat) 0=10
    .rw[af (fun h=>h l)]at e;rw[show(b.getD (d+v.toNat) 0 != 10)=false from QH.2 l,aa,VZ (by omega) (by omega),ad,show((c.1,c.2):Int×Int)=c from rfl,kC,kC,
      show((b.take (d+v.toNat)).drop d)=ZW b d (d+v.toNat) from rfl,awV (acJ g _ _),ag]
     dsimp only;generalize pz c (ZW b d (d+v.toNat))=r at e ⊢;cases o:r.2 with
     |false =>
      rw[o,af (by decide)]at e;rw[dW,ae,kg e]
     |true =>
      rw[o,ah rfl]at e;rw[aG,aa,al (by omega),Qt e];exact ap9 c g p q t u w xs f r.1 (d+v.toNat+1) n (by omega) (by omega) (by omega)
    .rw[ah l]at e;rw[Dk.2 l,ae,kg e]
def asG {b:List Int}(a:dH b)(c:Int×Int):CC F0 c b=some ((lM c b).1,((lM c b).2:Int),()):=by have d:=a.1;rw[aec,aia,ag];exact ap9 c a 0 0 0 _ _ [] (b.length+1) rK 0 _ (aQ _) (by omega) (by rw[bH];omega)
def azX {b:List Int}{a:Nat}{v:Int}{a':Nat}(h:r4 b a=some (v,a')):ZR b a=if v>(b.length:Int)-a' then none else some (strOf (ZW b a' (a'+v.toNat)),a'+v.toNat):=by unfold ZR;rw[h];rfl
def azY {b:List Int}{a:Nat}(h:r4 b a=none):ZR b a=none:=by unfold ZR;rw[h]
def amP (c:Int×Int){b:List Int}(g:dH b)(o p q:Int)(t u:ByteArray)(xs:List Int):∀(f:Nat) (s:bU) (a n:Nat),a<=b.length->b.length+1<=a+f->f<n ->
  ni F0 (oD F0) n (j0 b (a:Int) c.1 c.2 o p q t u s.1 s.2.1 s.2.2.1.1 s.2.2.1.2.1 s.2.2.2 xs s.2.2.1.2.2)=some ((JV c b f s a).1,((JV c b f s a).2:Int),())
 |0,s,a,n,i,z,A=>by omega
 |f+1,s,a,n,i,z,A=>by
  obtain⟨n,rfl⟩:∃m,n=m+1:=⟨n-1,by omega⟩;have C:=g.1;have bad:ml F0 b (a:Int)=some (aj,0,false,())->Vj c b a=none->ni F0 (oD F0) (n+1) (j0 b (a:Int) c.1 c.2 o p q t u s.1 s.2.1 s.2.2.1.1 s.2.2.1.2.1 s.2.2.2 xs s.2.2.1.2.2)=some ((JV c b (f+1) s a).1,((JV c b (f+1) s a).2:Int),()):=by intro law e;rw[D7,law,ag,JJ,kg e];rfl
  cases j:r4 b a with
  |none=>exact bad (by rw[Hu g i,azY j];rfl) (Qs j)
  |some r =>
   obtain⟨v,d⟩:=r;have D:=V2 g i j;have e:=Qr (c:=c) j;have k:=azX j;by_cases w:v>(b.length:Int)-d
   .rw[ah w]at k;rw[ah (show v>=(b.length:Int)-d by omega)]at e;exact bad (by rw[Hu g i,k];rfl) e
   .rw[af w]at k;have law:ml F0 b (a:Int)=some (strOf (ZW b d (d+v.toNat)),((d+v.toNat:Nat):Int),true,()):=by rw[Hu g i,k];rfl
    rw[D7,law,ag,JJ];dsimp only;rw[aG,aa];by_cases x:v>=(b.length:Int)-d
    .rw[ah x]at e;rw[aH (show((d+v.toNat:Nat):Int)>=(b.length:Int) by omega),ae,kg e]
    .have B:d+v.toNat<b.length:=by omega
     rw[af x]at e;rw[aK (show ¬((d+v.toNat:Nat):Int)>=(b.length:Int) by omega),aa,ao B,ad,j5];by_cases l:b.getD (d+v.toNat) 0=10
     .have E:((strOf (ZW b d (d+v.toNat))).size:Int)<=1048576:=by have:=(acJ g d (d+v.toNat)).1;show((((ZW b d (d+v.toNat)).map fun n=>UInt8.ofNat n.toNat).toArray.size:Nat):Int)<=1048576;rw[List.size_toArray,r7];omega
      rw[af (fun h=>h l)]at e;rw[show(b.getD (d+v.toNat) 0 != 10)=false from QH.2 l,aa,show((c.1,c.2):Int×Int)=c from rfl,aH (show((strOf (ZW b d (d+v.toNat))).size:Int)<=F0.mem by rw[aBe];omega),ad,azW (acJ g _ _),auI (acJ g _ _),ag];dsimp only;generalize pz c (ZW b d (d+v.toNat))=r at e ⊢;cases y:r.2 with
      |false =>
       rw[y,af (by decide)]at e;rw[dW,ae,kg e]
      |true =>
       rw[y,ah rfl]at e;rw[aG,aa,al (by omega),Qt e];exact amP c g o p q t u xs f r.1 (d+v.toNat+1) n (by omega) (by omega) (by omega)
     .rw[ah l]at e;rw[Dk.2 l,ae,kg e]
def aoO {b:List Int}(a:dH b)(c:Int×Int):De F0 c b=some ((lM c b).1,((lM c b).2:Int),()):=by have d:=a.1;rw[aeX,aiU,ag];exact amP c a 0 0 0 _ _ [] (b.length+1) rK 0 _ (aQ _) (by omega) (by rw[bH];omega)
def lN (a b:bU):Bool:=(a.1==b.1)&&((a.2.1==b.2.1)&&(gN a.2.2.1 b.2.2.1&&(a.2.2.2.toList==b.2.2.2.toList)))
def asH {a b:bU}(c:lK a)(d:lK b):Ck F0 a b=some (lN a b,()):=by rw[adT,afc c.1 d.1,ag];unfold lN;cases (a.1==b.1)<;>cases (a.2.1==b.2.1)<;>cases gN a.2.2.1 b.2.2.1<;>rfl
def aoP {a b:bU}(c:lK a):CY F0 a b=some (lN a b,()):=by rw[aeA,JR c.1,ag];unfold lN;cases (a.1==b.1)<;>cases (a.2.1==b.2.1)<;>cases gN a.2.2.1 b.2.2.1<;>rfl
def agO {l:ie}(g:M4 l){list:List dU}(m:list.length<=1048576):vG F0 l list=some (ho l list,px l list,()):=by
 rw[al7,U5 (by have:=g.1;omega) (by have:=g.2;omega),ag];refine cp (fun n i (z:List Int×ie)=>C7 F0 (E6 F0) n (uk list (list.length:Int) i z.1 [] [] z.2.1 z.2.2)) list.length (fun k z=>z.1=px l (list.take k)/\z.2=ho l (list.take k)) _ (fun n k z e f=>.inr ⟨(z.1++[(eE z.2 list[k]).2],(eE z.2 list[k]).1),?_,?_⟩) (fun n z f=>?_) F0.n 0 ([],l) (aQ _) ⟨rfl,rfl⟩ (by rw[bH];omega)
 .obtain⟨d,c⟩:=f;have h:M4 z.2:=by rw[c];exact Hs g
  have o:z.1.length<=1048576:=by rw[d,Qh,bz];omega
  rw[JC,aO e,ae,ao e,ad,Yy e]
  try rw[aFs]
  rw[amv (l:=(z.2.1,z.2.2)) (by have:=h.1;show z.2.1.length<=_;omega) (by have:=h.2;show z.2.2.length<=_;omega),ag];simp only;rw[av (a:=z.1.length) (b:=[(eE (z.2.1,z.2.2) list[k]).2].length) (k:=8) (by omega) (by omega) (by simp only[aV,ba];omega),ad,al (by omega)]
 .obtain⟨d,c⟩:=f;have j:list.take (k+1)=list.take k++[list[k]]:=by rw[J6,lS e];rfl
  refine⟨?_,?_⟩
  .rw[j,Qi,<-d,<-c];rfl
  .rw[j,U7,<-c]
 .obtain⟨d,c⟩:=f;rw[mH]at d c;rw[JC,aE,aa,acb,d,c]
def awW {l:List UInt8}(f:l.length<=1073741824):u4 F0 (tx l)=some ((bO l).1.flatMap (·.2),()):=by
 rw[aoH,Qg f,ag];have hlen:=pw l;have cU:=Qf l;generalize h:(bO l).1=ss at hlen cU;refine cp (fun n i xs=>Hl F0 (Jw F0) n (y6 (ss.length:Int) i xs ss)) ss.length (fun k xs=>xs=(ss.take k).flatMap (·.2)) _ (fun n k xs c d=>.inr ⟨_,?_,rfl⟩) (fun n xs d=>?_) F0.n 0 [] (aQ _) rfl (by rw[bH];omega)
 .have j:=(cU _ (cy c)).2.2.1;have e:=acu (ss:=ss.take k) fun x e=>cU x (ajr e)
  rw[<-d,bz]at e;rw[L1,aO c,ae,ao c,ad,Yy c,av (a:=xs.length) (b:=ss[k].2.length) (k:=32) (by omega) (by omega) (by omega),ad,al (by omega),d];have g:(ss.take (k+1)).flatMap (·.2)=(ss.take k).flatMap (·.2)++ss[k].2:=by rw[show ss.take (k+1)=ss.take k++[ss[k]] by rw[J6,lS c];rfl,List.flatMap_append];simp
  rw[g]
 .rw[mH]at d;rw[L1,aE,aa,aeK,d]
def amQ (b:ByteArray):List dU:=(bO b.data.toList).1.flatMap (·.2)
def Pm (b:ByteArray):(amQ b).length<=60:=by have a:=acu (Qf b.data.toList);have c:=pw b.data.toList;unfold amQ;omega
def auJ {b:ByteArray}(h:b.size<=1048576):uM F0 b=some (amQ b,()):=azL (Su h)
def aqa {b:ByteArray}(h:b.size<=1048576):u4 F0 b=some (amQ b,()):=awW (Su h)
def M5:M4 aiY:=⟨rfl,rfl⟩
def fR (c:Int×Int)(r:aA):ie:=if oF c r=true then ho aiY (amQ r.2.2.2.1.2.2.2) else ([],[])
def azZ {r:aA}(h:aoN r)(c:Int×Int):IX F0 c r=some (fR c r,()):=by have a:=Pm r.2.2.2.1.2.2.2;rw[aoj,gx h,ag,Yx,ag,auJ h.s.2,ag,amw M5 (cj (Pm _) (by omega)),ag];unfold fR;cases oF c r<;>rfl
def ZX {r:aA}(h:aoN r)(c:Int×Int):iG F0 c r=some (fR c r,()):=by have a:=Pm r.2.2.2.1.2.2.2;rw[aoI,dV h,ag,U6,ag,aqa h.s.2,ag,agO M5 (cj (Pm _) (by omega)),ag];unfold fR;cases oF c r<;>rfl
def amR (c:Int):Bool:=(c==0) || (c==4)
abbrev vO:=List Int×Int×Int
def Qu (c:vO):Prop:=c.1.length<=1048576/\0<=c.2.1/\c.2.1<=1048576
def asI (n:Int):0<=ai ((BitVec.ofInt 64 n &&& BitVec.ofInt 64 255).toNat:Int)/\ai ((BitVec.ofInt 64 n &&& BitVec.ofInt 64 255).toNat:Int)<=255:=by
 have h:(BitVec.ofInt 64 n &&& BitVec.ofInt 64 255).toNat<=255:=by rw[BitVec.toNat_and];exact cj Nat.and_le_right (by decide)
 rw[aF (by omega) (by omega)];omega
def ay0 {c:vO}(h:Qu c):∃(v:Int) (a:vO),jA F0 c=some ((v,()),a,())/\0<=v/\v<=255/\Qu a:=by
 rw[akl];by_cases hlt:c.2.1<(c.1.length:Int)
 .rw[aH hlt,ae,show bN c.2.1 (c.1.length:Int)=true by simp[bN];exact⟨h.2.1,hlt⟩,ad];have b:=h.1;have d:=h.2.1;refine⟨_,_,rfl,(asI _).1,(asI _).2,h.1,?_,?_⟩
  .show 0<=ai (c.2.1+1);rw[aF (by omega) (by omega)];omega
  .show ai (c.2.1+1)<=1048576;rw[aF (by omega) (by omega)];omega
 .rw[aK hlt,aa];exact⟨_,_,rfl,(asI _).1,(asI _).2,h⟩
def asJ {a n:Int}(b:0<=a)(c:0<n):0<=Int.tmod a n/\Int.tmod a n<n:=by rw[ajp b];exact⟨YK _ (by omega),ajs _ c⟩
def amS {c:vO}(h:Qu c){n:Int}(b:0<n)(e:n<=256):∃(v:Int) (a:vO),au F0 c n=some ((v,()),a,())/\0<=v/\v<n/\Qu a:=by obtain⟨v,a,f,d,i,g⟩:=ay0 h;rw[QQ,aK (show ¬n<=0 by omega),aa,aH e,ae,f,ag,show(!(n==0))=true by rw[bR.2 (show n≠0 by omega)];rfl,ad];exact⟨_,_,rfl,(asJ d b).1,(asJ d b).2,g⟩
def awX {c:vO}(h:Qu c){l:List Int}(j:0<l.length)(k:l.length<=256):∃(v:Int) (a:vO),iw F0 c l=some ((v,()),a,())/\v∈l/\Qu a:=by
 obtain⟨v,a,d,f,g,i⟩:=amS h (n:=(l.length:Int)) (by omega) (by omega);have b:v.toNat<l.length:=by omega
 rw[aaQ,d,ag,show bN v (l.length:Int)=true by simp[bN];exact⟨f,g⟩,ad];refine⟨_,_,rfl,?_,i⟩;have e:v=(v.toNat:Int):=by omega
 show ay l v 0∈l;rw[e,bb b];exact cy b
def aDi {c:vO}(h:Qu c){n:Int}(b:0<n)(d:n<=256):∃(v:Bool) (a:vO),lU F0 c n=some ((v,()),a,())/\Qu a:=by obtain⟨v,a,e,g,i,f⟩:=amS h b d;rw[akn,e,ag];exact⟨_,_,rfl,f⟩
def aEu {code:List Int}(h:code.length<=1048576):∃b:vO,Ih F0 code=some (((b,()),()))/\Qu b:=by
 rw[an1];suffices d:∀(a:Nat) (q:Int) (k n:Nat),k+a=code.length->a<n->∃c:Int,Gc F0 (Ig F0) n (wg code q (k:Int) code)=some ((((code,0,c):vO),()),()) by obtain⟨c,e⟩:=d code.length (ai (26583+(code.length:Int))) 0 F0.n (vd _) (by rw[bH];omega);exact⟨_,e,h,QL _,by show(0:Int)<=1048576;decide⟩
 intro a
 induction a with
 |zero =>
  intro q k n f g;obtain⟨n,rfl⟩:∃m,n=m+1:=⟨n-1,by omega⟩;obtain rfl:k=code.length:=by omega
  rw[Kf,aE,aa,Nw];exact⟨q,rfl⟩
 |succ a i =>
  intro q k n f g;obtain⟨n,rfl⟩:∃m,n=m+1:=⟨n-1,by omega⟩;have hlt:k<code.length:=by omega
  rw[Kf,aO hlt,ae];cases decide ((k:Int)<4000) with
  |false =>
   rw[aa,Nw];exact⟨q,rfl⟩
  |true =>
   rw[ae,ao hlt,ad,al (by omega)];exact i _ (k+1) n (by omega) (by omega)
def Qv (c x:UInt8)(l:List UInt8):parts c (x::l)=if x=c then []::parts c l else match parts c l with
  |p::a=>(x::p)::a|[]=>[[x]]:=by
 conv=>lhs;unfold parts
 cases parts c l<;>rfl
def afg {c:UInt8}:∀(a b:List UInt8),parts c (a++c::b)=parts c a++parts c b
 |[],b=>by rw[Fc,Qv,ah rfl];rfl
 |x::a,b=>by
  rw[Fb,Qv c x (a++c::b),Qv c x a];by_cases d:x=c
  .rw[ah d,ah d,afg a b];rfl
  .rw[af d,af d,afg a b];have e:=Ee c a;cases f:parts c a with
   |nil=>exact absurd f e|cons p g=>rfl
def auK {σ V:Type}{f:σ->List UInt8->Option (σ×V)}:∀{l m:List (List UInt8)} {s:σ} {r:List V},Ac f s (l++m)=some r->∃a c,Ac f s l=some a/\r=a++c/\c.length=m.length
 |[],m,s,r,h=>⟨[],r,rfl,rfl,Pf h⟩|p::l,m,s,r,h=>by
  rw[Fb]at h;unfold Ac at h ⊢;cases e:f s p with
  |none=>rw[e]at h;cases h
  |some x =>
   obtain⟨g,b⟩:=x;rw[e]at h;dsimp only at h ⊢;cases d:Ac f g (l++m) with
   |none=>rw[d]at h;cases h
   |some n =>
    rw[d]at h;cases h;obtain⟨a,c,i,j,k⟩:=auK d;rw[i];exact⟨b::a,c,rfl,by rw[j];rfl,k⟩
def amT {a t:List UInt8}(n:(47:UInt8) ∉ t)(h:bw (a++47::t)=true):bw a=true/\∃x,(bO (a++47::t)).1=(bO a).1++[x]:=by
 have o:a++47::t≠[]:=by simp
 unfold bw at h ⊢;unfold bO at h ⊢;rw[af o,afg,ams n]at h ⊢;cases f:parts 47 a with
 |nil=>exact absurd f (Ee 47 a)
 |cons g c =>
  rw[f,Fb]at h;rw[Fb];dsimp only at h ⊢;by_cases d:¬g=[]\/30<(c++[t]).length
  .rw[ah d]at h;cases h
  .rw[af d]at h ⊢;have p:g=[]:=atg fun b=>d (.inl b)
   have q:¬30<(c++[t]).length:=fun b=>d (.inr b)
   rw[aL,dr]at q;cases i:Ac Ef 0 (c++[t]) with
   |none=>rw[i]at h;cases h
   |some r =>
    obtain⟨s,e,j,k,l⟩:=auK i;obtain⟨x,rfl⟩:∃x,e=[x]:=by
     cases e with
     |nil=>cases l
     |cons x e =>
      cases e with
      |nil=>exact⟨x,rfl⟩|cons _ _=>simp at l
    by_cases m:a=[]
    .subst m;have:c=[]:=by have:=f;unfold parts at this;exact(vS this).2.symm
     subst this;cases j;rw[ah rfl];exact⟨rfl,x,k⟩
    .rw[af m,af (fun b=>b.elim (fun b=>b p) (fun b=>by omega)),j];exact⟨rfl,x,k⟩
def mF (l:List dU):List UInt8:=Lib.join (l.map txL) [44]
def Mp (l:List dU):List UInt8:=if l.all fB=true then mF l else []
def aDj {l:List dU}(h:l.all fB=true):∀x∈l.map txL,x.length<=90:=by intro x a;obtain⟨y,b,rfl⟩:=HY.1 a;exact amo (hD.1 h y b)
def JW {l:List dU}(h:l.all fB=true):(mF l).length<=91*l.length:=by have:=aCY (aDj h) 44;rw[r7]at this;exact this
def acK {l:List dU}{k:Nat}(a:k<l.length):(l.take (k+1)).all fB=((l.take k).all fB&&fB l[k]):=by rw[J6,lS a,List.all_append];simp
def M6 {U V:Type}{l:List U}{f:U->V}{k:Nat}(a:k<l.length):(l.take (k+1)).map f=(l.take k).map f++[f l[k]]:=by rw[J6,lS a,adg];rfl
def Hw {l:List dU}{k:Nat}(a:k<l.length)(h:fB l[k]=false):l.all fB=false:=by rw[ade];exact⟨l[k],cy a,by simp[h]⟩
def aqb {x:dU}(h:fB x=true):ZK x=txL x:=ah h
def auL {l:List dU}(h:l.length<=1048576):GB F0 l=some (tx (Mp l),()):=by
 rw[ahE];refine cp (fun n i (c:ByteArray)=>oX F0 (pR F0) n (k0 l c i)) l.length (fun k c=>(l.take k).all fB=true/\c=tx (mF (l.take k))) _ (fun n k c a f=>?_) (fun n c f=>?_) _ 0 _ (aQ _) ⟨rfl,rfl⟩ (by rw[bH];omega)
 .obtain⟨b,rfl⟩:=f;have g:=JW b;rw[bz,YJ (by omega)]at g;rw[Fs,aO a,ae,ao a,ad,Yy a,Pd,ag,abb];dsimp only;cases d:fB l[k]with
  |false =>
   left;rw[dW,ae,Mp,Hw a d];rfl
  |true =>
   right;have o:=amo d;refine⟨tx (mF (l.take (k+1))),?_,by rw[acK a,b,d];rfl,rfl⟩;rw[aG,aa,ad,ad,amp,ag,ag,aqb d,show ByteArray.mk #[44]=tx [44] from rfl,fs];dsimp only;rw[gz (by rw[bs,bs,dr];omega),ad,gz (by rw[bs,bs,aL,dr];omega),ad,gz (by rw[bs,bs];omega),ad,fs,fs,al (by omega)];by_cases j:k=0
   .subst j;rw[show decide (((0:Nat):Int)>0)=false from rfl,aa,show mF (l.take (0+1))=mF (l.take 0)++txL l[0] by rw[mF,M6 a];simp[mF,Lib.join_one,Lib.join_nil]]
   .have m:(l.take k).map txL≠[]:=by intro e;have:=ve List.length e;rw[r7,bz,ba]at this;omega
    rw[aH (show(k:Int)>0 by omega),ae,show mF (l.take (k+1))=mF (l.take k)++[44]++txL l[k] by rw[mF,M6 a,azF m];rfl]
 .obtain⟨b,rfl⟩:=f;rw[mH]at b ⊢;rw[Fs,aE,aa,Ze,Mp,ah b]
def aDk (l:List dU):((l.map fun x=>tx (txL x)).map fun b=>b.data.toList)=l.map txL:=by rw[List.map_map];exact List.map_congr_left fun n _=>gn _
def asK {l:List dU}(h:l.length<=524288):Hn F0 l=some (tx (Mp l),()):=by
 rw[aiO];refine cp (fun n i (c:List ByteArray)=>zv F0 (rF F0) n (rE l (l.length:Int) i c)) l.length (fun k c=>(l.take k).all fB=true/\c=(l.take k).map fun x=>tx (txL x)) _ (fun n k c a d=>?_) (fun n c d=>?_) F0.n 0 [] (aQ _) ⟨rfl,rfl⟩ (by rw[bH];omega)
 .obtain⟨b,rfl⟩:=d;rw[F2,aO a,ae,ao a,ad,Yy a,BE,ag,acg];dsimp only;cases e:fB l[k]with
  |false =>
   left;rw[dW,ae,Mp,Hw a e];rfl
  |true =>
   right;refine⟨(l.take (k+1)).map fun x=>tx (txL x),?_,by rw[acK a,b,e];rfl,rfl⟩;rw[aG,aa,agF,ag,aqb e,av (by omega) (by omega) (by rw[r7,bz,dr];omega),ad,al (by omega),M6 a]
 .obtain⟨b,rfl⟩:=d;rw[mH]at b ⊢;rw[F2,aE,aa,ZG,show ByteArray.mk #[44]=tx [44] from rfl,ae2 (aDk l) (by rw[r7];omega) (by have:=JW b;unfold mF at this;omega),ag,Mp,ah b];rfl
def Mq (up:List UInt8)(view:Int)(l:List dU):List UInt8:=up++[47]++Lib.itoa view++[124]++mF l
def Qw (up:List UInt8)(view:Int)(l:List dU):List UInt8:=if l.all fB=true/\bw (Mq up view l)=true then Mq up view l else []
def ZY (up:List UInt8){view:Int}(a:I64 view){l:List dU}(b:l.all fB=true):(Mq up view l).length<=up.length+23+91*l.length:=by have:=JW b;have:=Qd a;simp only[Mq,aL,dr];omega
def amU {up:List UInt8}(f:up.length<=1048576){view:Int}(c:I64 view){l:List dU}(h:l.length<=1048576):jH F0 (tx up) view l=some (tx (Qw up view l),()):=by
 have g:=Qd c;rw[akQ];refine cp (fun n i (_:Unit)=>Ce F0 (tu F0) n (tt (tx up) view l i)) l.length (fun k _=>(l.take k).all fB=true) _ (fun n k out b a=>?_) (fun n out a=>?_) _ 0 () (aQ _) rfl (by rw[bH];omega)
 .rw[IK,aO b,ae,ao b,ad,Yy b,Pd,ag,adQ];dsimp only;cases d:fB l[k]with
  |false =>
   left;rw[dW,ae,Qw,af (by rw[Hw b d];simp)];rfl
  |true =>
   right;exact⟨(),by rw[aG,aa,al (by omega)],by rw[acK b,a,d];rfl⟩
 .rw[mH]at a;have j:=JW a;have e:=ZY up c a;rw[IK,aE,aa,abc,BC c,ag,auL h,ag,Mp,ah a,show ByteArray.mk #[47]=tx [47] from rfl,show ByteArray.mk #[124]=tx [124] from rfl];dsimp only;rw[gz (by rw[bs,bs,dr];omega),ad,fs,gz (by rw[bs,bs,aL,dr];omega),ad,fs,gz (by rw[bs,bs,aL,aL,dr,dr];omega),ad,fs,
   gz (by rw[bs,bs,aL,aL,aL,dr,dr];omega),ad,fs,show up++[47]++Lib.itoa view++[124]++mF l=Mq up view l from rfl,Qj (by omega),ag,Qw]
  dsimp only;cases e:bw (Mq up view l) with
  |false=>rw[af (by simp)];rfl
  |true=>rw[ah ⟨a,rfl⟩];rfl
def auM {up:List UInt8}(f:up.length<=1048576){view:Int}(c:I64 view){l:List dU}(h:l.length<=2):DZ F0 (tx up) view l=some (tx (Qw up view l),()):=by
 have g:=Qd c;rw[amc];refine cp (fun n i (_:Unit)=>Dc F0 (uw F0) n (uv (tx up) view l l (l.length:Int) i)) l.length (fun k _=>(l.take k).all fB=true) _ (fun n k out b a=>?_) (fun n out a=>?_) _ 0 () (aQ _) rfl (by rw[bH];omega)
 .rw[JG,aO b,ae,ao b,ad,Yy b,BE,ag,aeS];dsimp only;cases d:fB l[k]with
  |false =>
   left;rw[dW,ae,Qw,af (by rw[Hw b d];simp)];rfl
  |true =>
   right;exact⟨(),by rw[aG,aa,al (by omega)],by rw[acK b,a,d];rfl⟩
 .rw[mH]at a;have j:=JW a;have e:=ZY up c a;rw[JG,aE,aa,ach,Pb c,ag,asK (by omega),ag,Mp,ah a,show ByteArray.mk #[47]=tx [47] from rfl,show ByteArray.mk #[124]=tx [124] from rfl];dsimp only;rw[gz (by rw[bs,bs,dr];omega),ad,fs,gz (by rw[bs,bs,aL,dr];omega),ad,fs,gz (by rw[bs,bs,aL,aL,dr,dr];omega),ad,fs,
   gz (by rw[bs,bs,aL,aL,aL,dr,dr];omega),ad,fs,show up++[47]++Lib.itoa view++[124]++mF l=Mq up view l from rfl,Mj (by omega),ag,Qw]
  dsimp only;rw[aK (show ¬((l.length:Int)>2) by omega),aa];cases e:bw (Mq up view l) with
  |false=>rw[af (by simp)];rfl
  |true=>rw[ah ⟨a,rfl⟩];rfl
def Gd {U:Type}(X:Option U)(P:U->Prop):Prop:=∃v,X=some v/\P v
abbrev DrT (U:Type):=(U×Unit)×(vO×Unit)
def Dr {U:Type}(X:Option (DrT U))(Q:U->Prop):Prop:=Gd X fun z=>Q z.1.1/\Qu z.2.1
def Gd.bind {U V:Type}{X:Option U}{P:U->Prop}(h:Gd X P){f:U->Option V}{R:V->Prop}(a:∀v,P v->Gd (f v) R):Gd (X.bind f) R:=by obtain⟨v,rfl,b⟩:=h;exact a v b
def Dr.bind {U V:Type}{X:Option (DrT U)}{Q:U->Prop}(h:Dr X Q){f:DrT U->Option V}{R:V->Prop}(a:∀z:DrT U,Q z.1.1->Qu z.2.1->Gd (f z) R):Gd (X.bind f) R:=by obtain⟨z,rfl,b,c⟩:=h;exact a z b c
def Gd.let {U V:Type}{X:Option U}{v:U}(h:X=some v){f:U->Option V}{R:V->Prop}(a:Gd (f v) R):Gd (X.bind f) R:=by subst h;exact a
def Gd.ret {U:Type}{v:U}{P:U->Prop}(h:P v):Gd (some v) P:=⟨v,rfl,h⟩
def Gd.br {U:Type}{c:Bool}{x y:Option U}{P:U->Prop}(a:c=true->Gd x P)(b:c=false->Gd y P):Gd (br c x y) P:=by
 cases c with
 |true=>exact a rfl|false=>exact b rfl
def Gd.ck {U:Type}{c:Bool}{x:Option U}{P:U->Prop}(a:c=true)(b:Gd x P):Gd (ck c x) P:=by subst a;exact b
def Gd.br0 {U:Type}{c:Bool}{x y:Option U}{P:U->Prop}(h:c=false)(a:Gd y P):Gd (Am.br c x y) P:=by subst h;exact a
def ajh {ζ V:Type}(X:Nat->Int->ζ->Option V)(L:Nat)(I:Nat->ζ->Prop)(P:V->Prop)
  (c:∀n k z,k<L->I k z->(∀a,I (k+1) a->Gd (X n ((k+1:Nat):Int) a) P)->Gd (X (n+1) (k:Int) z) P) (d:∀n z,I L z->Gd (X (n+1) (L:Int) z) P) :
  ∀n k z,k<=L->I k z->L-k<n->Gd (X n (k:Int) z) P:=by
 intro n
 induction n with
 |zero=>intro k z _ _ h;omega
 |succ n e =>
  intro k z g b i;by_cases h:k=L
  .subst h;exact d n z b
  .exact c n k z (by omega) b fun a f=>e (k+1) a (by omega) f (by omega)
def aji {c:vO}(h:Qu c):Dr (U:=Int) (jA F0 c) fun v=>0<=v/\v<=255:=by obtain⟨v,f,e,a,b,d⟩:=ay0 h;exact⟨_,e,⟨a,b⟩,d⟩
def aDl {x y z w:Int}(a:0<=x)(b:x<=255)(c:0<=y)(d:y<=255)(e:0<=z)(f:z<=255)(w0:0<=w)(w1:w<=255):0<=ai (ai (ai (ai (x*16777216)+ai (y*65536))+ai (z*256))+w):=by rw[aF (n:=x*16777216) (by omega) (by omega),aF (n:=y*65536) (by omega) (by omega),aF (n:=z*256) (by omega) (by omega),aF (n:=x*16777216+y*65536) (by omega) (by omega),aF (n:=x*16777216+y*65536+z*256) (by omega) (by omega),aF (by omega) (by omega)];omega
def gl {c:vO}(h:Qu c){n:Int}(a:0<n)(r:n<=9223372036854775807):Dr (U:=Int) (au F0 c n) fun v=>0<=v/\v<n:=by
 by_cases b:n<=256
 .obtain⟨v,s,e,j,k,l⟩:=amS h a b;exact⟨_,e,⟨j,k⟩,l⟩
 .unfold Dr;rw[QQ];refine Gd.br0 (aK (by omega)) (Gd.br0 (aK b) ?_);refine Dr.bind (aji h) fun x d m=>Dr.bind (aji m) fun y f o=>Dr.bind (aji o) fun z g p=>Dr.bind (aji p) fun w i q=>Gd.ck ?_ (Gd.ret ⟨?_,q⟩)
  .rw[bR.2 (show n≠0 by omega)];rfl
  .exact asJ (aDl d.1 d.2 f.1 f.2 g.1 g.2 i.1 i.2) a
def ajj {c:vO}(h:Qu c){n:Int}(a:0<n)(b:n<=256):Dr (U:=Bool) (lU F0 c n) fun _=>True:=by obtain⟨v,f,e,d⟩:=aDi h a b;exact⟨_,e,trivial,d⟩
def ZZ {c:vO}(h:Qu c){l:List Int}(a:0<l.length)(b:l.length<=256):Dr (U:=Int) (iw F0 c l) fun v=>v∈l:=by obtain⟨v,g,e,d,f⟩:=awX h a b;exact⟨_,e,d,f⟩
def aEv {code:List Int}(h:code.length<=1048576):Gd (Ih F0 code) fun z=>Qu z.1.1:=by obtain⟨c,e,a⟩:=aEu h;exact⟨_,e,a⟩
def aFt {x y z w:Int}(b:0<=x)(c:x<4)(d:0<=y)(e:y<4)(a:z∈[(0:Int),5,60,100,1000])(w0:0<=w)(w1:w<3):fB (x,y,z,w)=true:=by simp only[fe,List.not_mem_nil,or_false]at a;simp only[fB,inB,aD,bV];rcases a with rfl|rfl|rfl|rfl|rfl<;>omega
def aqc {c:vO}(h:Qu c):Dr (U:=dU) (k1 F0 c) fun v=>fB v=true:=by
 unfold Dr;rw[Wx];refine Dr.bind (gl h (n:=4) (by omega) (by omega)) fun x a e=>Dr.bind (gl e (n:=4) (by omega) (by omega)) fun y b f=>Dr.bind (ZZ f (l:=[0,5,60,100,1000]) (by decide) (by decide)) fun z g i=>Dr.bind (gl i (n:=3) (by omega) (by omega)) fun w d j=>Gd.ret ⟨?_,j⟩
 exact aFt a.1 a.2 b.1 b.2 g d.1 d.2
def aqd {up:List UInt8}{view:Int}(a:I64 view)(l:List dU):(Qw up view l).length<=up.length+23+91*l.length:=by
 unfold Qw;split
 .rename_i h;exact ZY up a h.1
 .exact aQ _
def amV {l h n:Int}(a:0<=l)(b:l<=h)(c:h<=n):QN l h n=true:=by simp[QN,a,b,c]
def amW (l:List UInt8):∀(k:Nat),k<=l.length->(fH l k=0/\∀a,a<k->l.getD a 0≠47)\/(0<fH l k/\fH l k<=k/\l.getD (fH l k-1) 0=47/\∀a,fH l k<=a->a<k->l.getD a 0≠47)
 |0,_=>.inl ⟨rfl,fun a h=>absurd h (QI _)⟩
 |k+1,n=>by
  have f:∀b:UInt8,((b.toNat:Int) != 47)=true↔b≠47:=by
   intro b;rw[Dk];constructor
   .rintro h rfl;exact h rfl
   .intro h c;refine h (aqG.1 ?_);show b.toNat=47;omega
  unfold fH;split
  .rename_i h;rw[f]at h;rcases amW l k (by omega) with ⟨d,c⟩|⟨d,c,g,i⟩
   .refine .inl ⟨d,fun a o=>?_⟩;by_cases e:a=k
    .rw[e];exact h
    .exact c a (by omega)
   .refine .inr ⟨d,by omega,g,fun a j p=>?_⟩;by_cases e:a=k
    .rw[e];exact h
    .exact i a j (by omega)
  .rename_i h;rw[f]at h;refine .inr ⟨adh _,bP _,atg fun m=>h m,fun a d c=>by omega⟩
def Vk {l:List UInt8}(h:bw l=true)(b:l≠[]):∃t,(47:UInt8) ∉ t/\l=SM l++47::t:=by
 have j:0<fH l l.length:=by obtain⟨t,rfl⟩:=amG h b;exact afe _ (adh _)
 rcases amW l l.length (bP _) with ⟨k,_⟩|⟨_,m,a,c⟩
 .omega
 .have hlt:fH l l.length-1<l.length:=by omega
  have d:SM l=l.take (fH l l.length-1):=by unfold SM;rw[ah h]
  refine⟨l.drop (fH l l.length),fun f=>?_,?_⟩
  .obtain⟨g,i,e⟩:=afB f;rw[List.getElem_drop]at e;rw[a1]at i;refine c (fH l l.length+g) (by omega) (by omega) ?_;rw[SN,lS (by omega)];exact e
  .rw[d]
   conv=>lhs;rw[<-ao8 (fH l l.length-1) l]
   congr 1
   rw[QG hlt];rw[SN,lS hlt]at a;rw[show l[fH l l.length-1]=47 from a,show fH l l.length-1+1=fH l l.length by omega]
def awY {l:List UInt8}(h:bw l=true):bw (SM l)=true:=by
 by_cases a:l=[]
 .subst a;rfl
 .obtain⟨t,b,e⟩:=Vk h a;exact(amT b (e▸h)).1
def aEw {l:List UInt8}(h:bw l=true)(a:l≠[]):(SM l).length<l.length:=by obtain⟨t,_,e⟩:=Vk h a;have:=ve List.length e;rw[aL,aV]at this;omega
def aBN {l:List UInt8}(h:bw l=true)(b:l≠[]):∃x,(bO l).1=(bO (SM l)).1++[x]/\aZ l=x.1:=by obtain⟨t,c,e⟩:=Vk h b;obtain⟨_,x,a⟩:=amT c (e▸h);rw[<-e]at a;refine⟨x,a,?_⟩;unfold aZ;rw[a,List.getLast?_append];rfl
def afh (c:UInt8):∀l:List UInt8,l.length+1=((parts c l).map fun p=>p.length+1).sum
 |[]=>rfl|x::l=>by
  have a:=afh c l;rw[Qv];split
  .rw[r8,YL,<-a,aV,ba];omega
  .have d:=Ee c l;cases b:parts c l with
   |nil=>exact absurd b d
   |cons p e =>
    rw[b]at a;rw[r8,YL]at a ⊢;rw[aV,aV];omega
def awZ {U:Type}{f:U->Nat}{b:Nat}:∀{l:List U},(∀x∈l,f x<=b)->(l.map f).sum<=b*l.length
 |[],_=>aQ _|x::l,h=>by
  have c:=h x J5;have d:=awZ fun y a=>h y (rL x a)
  rw[r8,YL,aV,Nat.mul_succ];omega
def afi {σ V:Type}{f:σ->List UInt8->Option (σ×V)}{Q:List UInt8->Prop}(e:∀s p c b,f s p=some (c,b)->Q p):∀{P:List (List UInt8)} {s:σ} {r:List V},Ac f s P=some r->∀p∈P,Q p
 |[],_,_,_,p,a=>by cases a
 |q::P,s,r,h,p,a=>by
  unfold Ac at h;cases d:f s q with
  |none=>rw[d]at h;cases h
  |some y =>
   obtain⟨c,b⟩:=y;rw[d]at h;dsimp only at h;cases g:Ac f c P with
   |none=>rw[g]at h;cases h
   |some i =>
    rcases fe.1 a with rfl|a
    .exact e _ _ _ _ d
    .exact afi e g p a
def aDm {l:List UInt8}(h:(WO l).2=true):l.length<=90:=by
 unfold WO at h;split at h
 .rename_i a;rw[<-a.2];exact amo a.1
 .cases h
def aBO {l:List UInt8}(h:(kq l).2=true):l.length<=91*(kq l).1.length:=by
 unfold kq at h ⊢;split at h
 .rename_i a;rw[ah a,a];exact bP _
 .rename_i a;rw[af a];cases c:Ac txF () (parts 44 l) with
  |none=>rw[c]at h;cases h
  |some r =>
   have g:=Pf c;have i:=afh 44 l;have:=awZ (f:=fun p:List UInt8=>p.length+1) (b:=91) (l:=parts 44 l) (afi (f:=txF) (Q:=fun p=>p.length+1<=91) (fun s p j b d=>by
    unfold txF at d;split at d
    .rename_i e;have:=aDm e;omega
    .cases d) c)
   dsimp only;omega
def aDn {l:List UInt8}(h:(eZ l).2=true):l.length<=6:=by
 unfold eZ at h;split at h
 .cases h
 .rename_i a;omega
def aEx (l:List UInt8)(c:UInt8):l.length<=(l.takeWhile (· != c)).length+((l.dropWhile (· != c)).drop 1).length+1:=by have h:=ve List.length (List.takeWhile_append_dropWhile (p:=(· != c)) (l:=l));rw[aL]at h;rw[a1];omega
def aBP {g:Int}{p:List UInt8}{f:Int}{b:Yu}(h:Ef g p=some (f,b)):p.length<=189:=by
 unfold Ef at h;split at h
 .rename_i a;have c:=aDn a.2.1;have d:=aBO a.2.2.1;have e:=a.2.2.2.2.2;have i:=aEx p 124;unfold er at c d e;dsimp only at c d e;omega
 .cases h
def aDo {l:List UInt8}(h:bw l=true):l.length<=5700:=by
 by_cases d:l=[]
 .rw[d];exact aQ _
 unfold bw bO at h;rw[af d]at h;have e:=afh 47 l;cases g:parts 47 l with
 |nil=>rw[g]at h;cases h
 |cons k a =>
  rw[g]at h e;dsimp only at h;split at h
  .cases h
  .rename_i i;have m:k=[]:=atg fun c=>i (.inl c)
   have o:¬30<a.length:=fun c=>i (.inr c)
   cases j:Ac Ef 0 a with
   |none=>rw[j]at h;cases h
   |some r =>
    have:=awZ (f:=fun p:List UInt8=>p.length+1) (b:=190) (l:=a) (afi (f:=Ef) (Q:=fun p=>p.length+1<=190) (fun s p q b n=>by have:=aBP n;omega) j);rw[r8,YL,m,ba]at e;omega
def WR:Nat->Int->List Int
 |0,v=>[v]|k+1,v=>if v<128 then [v] else (v%128+128)::WR k (v/128)
def aC (v:Int):List Int:=if 0<=v/\v<=2147483647 then WR 4 v else []
def amX:∀(k:Nat) (v:Int),1<=(WR k v).length/\(WR k v).length<=k+1
 |0,v=>⟨bP _,bP _⟩|k+1,v=>by
  unfold WR;have:=amX k (v/128);split
  .exact⟨bP _,by rw[dr];omega⟩
  .rw[aV];omega
def amY:∀(k:Nat) (v:Int),0<=v->v<128 ^ (k+1)->∀x∈WR k v,0<=x/\x<=255
 |0,v,b,c,x,a=>by rw[ki.1 a];have:(128:Int) ^ (0+1)=128:=rfl;omega
 |k+1,v,b,c,x,a=>by
  unfold WR at a;split at a
  .rw[ki.1 a];omega
  .rcases fe.1 a with rfl|a
   .omega
   .refine amY k (v/128) (by omega) ?_ x a;have e:(128:Int) ^ (k+1+1)=128 ^ (k+1)*128:=QK _ _;omega
def bX (v:Int):(aC v).length<=5:=by
 unfold aC;split
 .exact(amX 4 v).2
 .exact aQ _
def e8 (v:Int):∀x∈aC v,0<=x/\x<=255:=by
 unfold aC;split
 .rename_i h;have b:(128:Int) ^ (4+1)=34359738368:=by decide
  exact amY 4 v h.1 (by omega)
 .intro x a;cases a
def auN:∀(j k:Nat) (v n:Int) (rest:List Int),j+k=4->0<=v->v<128 ^ (j+1)->(k≠0->v≠0)->0<=n->n+v*128 ^ k<=2147483647->SK (j+1) (WR j v++rest) k n=some (n+v*128 ^ k,k+(WR j v).length)
 |0,k,v,n,rest,f,g,i,a,l,b=>by have q:(128:Int) ^ (0+1)=128:=rfl;unfold WR SK;rw[List.singleton_append];dsimp only;rw[ah (by omega),af (fun h=>h.elim (fun h=>a h.1 h.2) (fun h=>by omega))];rfl
 |j+1,k,v,n,rest,f,g,i,a,l,b=>by
  unfold WR;have m:=Qn (k:=k) (by omega);have o:(128:Int) ^ (k+1)=128 ^ k*128:=QK _ _;have r:(128:Int) ^ (j+1+1)=128 ^ (j+1)*128:=QK _ _;split
  .rename_i c;unfold SK;rw[List.singleton_append];dsimp only;rw[ah c,af (fun h=>h.elim (fun h=>a h.1 h.2) (fun h=>by omega))];rfl
  .rename_i c;unfold SK;rw[Fb];dsimp only;have p:0<=v%128/\v%128<128:=⟨YK _ (by omega),ajs _ (by omega)⟩;rw[af (by omega),show(v%128+128)%128=v%128 by omega];have e:v*128 ^ k=v%128*128 ^ k+v/128*128 ^ (k+1):=by
    rw[o];have:v=v%128+128*(v/128):=(Int.emod_add_mul_ediv v 128).symm;generalize (128:Int) ^ k=P at *
    calc v*P=(v%128+128*(v/128))*P:=by rw[<-this]
     _=v%128*P+v/128*(P*128):=by rw[Int.add_mul,Int.mul_comm 128,Int.mul_assoc,Int.mul_comm 128]
   have s:=amH (d:=v%128) (P:=128 ^ k) p.1 (by omega) m.1;have:=auN j (k+1) (v/128) (n+v%128*128 ^ k) rest (by omega) (by omega) (by omega) (fun _=>by omega) (by omega) (by rw[Int.add_assoc,<-e];exact b);rw[this,Int.add_assoc,<-e,aV]
   congr 2
   omega
def auO {pre rest:List Int}{v:Int}(a:0<=v)(b:v<=2147483647):r4 (pre++(aC v++rest)) pre.length=some (v,pre.length+(aC v).length):=by
 have c:(128:Int) ^ (4+1)=34359738368:=by decide
 unfold r4 aC;rw[List.drop_left,ah ⟨a,b⟩,auN 4 0 v 0 rest rfl a (by omega) (fun h=>absurd rfl h) (QL _) (by have:(128:Int) ^ 0=1:=rfl;omega)];have:(128:Int) ^ 0=1:=rfl;dsimp only;rw[this,Int.mul_one,Int.zero_add,vd]
def iH (s:ByteArray):List Int:=aC (s.size:Int)++bytesOf s
def Vl (s:ByteArray):(bytesOf s).length=s.size:=by unfold bytesOf;rw[r7];rfl
def aoQ (s:ByteArray):∀x∈bytesOf s,0<=x/\x<=255:=by intro x a;obtain⟨b,_,rfl⟩:=HY.1 a;have:=UInt8.toNat_lt b;omega
def az1 (s:ByteArray):strOf (bytesOf s)=s:=by
 unfold strOf bytesOf;rw[List.map_map];have:(s.data.toList.map ((fun n:Int=>UInt8.ofNat n.toNat)∘fun b:UInt8=>(b.toNat:Int)))=s.data.toList:=by
  rw[List.map_congr_left (g:=id)]
  .exact List.map_id _
  .intro b _;show UInt8.ofNat ((b.toNat:Int).toNat)=b;rw[kC];exact UInt8.ofNat_toNat
 rw[this]
def aBQ {pre rest:List Int}{s:ByteArray}(h:s.size<=1048576):ZR (pre++(iH s++rest)) pre.length=some (s,pre.length+(iH s).length):=by
 have a:=Vl s;unfold ZR iH;rw[ik,auO (by omega) (by omega)];dsimp only;rw[af ?_]
 .congr 1
  refine AI ?_ ?_
  .show strOf _=s;have e:((pre++(aC (s.size:Int)++(bytesOf s++rest))).take (pre.length+(aC (s.size:Int)).length+((s.size:Int)).toNat)).drop (pre.length+(aC (s.size:Int)).length)=bytesOf s:=by rw[kC,<-ik,<-ik,<-aL,<-a,<-aL,List.take_left,List.drop_left]
   rw[e,az1]
  .show _=pre.length+(aC _++bytesOf s).length;rw[aL,a,kC,SP]
 .rw[aL,aL,aL,a];omega
def lO {pre rest:List Int}{v:Int}(a:0<=v)(b:v<=2147483647):aP (pre++(aC v++rest)) (pre.length,true)=(v,(pre++aC v).length,true):=by unfold aP;rw[auO a b,aL];rfl
def Z0 {pre rest:List Int}{s:ByteArray}(h:s.size<=1048576):cZ (pre++(iH s++rest)) (pre.length,true)=(s,(pre++iH s).length,true):=by unfold cZ;rw[aBQ h,aL];rfl
def hZ (l:List Int):List Int:=l.flatMap aC
def agP (v:Int):Prop:=0<=v/\v<=2147483647
def amZ:∀(l pre rest xs:List Int) (f:Nat) (i n:Int),(∀x∈l,agP x)->n=i+l.length->l.length<f->iU (pre++(hZ l++rest)) n f i (pre.length,true) xs=(xs++l,(pre++hZ l).length,true)
 |[],pre,rest,xs,f+1,i,n,_,a,_=>by unfold iU;rw[af (fun h=>by have:=h.1;simp at a;omega)];simp[hZ]
 |x::l,pre,rest,xs,f+1,i,n,b,a,d=>by
  have c:=b x J5;unfold iU;rw[aV]at a d;rw[ah ⟨by omega,rfl⟩];have e:pre++(hZ (x::l)++rest)=pre++(aC x++(hZ l++rest)):=by simp[hZ]
  rw[e,lO c.1 c.2];dsimp only;have g:pre++(aC x++(hZ l++rest))=(pre++aC x)++(hZ l++rest):=by simp
  rw[g,amZ l (pre++aC x) rest (xs++[x]) f (i+1) n (fun y j=>b y (rL _ j)) (by omega) (by omega)];simp[hZ]
def Ae (l:List Int):List Int:=aC (l.length:Int)++hZ l
def am0 (k:Nat)(v:Int):1<=(WR k v).length:=(amX k v).1
def afj:∀{l:List Int},(∀x∈l,agP x)->l.length<=(hZ l).length/\(hZ l).length<=5*l.length
 |[],_=>⟨bP _,bP _⟩|x::l,h=>by
  have a:=h x J5;have c:=afj fun y b=>h y (rL _ b)
  have d:1<=(aC x).length/\(aC x).length<=5:=by refine⟨?_,bX x⟩;unfold aC;rw[ah (show 0<=x/\x<=2147483647 from a)];exact am0 4 x
  have e:hZ (x::l)=aC x++hZ l:=rfl;rw[e,aL,aV];omega
def aqe {pre rest l:List Int}(a:∀x∈l,agP x)(h:l.length<=1048576):AG (pre++(Ae l++rest)) (pre.length,true)=(l,(pre++Ae l).length,true):=by
 unfold AG Ae;rw[ik,lO (by omega) (by omega)];dsimp only;have e:pre++(aC (l.length:Int)++(hZ l++rest))=(pre++aC (l.length:Int))++(hZ l++rest):=by simp
 have:=afj a;rw[e,amZ l (pre++aC (l.length:Int)) rest [] _ 0 _ a (by omega) (by simp only[aL];omega)];simp
def r5 (q:cE):List Int:=aC q.1++(iH q.2.1++Ae q.2.2)
structure aDp (q:cE):Prop where
 v:agP q.1
 n:q.2.1.size<=1048576
 w:q.2.2.length<=1048576
 m:∀x∈q.2.2,agP x
def auP {pre rest:List Int}{q:cE}(h:aDp q):vN (pre++(r5 q++rest)) (pre.length,true)=(q,(pre++r5 q).length,true):=by
 unfold vN r5;have a:pre++(aC q.1++(iH q.2.1++Ae q.2.2)++rest)=pre++(aC q.1++(iH q.2.1++(Ae q.2.2++rest))):=by simp
 have b:pre++(aC q.1++(iH q.2.1++(Ae q.2.2++rest)))=(pre++aC q.1)++(iH q.2.1++(Ae q.2.2++rest)):=by simp
 have c:pre++(aC q.1++(iH q.2.1++(Ae q.2.2++rest)))=(pre++aC q.1++iH q.2.1)++(Ae q.2.2++rest):=by simp
 have d:aP (pre++(aC q.1++(iH q.2.1++(Ae q.2.2++rest)))) (pre.length,true)=(q.1,(pre++aC q.1).length,true):=lO h.v.1 h.v.2;have e:cZ (pre++(aC q.1++(iH q.2.1++(Ae q.2.2++rest)))) ((pre++aC q.1).length,true)=(q.2.1,(pre++aC q.1++iH q.2.1).length,true):=by rw[b];exact Z0 h.n
 have f:AG (pre++(aC q.1++(iH q.2.1++(Ae q.2.2++rest)))) ((pre++aC q.1++iH q.2.1).length,true)=(q.2.2,(pre++aC q.1++iH q.2.1++Ae q.2.2).length,true):=by rw[c];exact aqe h.m h.w
 rw[a,d];dsimp only;rw[e];dsimp only;rw[f];simp
def ay1 {a b:ByteArray}(h:(a.toList==b.toList)=true):a=b:=by have:=Pc a.data.toList b.data.toList;rw[<-QO,<-QO,h]at this;rw[QO a,QO b,lT this.symm]
def V4 {a b:cE}(h:gN a b=true):a=b:=by simp only[gN,aD,bc,bV]at h;exact AI h.1 (AI (ay1 (bc.2 h.2.1)) h.2.2)
def az2 {a b:dU}(h:afd a b=true):a=b:=by simp only[afd,aD,bc]at h;exact AI h.1 (AI h.2.1 (AI h.2.2.1 h.2.2.2.1))
def asL {a b:cG}(h:nL a b=true):a=b:=by simp only[nL,aD]at h;exact AI (ay1 h.1) (V4 h.2)
def Z1 {a b:ct}(h:rH a b=true):a=b:=by simp only[rH,aD]at h;obtain⟨c,d,e,f,g,i,j⟩:=h;exact AI (bc.1 c) (AI (bc.1 d) (AI (asL e) (AI (V4 f) (AI (V4 g) (AI (bc.1 i) (az2 j))))))
def V5 {n:Int}{s:List Int}(h:lI n s=true):∀x∈s,0<=x/\x<n:=by intro x b;obtain⟨k,a,rfl⟩:=afB b;have:=hD.1 h k (il.2 a);rw[SN,lS a]at this;simp only[aD,bV]at this;exact⟨this.1,this.2.1⟩
def aw0 {n:Int}{s:List Int}(h:lI n s=true){k:Nat}(a:k+1<s.length):s[k]<s[k+1]:=by
 have:=hD.1 h (k+1) (il.2 a);rw[show k+1-1=k from rfl,SN,SN,lS a,lS (by omega)]at this;simp only[aD,ju,bV]at this;rcases this.2.2 with b|b
 .omega
 .exact b
def auQ {n:Int}{s:List Int}(h:lI n s=true):∀(k:Nat) (a:k<s.length),(k:Int)<=s[k]
 |0,a=>(V5 h _ (cy a)).1|k+1,a=>by have b:=auQ h k (by omega);have c:=aw0 h a;omega
def afk {n:Int}{s:List Int}(h:lI n s=true):(s.length:Int)<=max n 0:=by
 rcases apb s.length with a|a
 .omega
 .have b:=auQ h (s.length-1) (by omega);have c:=(V5 h s[s.length-1] (cy _)).2;omega
def lP {b:ByteArray}(h:bw b.data.toList=true):b.size<=5700:=aDo h
def Z2 {c:Int×Int}{q:cE}(h:eK c q=true):bq c=true/\bw q.2.1.data.toList=true/\aZ q.2.1.data.toList=q.1/\(q.2.1.data.toList=[]->q.2.2=[])/\(q.2.1.data.toList≠[]->lI c.1 q.2.2=true/\(q.2.2.length:Int)>=BH c):=by
 unfold eK WQ at h;simp only[aD,bV]at h;obtain⟨d,e,f,a⟩:=h;refine⟨d,e,f,fun b=>?_,fun b=>?_⟩
 .rw[ah b]at a;exact lT a
 .rw[af b]at a;simp only[aD,bV]at a;exact a
def YA {v:Int}(a:0<=v)(b:v<=1000000):agP v:=⟨a,by omega⟩
def uF {c:Int×Int}{q:cE}(h:eK c q=true):aDp q/\q.2.2.length<=7/\q.2.1.size<=5700:=by
 obtain⟨f,g,k,i,j⟩:=Z2 h;have l:=b4 f;have d:=lP g;have m:=Pg q.2.1.data.toList;by_cases e:q.2.1.data.toList=[]
 .have a:=i e;refine⟨⟨YA (by omega) (by omega),by omega,by rw[a];exact aQ _,fun x b=>by rw[a]at b;cases b⟩,by rw[a];exact aQ _,d⟩
 .obtain⟨a,_⟩:=j e;have n:=afk a;refine⟨⟨YA (by omega) (by omega),by omega,by omega,fun x b=>?_⟩,by omega,d⟩;have:=V5 a x b;exact YA (by omega) (by omega)
def JX (b:ByteArray):dk b=true↔b.data.toList=[]:=by unfold dk;have:=Pc b.data.toList [];rw[<-QO,show tx []=aj from rfl]at this;rw[this,bV]
def acL {c:Int×Int}{p:cE}(h:gM c p=true):bq c=true/\1<=p.1/\p.1<=60/\lI c.1 p.2.2=true/\p.2.2≠[]/\bw p.2.1.data.toList=true/\(p.2.1.data.toList≠[]->aZ p.2.1.data.toList=p.1):=by
 unfold gM at h;simp only[aD,ju,e4,bV,afD,bc,bR]at h;obtain⟨b,⟨d,f⟩,g,i,a⟩:=h;refine⟨b,d,f,g,fun e=>i (by rw[e];rfl),?_,fun j=>?_⟩
 .rcases a with a|a
  .rw[(JX _).1 a];exact amB
  .exact a.1
 .rcases a with a|a
  .exact absurd ((JX _).1 a) j
  .exact a.2
def V6 {c:Int×Int}{q:cE}(h:gM c q=true):aDp q/\q.2.2.length<=7/\q.2.1.size<=5700:=by obtain⟨b,g,i,a,_,d,_⟩:=acL h;have j:=b4 b;have e:=lP d;have k:=afk a;refine⟨⟨YA (by omega) (by omega),by omega,by omega,fun x f=>?_⟩,by omega,e⟩;have:=V5 a x f;exact YA (by omega) (by omega)
def Hy (m:ct):List Int :=
 aC m.1++(if m.1=1 then iH m.2.2.1.1++r5 m.2.2.1.2 else if m.1=2 then r5 m.2.2.2.1 else if m.1=3 then aC m.2.1++(aC m.2.2.2.2.2.1++r5 m.2.2.2.2.1)
  else aC m.2.2.2.2.2.2.1++(aC m.2.2.2.2.2.2.2.1++(aC m.2.2.2.2.2.2.2.2.1++aC m.2.2.2.2.2.2.2.2.2)))
def ajk {v:Int}(h:agP v)(rest:List Int):gQ (aC v++rest)=(v,(aC v).length,true):=by have:=lO (pre:=[]) (rest:=rest) h.1 h.2;exact this
def aBR {c:Int×Int}{m:ct}(h:dp c m=true):acH (Hy m)=(m,(Hy m).length,true):=by
 unfold dp at h;simp only[aD]at h;obtain⟨D,E,d⟩:=h;have q:=Z1 E;obtain⟨aEy,view,⟨f,i⟩,part,b,cC,tx⟩:=m;dsimp only at d q ⊢;by_cases t:aEy=1
 .subst t;rw[ah (by rfl)]at d;simp only[fm,aD]at d;have k:=(uF d.1).1;have Q:=lP d.2.1;have e:Hy (1,view,(f,i),part,b,cC,tx)=aC 1++(iH f++(r5 i++[])):=by simp[Hy]
  have l:aC 1++(iH f++(r5 i++[]))=(aC 1++iH f)++(r5 i++[]):=by simp
  have n:=ajk (v:=1) (YA (by decide) (by decide)) (iH f++(r5 i++[]));have o:cZ (aC 1++(iH f++(r5 i++[]))) ((aC 1).length,true)=(f,(aC 1++iH f).length,true):=Z0 (by omega);have p:vN (aC 1++(iH f++(r5 i++[]))) ((aC 1++iH f).length,true)=(i,(aC 1++iH f++r5 i).length,true):=by rw[l];exact auP k
  rw[e];unfold acH aDe;rw[n];dsimp only;rw[ah (by rfl),o];dsimp only;rw[p];rw[<-q];simp[named]
 .by_cases u:aEy=2
  .subst u;rw[af (by decide),ah (by rfl)]at d;simp only[aD]at d;have k:=(V6 d.1).1;obtain⟨a,g,j⟩:=part;have e:Hy (2,view,(f,i),(a,g,j),b,cC,tx)=aC 2++(aC a++(iH g++(Ae j++[]))):=by simp[Hy,r5]
   have l:aC 2++(aC a++(iH g++(Ae j++[])))=(aC 2++aC a)++(iH g++(Ae j++[])):=by simp
   have r:aC 2++(aC a++(iH g++(Ae j++[])))=(aC 2++aC a++iH g)++(Ae j++[]):=by simp
   have n:=ajk (v:=2) (YA (by decide) (by decide)) (aC a++(iH g++(Ae j++[])));have o:aP (aC 2++(aC a++(iH g++(Ae j++[])))) ((aC 2).length,true)=(a,(aC 2++aC a).length,true):=lO k.v.1 k.v.2;have p:cZ (aC 2++(aC a++(iH g++(Ae j++[])))) ((aC 2++aC a).length,true)=(g,(aC 2++aC a++iH g).length,true):=by rw[l];exact Z0 k.n
   have s:AG (aC 2++(aC a++(iH g++(Ae j++[])))) ((aC 2++aC a++iH g).length,true)=(j,(aC 2++aC a++iH g++Ae j).length,true):=by rw[r];exact aqe k.m k.w
   rw[e];unfold acH aDf;rw[n];dsimp only;rw[af (by decide),ah (by rfl),o];dsimp only;rw[p];dsimp only;rw[s];rw[<-q];simp[named]
  .by_cases w:aEy=3
   .subst w;rw[af (by decide),af (by decide),ah (by rfl)]at d;simp only[aD,e4,bV]at d;obtain⟨⟨R,S⟩,k,⟨F,G⟩⟩:=d;have x:=b4 D;rw[Vd x.1 x.2.1]at G;have k:=(uF k).1;have y:agP cC:=YA F (by omega);have e:Hy (3,view,(f,i),part,b,cC,tx)=aC 3++(aC view++(aC cC++(r5 b++[]))):=by simp[Hy]
    have l:aC 3++(aC view++(aC cC++(r5 b++[])))=(aC 3++aC view)++(aC cC++(r5 b++[])):=by simp
    have r:aC 3++(aC view++(aC cC++(r5 b++[])))=(aC 3++aC view++aC cC)++(r5 b++[]):=by simp
    have n:=ajk (v:=3) (YA (by decide) (by decide)) (aC view++(aC cC++(r5 b++[])));have o:aP (aC 3++(aC view++(aC cC++(r5 b++[])))) ((aC 3).length,true)=(view,(aC 3++aC view).length,true):=lO (by omega) (by omega);have p:aP (aC 3++(aC view++(aC cC++(r5 b++[])))) ((aC 3++aC view).length,true)=(cC,(aC 3++aC view++aC cC).length,true):=by rw[l];exact lO y.1 y.2
    have s:vN (aC 3++(aC view++(aC cC++(r5 b++[])))) ((aC 3++aC view++aC cC).length,true)=(b,(aC 3++aC view++aC cC++r5 b).length,true):=by rw[r];exact auP k
    rw[e];unfold acH aDg;rw[n];dsimp only;rw[af (by decide),af (by decide),ah (by rfl),o];dsimp only;rw[p];dsimp only;rw[s];rw[<-q];simp[named]
   .rw[af (by simpa using t),af (by simpa using u),af (by simpa using w)]at d;simp only[aD,bc]at d;obtain⟨H,I⟩:=d;subst H;obtain⟨t1,t2,t3,t4⟩:=tx;obtain⟨⟨z,K⟩,⟨A,L⟩,⟨B,M⟩,⟨C,N⟩⟩:=nJ I;dsimp only at z K A L B M C N;have e:Hy (4,view,(f,i),part,b,cC,t1,t2,t3,t4)=aC 4++(aC t1++(aC t2++(aC t3++(aC t4++[])))):=by simp[Hy]
    have l:aC 4++(aC t1++(aC t2++(aC t3++(aC t4++[]))))=(aC 4++aC t1)++(aC t2++(aC t3++(aC t4++[]))):=by simp
    have r:aC 4++(aC t1++(aC t2++(aC t3++(aC t4++[]))))=(aC 4++aC t1++aC t2)++(aC t3++(aC t4++[])):=by simp
    have O:aC 4++(aC t1++(aC t2++(aC t3++(aC t4++[]))))=(aC 4++aC t1++aC t2++aC t3)++(aC t4++[]):=by simp
    have n:=ajk (v:=4) (YA (by decide) (by decide)) (aC t1++(aC t2++(aC t3++(aC t4++[]))));have o:aP (aC 4++(aC t1++(aC t2++(aC t3++(aC t4++[]))))) ((aC 4).length,true)=(t1,(aC 4++aC t1).length,true):=lO z (by omega);have p:aP (aC 4++(aC t1++(aC t2++(aC t3++(aC t4++[]))))) ((aC 4++aC t1).length,true)=(t2,(aC 4++aC t1++aC t2).length,true):=by rw[l];exact lO A (by omega)
    have s:aP (aC 4++(aC t1++(aC t2++(aC t3++(aC t4++[]))))) ((aC 4++aC t1++aC t2).length,true)=(t3,(aC 4++aC t1++aC t2++aC t3).length,true):=by rw[r];exact lO B (by omega)
    have P:aP (aC 4++(aC t1++(aC t2++(aC t3++(aC t4++[]))))) ((aC 4++aC t1++aC t2++aC t3).length,true)=(t4,(aC 4++aC t1++aC t2++aC t3++aC t4).length,true):=by rw[O];exact lO C (by omega)
    rw[e];unfold acH aDh;rw[n];dsimp only;rw[af (by decide),af (by decide),af (by decide),ah (by rfl),o];dsimp only;rw[p];dsimp only;rw[s];dsimp only;rw[P];rw[<-q];simp[named]
def az3 {c:Int×Int}{m:ct}(h:dp c m=true):rU c (Hy m)=(m,true):=by unfold rU fin;rw[aBR h];dsimp only;rw[ah ⟨rfl,rfl,h⟩]
def eG {a b:List Int}(c:∀x∈a,0<=x/\x<=255)(d:∀x∈b,0<=x/\x<=255):∀x∈a++b,0<=x/\x<=255:=fun x e=>(kj.1 e).elim (c x) (d x)
def Z3 (s:ByteArray):∀x∈iH s,0<=x/\x<=255:=eG (e8 _) (aoQ s)
def auR (l:List Int):∀x∈hZ l,0<=x/\x<=255:=fun x a=>by obtain⟨y,_,h⟩:=List.mem_flatMap.1 a;exact e8 y x h
def Qx (q:cE):∀x∈r5 q,0<=x/\x<=255:=eG (e8 _) (eG (Z3 _) (eG (e8 _) (auR _)))
def Vm (s:ByteArray):(iH s).length<=s.size+5:=by have:=bX (s.size:Int);unfold iH;rw[aL,Vl];omega
def Vn {q:cE}(h:aDp q):(r5 q).length<=q.2.1.size+5*q.2.2.length+15:=by have a:=bX q.1;have b:=Vm q.2.1;have c:=bX (q.2.2.length:Int);have d:=(afj h.m).2;unfold r5 Ae;rw[aL,aL,aL];omega
def am1 {c:Int×Int}{m:ct}(h:dp c m=true):(Hy m).length<=12000/\(∀x∈Hy m,0<=x/\x<=255)/\1<=(Hy m).length:=by
 unfold dp at h;simp only[aD]at h;obtain⟨l,_,a⟩:=h;have n:=bX m.1;have pos:m.1=1\/m.1=2\/m.1=3\/m.1=4:=by
  by_cases e:m.1=1
  .exact .inl e
  .by_cases f:m.1=2
   .exact .inr (.inl f)
   .by_cases g:m.1=3
    .exact .inr (.inr (.inl g))
    .rw[af (by simpa using e),af (by simpa using f),af (by simpa using g)]at a;simp only[aD,bc]at a;exact .inr (.inr (.inr a.1))
 have one:1<=(aC m.1).length:=by unfold aC;rw[ah (by omega)];exact am0 4 _
 unfold Hy;refine⟨?_,eG (e8 _) ?_,by rw[aL];omega⟩
 .rw[aL];rcases pos with k|k|k|k
  .rw[ah (by simpa using k)]at a;simp only[fm,aD]at a;have b:=uF a.1;have o:=lP a.2.1;have i:=Vm m.2.2.1.1;have d:=Vn b.1;rw[ah k,aL];omega
  .rw[af (by simp[k]),ah (by simpa using k)]at a;simp only[aD]at a;have b:=V6 a.1;have d:=Vn b.1;rw[af (by omega),ah k];omega
  .rw[af (by simp[k]),af (by simp[k]),ah (by simpa using k)]at a;simp only[aD]at a;have b:=uF a.2.1;have i:=bX m.2.1;have j:=bX m.2.2.2.2.2.1;have d:=Vn b.1;rw[af (by omega),af (by omega),ah k,aL,aL];omega
  .have i:=bX m.2.2.2.2.2.2.1;have d:=bX m.2.2.2.2.2.2.2.1;have j:=bX m.2.2.2.2.2.2.2.2.1;have p:=bX m.2.2.2.2.2.2.2.2.2;rw[af (by omega),af (by omega),af (by omega),aL,aL,aL];omega
 .split
  .exact eG (Z3 _) (Qx _)
  .split
   .exact Qx _
   .split
    .exact eG (e8 _) (eG (e8 _) (Qx _))
    .exact eG (e8 _) (eG (e8 _) (eG (e8 _) (e8 _)))
def Mr (s:bU):List Int:=aC s.1++(aC s.2.1++(r5 s.2.2.1++iH s.2.2.2))
def ey {c:Int×Int}{s:bU}(h:ch c s=true):(0<=s.1/\s.1<=60)/\(0<=s.2.1/\s.2.1<=60)/\eK c s.2.2.1=true/\bw s.2.2.2.data.toList=true:=by simp only[ch,e4,aD,bV]at h;exact h
def afl {c:Int×Int}{s:bU}(h:ch c s=true):1<=(Mr s).length/\(Mr s).length<=12000:=by
 obtain⟨⟨d,e⟩,_,a,b⟩:=ey h;have a:=uF a;have f:=lP b;have g:=bX s.1;have i:=bX s.2.1;have j:=Vn a.1;have k:=Vm s.2.2.2;have one:1<=(aC s.1).length:=by unfold aC;rw[ah (by omega)];exact am0 4 _
 unfold Mr;rw[aL,aL,aL];omega
def auS (s:bU):∀x∈Mr s,0<=x/\x<=255:=eG (e8 _) (eG (e8 _) (eG (Qx _) (Z3 _)))
def AH (s:bU):List Int:=aC ((Mr s).length:Int)++(Mr s++[10])
def auT (s:bU):∀x∈AH s,0<=x/\x<=255:=eG (e8 _) (eG (auS s) fun x a=>by rw[ki.1 a];omega)
def az4 {c:Int×Int}{s:bU}(h:ch c s=true):1<=(AH s).length/\(AH s).length<=12010:=by have a:=afl h;have b:=bX ((Mr s).length:Int);unfold AH;rw[aL,aL,dr];omega
def aw1 {U V γ:Type}(X:Nat->Int->List V->Option γ)(a:List U)(f:U->V)(R:Option γ)
  (c:∀n k xs (h:k<a.length),xs.length=k->X (n+1) (k:Int) xs=X n ((k+1:Nat):Int) (xs++[f a[k]])) (d:∀n,X (n+1) (a.length:Int) (a.map f)=R) (n:Nat) (e:a.length<n):X n 0 []=R:=by
 refine cp X a.length (fun k xs=>xs=(a.take k).map f) R (fun n k xs b h=>.inr ⟨_,c n k xs b (by rw[h,r7,bz];omega),?_⟩) (fun n xs h=>?_) n 0 [] (aQ _) rfl (by omega)
 .rw[hz b,adg,h];rfl
 .rw[h,mH];exact d n
def agQ {U γ:Type}(X:Nat->Int->List U->Option γ)(a:List U)(R:Option γ)
  (b:∀n k xs (h:k<a.length),xs.length=k->X (n+1) (k:Int) xs=X n ((k+1:Nat):Int) (xs++[a[k]])) (c:∀n,X (n+1) (a.length:Int) a=R) (n:Nat) (d:a.length<n):X n 0 []=R :=
 aw1 X a id R b (fun n=>by rw[List.map_id];exact c n) n d
def ajl {U γ:Type}(X:Nat->Int->List U->Option γ)(a:List U)(p:U->Bool)(R:Option γ)
  (c:∀n k xs (h:k<a.length),xs.length<=k->X (n+1) (k:Int) xs=X n ((k+1:Nat):Int) (if p a[k]=true then xs++[a[k]] else xs)) (d:∀n,X (n+1) (a.length:Int) (a.filter p)=R) (n:Nat) (f:a.length<n):X n 0 []=R:=by
 refine cp X a.length (fun k xs=>xs=(a.take k).filter p) R (fun n k xs b h=>.inr ⟨_,c n k xs b (by rw[h];exact cj (ath _ _) (by rw[bz];omega)),?_⟩) (fun n xs h=>?_) n 0 [] (aQ _) rfl (by omega)
 .rw[hz b,List.filter_append,h];cases e:p a[k]<;>simp[e]
 .rw[h,mH];exact d n
def u6 {q:cE}(h:q.2.2.length<=1048576):hQ F0 q=some (q,()):=by rw[akI,av (a:=0) (by omega) (by omega) (by omega),ad];rfl
def lZ {q:cE}(h:q.2.2.length<=1048576):fL F0 q=some (q,()):=by rw[ahz,av (a:=0) (by omega) (by omega) (by omega),ad];rfl
def vK {q:cE}(h:q.2.2.length<=1048576):gj F0 q=some (q,()):=amz (by omega)
def Af {q:cE}(h:q.2.2.length<=1048576):eN F0 q=some (q,()):=by rw[aes,mE (by omega),ag]
def Ms {s:bU}(h:lK s):l8 F0 s=some (s,()):=by rw[ahy,u6 h.1.2,ag]
def Hz {s:bU}(h:lK s):ka F0 s=some (s,()):=by rw[aer,vK h.1.2,ag]
def acM {l:List cE}(h:l.length<=1048576)(b:∀q∈l,sH q):fM F0 l=some (l,()):=by
 rw[adI];refine agQ (fun n k xs=>ta F0 (wP F0) n (nZ l k xs)) l _ (fun n k xs a c=>?_) (fun n=>?_) _ (by rw[bH];omega)
 .rw[Dv,aO a,ae,ao a,ad,bb a,lZ (b _ (cy a)).2,ag,av (by omega) (by omega) (by simp only[aV,ba];omega),ad,al (by omega)]
 .rw[Dv,aE,aa,Wt]
def YB {l:List cE}(h:l.length<=1048576)(b:∀q∈l,sH q):en F0 l=some (l,()):=by
 rw[abL];refine agQ (fun n k xs=>q5 F0 (uU F0) n (mq l (l.length:Int) k xs)) l _ (fun n k xs a c=>?_) (fun n=>?_) _ (by rw[bH];omega)
 .rw[Ax,aO a,ae,ao a,ad,bb a,Af (b _ (cy a)).2,ag,av (by omega) (by omega) (by simp only[aV,ba];omega),ad,al (by omega)]
 .rw[Ax,aE,aa,Uv]
def Mt {d:List Int×Int}(h:d.1.length<=1048576):gV F0 d=some (d,()):=by rw[ahA,av (a:=0) (by omega) (by omega) (by omega),ad];rfl
def HA {d:List Int×Int}(h:d.1.length<=1048576):kb F0 d=some (d,()):=by rw[aet,av (a:=0) (by omega) (by omega) (by omega),ad];rfl
def Vo {l:List dU}(h:l.length<=1048576):gZ F0 l=some (l,()):=by rw[aip,av (a:=0) (by omega) (by omega) (by omega),ad];rfl
def aw2 {b:cG}(h:b.2.2.2.length<=1048576):Kw F0 b=some (b,()):=by rw[akJ,u6 h,ag]
def aoR {b:cG}(h:b.2.2.2.length<=1048576):yJ F0 b=some (b,()):=by rw[abM,vK h,ag]
def agR {m:ct}(h:fc m):wR F0 m=some (m,()):=by rw[ahB,aw2 h.2.1.2,ag,lZ h.2.2.1.2,ag,u6 h.2.2.2.2,ag]
def agS {m:ct}(h:fc m):yK F0 m=some (m,()):=by rw[aiq,aoR h.2.1.2,ag,Af h.2.2.1.2,ag,vK h.2.2.2.2,ag]
def acN {l:List kr}(h:l.length<=1048576)(b:∀q∈l,fc q.2):sh F0 l=some (l,()):=by
 rw[adJ];refine agQ (fun n k xs=>tf F0 (wS F0) n (n0 l k xs)) l _ (fun n k xs a c=>?_) (fun n=>?_) _ (by rw[bH];omega)
 .rw[Dw,aO a,ae,ao a,ad,ad,bb a,agR (b _ (cy a)),ag,av (by omega) (by omega) (by simp only[aV,ba];omega),ad,al (by omega)]
 .rw[Dw,aE,aa,Wu]
def aoS {l:List kr}(h:l.length<=1048576)(b:∀q∈l,fc q.2):yL F0 l=some (l,()):=by
 rw[abO];refine agQ (fun n k xs=>rb F0 (uW F0) n (mr l (l.length:Int) k xs)) l _ (fun n k xs a c=>?_) (fun n=>?_) _ (by rw[bH];omega)
 .rw[Ay,aO a,ae,ao a,ad,bb a,agS (b _ (cy a)),ag,av (by omega) (by omega) (by simp only[aV,ba];omega),ad,al (by omega)]
 .rw[Ay,aE,aa,Ux]
structure az5 (r:aA):Prop where
 l:aoN r
 d:dH r.2.2.2.2.2.2.1.1
def dJ {r:aA}(h:az5 r):aW F0 r=some (r,()):=by rw[ahC,Ms h.l.s,ag,av (a:=0) (by omega) (by omega) (by have:=h.l.p;omega),ad,acM h.l.t h.l.tq,ag,Mt h.d.1,ag,acN h.l.h h.l.hm,ag];rfl
def dK {r:aA}(h:az5 r):az F0 r=some (r,()):=by rw[air,Hz h.l.s,ag,Vo h.l.p,ag,YB h.l.t h.l.tq,ag,HA h.d.1,ag,aoS h.l.h h.l.hm,ag]
def acO {x:nk}(h:x.2.length<=1048576):sv F0 x=some (x,()):=by rw[aeu,av (a:=0) (by omega) (by omega) (by omega),ad];rfl
structure M7 (w:ak):Prop where
 l:JU w
 b:∀r∈w.2.2.1,dH r.2.2.2.2.2.2.1.1
def M7.rep {w:ak}(h:M7 w){r:aA}(a:r∈w.2.2.1):az5 r:=⟨h.l.rl r a,h.b r a⟩
def kh {w:ak}(h:M7 w):aM F0 w=some (w,()):=by
 have d:=h.l.l;have e:=h.l.r;have f:=h.l.n;have g:=h.l.s;rw[abQ,mE (by omega),ag,av (a:=0) (by omega) (by omega) (by omega),ad];refine agQ (fun n k xs=>rf F0 (uY F0) n (mv w w.2.2.1 (w.2.2.1.length:Int) k 0 0 w.1.1 w.1.2 [] [] [] [] w.2.1 xs [] ([]++w.2.2.2.2))) w.2.2.1 _ (fun n k xs b c=>?_) (fun n=>?_) _ (by rw[bH];omega)
 .rw[AA,aO b,ae,ao b,ad,bb b,dK (h.rep (cy b)),ag,av (by omega) (by omega) (by simp only[aV,ba];omega),ad,al (by omega)]
 .rw[AA,aE,aa,UA];refine agQ (fun n k xs=>re F0 (uX F0) n (mu w.2.2.2.1 (w.2.2.2.1.length:Int) k 0 0 w.1.1 w.1.2 [] [] [] [] w.2.1 w.2.2.1 xs ([]++w.2.2.2.2))) w.2.2.2.1 _ (fun n k xs b c=>?_) (fun n=>?_) _ (by rw[bH];omega)
  .rw[Az,aO b,ae,ao b,ad,bb b,acO (h.l.nb _ (cy b)).1,ag,av (by omega) (by omega) (by simp only[aV,ba];omega),ad,al (by omega)]
  .rw[Az,aE,aa,Uz];rfl
def agT {w:ak}(h:M7 w):wW F0 w=some (w,()):=by
 have d:=h.l.l;have e:=h.l.r;have f:=h.l.n;have g:=h.l.s;rw[ahD,av (a:=0) (by omega) (by omega) (by omega),ad,av (a:=0) (by omega) (by omega) (by omega),ad];refine agQ (fun n k xs=>wV F0 (A4 F0) n (pP w k 0 0 w.1.1 w.1.2 [] [] [] [] ([]++w.2.1) xs [] ([]++w.2.2.2.2))) w.2.2.1 _ (fun n k xs b c=>?_) (fun n=>?_) _ (by rw[bH];omega)
 .rw[Fo,aO b,ae,ao b,ad,bb b,dJ (h.rep (cy b)),ag,av (by omega) (by omega) (by simp only[aV,ba];omega),ad,al (by omega)]
 .rw[Fo,aE,aa,Zc];refine agQ (fun n k xs=>wU F0 (A3 F0) n (pO w k 0 0 w.1.1 w.1.2 [] [] [] [] ([]++w.2.1) w.2.2.1 xs ([]++w.2.2.2.2))) w.2.2.2.1 _ (fun n k xs b c=>?_) (fun n=>?_) _ (by rw[bH];omega)
  .have i:=(h.l.nb _ (cy b)).1;rw[Fm,aO b,ae,ao b,ad,ad,bb b,av (a:=0) (by omega) (by omega) (by omega),ad,av (by omega) (by omega) (by simp only[aV,ba];omega),ad,al (by omega)];rfl
  .rw[Fm,aE,aa,Zb];rfl
def V7 {n:Int}(a:0<=n)(b:n<=255):IntKind.wrap .u8 n=n:=by simp[IntKind.wrap,IntKind.signed,IntKind.bits];omega
def auU:∀(k:Nat) (v:Int) (xs:List Int) (n:Nat),0<=v->v<128 ^ (k+1)->xs.length+k<=1000->k<n->k<=4->Cn F0 (EL F0) n (tC v xs)=some (xs++WR k v,())
 |0,v,xs,n,a,c,d,e,f=>by obtain⟨n,rfl⟩:∃m,n=m+1:=⟨n-1,by omega⟩;have g:(128:Int) ^ (0+1)=128:=rfl;rw[IP,aK (show ¬v>127 by omega),aa,KH,av (by omega) (by omega) (by first|omega|(simp only[aL,aV,ba];omega)|(rw[a1,bz];omega)),ad,V7 a (by omega)];rfl
 |k+1,v,xs,n,a,c,d,e,f=>by
  obtain⟨n,rfl⟩:∃m,n=m+1:=⟨n-1,by omega⟩;have h:=Qn (k:=k) (by omega);have g:(128:Int) ^ (k+1)=128 ^ k*128:=QK _ _;have i:(128:Int) ^ (k+1+1)=128 ^ (k+1)*128:=QK _ _;rw[IP];unfold WR;by_cases b:v<128
  .rw[aK (show ¬v>127 by omega),aa,KH,av (by omega) (by omega) (by first|omega|(simp only[aL,aV,ba];omega)|(rw[a1,bz];omega)),ad,V7 a (by omega),ah b]
  .rw[aH (show v>127 by omega),ae,av (by omega) (by omega) (by first|omega|(simp only[aL,aV,ba];omega)|(rw[a1,bz];omega)),ad,ao7 a,aF (n:=v/128) (by omega) (by omega),ajp a,
    aF (n:=v%128+128) (by omega) (by omega),V7 (by omega) (by omega),auU k (v/128) (xs++[v%128+128]) n (by omega) (by omega) (by rw[aL,dr];omega) (by omega) (by omega),af b,ik]
   rfl
def auV:∀(k:Nat) (v:Int) (xs:List Int) (n:Nat),0<=v->v<128 ^ (k+1)->xs.length+k<=1000->k<n->k<=4->sr F0 (tW F0) n (mY v xs)=some (xs++WR k v,())
 |0,v,xs,n,a,c,d,e,f=>by obtain⟨n,rfl⟩:∃m,n=m+1:=⟨n-1,by omega⟩;have g:(128:Int) ^ (0+1)=128:=rfl;rw[mi,aK (show ¬v>=128 by omega),aa,om,av (by omega) (by omega) (by first|omega|(simp only[aL,aV,ba];omega)|(rw[a1,bz];omega)),ad,V7 a (by omega)];rfl
 |k+1,v,xs,n,a,c,d,e,f=>by
  obtain⟨n,rfl⟩:∃m,n=m+1:=⟨n-1,by omega⟩;have h:=Qn (k:=k) (by omega);have g:(128:Int) ^ (k+1)=128 ^ k*128:=QK _ _;have i:(128:Int) ^ (k+1+1)=128 ^ (k+1)*128:=QK _ _;rw[mi];unfold WR;by_cases b:v<128
  .rw[aK (show ¬v>=128 by omega),aa,om,av (by omega) (by omega) (by first|omega|(simp only[aL,aV,ba];omega)|(rw[a1,bz];omega)),ad,V7 a (by omega),ah b]
  .rw[aH (show v>=128 by omega),ae,av (by omega) (by omega) (by first|omega|(simp only[aL,aV,ba];omega)|(rw[a1,bz];omega)),ad,ao7 a,aF (n:=v/128) (by omega) (by omega),ajp a,
    aF (n:=v%128+128) (by omega) (by omega),V7 (by omega) (by omega),auV k (v/128) (xs++[v%128+128]) n (by omega) (by omega) (by rw[aL,dr];omega) (by omega) (by omega),af b,ik]
   rfl
def iI (v:Int):dX F0 v=some (aC v,()):=by
 have b:(128:Int) ^ (4+1)=34359738368:=by decide
 rw[akV,cO,ag,acC];unfold aC;by_cases a:0<=v/\v<=2147483647
 .rw[aH a,aG,aa,ah a,auU 4 v [] F0.n a.1 (by omega) (by simp) (by rw[bH];omega) (by omega)];rfl
 .rw[aK a,dW,ae,af a]
def l0 (v:Int):eD F0 v=some (aC v,()):=by
 have b:(128:Int) ^ (4+1)=34359738368:=by decide
 rw[Us,bM,ag,acC];unfold aC;by_cases a:0<=v/\v<=2147483647
 .rw[aH a,aG,aa,ah a,auV 4 v [] F0.n a.1 (by omega) (by simp) (by rw[bH];omega) (by omega)];rfl
 .rw[aK a,dW,ae,af a]
def Mu {s:ByteArray}(h:s.size<=1048576):ma F0 s=some (iH s,()):=by have:=bX (s.size:Int);have a:=Vl s;rw[ahQ,iI,ag,aH (show(s.size:Int)<=F0.mem by rw[aBe];omega),ad,av (by omega) (by omega) (by first|omega|(simp only[aL,aV,ba];omega)|(rw[a1,bz];omega)),ad];rfl
def HB {s:ByteArray}(h:s.size<=1048576):my F0 s=some (iH s,()):=by have:=bX (s.size:Int);rw[aix,l0,ag,aEl (by first|omega|(simp only[aL,aV,ba];omega)|(rw[a1,bz];omega)),ad];rfl
def Ag (l:List Int):(hZ l).length<=5*l.length:=by
 induction l with
 |nil=>exact bP _
 |cons x l a =>
  have:=bX x;show(aC x++hZ l).length<=_;rw[aL,aV];omega
def aw3 (l:List Int)(x:Int):hZ (l++[x])=hZ l++aC x:=by simp[hZ]
def asM {γ:Type}(X:Nat->Int->List Int->Option γ)(l pre:List Int)(R:Option γ)(d:l.length<=1048576)(e:pre.length<=1048576)
  (b:∀n k xs (h:k<l.length),xs.length<=10485760->X (n+1) (k:Int) xs=X n ((k+1:Nat):Int) (xs++aC l[k])) (c:∀n,X (n+1) (l.length:Int) (pre++hZ l)=R) (n:Nat) (f:l.length<n):X n 0 pre=R:=by
 refine cp X l.length (fun k xs=>xs=pre++hZ (l.take k)) R (fun n k xs a h=>.inr ⟨_,b n k xs a (by have:=Ag (l.take k);rw[bz]at this;rw[h,aL];omega),?_⟩) (fun n xs h=>?_) n 0 pre (aQ _) (by simp[hZ]) (by omega)
 .rw[hz a,aw3,h,ik]
 .rw[h,mH];exact c n
def Vp {l:List Int}(h:l.length<=1048576):p5 F0 l=some (hZ l,()):=by
 rw[ahZ];refine asM (fun n k xs=>ya F0 (Be F0) n (p4 l k xs)) l [] _ h (by simp) (fun n k xs a b=>?_) (fun n=>?_) _ (by rw[bH];omega)
 .have:=bX l[k];rw[FB,aO a,ae,ao a,ad,bb a,iI,ag,av (by omega) (by omega) (by first|omega|(simp only[aL,aV,ba];omega)|(rw[a1,bz];omega)),ad,al (by omega)]
 .rw[FB,aE,aa,Zm];rfl
def Ei {l:List Int}(h:l.length<=1048576):jV F0 l=some (hZ l,()):=by
 rw[aiy];refine asM (fun n k xs=>yS F0 (Bu F0) n (rj l (l.length:Int) k xs)) l [] _ h (by simp) (fun n k xs a b=>?_) (fun n=>?_) _ (by rw[bH];omega)
 .have:=bX l[k];rw[FT,aO a,ae,ao a,ad,bb a,l0,ag,av (by omega) (by omega) (by first|omega|(simp only[aL,aV,ba];omega)|(rw[a1,bz];omega)),ad,al (by omega)]
 .rw[FT,aE,aa,Zz];rfl
def qcB (c:Int×Int)(q:cE):List Int:=if eK c q=true then r5 q else []
def Mv {s:ByteArray}(h:s.size<=1048576):(iH s).length<=1048581:=by have:=Vm s;omega
def Vq {q:cE}(h:sH q)(c:Int×Int):pW F0 c q=some (qcB c q,()):=by
 have d:=bX q.1;have e:=Mv h.1;have f:=bX (q.2.2.length:Int);have g:=h.2;rw[ahR,Ql h,ag];unfold qcB;cases b:eK c q with
 |false=>rw[dW,ae,af (by decide)]
 |true =>
  have i:=uF b;rw[aG,aa,ah rfl,iI,ag,Mu h.1,ag,av (by omega) (by omega) (by first|omega|(simp only[aL,aV,ba];omega)|(rw[a1,bz];omega)),ad,iI,ag,av (by omega) (by omega) (by first|omega|(simp only[aL,aV,ba];omega)|(rw[a1,bz];omega)),ad];refine asM (fun n k xs=>xt F0 (A8 F0) n (pV k q.1 q.2.1 q.2.2 xs)) q.2.2 _ _ h.2 (by have:=Vm q.2.1;simp only[aL];omega) (fun n k xs a j=>?_) (fun n=>?_) _ (by rw[bH];omega)
  .have:=bX q.2.2[k];rw[Fv,aO a,ae,ao a,ad,bb a,iI,ag,av (by omega) (by omega) (by first|omega|(simp only[aL,aV,ba];omega)|(rw[a1,bz];omega)),ad,al (by omega)]
  .rw[Fv,aE,aa,Zh];simp[r5,Ae]
def Qy {q:cE}(h:sH q)(c:Int×Int):rm F0 c q=some (qcB c q,()):=by
 have a:=bX q.1;have b:=Mv h.1;have d:=bX (q.2.2.length:Int);have e:=Ag q.2.2;have f:=h.2;rw[aiz,Pj h,ag];unfold qcB;cases g:eK c q with
 |false=>rw[dW,ae,af (by decide)]
 |true =>
  rw[aG,aa,ah rfl,l0,ag,HB h.1,ag,av (by omega) (by omega) (by first|omega|(simp only[aL,aV,ba];omega)|(rw[a1,bz];omega)),ad,l0,ag,av (by omega) (by omega) (by first|omega|(simp only[aL,aV,ba];omega)|(rw[a1,bz];omega)),ad,Ei h.2,ag,av (by omega) (by omega) (by first|omega|(simp only[aL,aV,ba];omega)|(rw[a1,bz];omega)),ad];simp[r5,Ae]
def afm {c:Int×Int}{q:cE}:(qcB c q).length<=6000:=by
 unfold qcB;split
 .rename_i h;have:=uF h;have:=Vn this.1;omega
 .exact aQ _
def afn (c:Int×Int)(s:bU):List Int:=if ch c s=true then Mr s else []
def aoT {s:bU}(h:lK s)(c:Int×Int):xx F0 c s=some (afn c s,()):=by
 have d:=bX s.1;have e:=bX s.2.1;have f:=afm (c:=c) (q:=s.2.2.1);have g:=Mv h.2;rw[abf,BJ h,ag];unfold afn;cases a:ch c s with
 |false=>rw[dW,ae,af (by decide)]
 |true =>
  have b:=(ey a).2.2.1;rw[aG,aa,ah rfl,iI,ag,iI,ag,av (by omega) (by omega) (by first|omega|(simp only[aL,aV,ba];omega)|(rw[a1,bz];omega)),ad,Vq h.1,ag,av (by omega) (by omega) (by first|omega|(simp only[aL,aV,ba];omega)|(rw[a1,bz];omega)),ad,Mu h.2,ag,av (by omega) (by omega) (by first|omega|(simp only[aL,aV,ba];omega)|(rw[a1,bz];omega)),ad];simp[Mr,qcB,b]
def am2 {s:bU}(h:lK s)(c:Int×Int):yW F0 c s=some (afn c s,()):=by
 have a:=Ag [s.1,s.2.1];have e:=afm (c:=c) (q:=s.2.2.1);have f:=Mv h.2;simp only[aV,ba]at a;rw[abT,Eh h,ag];unfold afn;cases b:ch c s with
 |false=>rw[dW,ae,af (by decide)]
 |true =>
  have d:=(ey b).2.2.1;rw[aG,aa,ah rfl,Ei (by simp),ag,Qy h.1,ag,av (by omega) (by omega) (by first|omega|(simp only[aL,aV,ba];omega)|(rw[a1,bz];omega)),ad,HB h.2,ag,av (by omega) (by omega) (by first|omega|(simp only[aL,aV,ba];omega)|(rw[a1,bz];omega)),ad];simp[Mr,qcB,d,hZ]
def Vr (c:Int×Int)(s:bU):List Int:=if ch c s=true then AH s else []
def aoU {s:bU}(h:lK s)(c:Int×Int):xJ F0 c s=some (Vr c s,()):=by
 rw[abh,aoT h,ag];unfold Vr afn;cases a:ch c s with
 |false=>rfl
 |true =>
  have b:=afl a;have d:=bX ((Mr s).length:Int);simp only[fE];rw[show(((Mr s).length:Int)==0)=false from bR.2 (by omega),aa,iI,ag,av (by omega) (by omega) (by first|omega|(simp only[aL,aV,ba];omega)|(rw[a1,bz];omega)),ad,av (by omega) (by omega) (by first|omega|(simp only[aL,aV,ba];omega)|(rw[a1,bz];omega)),ad];simp[AH]
def am3 {s:bU}(h:lK s)(c:Int×Int):yX F0 c s=some (Vr c s,()):=by
 rw[abV,am2 h,ag];unfold Vr afn;cases a:ch c s with
 |false=>rfl
 |true =>
  have b:=afl a;have d:=bX ((Mr s).length:Int);simp only[fE];rw[show(((Mr s).length:Int)==0)=false from bR.2 (by omega),aa,l0,ag,av (by omega) (by omega) (by first|omega|(simp only[aL,aV,ba];omega)|(rw[a1,bz];omega)),ad,av (by omega) (by omega) (by first|omega|(simp only[aL,aV,ba];omega)|(rw[a1,bz];omega)),ad];simp[AH]
def acP (c:Int×Int)(m:ct):List Int:=if dp c m=true then Hy m else []
def am4 {c:Int×Int}{m:ct}(h:dp c m=true):(m.1=1/\eK c m.2.2.1.2=true)\/m.1=2\/(m.1=3/\eK c m.2.2.2.2.1=true)\/m.1=4:=by
 unfold dp at h;simp only[aD]at h;obtain⟨f,_,a⟩:=h;by_cases b:m.1=1
 .rw[ah (by simpa using b)]at a;simp only[fm,aD]at a;exact .inl ⟨b,a.1⟩
 .by_cases d:m.1=2
  .exact .inr (.inl d)
  .by_cases e:m.1=3
   .rw[af (by simpa using b),af (by simpa using d),ah (by simpa using e)]at a;simp only[aD]at a;exact .inr (.inr (.inl ⟨e,a.2.1⟩))
   .rw[af (by simpa using b),af (by simpa using d),af (by simpa using e)]at a;simp only[aD,bc]at a;exact .inr (.inr (.inr a.1))
def asN {m:ct}(h:fc m)(c:Int×Int):Cz F0 c m=some (acP c m,()):=by
 rw[ad8,HU h,ag];unfold acP;cases e:dp c m with
 |false=>rw[dW,ae,af (by decide)]
 |true =>
  have g:=bX m.1;rw[aG,aa,ah rfl,iI,ag];unfold Hy;rcases am4 e with ⟨k,b⟩|k|⟨k,b⟩|k
  .have a:=Mv h.1;have d:=afm (c:=c) (q:=m.2.2.1.2);rw[show(m.1==1)=true by simpa using k,ae,Mu h.1,ag,av (by omega) (by omega) (by first|omega|(simp only[aL,aV,ba];omega)|(rw[a1,bz];omega)),ad,Vq h.2.1,ag,av (by omega) (by omega) (by first|omega|(simp only[aL,aV,ba];omega)|(rw[a1,bz];omega)),ad,ah k];simp[qcB,b]
  .have a:=bX m.2.2.2.1.1;have d:=Mv h.2.2.1.1;have i:=bX (m.2.2.2.1.2.2.length:Int);have j:=Ag m.2.2.2.1.2.2;have f:=h.2.2.1.2;rw[show(m.1==1)=false by simp[k],aa,show(m.1==2)=true by simp[k],ae,iI,ag,av (by omega) (by omega) (by first|omega|(simp only[aL,aV,ba];omega)|(rw[a1,bz];omega)),ad,Mu h.2.2.1.1,ag,av (by omega) (by omega) (by first|omega|(simp only[aL,aV,ba];omega)|(rw[a1,bz];omega)),ad,iI,ag,
    av (by omega) (by omega) (by first|omega|(simp only[aL,aV,ba];omega)|(rw[a1,bz];omega)),ad,Vp f,ag,av (by omega) (by omega) (by first|omega|(simp only[aL,aV,ba];omega)|(rw[a1,bz];omega)),ad,af (by omega),ah k]
   simp[r5,Ae]
  .have a:=Ag [m.2.1,m.2.2.2.2.2.1];have d:=afm (c:=c) (q:=m.2.2.2.2.1);simp only[aV,ba]at a;rw[show(m.1==1)=false by simp[k],aa,show(m.1==2)=false by simp[k],aa,show(m.1==3)=true by simp[k],ae,Vp (by simp),ag,av (by omega) (by omega) (by first|omega|(simp only[aL,aV,ba];omega)|(rw[a1,bz];omega)),ad,Vq h.2.2.2,ag,av (by omega) (by omega) (by first|omega|(simp only[aL,aV,ba];omega)|(rw[a1,bz];omega)),ad,af (by omega),af (by omega),ah k];simp[hZ,qcB,b]
  .have a:=Ag [m.2.2.2.2.2.2.1,m.2.2.2.2.2.2.2.1,m.2.2.2.2.2.2.2.2.1,m.2.2.2.2.2.2.2.2.2];simp only[aV,ba]at a;rw[show(m.1==1)=false by simp[k],aa,show(m.1==2)=false by simp[k],aa,show(m.1==3)=false by simp[k],aa,Vp (by simp),ag,av (by omega) (by omega) (by first|omega|(simp only[aL,aV,ba];omega)|(rw[a1,bz];omega)),ad,af (by omega),af (by omega),af (by omega)];simp[hZ]
def YC {m:ct}(h:fc m)(c:Int×Int):sy F0 c m=some (acP c m,()):=by
 rw[aex,JS h,ag];unfold acP;cases e:dp c m with
 |false=>rw[dW,ae,af (by decide)]
 |true =>
  have g:=bX m.1;rw[aG,aa,ah rfl,l0,ag];unfold Hy;rcases am4 e with ⟨k,b⟩|k|⟨k,b⟩|k
  .have a:=Mv h.1;have d:=afm (c:=c) (q:=m.2.2.1.2);rw[show(m.1==1)=true by simpa using k,ae,HB h.1,ag,av (by omega) (by omega) (by first|omega|(simp only[aL,aV,ba];omega)|(rw[a1,bz];omega)),ad,Qy h.2.1,ag,av (by omega) (by omega) (by first|omega|(simp only[aL,aV,ba];omega)|(rw[a1,bz];omega)),ad,ah k];simp[qcB,b]
  .have a:=bX m.2.2.2.1.1;have d:=Mv h.2.2.1.1;have i:=bX (m.2.2.2.1.2.2.length:Int);have j:=Ag m.2.2.2.1.2.2;have f:=h.2.2.1.2;rw[show(m.1==1)=false by simp[k],aa,show(m.1==2)=true by simp[k],ae,l0,ag,av (by omega) (by omega) (by first|omega|(simp only[aL,aV,ba];omega)|(rw[a1,bz];omega)),ad,HB h.2.2.1.1,ag,av (by omega) (by omega) (by first|omega|(simp only[aL,aV,ba];omega)|(rw[a1,bz];omega)),ad,l0,ag,
    av (by omega) (by omega) (by first|omega|(simp only[aL,aV,ba];omega)|(rw[a1,bz];omega)),ad,Ei f,ag,av (by omega) (by omega) (by first|omega|(simp only[aL,aV,ba];omega)|(rw[a1,bz];omega)),ad,af (by omega),ah k]
   simp[r5,Ae]
  .have a:=Ag [m.2.1,m.2.2.2.2.2.1];have d:=afm (c:=c) (q:=m.2.2.2.2.1);simp only[aV,ba]at a;rw[show(m.1==1)=false by simp[k],aa,show(m.1==2)=false by simp[k],aa,show(m.1==3)=true by simp[k],ae,Ei (by simp),ag,av (by omega) (by omega) (by first|omega|(simp only[aL,aV,ba];omega)|(rw[a1,bz];omega)),ad,Qy h.2.2.2,ag,av (by omega) (by omega) (by first|omega|(simp only[aL,aV,ba];omega)|(rw[a1,bz];omega)),ad,af (by omega),af (by omega),ah k];simp[hZ,qcB,b]
  .have a:=Ag [m.2.2.2.2.2.2.1,m.2.2.2.2.2.2.2.1,m.2.2.2.2.2.2.2.2.1,m.2.2.2.2.2.2.2.2.2];simp only[aV,ba]at a;rw[show(m.1==1)=false by simp[k],aa,show(m.1==2)=false by simp[k],aa,show(m.1==3)=false by simp[k],aa,Ei (by simp),ag,av (by omega) (by omega) (by first|omega|(simp only[aL,aV,ba];omega)|(rw[a1,bz];omega)),ad,af (by omega),af (by omega),af (by omega)];simp[hZ]
end Go.Am.Tryz
