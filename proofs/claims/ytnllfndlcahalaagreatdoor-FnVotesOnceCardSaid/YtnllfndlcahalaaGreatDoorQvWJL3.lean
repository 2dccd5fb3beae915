/- No condition. -/
import Derived.Test.YtnllfndlcahalaaGreatDoorQvWJL2
set_option linter.all false
namespace Go.Am.Tryz
open Go.Am
def kg:bf:=(0,0,b9,ak)
def auX:kp kg:=⟨dx,aR _⟩
def azZ {b:List Int}{s:RY}(h:(cV b s).2.2=true):s.2=true:=by
 unfold cV at h;split at h
 .split at h
  .assumption
  .cases h
 .cases h
def Mt (b:List Int):bf×RY :=
 (((iL b).1,(aT b (iL b).2).1,(wP b (aT b (iL b).2).2).1,(cV b (wP b (aT b (iL b).2).2).2).1),(cV b (wP b (aT b (iL b).2).2).2).2)
def oh (c:Int×Int)(b:List Int):bf×Bool:=if (Mt b).2.2=true/\((Mt b).2.1:Int)=(b.length:Int)/\bh c (Mt b).1=true then ((Mt b).1,true) else (kg,false)
def arc {b:List Int}(a:di b)(h:(Mt b).2.2=true):kp (Mt b).1:=by have d:(iL b).2.1<=b.length:=(dU a (s:=(0,true)) (aR _)).1;have e:=(dU a d).1;have q:=S8 a e;have x:=x4 a q.1;have c:(cV b (wP b (aT b (iL b).2).2).2).2.2=true->(wP b (aT b (iL b).2).2).2.2=true:=azZ;unfold Mt at h ⊢;generalize cV b (wP b (aT b (iL b).2).2).2=f at h x c ⊢;generalize wP b (aT b (iL b).2).2=g at q c ⊢;generalize aT b (iL b).2=i;generalize iL b=j;exact⟨q.2 (c h),x.2⟩
def aHO {b:List Int}(a:di b)(c:Int×Int):kp (oh c b).1:=by
 unfold oh;split
 .rename_i h;exact arc a h.1
 .exact auX
def aBz {c:Int×Int}{b:List Int}{m:bf}{s:RY}{f:bf->Option (Bool×Unit)}(h:s.2=true->f m=some (bh c m,())) :
  br (!s.2) (some (kg,false,())) (br ((s.1:Int) != (b.length:Int)) (some (kg,false,())) ((f m).bind fun d=>br (!d.1) (some (kg,false,())) (some (m,true,())))) =
   some ((if s.2=true/\(s.1:Int)=(b.length:Int)/\bh c m=true then ((m,true):bf×Bool) else (kg,false)).1,(if s.2=true/\(s.1:Int)=(b.length:Int)/\bh c m=true then ((m,true):bf×Bool) else (kg,false)).2,()):=by
 cases e:s.2 with
 |false =>
  rw[af (fun h=>by cases h.1)];rfl
 |true =>
  rw[aN,aa,h e,ai];by_cases a:(s.1:Int)=(b.length:Int)
  .rw[show((s.1:Int) != (b.length:Int))=false from Tr.2 a,aa];cases g:bh c m with
   |false =>
    rw[af (fun h=>by cases h.2.2)];rfl
   |true =>
    rw[ag ⟨rfl,a,rfl⟩];rfl
  .rw[Fe.2 a,ae,af (fun h=>a h.2.1)]
def aCz {b:List Int}(a:di b)(c:Int×Int):NO F0 c b=some ((oh c b).1,(oh c b).2,()):=by have j:cI F0 (b,0,true)=some (((iL b).1,()),cell b (iL b).2,()):=ta a (s:=(0,true)) (aR _);have e:(iL b).2.1<=b.length:=(dU a (s:=(0,true)) (aR _)).1;have g:=(dU a e).1;have q:=S8 a g;have d:=arc a;rw[apM,j,ai,ta a e,ai,aCl a g,ai,agC a q.1,ai];unfold oh;unfold Mt at d ⊢;generalize cV b (wP b (aT b (iL b).2).2).2=i at d ⊢;generalize wP b (aT b (iL b).2).2=k at d ⊢;generalize aT b (iL b).2=l at d ⊢;generalize iL b=n at d ⊢;exact aBz (c:=c) (b:=b) (m:=(n.1,l.1,k.1,i.1)) (s:=i.2) (f:=fun m=>jv F0 c m) fun h=>De (d h) c
def az0 {b:List Int}(a:di b)(c:Int×Int):OI F0 c b=some ((oh c b).1,(oh c b).2,()):=by have j:bH F0 (b,0,false)=some (((iL b).1,()),Yx b (iL b).2,()):=nh a (s:=(0,true)) (aR _);have e:(iL b).2.1<=b.length:=(dU a (s:=(0,true)) (aR _)).1;have g:=(dU a e).1;have q:=S8 a g;have d:=arc a;rw[aqD,j,ai,nh a e,ai,axL a g,ai,Zt a q.1,ai];unfold oh;unfold Mt at d ⊢;generalize cV b (wP b (aT b (iL b).2).2).2=i at d ⊢;generalize wP b (aT b (iL b).2).2=k at d ⊢;generalize aT b (iL b).2=l at d ⊢;generalize iL b=n at d ⊢;exact aBz (c:=c) (b:=b) (m:=(n.1,l.1,k.1,i.1)) (s:=i.2) (f:=fun m=>k3 F0 c m) fun h=>Ge (d h) c
def YB (b:List Int)(i j:Nat):List Int:=(b.take j).drop i
def agG {b:List Int}(a:di b)(i j:Nat):di (YB b i j):=by have d:=a.1;refine⟨?_,fun x c=>a.2 x (aam (avD c))⟩;unfold YB;rw[bc,bB];omega
def aFS {b:List Int}(a:di b):bytesOf (strOf b)=b:=by unfold bytesOf strOf;simp only[List.map_map];refine(List.map_congr_left fun x c=>?_).trans (List.map_id b);have:=a.2 x c;simp only[Function.comp,id,UInt8.toNat_ofNat'];omega
def Ik (c:Int×Int)(b:List Int)(a:Nat):Option (bf×Nat):=match rH b a with
 |none=>none|some (v,d)=>if v>=(b.length:Int)-d then none else if b.getD (d+v.toNat) 0≠10 then none else if (oh c (YB b d (d+v.toNat))).2=true then some ((oh c (YB b d (d+v.toNat))).1,d+v.toNat+1) else none
def Gf (c:Int×Int)(b:List Int):Nat->bf->Nat->bf×Nat
 |0,s,a=>(s,a)|f+1,s,a=>match Ik c b a with
  |none=>(s,a)|some (d,e)=>Gf c b f d e
def dV (c:Int×Int)(b:List Int):bf×Nat:=Gf c b (b.length+1) kg 0
def Df {c:Int×Int}{b:List Int}{a:Nat}{v:Int}{a':Nat}(h:rH b a=some (v,a')):Ik c b a =
  if v>=(b.length:Int)-a' then none else if b.getD (a'+v.toNat) 0≠10 then none else if (oh c (YB b a' (a'+v.toNat))).2=true then some ((oh c (YB b a' (a'+v.toNat))).1,a'+v.toNat+1) else none:=by
 unfold Ik;rw[h]
def Dg {c:Int×Int}{b:List Int}{a:Nat}(h:rH b a=none):Ik c b a=none:=by unfold Ik;rw[h]
def iD {c:Int×Int}{b:List Int}{f:Nat}{s:bf}{a:Nat}(h:Ik c b a=none):Gf c b (f+1) s a=(s,a):=by unfold Gf;rw[h]
def Dh {c:Int×Int}{b:List Int}{f:Nat}{s d:bf}{a a':Nat}(h:Ik c b a=some (d,a')):Gf c b (f+1) s a=Gf c b f d a':=by rw[Gf,h]
def az1 {c:Int×Int}{b:List Int}(f:di b){a:Nat}(i:a<=b.length){s:bf}{a':Nat}(h:Ik c b a=some (s,a')):a<a'/\a'<=b.length/\kp s:=by
 cases e:rH b a with
 |none=>rw[Dg e]at h;cases h
 |some r =>
  obtain⟨v,d⟩:=r;have j:=Zs f i e;have g:=aHO (agG f d (d+v.toNat)) c;rw[Df e]at h;generalize oh c (YB b d (d+v.toNat))=r at h g;split at h
  .cases h
  .rename_i k;split at h
   .cases h
   .split at h
    .cases h;exact⟨by omega,by omega,g⟩
    .cases h
def auY (c:Int×Int){b:List Int}(g:di b)(p q t:Int)(u w:ByteArray)(xs:List Int):∀(f:Nat) (s:bf) (a n:Nat),a<=b.length->b.length+1<=a+f->f<n ->
  vp F0 (Ar F0) n (pH b (a:Int) c.1 c.2 p q t u w s.1 s.2.1 s.2.2.1.1 s.2.2.1.2.1 s.2.2.2 xs s.2.2.1.2.2)=some ((Gf c b f s a).1,((Gf c b f s a).2:Int),())
 |0,s,a,n,j,x,y=>by omega
 |f+1,s,a,n,j,x,y=>by
  obtain⟨n,rfl⟩:∃m,n=m+1:=⟨n-1,by omega⟩;have A:=g.1;cases i:rH b a with
  |none =>
   have law:kV F0 b (a:Int)=some (0,0,false,()):=by rw[agB g j,i];rfl
   rw[FF,law,ai,Lp,iD (Dg i)];rfl
  |some r =>
   obtain⟨v,d⟩:=r;have B:=Zs g j i;have law:kV F0 b (a:Int)=some (v,(d:Int),true,()):=by rw[agB g j,i];rfl
   have e:=Df (c:=c) i;rw[FF,law,ai,Lp];dsimp only;rw[aN,aa,aH (n:=(b.length:Int)-d) (by omega) (by omega),show aj ((d:Int)+v)=((d+v.toNat:Nat):Int) by rw[aH (by omega) (by omega)];omega];by_cases k:v>=(b.length:Int)-d
   .rw[ag k]at e;rw[aL k,ae,iD e]
   .have z:d+v.toNat<b.length:=by omega
    rw[af k]at e;rw[aQ k,aa,an z,ab,kq];by_cases l:b.getD (d+v.toNat) 0=10
    .rw[af (fun h=>h l)]at e;rw[show(b.getD (d+v.toNat) 0 != 10)=false from Tr.2 l,aa,Zp (by omega) (by omega),ab,show((c.1,c.2):Int×Int)=c from rfl,gz,gz,
      show((b.take (d+v.toNat)).drop d)=YB b d (d+v.toNat) from rfl,aCz (agG g _ _),ai]
     dsimp only;generalize oh c (YB b d (d+v.toNat))=r at e ⊢;cases o:r.2 with
     |false =>
      rw[o,af (by decide)]at e;rw[ed,ae,iD e]
     |true =>
      rw[o,ag rfl]at e;rw[aN,aa,al (by omega),Dh e];exact auY c g p q t u w xs f r.1 (d+v.toNat+1) n (by omega) (by omega) (by omega)
    .rw[ag l]at e;rw[Fe.2 l,ae,iD e]
def axM {b:List Int}(a:di b)(c:Int×Int):En F0 c b=some ((dV c b).1,((dV c b).2:Int),()):=by have d:=a.1;rw[aii,amv,ai];exact auY c a 0 0 0 _ _ [] (b.length+1) kg 0 _ (aR _) (by omega) (by rw[bz];omega)
def aFT {b:List Int}{a:Nat}{v:Int}{a':Nat}(h:rH b a=some (v,a')):adE b a=if v>(b.length:Int)-a' then none else some (strOf (YB b a' (a'+v.toNat)),a'+v.toNat):=by unfold adE;rw[h];rfl
def aFU {b:List Int}{a:Nat}(h:rH b a=none):adE b a=none:=by unfold adE;rw[h]
def ard (c:Int×Int){b:List Int}(g:di b)(o p q:Int)(t u:ByteArray)(xs:List Int):∀(f:Nat) (s:bf) (a n:Nat),a<=b.length->b.length+1<=a+f->f<n ->
  oO F0 (pY F0) n (ln b (a:Int) c.1 c.2 o p q t u s.1 s.2.1 s.2.2.1.1 s.2.2.1.2.1 s.2.2.2 xs s.2.2.1.2.2)=some ((Gf c b f s a).1,((Gf c b f s a).2:Int),())
 |0,s,a,n,i,z,A=>by omega
 |f+1,s,a,n,i,z,A=>by
  obtain⟨n,rfl⟩:∃m,n=m+1:=⟨n-1,by omega⟩;have C:=g.1;have bad:nR F0 b (a:Int)=some (ak,0,false,())->Ik c b a=none->oO F0 (pY F0) (n+1) (ln b (a:Int) c.1 c.2 o p q t u s.1 s.2.1 s.2.2.1.1 s.2.2.1.2.1 s.2.2.2 xs s.2.2.1.2.2)=some ((Gf c b (f+1) s a).1,((Gf c b (f+1) s a).2:Int),()):=by intro law e;rw[F2,law,ai,L5,iD e];rfl
  cases j:rH b a with
  |none=>exact bad (by rw[JK g i,aFU j];rfl) (Dg j)
  |some r =>
   obtain⟨v,d⟩:=r;have D:=Zs g i j;have e:=Df (c:=c) j;have k:=aFT j;by_cases w:v>(b.length:Int)-d
   .rw[ag w]at k;rw[ag (show v>=(b.length:Int)-d by omega)]at e;exact bad (by rw[JK g i,k];rfl) e
   .rw[af w]at k;have law:nR F0 b (a:Int)=some (strOf (YB b d (d+v.toNat)),((d+v.toNat:Nat):Int),true,()):=by rw[JK g i,k];rfl
    rw[F2,law,ai,L5];dsimp only;rw[aN,aa];by_cases x:v>=(b.length:Int)-d
    .rw[ag x]at e;rw[aL (show((d+v.toNat:Nat):Int)>=(b.length:Int) by omega),ae,iD e]
    .have B:d+v.toNat<b.length:=by omega
     rw[af x]at e;rw[aQ (show ¬((d+v.toNat:Nat):Int)>=(b.length:Int) by omega),aa,an B,ab,kq];by_cases l:b.getD (d+v.toNat) 0=10
     .have E:((strOf (YB b d (d+v.toNat))).size:Int)<=1048576:=by have:=(agG g d (d+v.toNat)).1;show((((YB b d (d+v.toNat)).map fun n=>UInt8.ofNat n.toNat).toArray.size:Nat):Int)<=1048576;rw[List.size_toArray,pj];omega
      rw[af (fun h=>h l)]at e;rw[show(b.getD (d+v.toNat) 0 != 10)=false from Tr.2 l,aa,show((c.1,c.2):Int×Int)=c from rfl,aL (show((strOf (YB b d (d+v.toNat))).size:Int)<=F0.mem by rw[aHf];omega),ab,aFS (agG g _ _),az0 (agG g _ _),ai];dsimp only;generalize oh c (YB b d (d+v.toNat))=r at e ⊢;cases y:r.2 with
      |false =>
       rw[y,af (by decide)]at e;rw[ed,ae,iD e]
      |true =>
       rw[y,ag rfl]at e;rw[aN,aa,al (by omega),Dh e];exact ard c g o p q t u xs f r.1 (d+v.toNat+1) n (by omega) (by omega) (by omega)
     .rw[ag l]at e;rw[Fe.2 l,ae,iD e]
def ab5 {b:List Int}(a:di b)(c:Int×Int):uo F0 c b=some ((dV c b).1,((dV c b).2:Int),()):=by have d:=a.1;rw[ai1,ane,ai];exact ard c a 0 0 0 _ _ [] (b.length+1) kg 0 _ (aR _) (by omega) (by rw[bz];omega)
def aEJ (c:Int×Int){b:List Int}(e:di b):∀(f:Nat) (s:bf) (a:Nat),a<=b.length->kp s->kp (Gf c b f s a).1
 |0,_,_,_,h=>h|f+1,s,a,g,h=>by
  cases d:Ik c b a with
  |none =>
   rw[iD d];exact h
  |some r =>
   obtain⟨i,j⟩:=r;have:=az1 e g d;rw[Dh d];exact aEJ c e f i j this.2.1 this.2.2
def aCA (c:Int×Int){b:List Int}(a:di b):kp (dV c b).1:=aEJ c a _ _ _ (aR _) auX
def eO (a b:bf):Bool:=(a.1==b.1)&&((a.2.1==b.2.1)&&(gy a.2.2.1 b.2.2.1&&(a.2.2.2.toList==b.2.2.2.toList)))
def axN {a b:bf}(c:kp a)(d:kp b):DX F0 a b=some (eO a b,()):=by rw[ahY,ajm c.1 d.1,ai];unfold eO;cases (a.1==b.1)<;>cases (a.2.1==b.2.1)<;>cases gy a.2.2.1 b.2.2.1<;>rfl
def ab6 {a b:bf}(c:kp a):ug F0 a b=some (eO a b,()):=by rw[aiG,Mo c.1,ai];unfold eO;cases (a.1==b.1)<;>cases (a.2.1==b.2.1)<;>cases gy a.2.2.1 b.2.2.1<;>rfl
def auZ (c:Int×Int)(r:aw):Bool:=ng c r&&(eO (dV c r.2.2.2.2.2.2.1.1).1 r.2.2.2.1&&(((dV c r.2.2.2.2.2.2.1.1).2:Int)==(r.2.2.2.2.2.2.1.1.length:Int)))
def aFV {r:aw}(h:aq6 r)(a:di r.2.2.2.2.2.2.1.1)(c:Int×Int):Zm F0 c r=some (auZ c r,()):=by rw[axm,ab5 a,ai,dS h,ai,ab6 (aCA c a),ai];unfold auZ;cases ng c r<;>cases eO (dV c r.2.2.2.2.2.2.1.1).1 r.2.2.2.1<;>rfl
def rp (w:ah)(i:Nat):aw:=w.2.2.1.getD ((aD w).getD i 0).toNat ab4
def au0 {w:ah}{i j:Nat}(hi:i<(aD w).length)(e:(aD w)[i]=(j:Int))(a:j<w.2.2.1.length):rp w i=w.2.2.1[j]:=by unfold rp;rw[aJ hi,e,gz,aJ a]
def are (w:ah)(i k:Nat):Bool:= !(((w.2.2.2.2.getD k Mr).2.2==(aD w).getD i 0)&&decide ((w.2.2.2.2.getD k Mr).1>(rp w i).2.2.2.1.1))
def axO (w:ah)(i:Nat):Bool:=auZ w.1 (rp w i)&&(List.range w.2.2.2.2.length).all (are w i)
def arf (w:ah):Bool:=fg w&&(List.range (aD w).length).all (axO w)
def aHP (w:ah):Prop:=∀r∈w.2.2.1,di r.2.2.2.2.2.2.1.1
def aFW {V:Type}(a b:Bool)(x y:V):br a (br b x y) y=if (!(a&&b))=true then y else x:=by cases a<;>cases b<;>rfl
def aHQ {w:ah}(h:kt w){γ:Type}(J:Ex->St->Option γ)(n:Nat){i:Nat}(hi:i<(aD w).length) :
  jN F0 (j7 F0 J n) F0.n (gw (aD w)[i] ((aD w).length:Int) (i:Int) w.2.2.2.2 (w.2.2.2.2.length:Int) 0 w.1.1 w.1.2 w.2.1 w.2.2.1 w.2.2.2.1 w.2.2.2.2 (aD w)) =
  if (List.range w.2.2.2.2.length).all (are w i)=true then mZ F0 J n (j8 ((aD w).length:Int) ((i+1:Nat):Int) w.1.1 w.1.2 w.2.1 w.2.2.1 w.2.2.2.1 w.2.2.2.2 (aD w)) else J .ret (oc false):=by
 have hlen:(aD w).length<=1048576:=bY (j9 w.2.1 w.2.2.1.length) h.r;have c:=h.s;obtain⟨d,e,b⟩:=o9 hi;refine er (fun m k=>jN F0 (j7 F0 J n) m (gw (aD w)[i] ((aD w).length:Int) (i:Int) w.2.2.2.2 (w.2.2.2.2.length:Int) k w.1.1 w.1.2 w.2.1 w.2.2.1 w.2.2.2.1 w.2.2.2.2 (aD w))) w.2.2.2.2.length (are w i) _ _ (fun m k a=>?_) (fun m=>?_) _ (by rw[bz];omega)
 .unfold are;rw[Ca,aM a,ae,an a,ab,e,an b,aV a,aV b,ab,aae,al (by omega),aFW,aJ a,au0 hi e b,aJ hi,e]
 .rw[Ca,aC,aa,Yi,al (by omega)]
def arh {w:ah}(h:kt w)(d:aHP w):BA F0 w=some (arf w,()):=by
 have hlen:(aD w).length<=1048576:=bY (j9 w.2.1 w.2.2.1.length) h.r;rw[age,gP h,ai,nu h,ai];dsimp only;rw[er (fun m k=>mZ F0 (od F0) m (j8 ((aD w).length:Int) k w.1.1 w.1.2 w.2.1 w.2.2.1 w.2.2.2.1 w.2.2.2.2 (aD w))) (aD w).length (axO w) (some (true,())) (some (false,())) (fun m k a=>?_) (fun m=>?_) _ (by rw[bz];omega),rG]
 .unfold arf;cases fg w<;>rfl
 .obtain⟨f,e,b⟩:=o9 a;have c:=bJ b;rw[Cb,aM a,ae,an a,ab,aV a,aHQ h _ _ a,e,an b,ab,aV b,show((w.1.1,w.1.2):Int×Int)=w.1 from rfl,aFV (h.rl _ c) (d _ c),ai,aaf];unfold axO;rw[au0 a e b];dsimp only;cases auZ w.1 w.2.2.1[f]<;>rfl
 .rw[Cb,aC,aa,Yj]
def YC {l:hJ}(g:VG l){list:List dH}(m:list.length<=1048576):rA F0 l list=some (eY l list,hK l list,()):=by
 rw[aqs,Yp (by have:=g.1;omega) (by have:=g.2;omega),ai];refine cv (fun n i (z:List Int×hJ)=>ET F0 (G7 F0) n (vL list (list.length:Int) i z.1 [] [] z.2.1 z.2.2)) list.length (fun k z=>z.1=hK l (list.take k)/\z.2=eY l (list.take k)) _ (fun n k z e f=>.inr ⟨(z.1++[(en z.2 list[k]).2],(en z.2 list[k]).1),?_,?_⟩) (fun n z f=>?_) F0.n 0 ([],l) (aR _) ⟨rfl,rfl⟩ (by rw[bz];omega)
 .obtain⟨d,c⟩:=f;have h:VG z.2:=by rw[c];exact JH g
  have o:z.1.length<=1048576:=by rw[d,JI,bB];omega
  rw[LW,aM e,ae,an e,ab,ab2 e]
  try rw[aL4]
  rw[aqU (l:=(z.2.1,z.2.2)) (by have:=h.1;show z.2.1.length<=_;omega) (by have:=h.2;show z.2.2.length<=_;omega),ai];simp only;rw[ar (a:=z.1.length) (b:=[(en (z.2.1,z.2.2) list[k]).2].length) (k:=8) (by omega) (by omega) (by simp only[aW,bm];omega),ab,al (by omega)]
 .obtain⟨d,c⟩:=f;have j:list.take (k+1)=list.take k++[list[k]]:=by rw[MI,om e];rfl
  refine⟨?_,?_⟩
  .rw[j,S1,<-d,<-c];rfl
  .rw[j,OP,<-c]
 .obtain⟨d,c⟩:=f;rw[kl]at d c;rw[LW,aC,aa,af2,d,c]
def aCB {l:List UInt8}(f:l.length<=1073741824):ry F0 (tx l)=some ((a6 l).1.flatMap (·.2),()):=by
 rw[atu,SZ f,ai];have hlen:=rE l;have dd:=SY l;generalize h:(a6 l).1=ss at hlen dd;refine cv (fun n i xs=>Jx F0 (LQ F0) n (Be (ss.length:Int) i xs ss)) ss.length (fun k xs=>xs=(ss.take k).flatMap (·.2)) _ (fun n k xs c d=>.inr ⟨_,?_,rfl⟩) (fun n xs d=>?_) F0.n 0 [] (aR _) rfl (by rw[bz];omega)
 .have j:=(dd _ (bJ c)).2.2.1;have e:=agq (ss:=ss.take k) fun x e=>dd x (aam e)
  rw[<-d,bB]at e;rw[Ox,aM c,ae,an c,ab,ab2 c,ar (a:=xs.length) (b:=ss[k].2.length) (k:=32) (by omega) (by omega) (by omega),ab,al (by omega),d];have g:(ss.take (k+1)).flatMap (·.2)=(ss.take k).flatMap (·.2)++ss[k].2:=by rw[show ss.take (k+1)=ss.take k++[ss[k]] by rw[MI,om c];rfl,avF];simp
  rw[g]
 .rw[kl]at d;rw[Ox,aC,aa,aiP,d]
def VH (b:ByteArray):List dH:=(a6 b.data.toList).1.flatMap (·.2)
def BF (b:ByteArray):(VH b).length<=60:=by have a:=agq (SY b.data.toList);have c:=rE b.data.toList;unfold VH;omega
def az2 {b:ByteArray}(h:b.size<=1048576):wq F0 b=some (VH b,()):=aFD (Vi h)
def ajq {b:ByteArray}(h:b.size<=1048576):ry F0 b=some (VH b,()):=aCB (Vi h)
def Mu:VG S0:=⟨rfl,rfl⟩
def iY (c:Int×Int)(r:aw):hJ:=if ng c r=true then eY S0 (VH r.2.2.2.1.2.2.2) else ([],[])
def aFX {r:aw}(h:aq6 r)(c:Int×Int):Li F0 c r=some (iY c r,()):=by have a:=BF r.2.2.2.1.2.2.2;rw[as6,ib h,ai,ab1,ai,az2 h.s.2,ai,aqV Mu (bY (BF _) (by omega)),ai];unfold iY;cases ng c r<;>rfl
def ari {r:aw}(h:aq6 r)(c:Int×Int):lN F0 c r=some (iY c r,()):=by have a:=BF r.2.2.2.1.2.2.2;rw[atv,dS h,ai,Mj,ai,ajq h.s.2,ai,YC Mu (bY (BF _) (by omega)),ai];unfold iY;cases ng c r<;>rfl
def az3 (c:Int×Int)(r:aw):(iY c r).1.length<=4:=by
 unfold iY;split
 .exact Nat.le_of_eq (JH Mu).1
 .exact aR _
def Vj:List Int->Int->Int
 |[],n=>n|x::l,n=>Vj l (aj (n+x))
def arj:∀(l:List Int) (x n:Int),Vj (l++[x]) n=aj (Vj l n+x)
 |[],_,_=>rfl|_::l,x,_=>arj l x _
def aCC {l:hJ}(h:l.1.length<=1048576):SU F0 l=some (Vj l.1 0,()):=by
 rw[atA];refine cv (fun n i (q:Int)=>JF F0 (L9 F0) n (By q l.1 (l.1.length:Int) i)) l.1.length (fun k q=>q=Vj (l.1.take k) 0) _ (fun n k q a b=>.inr ⟨Vj (l.1.take (k+1)) 0,?_,rfl⟩) (fun n q b=>?_) _ 0 0 (aR _) rfl (by rw[bz];omega)
 .rw[OM,aM a,ae,an a,ab,aV a,al (by omega),ei a,arj,<-b]
 .rw[OM,aC,aa,ai5,b,kl]
def RZ (c:Int):Bool:=(c==0) || (c==4)
def okP (xs:List dH)(cs:List Int)(i k:Nat):Bool:= !(RZ (cs.getD i 0)&&(RZ (cs.getD k 0)&&(((xs.getD i ni).1==(xs.getD k ni).1)&&((xs.getD i ni).2.2.2==(xs.getD k ni).2.2.2))))
def az4 (b:ByteArray):Bool:=(List.range (VH b).length).all fun i=>(List.range i).all (okP (VH b) (hK S0 (VH b)) i)
def axP (w:ah)(i:Nat):Bool:= !(Vj (iY w.1 (rp w i)).1 0 != 400)&&az4 (rp w i).2.2.2.1.2.2.2
def adJ (w:ah):Bool:=fg w&&(List.range (aD w).length).all (axP w)
def aCD {V:Type}(a b e f:Bool)(x y:V):br a (br b (br e (br f x y) y) y) y=if (!(a&&(b&&(e&&f))))=true then y else x:=by cases a<;>cases b<;>cases e<;>cases f<;>rfl
def aHR {w:ah}{d e:Int}{a:List Int}{xs:List dH}{cs:List Int}(h:cs.length=xs.length)(j:xs.length<=1048576){γ:Type}(J:Ex->St->Option γ)(n:Nat){i:Nat}(hi:i<xs.length) :
  e9 F0 (j4 F0 J n) F0.n (dR (i:Int) d e (xs.length:Int) (i:Int) (i:Int) (i:Int) 0 w.1.1 w.1.2 w.2.1 w.2.2.1 w.2.2.2.1 w.2.2.2.2 (xs[i]).1 (xs[i]).2.1 (xs[i]).2.2.1 (xs[i]).2.2.2 xs cs a) =
  if (List.range i).all (okP xs cs i)=true then jM F0 J n (gr d e (xs.length:Int) ((i+1:Nat):Int) w.1.1 w.1.2 w.2.1 w.2.2.1 w.2.2.2.1 w.2.2.2.2 xs cs a) else J .ret (wM false):=by
 refine er (fun m k=>e9 F0 (j4 F0 J n) m (dR (i:Int) d e (xs.length:Int) (i:Int) (i:Int) (i:Int) k w.1.1 w.1.2 w.2.1 w.2.2.1 w.2.2.2.1 w.2.2.2.2 (xs[i]).1 (xs[i]).2.1 (xs[i]).2.2.1 (xs[i]).2.2.2 xs cs a)) i (okP xs cs i) _ _ (fun m k f=>?_) (fun m=>?_) _ (by rw[bz];omega)
 .have g:k<xs.length:=by omega
  have b:i<cs.length:=by omega
  have c:k<cs.length:=by omega
  rw[B7,aM f,ae,an f,ab,an b,ab,aV b,azA,ai,an c,ab,aV c,azA,ai,aV g,aab,al (by omega)];dsimp only;rw[aCD];unfold okP RZ;rw[aJ hi,aJ g,aJ b,aJ c]
 .rw[B7,aC,aa,Yf,al (by omega)]
def aFY {w:ah}{c d:Int}{b:List Int}{xs:List dH}{cs:List Int}(e:cs.length=xs.length)(f:xs.length<=1048576){γ:Type}(J:Ex->St->Option γ)(n:Nat) :
  jM F0 (j5 F0 J n) F0.n (gr c d (xs.length:Int) 0 w.1.1 w.1.2 w.2.1 w.2.2.1 w.2.2.2.1 w.2.2.2.2 xs cs b) =
  if ((List.range xs.length).all fun i=>(List.range i).all (okP xs cs i))=true then mY F0 J n (j6 c (aj (d+1)) w.1.1 w.1.2 w.2.1 w.2.2.1 w.2.2.2.1 w.2.2.2.2 b) else J .ret (n9 false):=by
 refine er (fun m k=>jM F0 (j5 F0 J n) m (gr c d (xs.length:Int) k w.1.1 w.1.2 w.2.1 w.2.2.1 w.2.2.2.1 w.2.2.2.2 xs cs b)) xs.length (fun i=>(List.range i).all (okP xs cs i)) _ _ (fun m k a=>?_) (fun m=>?_) _ (by rw[bz];omega)
 .rw[B8,aM a,ae,an a,ab,show okT (k:Int) (xs.length:Int)=true by simp[okT];omega,ab,aV a,aHR e f _ _ a,aac]
 .rw[B8,aC,aa,Yg]
def ark {w:ah}(h:kt w):Bz F0 w=some (adJ w,()):=by
 have hlen:(aD w).length<=1048576:=bY (j9 w.2.1 w.2.2.1.length) h.r;rw[agc,gP h,ai,nu h,ai];dsimp only;rw[er (fun m k=>mY F0 (oa F0) m (j6 ((aD w).length:Int) k w.1.1 w.1.2 w.2.1 w.2.2.1 w.2.2.2.1 w.2.2.2.2 (aD w))) (aD w).length (axP w) (some (true,())) (some (false,())) (fun m k b=>?_) (fun m=>?_) _ (by rw[bz];omega),rG]
 .unfold adJ;cases fg w<;>rfl
 .obtain⟨a,e,c⟩:=o9 b;have d:=h.rl _ (bJ c);have f:=az3 w.1 w.2.2.1[a];have g:=BF (w.2.2.1[a]).2.2.2.1.2.2.2;rw[B9,aM b,ae,an b,ab,aV b,e,an c,ab,aV c,show((w.1.1,w.1.2):Int×Int)=w.1 from rfl,ari d,ai,aCC (by show(iY w.1 w.2.2.1[a]).1.length<=_;omega),ai,ab,ajq d.s.2,ai,Mj,ai,YC Mu (bY (BF _) (by omega)),ai,aFY (JI _ _) (bY (BF _) (by omega)),aad,al (by omega)];unfold axP;rw[au0 b e c];dsimp only;rw[show((List.range (VH (w.2.2.1[a]).2.2.2.1.2.2.2).length).all fun i=>(List.range i).all (okP (VH (w.2.2.1[a]).2.2.2.1.2.2.2) (hK S0 (VH (w.2.2.1[a]).2.2.2.1.2.2.2)) i))=az4 (w.2.2.1[a]).2.2.2.1.2.2.2 from rfl];cases (Vj (iY w.1 w.2.2.1[a]).1 0 != 400)<;>cases az4 (w.2.2.1[a]).2.2.2.1.2.2.2<;>rfl
 .rw[B9,aC,aa,Yh]
def aEK (w:ah):Bool:=auW w&&(Zu w&&(Zv w&&(adJ w&&arf w)))
def atF {w:ah}(h:kt w)(a:aHP w):gO F0 w=some (aEK w,()):=by rw[ai6,atE h,ai,anl h,ai,ann h,ai,ark h,ai,arh h a,ai];unfold aEK;cases auW w<;>cases Zu w<;>cases Zv w<;>cases adJ w<;>rfl
abbrev x9:=List Int×Int×Int
def Tb (c:x9):Prop:=c.1.length<=1048576/\0<=c.2.1/\c.2.1<=1048576
def axQ (n:Int):0<=aj ((BitVec.ofInt 64 n &&& BitVec.ofInt 64 255).toNat:Int)/\aj ((BitVec.ofInt 64 n &&& BitVec.ofInt 64 255).toNat:Int)<=255:=by
 have h:(BitVec.ofInt 64 n &&& BitVec.ofInt 64 255).toNat<=255:=by rw[BitVec.toNat_and];exact bY Nat.and_le_right (by decide)
 rw[aH (by omega) (by omega)];omega
def aEL {c:x9}(h:Tb c):∃(v:Int) (a:x9),kQ F0 c=some ((v,()),a,())/\0<=v/\v<=255/\Tb a:=by
 rw[aoG];by_cases hlt:c.2.1<(c.1.length:Int)
 .rw[aL hlt,ae,show bG c.2.1 (c.1.length:Int)=true by simp[bG];exact⟨h.2.1,hlt⟩,ab];have b:=h.1;have d:=h.2.1;refine⟨_,_,rfl,(axQ _).1,(axQ _).2,h.1,?_,?_⟩
  .show 0<=aj (c.2.1+1);rw[aH (by omega) (by omega)];omega
  .show aj (c.2.1+1)<=1048576;rw[aH (by omega) (by omega)];omega
 .rw[aQ hlt,aa];exact⟨_,_,rfl,(axQ _).1,(axQ _).2,h⟩
def agH {a n:Int}(b:0<=a)(c:0<n):0<=Int.tmod a n/\Int.tmod a n<n:=by rw[anO b];exact⟨VP _ (by omega),anR _ c⟩
def arl {c:x9}(h:Tb c){n:Int}(b:0<n)(e:n<=256):∃(v:Int) (a:x9),av F0 c n=some ((v,()),a,())/\0<=v/\v<n/\Tb a:=by obtain⟨v,a,f,d,i,g⟩:=aEL h;rw[TA,aQ (show ¬n<=0 by omega),aa,aL e,ae,f,ai,show(!(n==0))=true by rw[bU.2 (show n≠0 by omega)];rfl,ab];exact⟨_,_,rfl,(agH d b).1,(agH d b).2,g⟩
def aCE {c:x9}(h:Tb c){l:List Int}(j:0<l.length)(k:l.length<=256):∃(v:Int) (a:x9),jS F0 c l=some ((v,()),a,())/\v∈l/\Tb a:=by
 obtain⟨v,a,d,f,g,i⟩:=arl h (n:=(l.length:Int)) (by omega) (by omega);have b:v.toNat<l.length:=by omega
 rw[aeG,d,ai,show bG v (l.length:Int)=true by simp[bG];exact⟨f,g⟩,ab];refine⟨_,_,rfl,?_,i⟩;have e:v=(v.toNat:Int):=by omega
 show aI l v 0∈l;rw[e,aV b];exact bJ b
def aJG {c:x9}(h:Tb c){n:Int}(b:0<n)(d:n<=256):∃(v:Bool) (a:x9),nm F0 c n=some ((v,()),a,())/\Tb a:=by obtain⟨v,a,e,g,i,f⟩:=arl h b d;rw[aoI,e,ai];exact⟨_,_,rfl,f⟩
def aK5 {code:List Int}(h:code.length<=1048576):∃b:x9,Kw F0 code=some (((b,()),()))/\Tb b:=by
 rw[asO];suffices d:∀(a:Nat) (q:Int) (k n:Nat),k+a=code.length->a<n->∃c:Int,It F0 (Kv F0) n (yp code q (k:Int) code)=some ((((code,0,c):x9),()),()) by obtain⟨c,e⟩:=d code.length (aj (26583+(code.length:Int))) 0 F0.n (wS _) (by rw[bz];omega);exact⟨_,e,h,MK _,by show(0:Int)<=1048576;decide⟩
 intro a
 induction a with
 |zero =>
  intro q k n f g;obtain⟨n,rfl⟩:∃m,n=m+1:=⟨n-1,by omega⟩;obtain rfl:k=code.length:=by omega
  rw[MR,aC,aa,P6];exact⟨q,rfl⟩
 |succ a i =>
  intro q k n f g;obtain⟨n,rfl⟩:∃m,n=m+1:=⟨n-1,by omega⟩;have hlt:k<code.length:=by omega
  rw[MR,aM hlt,ae];cases decide ((k:Int)<4000) with
  |false =>
   rw[aa,P6];exact⟨q,rfl⟩
  |true =>
   rw[ae,an hlt,ab,al (by omega)];exact i _ (k+1) n (by omega) (by omega)
def Tc (c x:UInt8)(l:List UInt8):parts c (x::l)=if x=c then []::parts c l else match parts c l with
  |p::a=>(x::p)::a|[]=>[[x]]:=by
 conv=>lhs;unfold parts
 cases parts c l<;>rfl
def ajr {c:UInt8}:∀(a b:List UInt8),parts c (a++c::b)=parts c a++parts c b
 |[],b=>by rw[BO,Tc,ag rfl];rfl
 |x::a,b=>by
  rw[Hh,Tc c x (a++c::b),Tc c x a];by_cases d:x=c
  .rw[ag d,ag d,ajr a b];rfl
  .rw[af d,af d,ajr a b];have e:=Gb c a;cases f:parts c a with
   |nil=>exact absurd f e|cons p g=>rfl
def az5 {σ V:Type}{f:σ->List UInt8->Option (σ×V)}:∀{l m:List (List UInt8)} {s:σ} {r:List V},tK f s (l++m)=some r->∃a c,tK f s l=some a/\r=a++c/\c.length=m.length
 |[],m,s,r,h=>⟨[],r,rfl,rfl,RS h⟩|p::l,m,s,r,h=>by
  rw[Hh]at h;unfold tK at h ⊢;cases e:f s p with
  |none=>rw[e]at h;cases h
  |some x =>
   obtain⟨g,b⟩:=x;rw[e]at h;dsimp only at h ⊢;cases d:tK f g (l++m) with
   |none=>rw[d]at h;cases h
   |some n =>
    rw[d]at h;cases h;obtain⟨a,c,i,j,k⟩:=az5 d;rw[i];exact⟨b::a,c,rfl,by rw[j];rfl,k⟩
def arn {a t:List UInt8}(n:(47:UInt8) ∉ t)(h:bg (a++47::t)=true):bg a=true/\∃x,(a6 (a++47::t)).1=(a6 a).1++[x]:=by
 have o:a++47::t≠[]:=by simp
 unfold bg at h ⊢;unfold a6 at h ⊢;rw[af o,ajr,aqR n]at h ⊢;cases f:parts 47 a with
 |nil=>exact absurd f (Gb 47 a)
 |cons g c =>
  rw[f,Hh]at h;rw[Hh];dsimp only at h ⊢;by_cases d:¬g=[]\/30<(c++[t]).length
  .rw[ag d]at h;cases h
  .rw[af d]at h ⊢;have p:g=[]:=ayz fun b=>d (.inl b)
   have q:¬30<(c++[t]).length:=fun b=>d (.inr b)
   rw[aK,cR]at q;cases i:tK tn 0 (c++[t]) with
   |none=>rw[i]at h;cases h
   |some r =>
    obtain⟨s,e,j,k,l⟩:=az5 i;obtain⟨x,rfl⟩:∃x,e=[x]:=by
     cases e with
     |nil=>cases l
     |cons x e =>
      cases e with
      |nil=>exact⟨x,rfl⟩|cons _ _=>simp at l
    by_cases m:a=[]
    .subst m;have:c=[]:=by have:=f;unfold parts at this;exact(tO this).2.symm
     subst this;cases j;rw[ag rfl];exact⟨rfl,x,k⟩
    .rw[af m,af (fun b=>b.elim (fun b=>b p) (fun b=>by omega)),j];exact⟨rfl,x,k⟩
def oi (l:List dH):List UInt8:=Lib.join (l.map txL) [44]
def OV (l:List dH):List UInt8:=if l.all gx=true then oi l else []
def aJH {l:List dH}(h:l.all gx=true):∀x∈l.map txL,x.length<=90:=by intro x a;obtain⟨y,b,rfl⟩:=Fc.1 a;exact aqN (ek.1 h y b)
def Mv {l:List dH}(h:l.all gx=true):(oi l).length<=91*l.length:=by have:=aJk (aJH h) 44;rw[pj]at this;exact this
def agI {l:List dH}{k:Nat}(a:k<l.length):(l.take (k+1)).all gx=((l.take k).all gx&&gx l[k]):=by rw[MI,om a,List.all_append];simp
def PI {U V:Type}{l:List U}{f:U->V}{k:Nat}(a:k<l.length):(l.take (k+1)).map f=(l.take k).map f++[f l[k]]:=by rw[MI,om a,aeb];rfl
def JM {l:List dH}{k:Nat}(a:k<l.length)(h:gx l[k]=false):l.all gx=false:=by rw[ahk];exact⟨l[k],bJ a,by simp[h]⟩
def au1 {x:dH}(h:gx x=true):adx x=txL x:=ag h
def az6 {l:List dH}(h:l.length<=1048576):IQ F0 l=some (tx (OV l),()):=by
 rw[al0];refine cv (fun n i (c:ByteArray)=>q3 F0 (r4 F0) n (mr l c i)) l.length (fun k c=>(l.take k).all gx=true/\c=tx (oi (l.take k))) _ (fun n k c a f=>?_) (fun n c f=>?_) _ 0 _ (aR _) ⟨rfl,rfl⟩ (by rw[bz];omega)
 .obtain⟨b,rfl⟩:=f;have g:=Mv b;rw[bB,aec (by omega)]at g;rw[Hu,aM a,ae,an a,ab,ab2 a,RQ,ai,ae0];dsimp only;cases d:gx l[k]with
  |false =>
   left;rw[ed,ae,OV,JM a d];rfl
  |true =>
   right;have o:=aqN d;refine⟨tx (oi (l.take (k+1))),?_,by rw[agI a,b,d];rfl,rfl⟩;rw[aN,aa,ab,ab,aqO,ai,ai,au1 d,show ByteArray.mk #[44]=tx [44] from rfl,gh];dsimp only;rw[ig (by rw[bD,bD,cR];omega),ab,ig (by rw[bD,bD,aK,cR];omega),ab,ig (by rw[bD,bD];omega),ab,gh,gh,al (by omega)];by_cases j:k=0
   .subst j;rw[show decide (((0:Nat):Int)>0)=false from rfl,aa,show oi (l.take (0+1))=oi (l.take 0)++txL l[0] by rw[oi,PI a];simp[oi,Lib.join_one,Lib.join_nil]]
   .have m:(l.take k).map txL≠[]:=by intro e;have:=nk List.length e;rw[pj,bB,bm]at this;omega
    rw[aL (show(k:Int)>0 by omega),ae,show oi (l.take (k+1))=oi (l.take k)++[44]++txL l[k] by rw[oi,PI a,aFx m];rfl]
 .obtain⟨b,rfl⟩:=f;rw[kl]at b ⊢;rw[Hu,aC,aa,acP,OV,ag b]
def aJI (l:List dH):((l.map fun x=>tx (txL x)).map fun b=>b.data.toList)=l.map txL:=by rw[List.map_map];exact List.map_congr_left fun n _=>fv _
def axR {l:List dH}(h:l.length<=524288):Jz F0 l=some (tx (OV l),()):=by
 rw[am7];refine cv (fun n i (c:List ByteArray)=>Bk F0 (s6 F0) n (s5 l (l.length:Int) i c)) l.length (fun k c=>(l.take k).all gx=true/\c=(l.take k).map fun x=>tx (txL x)) _ (fun n k c a d=>?_) (fun n c d=>?_) F0.n 0 [] (aR _) ⟨rfl,rfl⟩ (by rw[bz];omega)
 .obtain⟨b,rfl⟩:=d;rw[H3,aM a,ae,an a,ab,ab2 a,Db,ai,af6];dsimp only;cases e:gx l[k]with
  |false =>
   left;rw[ed,ae,OV,JM a e];rfl
  |true =>
   right;refine⟨(l.take (k+1)).map fun x=>tx (txL x),?_,by rw[agI a,b,e];rfl,rfl⟩;rw[aN,aa,akS,ai,au1 e,ar (by omega) (by omega) (by rw[pj,bB,cR];omega),ab,al (by omega),PI a]
 .obtain⟨b,rfl⟩:=d;rw[kl]at b ⊢;rw[H3,aC,aa,adk,show ByteArray.mk #[44]=tx [44] from rfl,ajc (aJI l) (by rw[pj];omega) (by have:=Mv b;unfold oi at this;omega),ai,OV,ag b];rfl
def OW (up:List UInt8)(view:Int)(l:List dH):List UInt8:=up++[47]++Lib.itoa view++[124]++oi l
def Td (up:List UInt8)(view:Int)(l:List dH):List UInt8:=if l.all gx=true/\bg (OW up view l)=true then OW up view l else []
def adK (up:List UInt8){view:Int}(a:I64 view){l:List dH}(b:l.all gx=true):(OW up view l).length<=up.length+23+91*l.length:=by have:=Mv b;have:=SW a;simp only[OW,aK,cR];omega
def aro {up:List UInt8}(f:up.length<=1048576){view:Int}(c:I64 view){l:List dH}(h:l.length<=1048576):kX F0 (tx up) view l=some (tx (Td up view l),()):=by
 have g:=SW c;rw[apb];refine cv (fun n i (_:Unit)=>DR F0 (u5 F0) n (u4 (tx up) view l i)) l.length (fun k _=>(l.take k).all gx=true) _ (fun n k out b a=>?_) (fun n out a=>?_) _ 0 () (aR _) rfl (by rw[bz];omega)
 .rw[KY,aM b,ae,an b,ab,ab2 b,RQ,ai,ahV];dsimp only;cases d:gx l[k]with
  |false =>
   left;rw[ed,ae,Td,af (by rw[JM b d];simp)];rfl
  |true =>
   right;exact⟨(),by rw[aN,aa,al (by omega)],by rw[agI b,a,d];rfl⟩
 .rw[kl]at a;have j:=Mv a;have e:=adK up c a;rw[KY,aC,aa,ae1,C9 c,ai,az6 h,ai,OV,ag a,show ByteArray.mk #[47]=tx [47] from rfl,show ByteArray.mk #[124]=tx [124] from rfl];dsimp only;rw[ig (by rw[bD,bD,cR];omega),ab,gh,ig (by rw[bD,bD,aK,cR];omega),ab,gh,ig (by rw[bD,bD,aK,aK,cR,cR];omega),ab,gh,
   ig (by rw[bD,bD,aK,aK,aK,cR,cR];omega),ab,gh,show up++[47]++Lib.itoa view++[124]++oi l=OW up view l from rfl,S2 (by omega),ai,Td]
  dsimp only;cases e:bg (OW up view l) with
  |false=>rw[af (by simp)];rfl
  |true=>rw[ag ⟨a,rfl⟩];rfl
def az7 {up:List UInt8}(f:up.length<=1048576){view:Int}(c:I64 view){l:List dH}(h:l.length<=2):FZ F0 (tx up) view l=some (tx (Td up view l),()):=by
 have g:=SW c;rw[aqx];refine cv (fun n i (_:Unit)=>EY F0 (vT F0) n (vS (tx up) view l l (l.length:Int) i)) l.length (fun k _=>(l.take k).all gx=true) _ (fun n k out b a=>?_) (fun n out a=>?_) _ 0 () (aR _) rfl (by rw[bz];omega)
 .rw[L1,aM b,ae,an b,ab,ab2 b,Db,ai,aiX];dsimp only;cases d:gx l[k]with
  |false =>
   left;rw[ed,ae,Td,af (by rw[JM b d];simp)];rfl
  |true =>
   right;exact⟨(),by rw[aN,aa,al (by omega)],by rw[agI b,a,d];rfl⟩
 .rw[kl]at a;have j:=Mv a;have e:=adK up c a;rw[L1,aC,aa,af7,RP c,ai,axR (by omega),ai,OV,ag a,show ByteArray.mk #[47]=tx [47] from rfl,show ByteArray.mk #[124]=tx [124] from rfl];dsimp only;rw[ig (by rw[bD,bD,cR];omega),ab,gh,ig (by rw[bD,bD,aK,cR];omega),ab,gh,ig (by rw[bD,bD,aK,aK,cR,cR];omega),ab,gh,
   ig (by rw[bD,bD,aK,aK,aK,cR,cR];omega),ab,gh,show up++[47]++Lib.itoa view++[124]++oi l=OW up view l from rfl,OQ (by omega),ai,Td]
  dsimp only;rw[aQ (show ¬((l.length:Int)>2) by omega),aa];cases e:bg (OW up view l) with
  |false=>rw[af (by simp)];rfl
  |true=>rw[ag ⟨a,rfl⟩];rfl
def Gd {U:Type}(X:Option U)(P:U->Prop):Prop:=∃v,X=some v/\P v
abbrev DrT (U:Type):=(U×Unit)×(x9×Unit)
def Dr {U:Type}(X:Option (DrT U))(Q:U->Prop):Prop:=Gd X fun z=>Q z.1.1/\Tb z.2.1
def Gd.bind {U V:Type}{X:Option U}{P:U->Prop}(h:Gd X P){f:U->Option V}{R:V->Prop}(a:∀v,P v->Gd (f v) R):Gd (X.bind f) R:=by obtain⟨v,rfl,b⟩:=h;exact a v b
def Dr.bind {U V:Type}{X:Option (DrT U)}{Q:U->Prop}(h:Dr X Q){f:DrT U->Option V}{R:V->Prop}(a:∀z:DrT U,Q z.1.1->Tb z.2.1->Gd (f z) R):Gd (X.bind f) R:=by obtain⟨z,rfl,b,c⟩:=h;exact a z b c
def Gd.let {U V:Type}{X:Option U}{v:U}(h:X=some v){f:U->Option V}{R:V->Prop}(a:Gd (f v) R):Gd (X.bind f) R:=by subst h;exact a
def Gd.ret {U:Type}{v:U}{P:U->Prop}(h:P v):Gd (some v) P:=⟨v,rfl,h⟩
def Gd.br {U:Type}{c:Bool}{x y:Option U}{P:U->Prop}(a:c=true->Gd x P)(b:c=false->Gd y P):Gd (br c x y) P:=by
 cases c with
 |true=>exact a rfl|false=>exact b rfl
def Gd.ck {U:Type}{c:Bool}{x:Option U}{P:U->Prop}(a:c=true)(b:Gd x P):Gd (ck c x) P:=by subst a;exact b
def Gd.br0 {U:Type}{c:Bool}{x y:Option U}{P:U->Prop}(h:c=false)(a:Gd y P):Gd (Am.br c x y) P:=by subst h;exact a
def anD {ζ V:Type}(X:Nat->Int->ζ->Option V)(L:Nat)(I:Nat->ζ->Prop)(P:V->Prop)
  (c:∀n k z,k<L->I k z->(∀a,I (k+1) a->Gd (X n ((k+1:Nat):Int) a) P)->Gd (X (n+1) (k:Int) z) P) (d:∀n z,I L z->Gd (X (n+1) (L:Int) z) P) :
  ∀n k z,k<=L->I k z->L-k<n->Gd (X n (k:Int) z) P:=by
 intro n
 induction n with
 |zero=>intro k z _ _ h;omega
 |succ n e =>
  intro k z g b i;by_cases h:k=L
  .subst h;exact d n z b
  .exact c n k z (by omega) b fun a f=>e (k+1) a (by omega) f (by omega)
def anE {c:x9}(h:Tb c):Dr (U:=Int) (kQ F0 c) fun v=>0<=v/\v<=255:=by obtain⟨v,f,e,a,b,d⟩:=aEL h;exact⟨_,e,⟨a,b⟩,d⟩
def aJJ {x y z w:Int}(a:0<=x)(b:x<=255)(c:0<=y)(d:y<=255)(e:0<=z)(f:z<=255)(w0:0<=w)(w1:w<=255):0<=aj (aj (aj (aj (x*16777216)+aj (y*65536))+aj (z*256))+w):=by rw[aH (n:=x*16777216) (by omega) (by omega),aH (n:=y*65536) (by omega) (by omega),aH (n:=z*256) (by omega) (by omega),aH (n:=x*16777216+y*65536) (by omega) (by omega),aH (n:=x*16777216+y*65536+z*256) (by omega) (by omega),aH (by omega) (by omega)];omega
def hO {c:x9}(h:Tb c){n:Int}(a:0<n)(r:n<=9223372036854775807):Dr (U:=Int) (av F0 c n) fun v=>0<=v/\v<n:=by
 by_cases b:n<=256
 .obtain⟨v,s,e,j,k,l⟩:=arl h a b;exact⟨_,e,⟨j,k⟩,l⟩
 .unfold Dr;rw[TA];refine Gd.br0 (aQ (by omega)) (Gd.br0 (aQ b) ?_);refine Dr.bind (anE h) fun x d m=>Dr.bind (anE m) fun y f o=>Dr.bind (anE o) fun z g p=>Dr.bind (anE p) fun w i q=>Gd.ck ?_ (Gd.ret ⟨?_,q⟩)
  .rw[bU.2 (show n≠0 by omega)];rfl
  .exact agH (aJJ d.1 d.2 f.1 f.2 g.1 g.2 i.1 i.2) a
def anF {c:x9}(h:Tb c){n:Int}(a:0<n)(b:n<=256):Dr (U:=Bool) (nm F0 c n) fun _=>True:=by obtain⟨v,f,e,d⟩:=aJG h a b;exact⟨_,e,trivial,d⟩
def adL {c:x9}(h:Tb c){l:List Int}(a:0<l.length)(b:l.length<=256):Dr (U:=Int) (jS F0 c l) fun v=>v∈l:=by obtain⟨v,g,e,d,f⟩:=aCE h a b;exact⟨_,e,d,f⟩
def aK6 {code:List Int}(h:code.length<=1048576):Gd (Kw F0 code) fun z=>Tb z.1.1:=by obtain⟨c,e,a⟩:=aK5 h;exact⟨_,e,a⟩
def aL5 {x y z w:Int}(b:0<=x)(c:x<4)(d:0<=y)(e:y<4)(a:z∈[(0:Int),5,60,100,1000])(w0:0<=w)(w1:w<3):gx (x,y,z,w)=true:=by simp only[cS,aci,or_false]at a;simp only[gx,inB,aG,bV];rcases a with rfl|rfl|rfl|rfl|rfl<;>omega
def au2 {c:x9}(h:Tb c):Dr (U:=dH) (mu F0 c) fun v=>gx v=true:=by
 unfold Dr;rw[ZT];refine Dr.bind (hO h (n:=4) (by omega) (by omega)) fun x a e=>Dr.bind (hO e (n:=4) (by omega) (by omega)) fun y b f=>Dr.bind (adL f (l:=[0,5,60,100,1000]) (by decide) (by decide)) fun z g i=>Dr.bind (hO i (n:=3) (by omega) (by omega)) fun w d j=>Gd.ret ⟨?_,j⟩
 exact aL5 a.1 a.2 b.1 b.2 g d.1 d.2
def au3 {up:List UInt8}{view:Int}(a:I64 view)(l:List dH):(Td up view l).length<=up.length+23+91*l.length:=by
 unfold Td;split
 .rename_i h;exact adK up a h.1
 .exact aR _
def arp {l h n:Int}(a:0<=l)(b:l<=h)(c:h<=n):Tx l h n=true:=by simp[Tx,a,b,c]
def arq (l:List UInt8):∀(k:Nat),k<=l.length->(gE l k=0/\∀a,a<k->l.getD a 0≠47)\/(0<gE l k/\gE l k<=k/\l.getD (gE l k-1) 0=47/\∀a,gE l k<=a->a<k->l.getD a 0≠47)
 |0,_=>.inl ⟨rfl,fun a h=>absurd h (Ts _)⟩
 |k+1,n=>by
  have f:∀b:UInt8,((b.toNat:Int) != 47)=true↔b≠47:=by
   intro b;rw[Fe];constructor
   .rintro h rfl;exact h rfl
   .intro h c;refine h (UInt8.toNat_inj.1 ?_);show b.toNat=47;omega
  unfold gE;split
  .rename_i h;rw[f]at h;rcases arq l k (by omega) with ⟨d,c⟩|⟨d,c,g,i⟩
   .refine .inl ⟨d,fun a o=>?_⟩;by_cases e:a=k
    .rw[e];exact h
    .exact c a (by omega)
   .refine .inr ⟨d,by omega,g,fun a j p=>?_⟩;by_cases e:a=k
    .rw[e];exact h
    .exact i a j (by omega)
  .rename_i h;rw[f]at h;refine .inr ⟨ahm _,bF _,ayz fun m=>h m,fun a d c=>by omega⟩
def YD {l:List UInt8}(h:bg l=true)(b:l≠[]):∃t,(47:UInt8) ∉ t/\l=fV l++47::t:=by
 have j:0<gE l l.length:=by obtain⟨t,rfl⟩:=aq5 h b;exact ajo _ (ahm _)
 rcases arq l l.length (bF _) with ⟨k,_⟩|⟨_,m,a,c⟩
 .omega
 .have hlt:gE l l.length-1<l.length:=by omega
  have d:fV l=l.take (gE l l.length-1):=by unfold fV;rw[ag h]
  refine⟨l.drop (gE l l.length),fun f=>?_,?_⟩
  .obtain⟨g,i,e⟩:=ajV f;rw[List.getElem_drop]at e;rw[bc]at i;refine c (gE l l.length+g) (by omega) (by omega) ?_;rw[Fa,om (by omega)];exact e
  .rw[d]
   conv=>lhs;rw[<-aal (gE l l.length-1) l]
   congr 1
   rw[VK hlt];rw[Fa,om hlt]at a;rw[show l[gE l l.length-1]=47 from a,show gE l l.length-1+1=gE l l.length by omega]
def Di {l:List UInt8}(h:bg l=true):bg (fV l)=true:=by
 by_cases a:l=[]
 .subst a;rfl
 .obtain⟨t,b,e⟩:=YD h a;exact(arn b (e▸h)).1
def aHS {l:List UInt8}(h:bg l=true)(a:l≠[]):(fV l).length<l.length:=by obtain⟨t,_,e⟩:=YD h a;have:=nk List.length e;rw[aK,aW]at this;omega
def agJ {l:List UInt8}(h:bg l=true)(b:l≠[]):∃x,(a6 l).1=(a6 (fV l)).1++[x]/\aE l=x.1:=by obtain⟨t,c,e⟩:=YD h b;obtain⟨_,x,a⟩:=arn c (e▸h);rw[<-e]at a;refine⟨x,a,?_⟩;unfold aE;rw[a,List.getLast?_append];rfl
def aMZ (r:List RT):Int:=match r.getLast? with|some s=>s.1|none=>0
def au4:∀{ps:List (List UInt8)} {c:Int} {r1:List RT} {x:RT},tK tn c ps=some (r1++[x])->(match r1.getLast? with|some s=>s.1|none=>c)<x.1
 |[],c,r1,x,h=>by cases r1<;>cases h
 |p::ps,c,r1,x,h=>by
  unfold tK at h;cases a:tn c p with
  |none=>rw[a]at h;cases h
  |some y =>
   obtain⟨i,b⟩:=y;rw[a]at h;dsimp only at h;have j:=Yo a;have hlt:c<b.1:=by
    unfold tn at a;split at a
    .rename_i k;cases a;exact k.2.2.2.1
    .cases a
   cases d:tK tn i ps with
   |none=>rw[d]at h;cases h
   |some r =>
    rw[d]at h;have h:=eV h;cases r1 with
    |nil =>
     obtain⟨e,f⟩:=tO h;rw[<-e];exact hlt
    |cons z r1 =>
     obtain⟨e,f⟩:=tO h;rw[f]at d;have:=au4 d;rw[j.2]at this;rw[<-e];cases r1 with
     |nil=>exact this
     |cons w r1 =>
      rw[List.getLast?_cons_cons];cases g:(w::r1).getLast? with
      |none=>exact absurd (List.getLast?_eq_none_iff.1 g) (by simp)
      |some s =>
       rw[g]at this;exact this
def anG {l:List UInt8}(h:bg l=true)(d:l≠[]):aE (fV l)<aE l:=by
 obtain⟨x,b,f⟩:=agJ h d;rw[f];have a:=h;unfold bg at a;unfold a6 at a b;rw[af d]at a b;cases e:parts 47 l with
 |nil=>rw[e]at a;cases a
 |cons j g =>
  rw[e]at a b;dsimp only at a b;split at a
  .cases a
  .rename_i i;rw[af i]at b;cases c:tK tn 0 g with
   |none=>rw[c]at a;cases a
   |some r =>
    rw[c]at b;dsimp only at b;rw[show r=_ from b]at c;exact au4 c
def ajs (c:UInt8):∀l:List UInt8,l.length+1=((parts c l).map fun p=>p.length+1).sum
 |[]=>rfl|x::l=>by
  have a:=ajs c l;rw[Tc];split
  .rw[tf,VR,<-a,aW,bm];omega
  .have d:=Gb c l;cases b:parts c l with
   |nil=>exact absurd b d
   |cons p e =>
    rw[b]at a;rw[tf,VR]at a ⊢;rw[aW,aW];omega
def aCF {U:Type}{f:U->Nat}{b:Nat}:∀{l:List U},(∀x∈l,f x<=b)->(l.map f).sum<=b*l.length
 |[],_=>aR _|x::l,h=>by
  have c:=h x p3;have d:=aCF fun y a=>h y (jO x a)
  rw[tf,VR,aW,Nat.mul_succ];omega
def ajt {σ V:Type}{f:σ->List UInt8->Option (σ×V)}{Q:List UInt8->Prop}(e:∀s p c b,f s p=some (c,b)->Q p):∀{P:List (List UInt8)} {s:σ} {r:List V},tK f s P=some r->∀p∈P,Q p
 |[],_,_,_,p,a=>by cases a
 |q::P,s,r,h,p,a=>by
  unfold tK at h;cases d:f s q with
  |none=>rw[d]at h;cases h
  |some y =>
   obtain⟨c,b⟩:=y;rw[d]at h;dsimp only at h;cases g:tK f c P with
   |none=>rw[g]at h;cases h
   |some i =>
    rcases cS.1 a with rfl|a
    .exact e _ _ _ _ d
    .exact ajt e g p a
def aJK {l:List UInt8}(h:(aai l).2=true):l.length<=90:=by
 unfold aai at h;split at h
 .rename_i a;rw[<-a.2];exact aqN a.1
 .cases h
def aHT {l:List UInt8}(h:(lS l).2=true):l.length<=91*(lS l).1.length:=by
 unfold lS at h ⊢;split at h
 .rename_i a;rw[ag a,a];exact bF _
 .rename_i a;rw[af a];cases c:tK txF () (parts 44 l) with
  |none=>rw[c]at h;cases h
  |some r =>
   have g:=RS c;have i:=ajs 44 l;have:=aCF (f:=fun p:List UInt8=>p.length+1) (b:=91) (l:=parts 44 l) (ajt (f:=txF) (Q:=fun p=>p.length+1<=91) (fun s p j b d=>by
    unfold txF at d;split at d
    .rename_i e;have:=aJK e;omega
    .cases d) c)
   dsimp only;omega
def aJL {l:List UInt8}(h:(fG l).2=true):l.length<=6:=by
 unfold fG at h;split at h
 .cases h
 .rename_i a;omega
def aK7 (l:List UInt8)(c:UInt8):l.length<=(l.takeWhile (· != c)).length+((l.dropWhile (· != c)).drop 1).length+1:=by have h:=nk List.length (List.takeWhile_append_dropWhile (p:=(· != c)) (l:=l));rw[aK]at h;rw[bc];omega
def aHU {g:Int}{p:List UInt8}{f:Int}{b:RT}(h:tn g p=some (f,b)):p.length<=189:=by
 unfold tn at h;split at h
 .rename_i a;have c:=aJL a.2.1;have d:=aHT a.2.2.1;have e:=a.2.2.2.2.2;have i:=aK7 p 124;unfold eN at c d e;dsimp only at c d e;omega
 .cases h
def aJM {l:List UInt8}(h:bg l=true):l.length<=5700:=by
 by_cases d:l=[]
 .rw[d];exact aR _
 unfold bg a6 at h;rw[af d]at h;have e:=ajs 47 l;cases g:parts 47 l with
 |nil=>rw[g]at h;cases h
 |cons k a =>
  rw[g]at h e;dsimp only at h;split at h
  .cases h
  .rename_i i;have m:k=[]:=ayz fun c=>i (.inl c)
   have o:¬30<a.length:=fun c=>i (.inr c)
   cases j:tK tn 0 a with
   |none=>rw[j]at h;cases h
   |some r =>
    have:=aCF (f:=fun p:List UInt8=>p.length+1) (b:=190) (l:=a) (ajt (f:=tn) (Q:=fun p=>p.length+1<=190) (fun s p q b n=>by have:=aHU n;omega) j);rw[tf,VR,m,bm]at e;omega
def PJ:Nat->Int->List Int
 |0,v=>[v]|k+1,v=>if v<128 then [v] else (v%128+128)::PJ k (v/128)
def ax (v:Int):List Int:=if 0<=v/\v<=2147483647 then PJ 4 v else []
def ars:∀(k:Nat) (v:Int),1<=(PJ k v).length/\(PJ k v).length<=k+1
 |0,v=>⟨bF _,bF _⟩|k+1,v=>by
  unfold PJ;have:=ars k (v/128);split
  .exact⟨bF _,by rw[cR];omega⟩
  .rw[aW];omega
def art:∀(k:Nat) (v:Int),0<=v->v<128 ^ (k+1)->∀x∈PJ k v,0<=x/\x<=255
 |0,v,b,c,x,a=>by rw[fq.1 a];have:(128:Int) ^ (0+1)=128:=rfl;omega
 |k+1,v,b,c,x,a=>by
  unfold PJ at a;split at a
  .rw[fq.1 a];omega
  .rcases cS.1 a with rfl|a
   .omega
   .refine art k (v/128) (by omega) ?_ x a;have e:(128:Int) ^ (k+1+1)=128 ^ (k+1)*128:=Tu _ _;omega
def b6 (v:Int):(ax v).length<=5:=by
 unfold ax;split
 .exact(ars 4 v).2
 .exact aR _
def fL (v:Int):∀x∈ax v,0<=x/\x<=255:=by
 unfold ax;split
 .rename_i h;have b:(128:Int) ^ (4+1)=34359738368:=by decide
  exact art 4 v h.1 (by omega)
 .intro x a;cases a
def az8:∀(j k:Nat) (v n:Int) (rest:List Int),j+k=4->0<=v->v<128 ^ (j+1)->(k≠0->v≠0)->0<=n->n+v*128 ^ k<=2147483647->RX (j+1) (PJ j v++rest) k n=some (n+v*128 ^ k,k+(PJ j v).length)
 |0,k,v,n,rest,f,g,i,a,l,b=>by have q:(128:Int) ^ (0+1)=128:=rfl;unfold PJ RX;rw[List.singleton_append];dsimp only;rw[ag (by omega),af (fun h=>h.elim (fun h=>a h.1 h.2) (fun h=>by omega))];rfl
 |j+1,k,v,n,rest,f,g,i,a,l,b=>by
  unfold PJ;have m:=S7 (k:=k) (by omega);have o:(128:Int) ^ (k+1)=128 ^ k*128:=Tu _ _;have r:(128:Int) ^ (j+1+1)=128 ^ (j+1)*128:=Tu _ _;split
  .rename_i c;unfold RX;rw[List.singleton_append];dsimp only;rw[ag c,af (fun h=>h.elim (fun h=>a h.1 h.2) (fun h=>by omega))];rfl
  .rename_i c;unfold RX;rw[Hh];dsimp only;have p:0<=v%128/\v%128<128:=⟨VP _ (by omega),anR _ (by omega)⟩;rw[af (by omega),show(v%128+128)%128=v%128 by omega];have e:v*128 ^ k=v%128*128 ^ k+v/128*128 ^ (k+1):=by
    rw[o];have:v=v%128+128*(v/128):=(Int.emod_add_mul_ediv v 128).symm;generalize (128:Int) ^ k=P at *
    calc v*P=(v%128+128*(v/128))*P:=by rw[<-this]
     _=v%128*P+v/128*(P*128):=by rw[Int.add_mul,Int.mul_comm 128,Int.mul_assoc,Int.mul_comm 128]
   have s:=aq7 (d:=v%128) (P:=128 ^ k) p.1 (by omega) m.1;have:=az8 j (k+1) (v/128) (n+v%128*128 ^ k) rest (by omega) (by omega) (by omega) (fun _=>by omega) (by omega) (by rw[Int.add_assoc,<-e];exact b);rw[this,Int.add_assoc,<-e,aW]
   congr 2
   omega
def agK {pre rest:List Int}{v:Int}(a:0<=v)(b:v<=2147483647):rH (pre++(ax v++rest)) pre.length=some (v,pre.length+(ax v).length):=by
 have c:(128:Int) ^ (4+1)=34359738368:=by decide
 unfold rH ax;rw[anZ,ag ⟨a,b⟩,az8 4 0 v 0 rest rfl a (by omega) (fun h=>absurd rfl h) (MK _) (by have:(128:Int) ^ 0=1:=rfl;omega)];have:(128:Int) ^ 0=1:=rfl;dsimp only;rw[this,Int.mul_one,Int.zero_add,wS]
def gd (s:ByteArray):List Int:=ax (s.size:Int)++bytesOf s
def YE (s:ByteArray):(bytesOf s).length=s.size:=by unfold bytesOf;rw[pj];rfl
def atG (s:ByteArray):∀x∈bytesOf s,0<=x/\x<=255:=by intro x a;obtain⟨b,_,rfl⟩:=Fc.1 a;have:=UInt8.toNat_lt b;omega
def aF0 (s:ByteArray):strOf (bytesOf s)=s:=by
 unfold strOf bytesOf;rw[List.map_map];have:(s.data.toList.map ((fun n:Int=>UInt8.ofNat n.toNat)∘fun b:UInt8=>(b.toNat:Int)))=s.data.toList:=by
  rw[List.map_congr_left (g:=id)]
  .exact List.map_id _
  .intro b _;show UInt8.ofNat ((b.toNat:Int).toNat)=b;rw[gz];exact UInt8.ofNat_toNat
 rw[this]
def aHV {pre rest:List Int}{s:ByteArray}(h:s.size<=1048576):adE (pre++(gd s++rest)) pre.length=some (s,pre.length+(gd s).length):=by
 have a:=YE s;unfold adE gd;rw[hS,agK (by omega) (by omega)];dsimp only;rw[af ?_]
 .congr 1
  refine tt ?_ ?_
  .show strOf _=s;have e:((pre++(ax (s.size:Int)++(bytesOf s++rest))).take (pre.length+(ax (s.size:Int)).length+((s.size:Int)).toNat)).drop (pre.length+(ax (s.size:Int)).length)=bytesOf s:=by rw[gz,<-hS,<-hS,<-aK,<-a,<-aK,acj,anZ]
   rw[e,aF0]
  .show _=pre.length+(ax _++bytesOf s).length;rw[aK,a,gz,VN]
 .rw[aK,aK,aK,a];omega
def kJ {pre rest:List Int}{v:Int}(a:0<=v)(b:v<=2147483647):aT (pre++(ax v++rest)) (pre.length,true)=(v,(pre++ax v).length,true):=by unfold aT;rw[agK a b,aK];rfl
def Te {pre rest:List Int}{s:ByteArray}(h:s.size<=1048576):cV (pre++(gd s++rest)) (pre.length,true)=(s,(pre++gd s).length,true):=by unfold cV;rw[aHV h,aK];rfl
def jD (l:List Int):List Int:=l.flatMap ax
def ak3 (v:Int):Prop:=0<=v/\v<=2147483647
def aru:∀(l pre rest xs:List Int) (f:Nat) (i n:Int),(∀x∈l,ak3 x)->n=i+l.length->l.length<f->ks (pre++(jD l++rest)) n f i (pre.length,true) xs=(xs++l,(pre++jD l).length,true)
 |[],pre,rest,xs,f+1,i,n,_,a,_=>by unfold ks;rw[af (fun h=>by have:=h.1;simp at a;omega)];simp[jD]
 |x::l,pre,rest,xs,f+1,i,n,b,a,d=>by
  have c:=b x p3;unfold ks;rw[aW]at a d;rw[ag ⟨by omega,rfl⟩];have e:pre++(jD (x::l)++rest)=pre++(ax x++(jD l++rest)):=by simp[jD]
  rw[e,kJ c.1 c.2];dsimp only;have g:pre++(ax x++(jD l++rest))=(pre++ax x)++(jD l++rest):=by simp
  rw[g,aru l (pre++ax x) rest (xs++[x]) f (i+1) n (fun y j=>b y (jO _ j)) (by omega) (by omega)];simp[jD]
def BG (l:List Int):List Int:=ax (l.length:Int)++jD l
def arv (k:Nat)(v:Int):1<=(PJ k v).length:=(ars k v).1
def aju:∀{l:List Int},(∀x∈l,ak3 x)->l.length<=(jD l).length/\(jD l).length<=5*l.length
 |[],_=>⟨bF _,bF _⟩|x::l,h=>by
  have a:=h x p3;have c:=aju fun y b=>h y (jO _ b)
  have d:1<=(ax x).length/\(ax x).length<=5:=by refine⟨?_,b6 x⟩;unfold ax;rw[ag (show 0<=x/\x<=2147483647 from a)];exact arv 4 x
  have e:jD (x::l)=ax x++jD l:=rfl;rw[e,aK,aW];omega
def au5 {pre rest l:List Int}(a:∀x∈l,ak3 x)(h:l.length<=1048576):Ce (pre++(BG l++rest)) (pre.length,true)=(l,(pre++BG l).length,true):=by
 unfold Ce BG;rw[hS,kJ (by omega) (by omega)];dsimp only;have e:pre++(ax (l.length:Int)++(jD l++rest))=(pre++ax (l.length:Int))++(jD l++rest):=by simp
 have:=aju a;rw[e,aru l (pre++ax (l.length:Int)) rest [] _ 0 _ a (by omega) (by simp only[aK];omega)];simp
def ku (q:bZ):List Int:=ax q.1++(gd q.2.1++BG q.2.2)
structure aJN (q:bZ):Prop where
 v:ak3 q.1
 n:q.2.1.size<=1048576
 w:q.2.2.length<=1048576
 m:∀x∈q.2.2,ak3 x
def arw {pre rest:List Int}{q:bZ}(h:aJN q):wP (pre++(ku q++rest)) (pre.length,true)=(q,(pre++ku q).length,true):=by
 unfold wP ku;have a:pre++(ax q.1++(gd q.2.1++BG q.2.2)++rest)=pre++(ax q.1++(gd q.2.1++(BG q.2.2++rest))):=by simp
 have b:pre++(ax q.1++(gd q.2.1++(BG q.2.2++rest)))=(pre++ax q.1)++(gd q.2.1++(BG q.2.2++rest)):=by simp
 have c:pre++(ax q.1++(gd q.2.1++(BG q.2.2++rest)))=(pre++ax q.1++gd q.2.1)++(BG q.2.2++rest):=by simp
 have d:aT (pre++(ax q.1++(gd q.2.1++(BG q.2.2++rest)))) (pre.length,true)=(q.1,(pre++ax q.1).length,true):=kJ h.v.1 h.v.2;have e:cV (pre++(ax q.1++(gd q.2.1++(BG q.2.2++rest)))) ((pre++ax q.1).length,true)=(q.2.1,(pre++ax q.1++gd q.2.1).length,true):=by rw[b];exact Te h.n
 have f:Ce (pre++(ax q.1++(gd q.2.1++(BG q.2.2++rest)))) ((pre++ax q.1++gd q.2.1).length,true)=(q.2.2,(pre++ax q.1++gd q.2.1++BG q.2.2).length,true):=by rw[c];exact au5 h.m h.w
 rw[a,d];dsimp only;rw[e];dsimp only;rw[f];simp
def axS {a b:ByteArray}(h:(a.toList==b.toList)=true):a=b:=by have:=Vh a.data.toList b.data.toList;rw[<-Ku,<-Ku,h]at this;rw[Ku a,Ku b,nj this.symm]
def R0 {a b:bZ}(h:gy a b=true):a=b:=by simp only[gy,aG,bd,bV]at h;exact tt h.1 (tt (axS (bd.2 h.2.1)) h.2.2)
def aF1 {a b:dH}(h:ajn a b=true):a=b:=by simp only[ajn,aG,bd]at h;exact tt h.1 (tt h.2.1 (tt h.2.2.1 h.2.2.2.1))
def axT {a b:cr}(h:o8 a b=true):a=b:=by simp only[o8,aG]at h;exact tt (axS h.1) (R0 h.2)
def adM {a b:b1}(h:s9 a b=true):a=b:=by simp only[s9,aG]at h;obtain⟨c,d,e,f,g,i,j⟩:=h;exact tt (bd.1 c) (tt (bd.1 d) (tt (axT e) (tt (R0 f) (tt (R0 g) (tt (bd.1 i) (aF1 j))))))
def az9 {a b:bf}(h:eO a b=true):a=b:=by simp only[eO,aG]at h;obtain⟨c,d,e,f⟩:=h;exact tt (bd.1 c) (tt (bd.1 d) (tt (R0 e) (axS f)))
def aAa (a:bZ):gy a a=true:=by simp[gy]
def atH (a:bf):eO a a=true:=by simp[eO,aAa]
def J8 {n:Int}{s:List Int}(h:ko n s=true):∀x∈s,0<=x/\x<n:=by intro x b;obtain⟨k,a,rfl⟩:=ajV b;have:=ek.1 h k (eZ.2 a);rw[Fa,om a]at this;simp only[aG,bV]at this;exact⟨this.1,this.2.1⟩
def arx {n:Int}{s:List Int}(h:ko n s=true){k:Nat}(a:k+1<s.length):s[k]<s[k+1]:=by
 have:=ek.1 h (k+1) (eZ.2 a);rw[show k+1-1=k from rfl,Fa,Fa,om a,om (by omega)]at this;simp only[aG,kK,bV]at this;rcases this.2.2 with h1|h1
 .omega
 .exact h1
def aAb {n:Int}{s:List Int}(h:ko n s=true):∀(k:Nat) (a:k<s.length),(k:Int)<=s[k]
 |0,a=>(J8 h _ (bJ a)).1|k+1,a=>by have b:=aAb h k (by omega);have c:=arx h a;omega
def ajv {n:Int}{s:List Int}(h:ko n s=true):(s.length:Int)<=max n 0:=by
 rcases ahi s.length with a|a
 .omega
 .have b:=aAb h (s.length-1) (by omega);have c:=(J8 h s[s.length-1] (bJ _)).2;omega
def pa {b:ByteArray}(h:bg b.data.toList=true):b.size<=5700:=aJM h
def ka {c:Int×Int}{q:bZ}(h:eW c q=true):bw c=true/\bg q.2.1.data.toList=true/\aE q.2.1.data.toList=q.1/\(q.2.1.data.toList=[]->q.2.2=[])/\(q.2.1.data.toList≠[]->ko c.1 q.2.2=true/\(q.2.2.length:Int)>=BE c):=by
 unfold eW aaj at h;simp only[aG,bV]at h;obtain⟨d,e,f,a⟩:=h;refine⟨d,e,f,fun b=>?_,fun b=>?_⟩
 .rw[ag b]at a;exact nj a
 .rw[af b]at a;simp only[aG,bV]at a;exact a
def ab7 {v:Int}(a:0<=v)(b:v<=1000000):ak3 v:=⟨a,by omega⟩
def td {c:Int×Int}{q:bZ}(h:eW c q=true):aJN q/\q.2.2.length<=7/\q.2.1.size<=5700:=by
 obtain⟨f,g,k,i,j⟩:=ka h;have l:=b5 f;have d:=pa g;have m:=kI q.2.1.data.toList;by_cases e:q.2.1.data.toList=[]
 .have a:=i e;refine⟨⟨ab7 (by omega) (by omega),by omega,by rw[a];exact aR _,fun x b=>by rw[a]at b;cases b⟩,by rw[a];exact aR _,d⟩
 .obtain⟨a,_⟩:=j e;have n:=ajv a;refine⟨⟨ab7 (by omega) (by omega),by omega,by omega,fun x b=>?_⟩,by omega,d⟩;have:=J8 a x b;exact ab7 (by omega) (by omega)
def rI (b:ByteArray):dh b=true↔b.data.toList=[]:=by unfold dh;have:=Vh b.data.toList [];rw[<-Ku,show tx []=ak from rfl]at this;rw[this,bV]
def agL {c:Int×Int}{p:bZ}(h:iC c p=true):bw c=true/\1<=p.1/\p.1<=60/\ko c.1 p.2.2=true/\p.2.2≠[]/\bg p.2.1.data.toList=true/\(p.2.1.data.toList≠[]->aE p.2.1.data.toList=p.1):=by
 unfold iC at h;simp only[aG,kK,gC,bV,ajX,bd,bU]at h;obtain⟨b,⟨d,f⟩,g,i,a⟩:=h;refine⟨b,d,f,g,fun e=>i (by rw[e];rfl),?_,fun j=>?_⟩
 .rcases a with a|a
  .rw[(rI _).1 a];exact aq0
  .exact a.1
 .rcases a with a|a
  .exact absurd ((rI _).1 a) j
  .exact a.2
def Zw {c:Int×Int}{q:bZ}(h:iC c q=true):aJN q/\q.2.2.length<=7/\q.2.1.size<=5700:=by obtain⟨b,g,i,a,_,d,_⟩:=agL h;have j:=b5 b;have e:=pa d;have k:=ajv a;refine⟨⟨ab7 (by omega) (by omega),by omega,by omega,fun x f=>?_⟩,by omega,e⟩;have:=J8 a x f;exact ab7 (by omega) (by omega)
def Dj (m:b1):List Int :=
 ax m.1++(if m.1=1 then gd m.2.2.1.1++ku m.2.2.1.2 else if m.1=2 then ku m.2.2.2.1 else if m.1=3 then ax m.2.1++(ax m.2.2.2.2.2.1++ku m.2.2.2.2.1)
  else ax m.2.2.2.2.2.2.1++(ax m.2.2.2.2.2.2.2.1++(ax m.2.2.2.2.2.2.2.2.1++ax m.2.2.2.2.2.2.2.2.2)))
def agM {v:Int}(h:ak3 v)(rest:List Int):iL (ax v++rest)=(v,(ax v).length,true):=by have:=kJ (pre:=[]) (rest:=rest) h.1 h.2;exact this
def aHW {c:Int×Int}{m:b1}(h:c8 c m=true):agE (Dj m)=(m,(Dj m).length,true):=by
 unfold c8 at h;simp only[aG]at h;obtain⟨D,E,d⟩:=h;have q:=adM E;obtain⟨aK8,view,⟨f,i⟩,part,b,cw,tx⟩:=m;dsimp only at d q ⊢;by_cases t:aK8=1
 .subst t;rw[ag (by rfl)]at d;simp only[fK,aG]at d;have k:=(td d.1).1;have Q:=pa d.2.1;have e:Dj (1,view,(f,i),part,b,cw,tx)=ax 1++(gd f++(ku i++[])):=by simp[Dj]
  have l:ax 1++(gd f++(ku i++[]))=(ax 1++gd f)++(ku i++[]):=by simp
  have n:=agM (v:=1) (ab7 (by decide) (by decide)) (gd f++(ku i++[]));have o:cV (ax 1++(gd f++(ku i++[]))) ((ax 1).length,true)=(f,(ax 1++gd f).length,true):=Te (by omega);have p:wP (ax 1++(gd f++(ku i++[]))) ((ax 1++gd f).length,true)=(i,(ax 1++gd f++ku i).length,true):=by rw[l];exact arw k
  rw[e];unfold agE aJA;rw[n];dsimp only;rw[ag (by rfl),o];dsimp only;rw[p];rw[<-q];simp[named]
 .by_cases u:aK8=2
  .subst u;rw[af (by decide),ag (by rfl)]at d;simp only[aG]at d;have k:=(Zw d.1).1;obtain⟨a,g,j⟩:=part;have e:Dj (2,view,(f,i),(a,g,j),b,cw,tx)=ax 2++(ax a++(gd g++(BG j++[]))):=by simp[Dj,ku]
   have l:ax 2++(ax a++(gd g++(BG j++[])))=(ax 2++ax a)++(gd g++(BG j++[])):=by simp
   have r:ax 2++(ax a++(gd g++(BG j++[])))=(ax 2++ax a++gd g)++(BG j++[]):=by simp
   have n:=agM (v:=2) (ab7 (by decide) (by decide)) (ax a++(gd g++(BG j++[])));have o:aT (ax 2++(ax a++(gd g++(BG j++[])))) ((ax 2).length,true)=(a,(ax 2++ax a).length,true):=kJ k.v.1 k.v.2;have p:cV (ax 2++(ax a++(gd g++(BG j++[])))) ((ax 2++ax a).length,true)=(g,(ax 2++ax a++gd g).length,true):=by rw[l];exact Te k.n
   have s:Ce (ax 2++(ax a++(gd g++(BG j++[])))) ((ax 2++ax a++gd g).length,true)=(j,(ax 2++ax a++gd g++BG j).length,true):=by rw[r];exact au5 k.m k.w
   rw[e];unfold agE aJB;rw[n];dsimp only;rw[af (by decide),ag (by rfl),o];dsimp only;rw[p];dsimp only;rw[s];rw[<-q];simp[named]
  .by_cases w:aK8=3
   .subst w;rw[af (by decide),af (by decide),ag (by rfl)]at d;simp only[aG,gC,bV]at d;obtain⟨⟨R,S⟩,k,⟨F,G⟩⟩:=d;have x:=b5 D;rw[Yt x.1 x.2.1]at G;have k:=(td k).1;have y:ak3 cw:=ab7 F (by omega);have e:Dj (3,view,(f,i),part,b,cw,tx)=ax 3++(ax view++(ax cw++(ku b++[]))):=by simp[Dj]
    have l:ax 3++(ax view++(ax cw++(ku b++[])))=(ax 3++ax view)++(ax cw++(ku b++[])):=by simp
    have r:ax 3++(ax view++(ax cw++(ku b++[])))=(ax 3++ax view++ax cw)++(ku b++[]):=by simp
    have n:=agM (v:=3) (ab7 (by decide) (by decide)) (ax view++(ax cw++(ku b++[])));have o:aT (ax 3++(ax view++(ax cw++(ku b++[])))) ((ax 3).length,true)=(view,(ax 3++ax view).length,true):=kJ (by omega) (by omega);have p:aT (ax 3++(ax view++(ax cw++(ku b++[])))) ((ax 3++ax view).length,true)=(cw,(ax 3++ax view++ax cw).length,true):=by rw[l];exact kJ y.1 y.2
    have s:wP (ax 3++(ax view++(ax cw++(ku b++[])))) ((ax 3++ax view++ax cw).length,true)=(b,(ax 3++ax view++ax cw++ku b).length,true):=by rw[r];exact arw k
    rw[e];unfold agE aJC;rw[n];dsimp only;rw[af (by decide),af (by decide),ag (by rfl),o];dsimp only;rw[p];dsimp only;rw[s];rw[<-q];simp[named]
   .rw[af (by simpa using t),af (by simpa using u),af (by simpa using w)]at d;simp only[aG,bd]at d;obtain⟨H,I⟩:=d;subst H;obtain⟨t1,t2,t3,t4⟩:=tx;obtain⟨⟨z,K⟩,⟨A,L⟩,⟨B,M⟩,⟨C,N⟩⟩:=nc I;dsimp only at z K A L B M C N;have e:Dj (4,view,(f,i),part,b,cw,t1,t2,t3,t4)=ax 4++(ax t1++(ax t2++(ax t3++(ax t4++[])))):=by simp[Dj]
    have l:ax 4++(ax t1++(ax t2++(ax t3++(ax t4++[]))))=(ax 4++ax t1)++(ax t2++(ax t3++(ax t4++[]))):=by simp
    have r:ax 4++(ax t1++(ax t2++(ax t3++(ax t4++[]))))=(ax 4++ax t1++ax t2)++(ax t3++(ax t4++[])):=by simp
    have O:ax 4++(ax t1++(ax t2++(ax t3++(ax t4++[]))))=(ax 4++ax t1++ax t2++ax t3)++(ax t4++[]):=by simp
    have n:=agM (v:=4) (ab7 (by decide) (by decide)) (ax t1++(ax t2++(ax t3++(ax t4++[]))));have o:aT (ax 4++(ax t1++(ax t2++(ax t3++(ax t4++[]))))) ((ax 4).length,true)=(t1,(ax 4++ax t1).length,true):=kJ z (by omega);have p:aT (ax 4++(ax t1++(ax t2++(ax t3++(ax t4++[]))))) ((ax 4++ax t1).length,true)=(t2,(ax 4++ax t1++ax t2).length,true):=by rw[l];exact kJ A (by omega)
    have s:aT (ax 4++(ax t1++(ax t2++(ax t3++(ax t4++[]))))) ((ax 4++ax t1++ax t2).length,true)=(t3,(ax 4++ax t1++ax t2++ax t3).length,true):=by rw[r];exact kJ B (by omega)
    have P:aT (ax 4++(ax t1++(ax t2++(ax t3++(ax t4++[]))))) ((ax 4++ax t1++ax t2++ax t3).length,true)=(t4,(ax 4++ax t1++ax t2++ax t3++ax t4).length,true):=by rw[O];exact kJ C (by omega)
    rw[e];unfold agE aJD;rw[n];dsimp only;rw[af (by decide),af (by decide),af (by decide),ag (by rfl),o];dsimp only;rw[p];dsimp only;rw[s];dsimp only;rw[P];rw[<-q];simp[named]
def ajw {c:Int×Int}{m:b1}(h:c8 c m=true):gF c (Dj m)=(m,true):=by unfold gF fin;rw[aHW h];dsimp only;rw[ag ⟨rfl,rfl,h⟩]
def fa {a b:List Int}(c:∀x∈a,0<=x/\x<=255)(d:∀x∈b,0<=x/\x<=255):∀x∈a++b,0<=x/\x<=255:=fun x e=>(gQ.1 e).elim (c x) (d x)
def adN (s:ByteArray):∀x∈gd s,0<=x/\x<=255:=fa (fL _) (atG s)
def aAc (l:List Int):∀x∈jD l,0<=x/\x<=255:=fun x a=>by obtain⟨y,_,h⟩:=List.mem_flatMap.1 a;exact fL y x h
def Tf (q:bZ):∀x∈ku q,0<=x/\x<=255:=fa (fL _) (fa (adN _) (fa (fL _) (aAc _)))
def YF (s:ByteArray):(gd s).length<=s.size+5:=by have:=b6 (s.size:Int);unfold gd;rw[aK,YE];omega
def YG {q:bZ}(h:aJN q):(ku q).length<=q.2.1.size+5*q.2.2.length+15:=by have a:=b6 q.1;have b:=YF q.2.1;have c:=b6 (q.2.2.length:Int);have d:=(aju h.m).2;unfold ku BG;rw[aK,aK,aK];omega
def ary {c:Int×Int}{m:b1}(h:c8 c m=true):(Dj m).length<=12000/\(∀x∈Dj m,0<=x/\x<=255)/\1<=(Dj m).length:=by
 unfold c8 at h;simp only[aG]at h;obtain⟨l,_,a⟩:=h;have n:=b6 m.1;have pos:m.1=1\/m.1=2\/m.1=3\/m.1=4:=by
  by_cases e:m.1=1
  .exact .inl e
  .by_cases f:m.1=2
   .exact .inr (.inl f)
   .by_cases g:m.1=3
    .exact .inr (.inr (.inl g))
    .rw[af (by simpa using e),af (by simpa using f),af (by simpa using g)]at a;simp only[aG,bd]at a;exact .inr (.inr (.inr a.1))
 have one:1<=(ax m.1).length:=by unfold ax;rw[ag (by omega)];exact arv 4 _
 unfold Dj;refine⟨?_,fa (fL _) ?_,by rw[aK];omega⟩
 .rw[aK];rcases pos with k|k|k|k
  .rw[ag (by simpa using k)]at a;simp only[fK,aG]at a;have b:=td a.1;have o:=pa a.2.1;have i:=YF m.2.2.1.1;have d:=YG b.1;rw[ag k,aK];omega
  .rw[af (by simp[k]),ag (by simpa using k)]at a;simp only[aG]at a;have b:=Zw a.1;have d:=YG b.1;rw[af (by omega),ag k];omega
  .rw[af (by simp[k]),af (by simp[k]),ag (by simpa using k)]at a;simp only[aG]at a;have b:=td a.2.1;have i:=b6 m.2.1;have j:=b6 m.2.2.2.2.2.1;have d:=YG b.1;rw[af (by omega),af (by omega),ag k,aK,aK];omega
  .have i:=b6 m.2.2.2.2.2.2.1;have d:=b6 m.2.2.2.2.2.2.2.1;have j:=b6 m.2.2.2.2.2.2.2.2.1;have p:=b6 m.2.2.2.2.2.2.2.2.2;rw[af (by omega),af (by omega),af (by omega),aK,aK,aK];omega
 .split
  .exact fa (adN _) (Tf _)
  .split
   .exact Tf _
   .split
    .exact fa (fL _) (fa (fL _) (Tf _))
    .exact fa (fL _) (fa (fL _) (fa (fL _) (fL _)))
def dz (s:bf):List Int:=ax s.1++(ax s.2.1++(ku s.2.2.1++gd s.2.2.2))
def cC {c:Int×Int}{s:bf}(h:bh c s=true):(0<=s.1/\s.1<=60)/\(0<=s.2.1/\s.2.1<=60)/\eW c s.2.2.1=true/\bg s.2.2.2.data.toList=true:=by simp only[bh,gC,aG,bV]at h;exact h
def aF2 {c:Int×Int}{s:bf}(h:bh c s=true):Mt (dz s)=(s,(dz s).length,true):=by
 obtain⟨⟨b,g⟩,⟨f,i⟩,a,j⟩:=cC h;have a:=(td a).1;have k:=pa j;obtain⟨v,l,q,d⟩:=s;dsimp only at b g f i a k ⊢;have e:dz (v,l,q,d)=ax v++(ax l++(ku q++(gd d++[]))):=by simp[dz]
 have m:ax v++(ax l++(ku q++(gd d++[])))=(ax v++ax l)++(ku q++(gd d++[])):=by simp
 have n:ax v++(ax l++(ku q++(gd d++[])))=(ax v++ax l++ku q)++(gd d++[]):=by simp
 have o:=agM (v:=v) ⟨b,by omega⟩ (ax l++(ku q++(gd d++[])));have p:aT (ax v++(ax l++(ku q++(gd d++[])))) ((ax v).length,true)=(l,(ax v++ax l).length,true):=kJ f (by omega);have r:wP (ax v++(ax l++(ku q++(gd d++[])))) ((ax v++ax l).length,true)=(q,(ax v++ax l++ku q).length,true):=by rw[m];exact arw a
 have t:cV (ax v++(ax l++(ku q++(gd d++[])))) ((ax v++ax l++ku q).length,true)=(d,(ax v++ax l++ku q++gd d).length,true):=by rw[n];exact Te (by omega)
 rw[e];unfold Mt;rw[o];dsimp only;rw[p];dsimp only;rw[r];dsimp only;rw[t];simp
def aCG {c:Int×Int}{s:bf}(h:bh c s=true):oh c (dz s)=(s,true):=by unfold oh;rw[aF2 h];dsimp only;rw[ag ⟨rfl,rfl,h⟩]
def R1 {c:Int×Int}{s:bf}(h:bh c s=true):1<=(dz s).length/\(dz s).length<=12000:=by
 obtain⟨⟨d,e⟩,_,a,b⟩:=cC h;have a:=td a;have f:=pa b;have g:=b6 s.1;have i:=b6 s.2.1;have j:=YG a.1;have k:=YF s.2.2.2;have one:1<=(ax s.1).length:=by unfold ax;rw[ag (by omega)];exact arv 4 _
 unfold dz;rw[aK,aK,aK];omega
def aAd (s:bf):∀x∈dz s,0<=x/\x<=255:=fa (fL _) (fa (fL _) (fa (Tf _) (adN _)))
def dA (s:bf):List Int:=ax ((dz s).length:Int)++(dz s++[10])
def cc (l:List bf):List Int:=l.flatMap dA
def aAe (s:bf):∀x∈dA s,0<=x/\x<=255:=fa (fL _) (fa (aAd s) fun x a=>by rw[fq.1 a];omega)
def ajx {c:Int×Int}{s:bf}(h:bh c s=true):1<=(dA s).length/\(dA s).length<=12010:=by have a:=R1 h;have b:=b6 ((dz s).length:Int);unfold dA;rw[aK,aK,cR];omega
def aF3 {c:Int×Int}{s:bf}(h:bh c s=true)(pre rest:List Int):Ik c (pre++(dA s++rest)) pre.length=some (s,(pre++dA s).length):=by
 have g:=R1 h;have e:pre++(dA s++rest)=pre++(ax ((dz s).length:Int)++(dz s++(10::rest))):=by simp[dA]
 have b:=agK (pre:=pre) (rest:=dz s++(10::rest)) (v:=((dz s).length:Int)) (by omega) (by omega);rw[e,Df b];have a:pre++(ax ((dz s).length:Int)++(dz s++(10::rest)))=(pre++ax ((dz s).length:Int))++(dz s++(10::rest)):=by simp
 have d:YB (pre++(ax ((dz s).length:Int)++(dz s++(10::rest)))) (pre.length+(ax ((dz s).length:Int)).length) (pre.length+(ax ((dz s).length:Int)).length+((dz s).length:Int).toNat)=dz s:=by unfold YB;rw[a,gz,<-aK,<-hS,<-aK,acj,anZ]
 have f:(pre++(ax ((dz s).length:Int)++(dz s++(10::rest)))).getD (pre.length+(ax ((dz s).length:Int)).length+((dz s).length:Int).toNat) 0=10:=by rw[a,gz,<-aK,<-hS,<-aK,Fa,ayy (bF _),Nat.sub_self];rfl
 rw[d,f,aCG h,af ?_,af (by decide),ag rfl,gz]
 .simp only[dA,aK,cR]
  congr 2
  omega
 .simp only[aK,aW];omega
def au6:∀(i k:Nat) (v:Int) (j q:Nat) (n:Int),k<(PJ i v).length->0<=v->RX j ((PJ i v).take k) q n=none
 |i,0,v,j,q,n,_,_=>by rw[List.take_zero];cases j<;>rfl
 |0,k+1,v,j,q,n,a,_=>by unfold PJ at a;rw[cR]at a;omega
 |i+1,k+1,v,j,q,n,a,c=>by
  unfold PJ at a ⊢;split at a
  .rw[cR]at a;omega
  .rename_i b;rw[af b,avE];cases j with
   |zero=>rfl
   |succ j =>
    unfold RX;rw[aW]at a;have:=VP v (show(128:Int)≠0 by decide);rw[af (by omega)];exact au6 i k (v/128) j (q+1) _ (by omega) (by omega)
def aCH {c:Int×Int}{s:bf}(h:bh c s=true)(pre:List Int){k:Nat}(f:k<(dA s).length):Ik c (pre++(dA s).take k) pre.length=none:=by
 have g:=R1 h;by_cases a:k<(ax ((dz s).length:Int)).length
 .refine Dg ?_;unfold rH;rw[anZ];have e:(dA s).take k=(ax ((dz s).length:Int)).take k:=by unfold dA;rw[aDv (by omega)]
  rw[e];have b:ax ((dz s).length:Int)=PJ 4 ((dz s).length:Int):=by unfold ax;rw[ag (by omega)]
  rw[b]at a ⊢;rw[au6 4 k _ 5 0 0 a (by omega)]
 .have e:(dA s).take k=ax ((dz s).length:Int)++(dz s++[10]).take (k-(ax ((dz s).length:Int)).length):=by unfold dA;rw[avK,anQ (by omega)]
  have hlen:(dA s).length=(ax ((dz s).length:Int)).length+((dz s).length+1):=by simp[dA]
  have d:=agK (pre:=pre) (rest:=(dz s++[10]).take (k-(ax ((dz s).length:Int)).length)) (v:=((dz s).length:Int)) (by omega) (by omega);rw[e,Df d,ag ?_];rw[aK,aK,bB,aK,cR];omega
def aF4 {c:Int×Int}(pre:List Int):Ik c pre pre.length=none:=by refine Dg ?_;unfold rH;rw[VM];rfl
def aK9 (c:Int×Int)(t:List Int):Prop:=t=[]\/∃s k,bh c s=true/\k<(dA s).length/\t=(dA s).take k
def ak4 {c:Int×Int}{t:List Int}(a:aK9 c t):∀(l:List bf) (pre:List Int) (f:Nat) (s:bf),(∀x∈l,bh c x=true)->l.length<f ->
  Gf c (pre++(cc l++t)) f s pre.length=(l.getLastD s,(pre++cc l).length)
 |[],pre,f+1,s,_,_=>by
  have d:Ik c (pre++(cc []++t)) pre.length=none:=by
   rcases a with rfl|⟨x,k,g,h,rfl⟩
   .have:pre++(cc []++[])=pre:=by simp[cc]
    rw[this];exact aF4 pre
   .exact aCH g pre h
  rw[iD d];simp[cc]
 |x::l,pre,f+1,s,b,i=>by
  have j:=b x p3;have e:pre++(cc (x::l)++t)=pre++(dA x++(cc l++t)):=by simp[cc]
  have m:pre++(dA x++(cc l++t))=(pre++dA x)++(cc l++t):=by simp
  have n:(pre++cc (x::l)).length=(pre++dA x++cc l).length:=by simp[cc]
  rw[aW]at i;rw[e,Dh (aF3 j pre (cc l++t)),m,n,ak4 a l (pre++dA x) f x (fun y o=>b y (jO _ o)) (by omega)];cases l<;>rfl
def adO {c:Int×Int}:∀{l:List bf},(∀x∈l,bh c x=true)->l.length<=(cc l).length
 |[],_=>bF _|x::l,h=>by
  have b:=ajx (h x p3);have d:=adO fun y a=>h y (jO _ a)
  have e:cc (x::l)=dA x++cc l:=rfl;rw[e,aK,aW];omega
def Mw {c:Int×Int}{t:List Int}(b:aK9 c t){l:List bf}(a:∀x∈l,bh c x=true):dV c (cc l++t)=(l.getLastD kg,(cc l).length):=by have:=ak4 b l [] ((cc l++t).length+1) kg a (by have:=adO a;rw[aK];omega);rw[BO,BO]at this;exact this
def adP {c:Int×Int}:∀{l:List bf} (k:Nat),(∀x∈l,bh c x=true)->∃i t,i<=l.length/\aK9 c t/\(cc l).take k=cc (l.take i)++t/\(cc (l.take i)).length<=k/\∀a,a<=l.length->(cc (l.take a)).length<=k->a<=i\/cc (l.take a)=cc (l.take i)
 |[],k,_=>⟨0,[],bF _,.inl rfl,by simp[cc],aR _,fun a d _=>.inl d⟩
 |x::l,k,h=>by
  have g:=h x p3;have hlen:=ajx g;have e:cc (x::l)=dA x++cc l:=rfl;by_cases m:k<(dA x).length
  .refine⟨0,(dA x).take k,aR _,.inr ⟨x,k,g,m,rfl⟩,?_,aR _,fun a d f=>?_⟩
   .rw[e,aDv (by omega)];rfl
   .cases a with
    |zero=>exact .inl (bF _)
    |succ a =>
     rw[avE]at f;have b:cc (x::l.take a)=dA x++cc (l.take a):=rfl;rw[b,aK]at f;omega
  .obtain⟨i,t,r,n,o,s,p⟩:=adP (k-(dA x).length) fun y q=>h y (jO x q)
   have b:∀a,cc ((x::l).take (a+1))=dA x++cc (l.take a):=fun a=>rfl
   refine⟨i+1,t,by rw[aW];omega,n,?_,?_,fun a d f=>?_⟩
   .rw[e,b,avK,anQ (by omega),o,hS]
   .rw[b,aK];omega
   .cases a with
    |zero=>exact .inl (aR _)
    |succ a =>
     rw[b,aK]at f;rw[aW]at d;rcases p a (by omega) (by omega) with j|j
     .exact .inl (by omega)
     .exact .inr (by rw[b,b,j])
def aCI {U V γ:Type}(X:Nat->Int->List V->Option γ)(a:List U)(f:U->V)(R:Option γ)
  (c:∀n k xs (h:k<a.length),xs.length=k->X (n+1) (k:Int) xs=X n ((k+1:Nat):Int) (xs++[f a[k]])) (d:∀n,X (n+1) (a.length:Int) (a.map f)=R) (n:Nat) (e:a.length<n):X n 0 []=R:=by
 refine cv X a.length (fun k xs=>xs=(a.take k).map f) R (fun n k xs b h=>.inr ⟨_,c n k xs b (by rw[h,pj,bB];omega),?_⟩) (fun n xs h=>?_) n 0 [] (aR _) rfl (by omega)
 .rw[ei b,aeb,h];rfl
 .rw[h,kl];exact d n
def ak5 {U γ:Type}(X:Nat->Int->List U->Option γ)(a:List U)(R:Option γ)
  (b:∀n k xs (h:k<a.length),xs.length=k->X (n+1) (k:Int) xs=X n ((k+1:Nat):Int) (xs++[a[k]])) (c:∀n,X (n+1) (a.length:Int) a=R) (n:Nat) (d:a.length<n):X n 0 []=R :=
 aCI X a id R b (fun n=>by rw[List.map_id];exact c n) n d
def anH {U γ:Type}(X:Nat->Int->List U->Option γ)(a:List U)(p:U->Bool)(R:Option γ)
  (c:∀n k xs (h:k<a.length),xs.length<=k->X (n+1) (k:Int) xs=X n ((k+1:Nat):Int) (if p a[k]=true then xs++[a[k]] else xs)) (d:∀n,X (n+1) (a.length:Int) (a.filter p)=R) (n:Nat) (f:a.length<n):X n 0 []=R:=by
 refine cv X a.length (fun k xs=>xs=(a.take k).filter p) R (fun n k xs b h=>.inr ⟨_,c n k xs b (by rw[h];exact bY (anS _ _) (by rw[bB];omega)),?_⟩) (fun n xs h=>?_) n 0 [] (aR _) rfl (by omega)
 .rw[ei b,List.filter_append,h];cases e:p a[k]<;>simp[e]
 .rw[h,kl];exact d n
def wQ {q:bZ}(h:q.2.2.length<=1048576):jw F0 q=some (q,()):=by rw[ao3,ar (a:=0) (by omega) (by omega) (by omega),ab];rfl
def nv {q:bZ}(h:q.2.2.length<=1048576):gI F0 q=some (q,()):=by rw[alV,ar (a:=0) (by omega) (by omega) (by omega),ab];rfl
def x5 {q:bZ}(h:q.2.2.length<=1048576):hD F0 q=some (q,()):=aqY (by omega)
def BH {q:bZ}(h:q.2.2.length<=1048576):fp F0 q=some (q,()):=by rw[aiy,og (by omega),ai]
def OX {s:bf}(h:kp s):nG F0 s=some (s,()):=by rw[alU,wQ h.1.2,ai]
def JN {s:bf}(h:kp s):lJ F0 s=some (s,()):=by rw[aix,x5 h.1.2,ai]
def agN {l:List bZ}(h:l.length<=1048576)(b:∀q∈l,ur q):gJ F0 l=some (l,()):=by
 rw[ahN];refine ak5 (fun n k xs=>uQ F0 (yQ F0) n (pt l k xs)) l _ (fun n k xs a c=>?_) (fun n=>?_) _ (by rw[bz];omega)
 .rw[Ft,aM a,ae,an a,ab,aV a,nv (b _ (bJ a)).2,ai,ar (by omega) (by omega) (by simp only[aW,bm];omega),ab,al (by omega)]
 .rw[Ft,aC,aa,ZP]
def ab8 {l:List bZ}(h:l.length<=1048576)(b:∀q∈l,ur q):eL F0 l=some (l,()):=by
 rw[afD];refine ak5 (fun n k xs=>sD F0 (wC F0) n (nV l (l.length:Int) k xs)) l _ (fun n k xs a c=>?_) (fun n=>?_) _ (by rw[bz];omega)
 .rw[BY,aM a,ae,an a,ab,aV a,BH (b _ (bJ a)).2,ai,ar (by omega) (by omega) (by simp only[aW,bm];omega),ab,al (by omega)]
 .rw[BY,aC,aa,XC]
def OY {d:List Int×Int}(h:d.1.length<=1048576):iR F0 d=some (d,()):=by rw[alW,ar (a:=0) (by omega) (by omega) (by omega),ab];rfl
def JO {d:List Int×Int}(h:d.1.length<=1048576):lK F0 d=some (d,()):=by rw[aiz,ar (a:=0) (by omega) (by omega) (by omega),ab];rfl
def YH {l:List dH}(h:l.length<=1048576):iV F0 l=some (l,()):=by rw[amJ,ar (a:=0) (by omega) (by omega) (by omega),ab];rfl
def aCJ {b:cr}(h:b.2.2.2.length<=1048576):Na F0 b=some (b,()):=by rw[ao4,wQ h,ai]
def atI {b:cr}(h:b.2.2.2.length<=1048576):AQ F0 b=some (b,()):=by rw[afE,x5 h,ai]
def ak6 {m:b1}(h:gb m):yS F0 m=some (m,()):=by rw[alX,aCJ h.2.1.2,ai,nv h.2.2.1.2,ai,wQ h.2.2.2.2,ai]
def ak7 {m:b1}(h:gb m):AR F0 m=some (m,()):=by rw[amK,atI h.2.1.2,ai,BH h.2.2.1.2,ai,x5 h.2.2.2.2,ai]
def agO {l:List jC}(h:l.length<=1048576)(b:∀q∈l,gb q.2):tU F0 l=some (l,()):=by
 rw[ahO];refine ak5 (fun n k xs=>uU F0 (yT F0) n (pw l k xs)) l _ (fun n k xs a c=>?_) (fun n=>?_) _ (by rw[bz];omega)
 .rw[Fu,aM a,ae,an a,ab,ab,aV a,ak6 (b _ (bJ a)),ai,ar (by omega) (by omega) (by simp only[aW,bm];omega),ab,al (by omega)]
 .rw[Fu,aC,aa,ZQ]
def atJ {l:List jC}(h:l.length<=1048576)(b:∀q∈l,gb q.2):AS F0 l=some (l,()):=by
 rw[afG];refine ak5 (fun n k xs=>sH F0 (wE F0) n (nW l (l.length:Int) k xs)) l _ (fun n k xs a c=>?_) (fun n=>?_) _ (by rw[bz];omega)
 .rw[BZ,aM a,ae,an a,ab,aV a,ak7 (b _ (bJ a)),ai,ar (by omega) (by omega) (by simp only[aW,bm];omega),ab,al (by omega)]
 .rw[BZ,aC,aa,XE]
structure aF5 (r:aw):Prop where
 l:aq6 r
 d:di r.2.2.2.2.2.2.1.1
def dW {r:aw}(h:aF5 r):ba F0 r=some (r,()):=by rw[alY,OX h.l.s,ai,ar (a:=0) (by omega) (by omega) (by have:=h.l.p;omega),ab,agN h.l.t h.l.tq,ai,OY h.d.1,ai,agO h.l.h h.l.hm,ai];rfl
def dX {r:aw}(h:aF5 r):aB F0 r=some (r,()):=by rw[amL,JN h.l.s,ai,YH h.l.p,ai,ab8 h.l.t h.l.tq,ai,JO h.d.1,ai,atJ h.l.h h.l.hm,ai]
def agP {x:gD}(h:x.2.length<=1048576):uc F0 x=some (x,()):=by rw[aiA,ar (a:=0) (by omega) (by omega) (by omega),ab];rfl
structure PK (w:ah):Prop where
 l:kt w
 b:∀r∈w.2.2.1,di r.2.2.2.2.2.2.1.1
def PK.rep {w:ah}(h:PK w){r:aw}(a:r∈w.2.2.1):aF5 r:=⟨h.l.rl r a,h.b r a⟩
def lP {w:ah}(h:PK w):aS F0 w=some (w,()):=by
 have d:=h.l.l;have e:=h.l.r;have f:=h.l.n;have g:=h.l.s;rw[afI,og (by omega),ai,ar (a:=0) (by omega) (by omega) (by omega),ab];refine ak5 (fun n k xs=>sJ F0 (wG F0) n (nY w w.2.2.1 (w.2.2.1.length:Int) k 0 0 w.1.1 w.1.2 [] [] [] [] w.2.1 xs [] ([]++w.2.2.2.2))) w.2.2.1 _ (fun n k xs b c=>?_) (fun n=>?_) _ (by rw[bz];omega)
 .rw[B2,aM b,ae,an b,ab,aV b,dX (h.rep (bJ b)),ai,ar (by omega) (by omega) (by simp only[aW,bm];omega),ab,al (by omega)]
 .rw[B2,aC,aa,XH];refine ak5 (fun n k xs=>sI F0 (wF F0) n (nX w.2.2.2.1 (w.2.2.2.1.length:Int) k 0 0 w.1.1 w.1.2 [] [] [] [] w.2.1 w.2.2.1 xs ([]++w.2.2.2.2))) w.2.2.2.1 _ (fun n k xs b c=>?_) (fun n=>?_) _ (by rw[bz];omega)
  .rw[B0,aM b,ae,an b,ab,aV b,agP (h.l.nb _ (bJ b)).1,ai,ar (by omega) (by omega) (by simp only[aW,bm];omega),ab,al (by omega)]
  .rw[B0,aC,aa,XG];rfl
def ak8 {w:ah}(h:PK w):yX F0 w=some (w,()):=by
 have d:=h.l.l;have e:=h.l.r;have f:=h.l.n;have g:=h.l.s;rw[alZ,ar (a:=0) (by omega) (by omega) (by omega),ab,ar (a:=0) (by omega) (by omega) (by omega),ab];refine ak5 (fun n k xs=>yW F0 (CB F0) n (r0 w k 0 0 w.1.1 w.1.2 [] [] [] [] ([]++w.2.1) xs [] ([]++w.2.2.2.2))) w.2.2.1 _ (fun n k xs b c=>?_) (fun n=>?_) _ (by rw[bz];omega)
 .rw[Hr,aM b,ae,an b,ab,aV b,dW (h.rep (bJ b)),ai,ar (by omega) (by omega) (by simp only[aW,bm];omega),ab,al (by omega)]
 .rw[Hr,aC,aa,acN];refine ak5 (fun n k xs=>yV F0 (CA F0) n (rZ w k 0 0 w.1.1 w.1.2 [] [] [] [] ([]++w.2.1) w.2.2.1 xs ([]++w.2.2.2.2))) w.2.2.2.1 _ (fun n k xs b c=>?_) (fun n=>?_) _ (by rw[bz];omega)
  .have i:=(h.l.nb _ (bJ b)).1;rw[Hq,aM b,ae,an b,ab,ab,aV b,ar (a:=0) (by omega) (by omega) (by omega),ab,ar (by omega) (by omega) (by simp only[aW,bm];omega),ab,al (by omega)];rfl
  .rw[Hq,aC,aa,acM];rfl
def Zx {n:Int}(a:0<=n)(b:n<=255):IntKind.wrap .u8 n=n:=by simp[IntKind.wrap,IntKind.signed,IntKind.bits];omega
def aAf:∀(k:Nat) (v:Int) (xs:List Int) (n:Nat),0<=v->v<128 ^ (k+1)->xs.length+k<=1000->k<n->k<=4->D0 F0 (GK F0) n (vd v xs)=some (xs++PJ k v,())
 |0,v,xs,n,a,c,d,e,f=>by obtain⟨n,rfl⟩:∃m,n=m+1:=⟨n-1,by omega⟩;have g:(128:Int) ^ (0+1)=128:=rfl;rw[Lb,aQ (show ¬v>127 by omega),aa,Nn,ar (by omega) (by omega) (by first|omega|(simp only[aK,aW,bm];omega)|(rw[bc,bB];omega)),ab,Zx a (by omega)];rfl
 |k+1,v,xs,n,a,c,d,e,f=>by
  obtain⟨n,rfl⟩:∃m,n=m+1:=⟨n-1,by omega⟩;have h:=S7 (k:=k) (by omega);have g:(128:Int) ^ (k+1)=128 ^ k*128:=Tu _ _;have i:(128:Int) ^ (k+1+1)=128 ^ (k+1)*128:=Tu _ _;rw[Lb];unfold PJ;by_cases b:v<128
  .rw[aQ (show ¬v>127 by omega),aa,Nn,ar (by omega) (by omega) (by first|omega|(simp only[aK,aW,bm];omega)|(rw[bc,bB];omega)),ab,Zx a (by omega),ag b]
  .rw[aL (show v>127 by omega),ae,ar (by omega) (by omega) (by first|omega|(simp only[aK,aW,bm];omega)|(rw[bc,bB];omega)),ab,anP a,aH (n:=v/128) (by omega) (by omega),anO a,
    aH (n:=v%128+128) (by omega) (by omega),Zx (by omega) (by omega),aAf k (v/128) (xs++[v%128+128]) n (by omega) (by omega) (by rw[aK,cR];omega) (by omega) (by omega),af b,hS]
   rfl
def aAg:∀(k:Nat) (v:Int) (xs:List Int) (n:Nat),0<=v->v<128 ^ (k+1)->xs.length+k<=1000->k<n->k<=4->ub F0 (vy F0) n (oI v xs)=some (xs++PJ k v,())
 |0,v,xs,n,a,c,d,e,f=>by obtain⟨n,rfl⟩:∃m,n=m+1:=⟨n-1,by omega⟩;have g:(128:Int) ^ (0+1)=128:=rfl;rw[nP,aQ (show ¬v>=128 by omega),aa,pM,ar (by omega) (by omega) (by first|omega|(simp only[aK,aW,bm];omega)|(rw[bc,bB];omega)),ab,Zx a (by omega)];rfl
 |k+1,v,xs,n,a,c,d,e,f=>by
  obtain⟨n,rfl⟩:∃m,n=m+1:=⟨n-1,by omega⟩;have h:=S7 (k:=k) (by omega);have g:(128:Int) ^ (k+1)=128 ^ k*128:=Tu _ _;have i:(128:Int) ^ (k+1+1)=128 ^ (k+1)*128:=Tu _ _;rw[nP];unfold PJ;by_cases b:v<128
  .rw[aQ (show ¬v>=128 by omega),aa,pM,ar (by omega) (by omega) (by first|omega|(simp only[aK,aW,bm];omega)|(rw[bc,bB];omega)),ab,Zx a (by omega),ag b]
  .rw[aL (show v>=128 by omega),ae,ar (by omega) (by omega) (by first|omega|(simp only[aK,aW,bm];omega)|(rw[bc,bB];omega)),ab,anP a,aH (n:=v/128) (by omega) (by omega),anO a,
    aH (n:=v%128+128) (by omega) (by omega),Zx (by omega) (by omega),aAg k (v/128) (xs++[v%128+128]) n (by omega) (by omega) (by rw[aK,cR];omega) (by omega) (by omega),af b,hS]
   rfl
def kb (v:Int):et F0 v=some (ax v,()):=by
 have b:(128:Int) ^ (4+1)=34359738368:=by decide
 rw[apg,cO,ai,agz];unfold ax;by_cases a:0<=v/\v<=2147483647
 .rw[aL a,aN,aa,ag a,aAf 4 v [] F0.n a.1 (by omega) (by simp) (by rw[bz];omega) (by omega)];rfl
 .rw[aQ a,ed,ae,af a]
def nx (v:Int):e8 F0 v=some (ax v,()):=by
 have b:(128:Int) ^ (4+1)=34359738368:=by decide
 rw[Xz,bR,ai,agz];unfold ax;by_cases a:0<=v/\v<=2147483647
 .rw[aL a,aN,aa,ag a,aAg 4 v [] F0.n a.1 (by omega) (by simp) (by rw[bz];omega) (by omega)];rfl
 .rw[aQ a,ed,ae,af a]
def OZ {s:ByteArray}(h:s.size<=1048576):nI F0 s=some (gd s,()):=by have:=b6 (s.size:Int);have a:=YE s;rw[amb,kb,ai,aL (show(s.size:Int)<=F0.mem by rw[aHf];omega),ab,ar (by omega) (by omega) (by first|omega|(simp only[aK,aW,bm];omega)|(rw[bc,bB];omega)),ab];rfl
def JP {s:ByteArray}(h:s.size<=1048576):n1 F0 s=some (gd s,()):=by have:=b6 (s.size:Int);rw[amR,nx,ai,aKV (by first|omega|(simp only[aK,aW,bm];omega)|(rw[bc,bB];omega)),ab];rfl
def BI (l:List Int):(jD l).length<=5*l.length:=by
 induction l with
 |nil=>exact bF _
 |cons x l a =>
  have:=b6 x;show(ax x++jD l).length<=_;rw[aK,aW];omega
def aCK (l:List Int)(x:Int):jD (l++[x])=jD l++ax x:=by simp[jD]
def axU {γ:Type}(X:Nat->Int->List Int->Option γ)(l pre:List Int)(R:Option γ)(d:l.length<=1048576)(e:pre.length<=1048576)
  (b:∀n k xs (h:k<l.length),xs.length<=10485760->X (n+1) (k:Int) xs=X n ((k+1:Nat):Int) (xs++ax l[k])) (c:∀n,X (n+1) (l.length:Int) (pre++jD l)=R) (n:Nat) (f:l.length<n):X n 0 pre=R:=by
 refine cv X l.length (fun k xs=>xs=pre++jD (l.take k)) R (fun n k xs a h=>.inr ⟨_,b n k xs a (by have:=BI (l.take k);rw[bB]at this;rw[h,aK];omega),?_⟩) (fun n xs h=>?_) n 0 pre (aR _) (by simp[jD]) (by omega)
 .rw[ei a,aCK,h,hS]
 .rw[h,kl];exact c n
def YI {l:List Int}(h:l.length<=1048576):sk F0 l=some (jD l,()):=by
 rw[amk];refine axU (fun n k xs=>Ae F0 (CL F0) n (sj l k xs)) l [] _ h (by simp) (fun n k xs a b=>?_) (fun n=>?_) _ (by rw[bz];omega)
 .have:=b6 l[k];rw[HE,aM a,ae,an a,ab,aV a,kb,ai,ar (by omega) (by omega) (by first|omega|(simp only[aK,aW,bm];omega)|(rw[bc,bB];omega)),ab,al (by omega)]
 .rw[HE,aC,aa,acY];rfl
def Gg {l:List Int}(h:l.length<=1048576):ld F0 l=some (jD l,()):=by
 rw[amS];refine axU (fun n k xs=>AZ F0 (C3 F0) n (sM l (l.length:Int) k xs)) l [] _ h (by simp) (fun n k xs a b=>?_) (fun n=>?_) _ (by rw[bz];omega)
 .have:=b6 l[k];rw[HU,aM a,ae,an a,ab,aV a,nx,ai,ar (by omega) (by omega) (by first|omega|(simp only[aK,aW,bm];omega)|(rw[bc,bB];omega)),ab,al (by omega)]
 .rw[HU,aC,aa,adb];rfl
def qcB (c:Int×Int)(q:bZ):List Int:=if eW c q=true then ku q else []
def O0 {s:ByteArray}(h:s.size<=1048576):(gd s).length<=1048581:=by have:=YF s;omega
def YJ {q:bZ}(h:ur q)(c:Int×Int):r9 F0 c q=some (qcB c q,()):=by
 have d:=b6 q.1;have e:=O0 h.1;have f:=b6 (q.2.2.length:Int);have g:=h.2;rw[amc,S5 h,ai];unfold qcB;cases b:eW c q with
 |false=>rw[ed,ae,af (by decide)]
 |true =>
  have i:=td b;rw[aN,aa,ag rfl,kb,ai,OZ h.1,ai,ar (by omega) (by omega) (by first|omega|(simp only[aK,aW,bm];omega)|(rw[bc,bB];omega)),ab,kb,ai,ar (by omega) (by omega) (by first|omega|(simp only[aK,aW,bm];omega)|(rw[bc,bB];omega)),ab];refine axU (fun n k xs=>za F0 (CF F0) n (r8 k q.1 q.2.1 q.2.2 xs)) q.2.2 _ _ h.2 (by have:=YF q.2.1;simp only[aK];omega) (fun n k xs a j=>?_) (fun n=>?_) _ (by rw[bz];omega)
  .have:=b6 q.2.2[k];rw[Hy,aM a,ae,an a,ab,aV a,kb,ai,ar (by omega) (by omega) (by first|omega|(simp only[aK,aW,bm];omega)|(rw[bc,bB];omega)),ab,al (by omega)]
  .rw[Hy,aC,aa,acT];simp[ku,BG]
def Tg {q:bZ}(h:ur q)(c:Int×Int):sO F0 c q=some (qcB c q,()):=by
 have a:=b6 q.1;have b:=O0 h.1;have d:=b6 (q.2.2.length:Int);have e:=BI q.2.2;have f:=h.2;rw[amT,RW h,ai];unfold qcB;cases g:eW c q with
 |false=>rw[ed,ae,af (by decide)]
 |true =>
  rw[aN,aa,ag rfl,nx,ai,JP h.1,ai,ar (by omega) (by omega) (by first|omega|(simp only[aK,aW,bm];omega)|(rw[bc,bB];omega)),ab,nx,ai,ar (by omega) (by omega) (by first|omega|(simp only[aK,aW,bm];omega)|(rw[bc,bB];omega)),ab,Gg h.2,ai,ar (by omega) (by omega) (by first|omega|(simp only[aK,aW,bm];omega)|(rw[bc,bB];omega)),ab];simp[ku,BG]
def ajy {c:Int×Int}{q:bZ}:(qcB c q).length<=6000:=by
 unfold qcB;split
 .rename_i h;have:=td h;have:=YG this.1;omega
 .exact aR _
def ajz (c:Int×Int)(s:bf):List Int:=if bh c s=true then dz s else []
def atK {s:bf}(h:kp s)(c:Int×Int):zb F0 c s=some (ajz c s,()):=by
 have d:=b6 s.1;have e:=b6 s.2.1;have f:=ajy (c:=c) (q:=s.2.2.1);have g:=O0 h.2;rw[ae6,De h,ai];unfold ajz;cases a:bh c s with
 |false=>rw[ed,ae,af (by decide)]
 |true =>
  have b:=(cC a).2.2.1;rw[aN,aa,ag rfl,kb,ai,kb,ai,ar (by omega) (by omega) (by first|omega|(simp only[aK,aW,bm];omega)|(rw[bc,bB];omega)),ab,YJ h.1,ai,ar (by omega) (by omega) (by first|omega|(simp only[aK,aW,bm];omega)|(rw[bc,bB];omega)),ab,OZ h.2,ai,ar (by omega) (by omega) (by first|omega|(simp only[aK,aW,bm];omega)|(rw[bc,bB];omega)),ab];simp[dz,qcB,b]
def arz {s:bf}(h:kp s)(c:Int×Int):A4 F0 c s=some (ajz c s,()):=by
 have a:=BI [s.1,s.2.1];have e:=ajy (c:=c) (q:=s.2.2.1);have f:=O0 h.2;simp only[aW,bm]at a;rw[afK,Ge h,ai];unfold ajz;cases b:bh c s with
 |false=>rw[ed,ae,af (by decide)]
 |true =>
  have d:=(cC b).2.2.1;rw[aN,aa,ag rfl,Gg (by simp),ai,Tg h.1,ai,ar (by omega) (by omega) (by first|omega|(simp only[aK,aW,bm];omega)|(rw[bc,bB];omega)),ab,JP h.2,ai,ar (by omega) (by omega) (by first|omega|(simp only[aK,aW,bm];omega)|(rw[bc,bB];omega)),ab];simp[dz,qcB,d,jD]
def YK (c:Int×Int)(s:bf):List Int:=if bh c s=true then dA s else []
def atL {s:bf}(h:kp s)(c:Int×Int):zs F0 c s=some (YK c s,()):=by
 rw[ae8,atK h,ai];unfold YK ajz;cases a:bh c s with
 |false=>rfl
 |true =>
  have b:=R1 a;have d:=b6 ((dz s).length:Int);simp only[gR];rw[show(((dz s).length:Int)==0)=false from bU.2 (by omega),aa,kb,ai,ar (by omega) (by omega) (by first|omega|(simp only[aK,aW,bm];omega)|(rw[bc,bB];omega)),ab,ar (by omega) (by omega) (by first|omega|(simp only[aK,aW,bm];omega)|(rw[bc,bB];omega)),ab];simp[dA]
def arA {s:bf}(h:kp s)(c:Int×Int):A5 F0 c s=some (YK c s,()):=by
 rw[afM,arz h,ai];unfold YK ajz;cases a:bh c s with
 |false=>rfl
 |true =>
  have b:=R1 a;have d:=b6 ((dz s).length:Int);simp only[gR];rw[show(((dz s).length:Int)==0)=false from bU.2 (by omega),aa,nx,ai,ar (by omega) (by omega) (by first|omega|(simp only[aK,aW,bm];omega)|(rw[bc,bB];omega)),ab,ar (by omega) (by omega) (by first|omega|(simp only[aK,aW,bm];omega)|(rw[bc,bB];omega)),ab];simp[dA]
def agQ (c:Int×Int)(m:b1):List Int:=if c8 c m=true then Dj m else []
def Th {c:Int×Int}{m:b1}(h:c8 c m=true):(m.1=1/\eW c m.2.2.1.2=true)\/m.1=2\/(m.1=3/\eW c m.2.2.2.2.1=true)\/m.1=4:=by
 unfold c8 at h;simp only[aG]at h;obtain⟨f,_,a⟩:=h;by_cases b:m.1=1
 .rw[ag (by simpa using b)]at a;simp only[fK,aG]at a;exact .inl ⟨b,a.1⟩
 .by_cases d:m.1=2
  .exact .inr (.inl d)
  .by_cases e:m.1=3
   .rw[af (by simpa using b),af (by simpa using d),ag (by simpa using e)]at a;simp only[aG]at a;exact .inr (.inr (.inl ⟨e,a.2.1⟩))
   .rw[af (by simpa using b),af (by simpa using d),af (by simpa using e)]at a;simp only[aG,bd]at a;exact .inr (.inr (.inr a.1))
def axV {m:b1}(h:gb m)(c:Int×Int):Ek F0 c m=some (agQ c m,()):=by
 rw[aid,J7 h,ai];unfold agQ;cases e:c8 c m with
 |false=>rw[ed,ae,af (by decide)]
 |true =>
  have g:=b6 m.1;rw[aN,aa,ag rfl,kb,ai];unfold Dj;rcases Th e with ⟨k,b⟩|k|⟨k,b⟩|k
  .have a:=O0 h.1;have d:=ajy (c:=c) (q:=m.2.2.1.2);rw[show(m.1==1)=true by simpa using k,ae,OZ h.1,ai,ar (by omega) (by omega) (by first|omega|(simp only[aK,aW,bm];omega)|(rw[bc,bB];omega)),ab,YJ h.2.1,ai,ar (by omega) (by omega) (by first|omega|(simp only[aK,aW,bm];omega)|(rw[bc,bB];omega)),ab,ag k];simp[qcB,b]
  .have a:=b6 m.2.2.2.1.1;have d:=O0 h.2.2.1.1;have i:=b6 (m.2.2.2.1.2.2.length:Int);have j:=BI m.2.2.2.1.2.2;have f:=h.2.2.1.2;rw[show(m.1==1)=false by simp[k],aa,show(m.1==2)=true by simp[k],ae,kb,ai,ar (by omega) (by omega) (by first|omega|(simp only[aK,aW,bm];omega)|(rw[bc,bB];omega)),ab,OZ h.2.2.1.1,ai,ar (by omega) (by omega) (by first|omega|(simp only[aK,aW,bm];omega)|(rw[bc,bB];omega)),ab,kb,ai,
    ar (by omega) (by omega) (by first|omega|(simp only[aK,aW,bm];omega)|(rw[bc,bB];omega)),ab,YI f,ai,ar (by omega) (by omega) (by first|omega|(simp only[aK,aW,bm];omega)|(rw[bc,bB];omega)),ab,af (by omega),ag k]
   simp[ku,BG]
  .have a:=BI [m.2.1,m.2.2.2.2.2.1];have d:=ajy (c:=c) (q:=m.2.2.2.2.1);simp only[aW,bm]at a;rw[show(m.1==1)=false by simp[k],aa,show(m.1==2)=false by simp[k],aa,show(m.1==3)=true by simp[k],ae,YI (by simp),ai,ar (by omega) (by omega) (by first|omega|(simp only[aK,aW,bm];omega)|(rw[bc,bB];omega)),ab,YJ h.2.2.2,ai,ar (by omega) (by omega) (by first|omega|(simp only[aK,aW,bm];omega)|(rw[bc,bB];omega)),ab,af (by omega),af (by omega),ag k];simp[jD,qcB,b]
  .have a:=BI [m.2.2.2.2.2.2.1,m.2.2.2.2.2.2.2.1,m.2.2.2.2.2.2.2.2.1,m.2.2.2.2.2.2.2.2.2];simp only[aW,bm]at a;rw[show(m.1==1)=false by simp[k],aa,show(m.1==2)=false by simp[k],aa,show(m.1==3)=false by simp[k],aa,YI (by simp),ai,ar (by omega) (by omega) (by first|omega|(simp only[aK,aW,bm];omega)|(rw[bc,bB];omega)),ab,af (by omega),af (by omega),af (by omega)];simp[jD]
def ab9 {m:b1}(h:gb m)(c:Int×Int):uf F0 c m=some (agQ c m,()):=by
 rw[aiD,Mp h,ai];unfold agQ;cases e:c8 c m with
 |false=>rw[ed,ae,af (by decide)]
 |true =>
  have g:=b6 m.1;rw[aN,aa,ag rfl,nx,ai];unfold Dj;rcases Th e with ⟨k,b⟩|k|⟨k,b⟩|k
  .have a:=O0 h.1;have d:=ajy (c:=c) (q:=m.2.2.1.2);rw[show(m.1==1)=true by simpa using k,ae,JP h.1,ai,ar (by omega) (by omega) (by first|omega|(simp only[aK,aW,bm];omega)|(rw[bc,bB];omega)),ab,Tg h.2.1,ai,ar (by omega) (by omega) (by first|omega|(simp only[aK,aW,bm];omega)|(rw[bc,bB];omega)),ab,ag k];simp[qcB,b]
  .have a:=b6 m.2.2.2.1.1;have d:=O0 h.2.2.1.1;have i:=b6 (m.2.2.2.1.2.2.length:Int);have j:=BI m.2.2.2.1.2.2;have f:=h.2.2.1.2;rw[show(m.1==1)=false by simp[k],aa,show(m.1==2)=true by simp[k],ae,nx,ai,ar (by omega) (by omega) (by first|omega|(simp only[aK,aW,bm];omega)|(rw[bc,bB];omega)),ab,JP h.2.2.1.1,ai,ar (by omega) (by omega) (by first|omega|(simp only[aK,aW,bm];omega)|(rw[bc,bB];omega)),ab,nx,ai,
    ar (by omega) (by omega) (by first|omega|(simp only[aK,aW,bm];omega)|(rw[bc,bB];omega)),ab,Gg f,ai,ar (by omega) (by omega) (by first|omega|(simp only[aK,aW,bm];omega)|(rw[bc,bB];omega)),ab,af (by omega),ag k]
   simp[ku,BG]
  .have a:=BI [m.2.1,m.2.2.2.2.2.1];have d:=ajy (c:=c) (q:=m.2.2.2.2.1);simp only[aW,bm]at a;rw[show(m.1==1)=false by simp[k],aa,show(m.1==2)=false by simp[k],aa,show(m.1==3)=true by simp[k],ae,Gg (by simp),ai,ar (by omega) (by omega) (by first|omega|(simp only[aK,aW,bm];omega)|(rw[bc,bB];omega)),ab,Tg h.2.2.2,ai,ar (by omega) (by omega) (by first|omega|(simp only[aK,aW,bm];omega)|(rw[bc,bB];omega)),ab,af (by omega),af (by omega),ag k];simp[jD,qcB,b]
  .have a:=BI [m.2.2.2.2.2.2.1,m.2.2.2.2.2.2.2.1,m.2.2.2.2.2.2.2.2.1,m.2.2.2.2.2.2.2.2.2];simp only[aW,bm]at a;rw[show(m.1==1)=false by simp[k],aa,show(m.1==2)=false by simp[k],aa,show(m.1==3)=false by simp[k],aa,Gg (by simp),ai,ar (by omega) (by omega) (by first|omega|(simp only[aK,aW,bm];omega)|(rw[bc,bB];omega)),ab,af (by omega),af (by omega),af (by omega)];simp[jD]
end Go.Am.Tryz
