/- No condition. -/
import Derived.Test.YtfapcfpkbahneaaGreatDoorQpVJL4
set_option linter.all false
namespace Go.Am.Tryz
open Go.Am
def yk (w:an):(bU w).length<=w.2.2.1.length:=Lt _ _
def YD {U ζ γ:Type}(X:Nat->Int->ζ->Option γ)(a:List U)(f:ζ->U->ζ)(I:ζ->Prop)(R:Option γ)(z0:ζ)(h0:I z0)(hI:∀z x,x∈a->I z->I (f z x))
  (hs:∀n k z (h:k<a.length),I z->X (n+1) (k:Int) z=X n ((k+1:Nat):Int) (f z a[k])) (he:∀n,X (n+1) (a.length:Int) (a.foldl f z0)=R) (n:Nat) (hn:a.length<n):X n 0 z0=R:=by
 refine dp X a.length (fun k z=>z=(a.take k).foldl f z0/\I z) R (fun n k z hk h=>.inr ⟨_,hs n k z hk h.2,?_,hI _ _ (cX hk) h.2⟩) (fun n z h=>?_) n 0 z0 (aT _) ⟨rfl,h0⟩ (by omega)
 .rw[iy hk,List.foldl_append,h.1];rfl
 .rw[h.1,mB];exact he n
def isSaid (view:Int)(name:ByteArray)(dk:Int)(y:dI):Bool:=(y.1==view)&&((y.2.1.toList==name.toList)&&(y.2.2==dk))
def kD (l:List dI)(view:Int)(name:ByteArray)(dk:Int):Bool:=l.any (isSaid view name dk)
def az6 {U:Type}{p:U->Bool}{l:List U}{k:Nat}(hk:k<l.length):(l.drop k).any p=(p l[k] || (l.drop (k+1)).any p):=by rw[UT hk,List.any_cons]
def aq5 {l:List dI}(h:l.length<=1048576)(view:Int)(name:ByteArray)(dk:Int):EX F0 l view name dk=some (kD l view name dk,()):=by
 rw[aoF];refine dp (fun n k (z:Unit)=>pU F0 (wb F0) n (kP l view name dk k)) l.length (fun k _=>kD l view name dk=(l.drop k).any (isSaid view name dk)) _ (fun n k z hk hI=>?_) (fun n z hI=>?_) F0.n 0 () (aT _) rfl (by rw[cl];omega)
 .rw[az6 hk]at hI;rw[Kn,aX hk,af,av hk,ae,ae,ae,bF hk,agO,ao (by omega),hI];unfold isSaid;cases h1:(l[k].1==view) with
  |false=>exact .inr ⟨(),aa _ _,rfl⟩
  |true =>
   cases h2:(l[k].2.1.toList==name.toList) with
   |false=>exact .inr ⟨(),by rw[af,aa],rfl⟩
   |true =>
    cases h3:(l[k].2.2==dk) with
    |false=>exact .inr ⟨(),by rw[af,af,aa],rfl⟩
    |true=>exact .inl rfl
 .rw[UW]at hI;rw[Kn,aK,aa,ad0,hI];rfl
def aKJ {l:List dI}(h:l.length<=1048576)(x:dI):∃r,Yh F0 l x=some (r,())/\decide (r>=0)=kD l x.1 x.2.1 x.2.2:=by
 rw[awm];have key:∀(j k n:Nat),k+j=l.length->j<n->∃r,Nh F0 (DW F0) n (DV l (l.length:Int) (k:Int) x.1 x.2.1 x.2.2)=some (r,())/\decide (r>=0)=(l.drop k).any (isSaid x.1 x.2.1 x.2.2):=by
  intro j
  induction j with
  |zero =>
   intro k n hk hn;obtain⟨n,rfl⟩:∃m,n=m+1:=⟨n-1,by omega⟩;obtain rfl:k=l.length:=by omega
   rw[Qk,aK,aa,alG,UW];exact⟨-1,rfl,rfl⟩
  |succ j ih =>
   intro k n hk hn;obtain⟨n,rfl⟩:∃m,n=m+1:=⟨n-1,by omega⟩;have hk':k<l.length:=by omega
   have e:((x.1==l[k].1)&&((x.2.1.toList==l[k].2.1.toList)&&((x.2.2==l[k].2.2)&&true)))=isSaid x.1 x.2.1 x.2.2 l[k]:=by unfold isSaid;rw[Bool.and_true,show(x.1==l[k].1)=(l[k].1==x.1) from uf,show(x.2.1.toList==l[k].2.1.toList)=(l[k].2.1.toList==x.2.1.toList) from uf,show(x.2.2==l[k].2.2)=(l[k].2.2==x.2.2) from uf]
   rw[Qk,aX hk',af,av hk',ae,bF hk',e,apn,ao (by omega),az6 hk'];cases hs:isSaid x.1 x.2.1 x.2.2 l[k]with
   |true=>exact⟨(k:Int),af _ _,by rw[aN (show(k:Int)>=0 by omega)];rfl⟩
   |false =>
    rw[aa,Jq];exact ih (k+1) n (by omega) (by omega)
 exact key l.length 0 F0.n (by omega) (by rw[cl];omega)
def CI {l:List dI}(h:l.length<=1048576)(x:dI):dU F0 l x=some (kD l x.1 x.2.1 x.2.2,()):=by obtain⟨r,h1,h2⟩:=aKJ h x;rw[Ge,h1,aj,h2]
def Q7 (liars:List Int)(l:List dI)(view:Int)(name:ByteArray)(i:Int):Bool:=decide (i∈liars) || kD l view name i
def signed (liars:List Int)(l:List dI)(view:Int)(name:ByteArray)(dk:List Int):Bool:=dk.all (Q7 liars l view name)
def acv {liars:List Int}(h1:liars.length<=1048576){l:List dI}(h2:l.length<=1048576)(view:Int)(name:ByteArray){dk:List Int}(h3:dk.length<=1048576):x7 F0 liars l view name dk=some (signed liars l view name dk,()):=by
 rw[aoG,mg (fun m k=>uN F0 (wc F0) m (pz liars l view name dk k)) dk.length (fun k=>Q7 liars l view name (dk.getD k 0)) (some (true,())) (some (false,())) (fun m k hk=>?_) (fun m=>?_) _ (by rw[cl];omega),Ll,QU]
 .rfl
 .rw[Ko,aX hk,af,av hk,ae,ae,bF hk,gv (by omega),aj,aq5 h2,aj,agP,ao (by omega),bm hk];unfold Q7;cases decide (dk[k]∈liars)<;>cases kD l view name dk[k]<;>rfl
 .rw[Ko,aK,aa,ad1]
def XU {liars:List Int}(h1:liars.length<=1048576){l:List dI}(h2:l.length<=1048576)(view:Int)(name:ByteArray){dk:List Int}(h3:dk.length<=1048576):ye F0 liars l view name dk=some (signed liars l view name dk,()):=by
 rw[apE,mg (fun m k=>u3 F0 (wP F0) m (pJ liars l view name dk (dk.length:Int) k)) dk.length (fun k=>Q7 liars l view name (dk.getD k 0)) (some (true,())) (some (false,())) (fun m k hk=>?_) (fun m=>?_) _ (by rw[cl];omega),Ll,QU]
 .rfl
 .rw[Ld,aX hk,af,av hk,ae,bF hk,fN (by omega),aj,CI h2,aj,ahx,ao (by omega),bm hk];unfold Q7;cases decide (dk[k]∈liars)<;>cases kD l view name dk[k]<;>rfl
 .rw[Ld,aK,aa,aeL]
def I1 (liars:List Int)(l:List dI)(q:cY):Bool:=signed liars l q.1 q.2.1 q.2.2
def Gp (c:Int×Int)(liars:List Int)(l:List dI)(m:cQ):Bool :=
 dR c m&&(if m.1=1 then decide (cG c (aH m.2.2.1.1.data.toList)∈liars)&&I1 liars l m.2.2.1.2 else if m.1=2 then I1 liars l m.2.2.2.1 else if m.1=3 then decide (m.2.2.2.2.2.1∈liars)&&I1 liars l m.2.2.2.2.1 else true)
def aCG {c:Int×Int}{liars:List Int}(h1:liars.length<=1048576){l:List dI}(h2:l.length<=1048576){m:cQ}(hm:gI m):MF F0 c liars l m=some (Gp c liars l m,()):=by
 rw[aoI,Jk hm,aj,p4 hm.1,aj,Ln,aj,gv (by omega),aj,acv h1 h2 _ _ hm.2.1.2,aj,acv h1 h2 _ _ hm.2.2.1.2,aj,gv (by omega),aj,acv h1 h2 _ _ hm.2.2.2.2,aj];unfold Gp;cases dR c m with
 |false=>rfl
 |true =>
  rw[aO,aa,hY];by_cases k1:m.1=1
  .rw[bC.2 k1,af,ai k1];dsimp only;cases decide (cG c (aH m.2.2.1.1.data.toList)∈liars)<;>rfl
  .rw[ct.2 k1,aa,ah k1];by_cases k2:m.1=2
   .rw[bC.2 k2,af,ai k2];rfl
   .rw[ct.2 k2,aa,ah k2];by_cases k3:m.1=3
    .rw[bC.2 k3,af,ai k3];dsimp only;cases decide (m.2.2.2.2.2.1∈liars)<;>rfl
    .rw[ct.2 k3,aa,ah k3]
def axr:sZ F0=some (cM,()):=by rw[TK];rfl
def afC {liars:List Int}{l:List dI}{q:cY}{U:Type}(f:Bool->U):br (jv q cM) (some (f true)) (some (f (I1 liars l q)))=some (f (I1 liars l q)):=by
 cases h:jv q cM with
 |false=>rfl
 |true =>
  have:=Q0 h;subst this;rfl
def az7 {c:Int×Int}{liars:List Int}(h1:liars.length<=1048576){l:List dI}(h2:l.length<=1048576){m:cQ}(hm:gI m):NI F0 c liars l m=some (Gp c liars l m,()):=by
 rw[apG,Lr hm,aj,rW hm.1,aj,Jh,aj,fN (by omega),aj,axr,aj,Lq hm.2.1,aj,XU h1 h2 _ _ hm.2.1.2,aj,XU h1 h2 _ _ hm.2.2.1.2,aj,fN (by omega),aj,aj,Lq hm.2.2.2,aj,XU h1 h2 _ _ hm.2.2.2.2,aj];dsimp only;have f1:=afC (liars:=liars) (l:=l) (q:=m.2.2.1.2) (fun b=>(b,()));have f2:=afC (liars:=liars) (l:=l) (q:=m.2.2.2.2.1) (fun b=>(b,()));unfold I1 at f1 f2;rw[f1,f2];unfold Gp;cases dZ:dR c m with
 |false=>rfl
 |true =>
  rw[aO,aa,hY];rcases(afB dZ).k with k|k|k|k
  .rw[ct.2 (show m.1≠4 by omega),aa,ct.2 (show m.1≠2 by omega),aa,bC.2 k,af,ai k];unfold I1;cases decide (cG c (aH m.2.2.1.1.data.toList)∈liars)<;>rfl
  .rw[ct.2 (show m.1≠4 by omega),aa,bC.2 k,af,ah (by omega),ai k];rfl
  .rw[ct.2 (show m.1≠4 by omega),aa,ct.2 (show m.1≠2 by omega),aa,ct.2 (show m.1≠1 by omega),aa,ah (by omega),ah (by omega),ai k];unfold I1;cases decide (m.2.2.2.2.2.1∈liars)<;>rfl
  .rw[bC.2 k,af,ah (by omega),ah (by omega),ah (by omega)]
def Uy (id:Int)(q:cY):List dI:=if eh q.2.1=true then [] else if id∈q.2.2 then [(q.1,q.2.1,id)] else []
def dv (id:Int)(m:cQ):List dI:=if m.1=4 then [] else if m.1=2 then Uy id m.2.2.2.1 else if m.1=1 then Uy id m.2.2.1.2 else Uy id m.2.2.2.2.1
def Q8 (id:Int)(q:cY):br (q.2.1.toList==al.toList) (some (([]:List dI),())) (br (!decide (id∈q.2.2)) (some ([],())) (some ([(q.1,q.2.1,id)],())))=some (Uy id q,()):=by
 unfold Uy eh;cases (q.2.1.toList==al.toList) with
 |true=>rfl
 |false =>
  by_cases h:id∈q.2.2
  .rw[aN h,ah (by decide),ai h];rfl
  .rw[aR h,ah (by decide),ah h];rfl
def aCH {m:cQ}(hm:gI m)(id:Int):MM F0 id m=some (dv id m,()):=by
 rw[aoP,gv (cR hm.2.2.1.2 (by omega)),aj,gv (cR hm.2.1.2 (by omega)),aj,gv (cR hm.2.2.2.2 (by omega)),aj];dsimp only;rw[Q8 id m.2.2.2.1,Q8 id m.2.2.1.2,Q8 id m.2.2.2.2.1];unfold dv;by_cases k4:m.1=4
 .rw[ai k4,ct.2 (show m.1≠2 by omega),aa,ct.2 (show m.1≠1 by omega),aa,bC.2 k4,af]
 .rw[ah k4,ct.2 k4,aa,aa,aa];by_cases k2:m.1=2
  .rw[ai k2,bC.2 k2,af]
  .rw[ah k2,ct.2 k2,aa];by_cases k1:m.1=1
   .rw[ai k1,bC.2 k1,af]
   .rw[ah k1,ct.2 k1,aa]
def ajZ {m:cQ}(hm:gI m)(id:Int):E9 F0 id m=some (dv id m,()):=by
 rw[apm,fN (cR hm.2.2.1.2 (by omega)),aj,fN (cR hm.2.1.2 (by omega)),aj,fN (cR hm.2.2.2.2 (by omega)),aj];dsimp only;rw[Q8 id m.2.2.2.1,Q8 id m.2.2.1.2,Q8 id m.2.2.2.2.1];unfold dv;by_cases k4:m.1=4
 .rw[ai k4,bC.2 k4,af]
 .rw[ah k4,ct.2 k4,aa];by_cases k2:m.1=2
  .rw[ai k2,bC.2 k2,af]
  .rw[ah k2,ct.2 k2,aa];by_cases k1:m.1=1
   .rw[ai k1,bC.2 k1,af]
   .rw[ah k1,ct.2 k1,aa]
def acw (id:Int)(m:cQ):(dv id m).length<=1:=by
 have h1:∀q:cY,(Uy id q).length<=1:=fun q=>by
  unfold Uy;split
  .exact aT _
  .split
   .exact bZ _
   .exact aT _
 unfold dv;split
 .exact aT _
 .split
  .exact h1 _
  .split
   .exact h1 _
   .exact h1 _
def CJ (l:List dI)(x:dI):List dI:=if l.length<300/\kD l x.1 x.2.1 x.2.2=false then l++[x] else l
def aCI (id:Int)(l:List dI)(p:kG):List dI:=(dv id p.2).foldl CJ l
def YE (id:Int)(list:List kG)(l:List dI):List dI:=list.foldl (aCI id) l
def yl (w:an)(id:Int)(list:List kG):an:=if id∈bU w then (w.1,w.2.1,w.2.2.1,w.2.2.2.1,YE id list w.2.2.2.2) else w
def acx {l:List dI}(h:l.length<=300)(x:dI):(CJ l x).length<=300:=by
 unfold CJ;split
 .rename_i hh;rw[aL,dM];omega
 .exact h
def afD:∀{xs:List dI} {l:List dI},l.length<=300->(xs.foldl CJ l).length<=300
 |[],_,h=>h|x::xs,l,h=>afD (xs:=xs) (acx h x)
def aj0 (id:Int):∀{list:List kG} {l:List dI},l.length<=300->(YE id list l).length<=300
 |[],_,h=>h|p::list,l,h=>aj0 id (list:=list) (afD h)
def aGi {w:an}(h:OL w)(hs:w.2.2.2.2.length<=300)(id:Int){list:List kG}(hl:list.length<=1048576)(hm:∀p∈list,gI p.2):Ku F0 w id list=some (yl w id list,()):=by
 rw[asj,ajU h,aj,aqq h.l,aj,gv (by have:=yk w;have:=h.l.r;dsimp only;omega),aj];unfold yl;by_cases hi:id∈bU w
 .rw[aN hi,ai hi,aO,aa];refine YD (fun n k z=>Ia F0 (zU F0) n (zT id list k 0 0 w.1.1 w.1.2 [] [] [] [] w.2.1 w.2.2.1 w.2.2.2.1 z)) list (aCI id) (fun z=>z.length<=300) _ w.2.2.2.2 hs (fun z p hp hz=>afD hz) (fun n k z hk hz=>?_) (fun n=>?_) _ (by rw[cl];omega)
  .rw[MO,aX hk,af,av hk,ae,bF hk,aCH (hm _ (cX hk)),aj];have hsl:=acw id list[k].2;refine YD (fun m j (y:List dI)=>sW F0 (Kt F0 (zU F0) n) m (nn id list (k:Int) j 0 0 w.1.1 w.1.2 (dv id list[k].2) [] [] [] [] w.2.1 w.2.2.1 w.2.2.2.1 y)) (dv id list[k].2) CJ (fun y=>y.length<=300) _ z hz (fun y x hx hy=>acx hy x) (fun m j y hj hy=>?_) (fun m=>?_) _ (by rw[cl];omega)
   .rw[MN,aX hj,af,av hj,ae,bF hj,aq5 (by omega),aj,az (by omega) (by omega) (by first|omega|(simp only[aL,aZ,bE];omega)|(rw[bB,bV];omega)),ae,ao (by omega)];unfold CJ;by_cases h3:y.length<300
    .rw[aN (show(y.length:Int)<300 by omega),af];cases kD y (dv id list[k].2)[j].1 (dv id list[k].2)[j].2.1 (dv id list[k].2)[j].2.2 with
     |true=>rw[ah (fun hh=>by cases hh.2)];rfl
     |false=>rw[ai ⟨h3,rfl⟩];rfl
    .rw[aR (show ¬(y.length:Int)<300 by omega),aa,ah (fun hh=>h3 hh.1)]
   .rw[MN,aK,aa,agS,ao (by omega)];rfl
  .rw[MO,aK,aa,agT];rfl
 .rw[aR hi,ah hi];rfl
def aCJ {w:an}(h:OL w)(hs:w.2.2.2.2.length<=300)(id:Int){list:List kG}(hl:list.length<=1048576)(hm:∀p∈list,gI p.2):RV F0 w id list=some (yl w id list,()):=by
 rw[asy,mi h,aj,Fq h.l,aj,fN (by have:=yk w;have:=h.l.r;dsimp only;omega),aj];unfold yl;by_cases hi:id∈bU w
 .rw[aN hi,ai hi,aO,aa];refine YD (fun n k z=>Iu F0 (Ay F0) n (Ax id list (list.length:Int) k 0 0 w.1.1 w.1.2 [] [] [] [] w.2.1 w.2.2.1 w.2.2.2.1 z)) list (aCI id) (fun z=>z.length<=300) _ w.2.2.2.2 hs (fun z p hp hz=>afD hz) (fun n k z hk hz=>?_) (fun n=>?_) _ (by rw[cl];omega)
  .rw[Nj,aX hk,af,av hk,ae,bF hk,ajZ (hm _ (cX hk)),aj];have hsl:=acw id list[k].2;refine YD (fun m j (y:List dI)=>tp F0 (KN F0 (Ay F0) n) m (nI id list (list.length:Int) (k:Int) ((dv id list[k].2).length:Int) j 0 0 w.1.1 w.1.2 (dv id list[k].2) [] [] [] [] w.2.1 w.2.2.1 w.2.2.2.1 y)) (dv id list[k].2) CJ (fun y=>y.length<=300) _ z hz (fun y x hx hy=>acx hy x) (fun m j y hj hy=>?_) (fun m=>?_) _ (by rw[cl];omega)
   .rw[Ni,aX hj,af,av hj,ae,bF hj,CI (by omega),aj,az (by omega) (by omega) (by first|omega|(simp only[aL,aZ,bE];omega)|(rw[bB,bV];omega)),ae,ao (by omega)];unfold CJ;by_cases h3:y.length<300
    .rw[aN (show(y.length:Int)<300 by omega),af];cases kD y (dv id list[k].2)[j].1 (dv id list[k].2)[j].2.1 (dv id list[k].2)[j].2.2 with
     |true=>rw[ah (fun hh=>by cases hh.2)];rfl
     |false=>rw[ai ⟨h3,rfl⟩];rfl
    .rw[aR (show ¬(y.length:Int)<300 by omega),aa,ah (fun hh=>h3 hh.1)];cases kD y (dv id list[k].2)[j].1 (dv id list[k].2)[j].2.1 (dv id list[k].2)[j].2.2<;>rfl
   .rw[Ni,aK,aa,ahd,ao (by omega)];rfl
  .rw[Nj,aK,aa,ahe];rfl
 .rw[aR hi,ah hi];rfl
def aaZ (c:Int×Int)(UR:List mn)(p:kG):List mn:=if UR.length<60/\dR c p.2=true/\ix 0 (ak (c.1-1)) p.1=true then UR++[(p.1,CF p.2)] else UR
def aq6 (c:Int×Int)(list:List kG)(UR:List mn):List mn:=list.foldl (aaZ c) UR
def Ba (w:an)(list:List kG):an:=(w.1,w.2.1,w.2.2.1,aq6 w.1 list w.2.2.2.1,w.2.2.2.2)
def aid {c:Int×Int}{UR:List mn}(h:UR.length<=60)(p:kG):(aaZ c UR p).length<=60:=by
 unfold aaZ;split
 .rename_i hh;rw[aL,dM];omega
 .exact h
def aut (c:Int×Int)(m:cQ):decide (((afn c m).length:Int)>0)=dR c m:=by
 unfold afn;cases h:dR c m with
 |false=>rfl
 |true =>
  have:=(aqG h).2.2;rw[ai rfl];exact aN (by omega)
def aj1 {w:an}(hn:w.2.2.2.1.length<=60){list:List kG}(hl:list.length<=1048576)(hm:∀p∈list,gI p.2):zP F0 w list=some ((Ba w list,()),()):=by
 rw[ala];refine YD (fun n k z=>kq F0 (B9 F0) n (gU list k w.1.1 w.1.2 0 0 w.2.1 w.2.2.1 z w.2.2.2.2 [] [] [] [])) list (aaZ w.1) (fun z=>z.length<=60) _ w.2.2.2.1 hn (fun z p hp hz=>aid hz p) (fun n k z hk hz=>?_) (fun n=>?_) _ (by rw[cl];omega)
 .rw[GU,aX hk,af,av hk,ae,bF hk,show((w.1.1,w.1.2):Int×Int)=w.1 from rfl,aw7 (hm _ (cX hk)),aj,ae,dG,aj,ae,az (by omega) (by omega) (by first|omega|(simp only[aL,aZ,bE];omega)|(rw[bB,bV];omega)),ae,ao (by omega)];dsimp only;rw[aut];unfold aaZ;by_cases h3:z.length<60
  .rw[aN (show(z.length:Int)<60 by omega),af];cases h4:dR w.1 list[k].2 with
   |false=>rw[ah (fun hh=>by cases hh.2.1)];rfl
   |true =>
    cases h5:ix 0 (ak (w.1.1-1)) list[k].1 with
    |false=>rw[ah (fun hh=>by cases hh.2.2)];rfl
    |true=>rw[ai ⟨h3,rfl,rfl⟩,af,af,show afn w.1 list[k].2=CF list[k].2 from ai h4]
  .rw[aR (show ¬(z.length:Int)<60 by omega),aa,ah (fun hh=>h3 hh.1)]
 .rw[GU,aK,aa,abG];rfl
def aGj {w:an}(h:OL w)(hn:w.2.2.2.1.length<=60){list:List kG}(hl:list.length<=1048576)(hm:∀p∈list,gI p.2):Qn F0 w list=some (if my w=true then Ba w list else w,()):=by
 rw[awo,mi h,aj,tT h.l,aj];cases dZ:my w with
 |false=>rfl
 |true =>
  rw[aO,aa,ai rfl];refine YD (fun n k z=>rM F0 (OA F0) n (me list (list.length:Int) k w.1.1 w.1.2 w.2.1 w.2.2.1 w.2.2.2.1 w.2.2.2.2 0 0 w.1.1 w.1.2 [] [] [] [] w.2.1 w.2.2.1 z w.2.2.2.2)) list (aaZ w.1) (fun z=>z.length<=60) _ w.2.2.2.1 hn (fun z p hp hz=>aid hz p) (fun n k z hk hz=>?_) (fun n=>?_) _ (by rw[cl];omega)
  .rw[Qm,aX hk,af,av hk,ae,bF hk,show((w.1.1,w.1.2):Int×Int)=w.1 from rfl,aaU (hm _ (cX hk)),aj,cm,aj,az (by omega) (by omega) (by first|omega|(simp only[aL,aZ,bE];omega)|(rw[bB,bV];omega)),ae,ao (by omega)];dsimp only;rw[aut];unfold aaZ;cases h4:dR w.1 list[k].2 with
   |false=>rw[ah (fun hh=>by cases hh.2.1)];rfl
   |true =>
    cases h5:ix 0 (ak (w.1.1-1)) list[k].1 with
    |false=>rw[ah (fun hh=>by cases hh.2.2)];rfl
    |true =>
     by_cases h3:z.length<60
     .rw[aN (show(z.length:Int)<60 by omega),ai ⟨h3,rfl,rfl⟩,show afn w.1 list[k].2=CF list[k].2 from ai h4];rfl
     .rw[aR (show ¬(z.length:Int)<60 by omega),ah (fun hh=>h3 hh.1)];rfl
  .rw[Qm,aK,aa,alK];rfl
def amy {c:Int×Int}{r:aC}{sN:Int}{m:cQ}:(nV c r sN m).1.1=r.1:=by unfold nV;split<;>rfl
def aIJ {c:Int×Int}{r:aC}{q:cY}:(ue c r q).1.1=r.1:=by
 have h:(written c r q).1.1=r.1:=afu;unfold ue;split
 .split
  .exact h
  .split
   .exact h
   .rw[amy];exact h
 .rfl
def aq7 {c:Int×Int}{r:aC}{view:Int}{name:ByteArray}{push:Bool}:(gM c r view name push).1.1=r.1:=by
 unfold gM;split
 .rfl
 .split
  .split
   .exact aIJ
   .rfl
  .split
   .rfl
   .exact amy
def aMO {c:Int×Int}{r:aC}{name:ByteArray}:(own c r name).1.1=r.1:=by
 unfold own;split
 .rw[aq7];rfl
 .rfl
def aIK {r:aC}{b:dd}:(kH r b).1=r.1:=by unfold kH;split<;>rfl
def afE {c:Int×Int}{r:aC}{b:dd}:(gZ c r b).1.1=r.1:=by
 have h:(j1 c (kH r b) (uy c r b)).1.1=r.1:=by rw[afu,aIK]
 unfold gZ Fu;split
 .split
  .split
   .rw[aMO];exact h
   .rfl
  .exact h
 .rfl
def az8 {c:Int×Int}{r:aC}{p:cY}:(lY c r p).1.1=r.1:=by
 unfold lY;split
 .rw[aq7];rfl
 .rfl
def az9 {imp:Bool}{c:Int×Int}{r:aC}{view:Int}{q:cY}{dk:Int}:(lZ imp c r view q dk).1.1=r.1:=by
 have h:(written c r q).1.1=r.1:=afu;have h2:∀(l:Bool) (o:aC),(Q5 l o view q).1=o.1:=fun l o=>by unfold Q5;split<;>rfl
 unfold lZ uA;split
 .split
  .split
   .rw[h2];exact h
   .rfl
  .rw[h2];exact h
 .rfl
def aIL {imp:Bool}{c:Int×Int}{r:aC}{m:cQ}:(A9 imp c r m).1.1=r.1:=by
 unfold A9;split
 .exact afE
 .split
  .exact az8
  .split
   .exact az9
   .rfl
def axs {imp:Bool}{c:Int×Int}{r:aC}{m:cQ}:(LC imp c r m).1.1=r.1:=by
 unfold LC;split
 .exact aIL (imp:=imp)
 .rfl
def aIM {c:Int×Int}{r:aC}:(Hq c r).1.1=r.1:=by
 unfold Hq;split
 .rfl
 .split
  .split
   .rfl
   .rfl
  .split
   .rw[amy];rfl
   .rfl
def aie {c:Int×Int}{r:aC}{m:cQ}:∀(j k:Nat) (o:aC),o.1=r.1->(xI c r m j k o).1.1=r.1
 |0,_,_,h=>h|j+1,k,o,h=>by
  unfold xI;split
  .exact aie j (k+1) o h
  .split
   .exact aie j (k+1) _ (by rw[amy];exact h)
   .rfl
def LD (r:aC):aC:=(r.1,r.2.1,r.2.1,r.2.2.2)
def bc.LD {c:Int×Int}{r:aC}(h:bc c r):bc c (LD r):=by have hv:=h.view;exact⟨⟨h.f.cf,h.f.i,h.f.v,by show ix 0 60 r.2.1=true;simp only[ix,aI,cA];omega,h.f.s,h.f.p,h.f.t,h.f.d,h.f.n,h.f.h⟩,h.b⟩
def aif (c:Int×Int)(r:aC):aC×Bool:=YA c (LD r) (aqU (ask c r).1)
def acy (c:Int×Int)(r:aC):aC×Int :=
 if (ask c r).2=true then (if (aif c r).2=true/\(gZ c (aif c r).1 (ask c r).1).2=true then ((gZ c (aif c r).1 (ask c r).1).1,0) else (r,4)) else (r,3)
def aCK {c:Int×Int}{r:aC}(h:bc c r):bc c (aif c r).1:=h.LD.aKF _
def bc.acy {c:Int×Int}{r:aC}(h:bc c r):bc c (acy c r).1:=by
 unfold Tryz.acy;split
 .split
  .exact(aCK h).aq2 _
  .exact h
 .exact h
def aKK {c:Int×Int}{r:aC}:(acy c r).1.1=r.1:=by
 unfold acy;split
 .split
  .rw[afE];exact aie _ _ _ rfl
  .rfl
 .rfl
def aAa {c:Int×Int}{r:aC}(h:bc c r):IK F0 c r=some ((acy c r).1,(acy c r).2,()):=by
 rw[al2,aIE h,aj,eT h.bt,aj];unfold acy;cases h1:(ask c r).2 with
 |false=>rfl
 |true =>
  obtain⟨_,hb,_,_⟩:=aIF h1;obtain⟨hb1,hb2⟩:=Jm hb;have hT:AY F0 c (r.1,r.2.1,r.2.1,r.2.2.2) (1,0,(ask c r).1,(0,al,[]),(0,al,[]),0,0,0,0,0)=some ((aif c r).1,(aif c r).2,()):=axn h.LD (acr hb1 hb2);dsimp only;rw[hT,aj,XS (aCK h) hb,aj,aO,aa,ai rfl];cases (aif c r).2 with
  |false=>rw[ah (fun hh=>by cases hh.1)];rfl
  |true =>
   cases (gZ c (aif c r).1 (ask c r).1).2 with
   |false=>rw[ah (fun hh=>by cases hh.2)];rfl
   |true=>rw[ai ⟨rfl,rfl⟩];rfl
def Bb (c:Int×Int)(r:aC):Nat->aC×Int
 |0=>(r,3)|k+1=>if eh (r.2.2.2.2.2.1.getD k cM).2.1=true then Bb c r k
  else if (gM c r (r.2.2.2.2.2.1.getD k cM).1 (r.2.2.2.2.2.1.getD k cM).2.1 true).2=true then ((gM c r (r.2.2.2.2.2.1.getD k cM).1 (r.2.2.2.2.2.1.getD k cM).2.1 true).1,0) else (r,3)
def auu (c:Int×Int)(r:aC):aC×Int:=Bb c r r.2.2.2.2.2.1.length
def aAb {c:Int×Int}{r:aC}(h:bc c r):∀k,bc c (Bb c r k).1
 |0=>h|k+1=>by
  unfold Bb;split
  .exact aAb h k
  .split
   .exact h.axk _ _ _
   .exact h
def auv {c:Int×Int}{r:aC}:∀k,(Bb c r k).1.1=r.1
 |0=>rfl|k+1=>by
  unfold Bb;split
  .exact auv k
  .split
   .exact aq7
   .rfl
def auw {c:Int×Int}{r:aC}(h:bc c r):∀(k n:Nat),k<=r.2.2.2.2.2.1.length->k<n ->
  wW F0 (qN F0) n (qM ((k:Int)-1) c.1 c.2 r.1 r.2.1 r.2.2.1 r.2.2.2.1.1 r.2.2.2.1.2.1 r.2.2.2.1.2.2.1.1 r.2.2.2.1.2.2.1.2.1 r.2.2.2.1.2.2.1.2.2 r.2.2.2.1.2.2.2 r.2.2.2.2.1 r.2.2.2.2.2.1 r.2.2.2.2.2.2.1.1 r.2.2.2.2.2.2.1.2 r.2.2.2.2.2.2.2 0 0 0 0 0 0 al al 0 [] [] [] [] [])
   = some ((Bb c r k).1,(Bb c r k).2,())
 |0,n+1,hk,hn=>by rw[Fk,aR (show ¬((0:Nat):Int)-1>=0 by omega),aa,Y7];rfl
 |k+1,n+1,hk,hn=>by
  have hk':k<r.2.2.2.2.2.1.length:=by omega
  have ht:=h.f.l.t;have hC:=acs h (r.2.2.2.2.2.1[k]).1 (h.l.tq _ (cX hk')).1 true;rw[Fk,show((k+1:Nat):Int)-1=(k:Int) by omega,aN (show(k:Int)>=0 by omega),af,av hk',ae,bF hk',Lg];unfold Bb;rw[bm hk',show((r.2.2.2.2.2.1[k]).2.1.toList==al.toList)=eh (r.2.2.2.2.2.1[k]).2.1 from rfl];cases hnn:eh (r.2.2.2.2.2.1[k]).2.1 with
  |true =>
   rw[ai rfl,aO,aa,aJ (by omega) (by omega)];exact auw h k n (by omega) (by omega)
  |false =>
   rw[ah (by decide),ff,af];refine BC (qd (fun x=>Option.bind x _) hC) ?_;rw[aj];cases (gM c r (r.2.2.2.2.2.1[k]).1 (r.2.2.2.2.2.1[k]).2.1 true).2 with
   |false=>rfl|true=>rw[Lg];rfl
def axt {c:Int×Int}{r:aC}(h:bc c r):Em F0 c r=some ((auu c r).1,(auu c r).2,()):=by have ht:=h.f.l.t;rw[ahD,aJ (by omega) (by omega)];exact auw h r.2.2.2.2.2.1.length F0.n (bZ _) (by rw[cl];omega)
def Et (r:aC)(d:qQ):aC:=(r.1,r.2.1,r.2.2.1,r.2.2.2.1,r.2.2.2.2.1,r.2.2.2.2.2.1,d,r.2.2.2.2.2.2.2)
def XV (r:aC)(keep:Int):aC:=Et r (nS r.2.2.2.2.2.2.1 keep)
def auy (c:Int×Int)(r:aC)(keep:Int):aC:=azO c (XV r keep)
def bc.XV {c:Int×Int}{r:aC}(h:bc c r)(keep:Int):bc c (XV r keep):=by
 have hk:=afp h.f.d keep;have hd:=dY.1 h.f.d;have e:nS r.2.2.2.2.2.2.1 keep=(r.2.2.2.2.2.2.1.1.take (LB r.2.2.2.2.2.2.1 keep).toNat,LB r.2.2.2.2.2.2.1 keep):=ai h.f.d;refine⟨⟨h.f.cf,h.f.i,h.f.v,h.f.a,h.f.s,h.f.p,h.f.t,?_,h.f.n,h.f.h⟩,?_⟩
 .show gH (nS r.2.2.2.2.2.2.1 keep)=true;rw[e];refine dY.2 ⟨?_,?_,?_⟩
  .dsimp only;rw[bV];omega
  .dsimp only;omega
  .dsimp only;rw[bV];omega
 .show ∀x∈(nS r.2.2.2.2.2.2.1 keep).1,_;rw[e];exact fun x hx=>h.b x (Zb hx)
def acz {c:Int×Int}(hc:bL c=true):bM c lV=true:=by unfold bM fO Y9 lV;simp only[hc,ix];rfl
def aGk {c:Int×Int}{b:List Int}(hc:bL c=true):bM c (o6 c b).1=true:=by
 unfold o6;split
 .rename_i h;exact h.2.2
 .exact acz hc
def aAc {c:Int×Int}{b:List Int}(hc:bL c=true):∀(f:Nat) (s:bG) (a:Nat),bM c s=true->bM c (Hp c b f s a).1=true
 |0,_,_,h=>h|f+1,s,a,h=>by
  cases hn:Lv c b a with
  |none=>rw[kv hn];exact h
  |some z =>
   obtain⟨s',a'⟩:=z;rw[Lw hn];refine aAc hc f s' a' ?_;cases hg:rX b a with
   |none=>rw[CD hg]at hn;cases hn
   |some y =>
    obtain⟨v,a0⟩:=y;rw[CC hg]at hn;split at hn
    .cases hn
    .split at hn
     .cases hn
     .split at hn
      .have e1:=qd Prod.fst (fJ hn);dsimp only at e1;rw[<-e1];exact aGk hc
      .cases hn
def aAd {c:Int×Int}(hc:bL c=true)(b:List Int):bM c (iQ c b).1=true:=aAc hc _ _ _ (acz hc)
def bc.aOP {c:Int×Int}{r:aC}(h:bc c r):bc c (azO c r):=by
 have hs:=aAd h.f.cf r.2.2.2.2.2.2.1.1;have hle:=XP c h.bt.d;have hd:=dY.1 h.f.d;obtain⟨h1,h2,h3,h4⟩:=dX hs;refine⟨⟨h.f.cf,h.f.i,?_,rfl,hs,rfl,rfl,?_,aT _,fun x hx=>by cases hx⟩,fun x hx=>h.b x (Zb hx)⟩
 .show ix 1 60 (aqM (iQ c r.2.2.2.2.2.2.1.1).1)=true;simp only[ix,aI,cA];unfold aqM Gn tV
  repeat' split
  all_goals omega
 .show gH (r.2.2.2.2.2.2.1.1.take (iQ c r.2.2.2.2.2.2.1.1).2,((iQ c r.2.2.2.2.2.2.1.1).2:Int))=true;refine dY.2 ⟨?_,?_,?_⟩
  .dsimp only;rw[bV];omega
  .dsimp only;omega
  .dsimp only;rw[bV];omega
def bc.auy {c:Int×Int}{r:aC}(h:bc c r)(keep:Int):bc c (auy c r keep):=(h.XV keep).aOP
abbrev eU:=Int×Int×Int×cQ
def aCL (imp:Bool)(c:Int×Int)(r:aC)(m:cQ):aC×Int:=if (LC imp c r m).2=true/\m.1=4 then ((LC imp c r m).1,0) else (r,3)
def aih (imp:Bool)(c:Int×Int)(r:aC)(d:eU):aC×Int :=
 if d.1=1 then acy c r else if d.1=6 then auu c r else if d.1=7 then (if (Hq c r).2=true then ((Hq c r).1,0) else (r,3)) else if d.1=8 then (auy c r d.2.2.1,0) else aCL imp c r d.2.2.2
def bc.aih {c:Int×Int}{r:aC}(h:bc c r)(imp:Bool)(d:eU):bc c (aih imp c r d).1:=by
 unfold Tryz.aih;split
 .exact h.acy
 .split
  .exact aAb h _
  .split
   .split
    .exact h.aOO
    .exact h
   .split
    .exact h.auy _
    .unfold aCL;split
     .exact h.heard _ _
     .exact h
def aKL {imp:Bool}{c:Int×Int}{r:aC}{d:eU}:(aih imp c r d).1.1=r.1:=by
 unfold aih;split
 .exact aKK
 .split
  .exact auv _
  .split
   .split
    .exact aIM
    .rfl
   .split
    .rfl
    .unfold aCL;split
     .exact axs
     .rfl
def aAe {c:Int×Int}{r:aC}(h:bc c r){d:eU}(hd:gI d.2.2.2):IL F0 c r d=some ((aih true c r d).1,(aih true c r d).2,()):=by
 have hR:QK F0 c (r.1,r.2.1,r.2.2.1,r.2.2.2.1,r.2.2.2.2.1,r.2.2.2.2.2.1,nS r.2.2.2.2.2.2.1 d.2.2.1,r.2.2.2.2.2.2.2)=some (auy c r d.2.2.1,()):=aF7 (h.XV d.2.2.1).bt (h.XV d.2.2.1).ok;rw[al6,eT h.bt,aj,aAa h,aj,axt h,aj,aGe h,aj,azN h.bt.d.1,aj,aus h hd,aj];dsimp only;rw[hR,aj];unfold aih;by_cases k1:d.1=1
 .rw[bC.2 k1,af,ai k1]
 .rw[ct.2 k1,aa,ah k1];by_cases k6:d.1=6
  .rw[bC.2 k6,af,ai k6]
  .rw[ct.2 k6,aa,ah k6];by_cases k7:d.1=7
   .rw[bC.2 k7,af,ai k7];cases (Hq c r).2<;>rfl
   .rw[ct.2 k7,aa,ah k7];by_cases k8:d.1=8
    .rw[bC.2 k8,af,ai k8]
    .rw[ct.2 k8,aa,ah k8];unfold aCL;cases (LC true c r d.2.2.2).2 with
     |false=>rw[ah (fun hh=>by cases hh.1)];rfl
     |true =>
      by_cases k4:d.2.2.2.1=4
      .rw[ai ⟨rfl,k4⟩,bC.2 k4];rfl
      .rw[ah (fun hh=>k4 hh.2),ct.2 k4];rfl
def Eu:an:=((0,0),[],[],[],[])
def auz (c:Int×Int)(x:mn):Prop:=eQ x.2/\(n7 c x.2).2=true/\ix 0 (ak (c.1-1)) x.1=true
def aAf (c:Int×Int)(x:dI):Prop:=ix 0 (ak (c.1-1)) x.2.2=true/\bu x.2.1.data.toList=true/\aH x.2.1.data.toList=x.1
structure aM (w:an):Prop where
 c:bL w.1=true
 l:jA w.1.1 w.2.1=true
 lf:(w.2.1.length:Int)<=uv w.1
 n:(w.2.2.1.length:Int)=w.1.1
 g:∀r∈w.2.2.1,bc w.1 r
 id:∀(k:Nat) (h:k<w.2.2.1.length),(w.2.2.1[k]).1=(k:Int)
 nl:w.2.2.2.1.length<=60
 nb:∀x∈w.2.2.2.1,auz w.1 x
 sl:w.2.2.2.2.length<=300
 sb:∀x∈w.2.2.2.2,aAf w.1 x
def aM.le7 {w:an}(h:aM w):4<=w.2.2.1.length/\w.2.2.1.length<=7:=by have:=cF h.c;have:=h.n;omega
def aM.liars {w:an}(h:aM w):w.2.1.length<=7:=by have h1:=cF h.c;have:=ah2 h.l;omega
def aCM {c:Int×Int}{x:dI}(h:aAf c x):x.2.1.size<=1048576:=cR (kY h.2.1) (by omega)
def aM.w {w:an}(h:aM w):OL w :=
 ⟨⟨by have:=h.liars;omega,by have:=h.le7;omega,fun x hx=>(h.g x hx).l,by have:=h.nl;omega,fun x hx=>(h.nb x hx).1,by have:=h.sl;omega,fun x hx=>aCM (h.sb x hx)⟩,fun r hr=>(h.g r hr).bt.d⟩
def Jn {U:Type}{l:List U}{k:Nat}(h:k<l.length)(d:U):l.getD k d=l[k]:=bm h d
def aM.ok {w:an}(h:aM w):my w=true:=by
 unfold my aqo IV tS;simp only[aI,ais,axQ,SC,iU,kb];refine⟨h.c,h.l,by have:=h.lf;omega,h.n,by have:=h.nl;omega,by have:=h.sl;omega,fun k hk=>?_,fun k hk=>?_,fun k hk=>?_⟩
 .unfold aqn;rw[Jn hk,aI,bC];exact⟨(h.g _ (cX hk)).ok,h.id k hk⟩
 .unfold acd;rw[Jn hk,aI];exact(h.nb _ (cX hk)).2
 .unfold ace;rw[Jn hk,aI,aI,bC];exact h.sb _ (cX hk)
def aM.of {w:an}(h:my w=true)(hn:∀x∈w.2.2.2.1,eQ x.2)(hb:∀r∈w.2.2.1,∀x∈r.2.2.2.2.2.2.1.1,0<=x/\x<=255):aM w:=by
 unfold my aqo IV tS at h;simp only[aI,ais,axQ,SC,iU,kb]at h;obtain⟨h1,h2,h3,h4,h5,h6,h7,h8,h9⟩:=h;have hr:∀k (hk:k<w.2.2.1.length),qP w.1 w.2.2.1[k]=true/\(w.2.2.1[k]).1=(k:Int):=fun k hk=>by have:=h7 k hk;unfold aqn at this;rw[Jn hk,aI,bC]at this;exact this
 refine⟨h1,h2,by omega,h4,fun r hm=>?_,fun k hk=>(hr k hk).2,by omega,fun x hx=>?_,by omega,fun x hx=>?_⟩
 .obtain⟨k,hk,rfl⟩:=aiq hm;exact⟨CH.1 (hr k hk).1,hb _ hm⟩
 .obtain⟨k,hk,rfl⟩:=aiq hx;have:=h8 k hk;unfold acd at this;rw[Jn hk,aI]at this;exact⟨hn _ hx,this⟩
 .obtain⟨k,hk,rfl⟩:=aiq hx;have:=h9 k hk;unfold ace at this;rw[Jn hk,aI,aI,bC]at this;exact this
def cN (w:an)(a:Int):aC:=w.2.2.1.getD a.toNat ajL
def hJ (w:an)(a:Int)(r:aC):an:=(w.1,w.2.1,w.2.2.1.set a.toNat r,w.2.2.2)
def aCN {w:an}{a:Int}(h0:0<=a)(h1:a<w.2.2.1.length):cN w a∈w.2.2.1:=by unfold cN;rw[bm (show a.toNat<w.2.2.1.length by omega)];exact cX _
def aM.rep {w:an}(h:aM w){a:Int}(h0:0<=a)(h1:a<w.2.2.1.length):bc w.1 (cN w a)/\(cN w a).1=a:=by refine⟨h.g _ (aCN h0 h1),?_⟩;unfold cN;rw[bm (show a.toNat<w.2.2.1.length by omega),h.id _ (show a.toNat<w.2.2.1.length by omega)];omega
def aM.hJ {w:an}(h:aM w){a:Int}(h0:0<=a){r:aC}(hr:bc w.1 r)(hi:r.1=a):aM (hJ w a r):=by
 refine⟨h.c,h.l,h.lf,by show((w.2.2.1.set a.toNat r).length:Int)=_;rw[Gv];exact h.n,fun x hx=>?_,fun k hk=>?_,h.nl,h.nb,h.sl,h.sb⟩
 .rcases List.mem_or_eq_of_mem_set hx with hx|rfl
  .exact h.g x hx
  .exact hr
 .have hk':k<(w.2.2.1.set a.toNat r).length:=hk;have hs:((w.2.2.1.set a.toNat r)[k]'hk').1=(k:Int):=by
   rw[List.getElem_set];split
   .rename_i e;rw[hi];omega
   .exact h.id k (by rw[Gv]at hk';exact hk')
  exact hs
def aEE {c:Int×Int}{q:cY}(hq:bu q.2.1.data.toList=true)(hv:q.2.1.data.toList≠[]->aH q.2.1.data.toList=q.1){id:Int}(hi:ix 0 (ak (c.1-1)) id=true):∀x∈Uy id q,aAf c x:=by
 intro x hx;unfold Uy at hx;cases hn:eh q.2.1 with
 |true=>rw[hn,ai rfl]at hx;cases hx
 |false =>
  rw[hn,ah (by decide)]at hx;split at hx
  .rw[hU.1 hx];refine⟨hi,hq,hv fun h0=>?_⟩;rw[(rY _).2 h0]at hn;cases hn
  .cases hx
def aIO {c:Int×Int}{m:cQ}(hm:dR c m=true){id:Int}(hi:ix 0 (ak (c.1-1)) id=true):∀x∈dv id m,aAf c x:=by
 have hf:=afB hm;have q1:∀q:cY,fO c q=true->∀x∈Uy id q,aAf c x:=fun q hq=>by obtain⟨_,h2,h3,_⟩:=xG hq;exact aEE h2 (fun _=>h3) hi
 rcases hf.k with k|k|k|k
 .have hb:=hf.b k;simp only[gx,aI]at hb;unfold dv;rw[ah (by omega),ah (by omega),ai k];exact q1 _ hb.1
 .obtain⟨_,_,_,_,_,h6,h7⟩:=afi (hf.p k).1;unfold dv;rw[ah (by omega),ai k];exact aEE h6 h7 hi
 .unfold dv;rw[ah (by omega),ah (by omega),ah (by omega)];exact q1 _ (hf.v k).2.1
 .unfold dv;rw[ai k];exact fun x hx=>by cases hx
def aCO {l:List dI}{y x:dI}(h:x∈CJ l y):x∈l\/x=y:=by
 unfold CJ at h;split at h
 .rcases jx.1 h with h|h
  .exact .inl h
  .exact .inr (hU.1 h)
 .exact .inl h
def aq8:∀{ys l:List dI} {x:dI},x∈ys.foldl CJ l->x∈l\/x∈ys
 |[],_,_,h=>.inl h|y::ys,l,x,h=>by
  rcases aq8 (ys:=ys) h with h|h
  .rcases aCO h with h|rfl
   .exact .inl h
   .exact .inr qU
  .exact .inr (ka _ h)
def XW {id:Int}:∀{ps:List kG} {l:List dI} {x:dI},x∈YE id ps l->x∈l\/∃p∈ps,x∈dv id p.2
 |[],_,_,h=>.inl h|p::ps,l,x,h=>by
  rcases XW (ps:=ps) h with h|⟨q,hq,h⟩
  .rcases aq8 h with h|h
   .exact .inl h
   .exact .inr ⟨p,qU,h⟩
  .exact .inr ⟨q,ka _ hq,h⟩
def fI {w:an}{id:Int}(h:id∈bU w):0<=id/\id<w.2.2.1.length:=by have:=Yu w.2.1 w.2.2.1.length id h;exact this
def aM.ix {w:an}(h:aM w){a:Int}(h0:0<=a)(h1:a<w.2.2.1.length):ix 0 (ak (w.1.1-1)) a=true:=by have hc:=cF h.c;have hn:=h.n;rw[XB hc.1 hc.2.1];simp only[Tryz.ix,aI,cA];omega
def aM.aCP {w:an}(h:aM w){a:Int}(ha:Tryz.ix 0 (ak (w.1.1-1)) a=true):0<=a/\a<w.2.2.1.length:=by have hc:=cF h.c;have hn:=h.n;rw[XB hc.1 hc.2.1]at ha;simp only[Tryz.ix,aI,cA]at ha;omega
def aM.yl {w:an}(h:aM w)(id:Int){list:List kG}(hm:∀p∈list,dR w.1 p.2=true):aM (yl w id list):=by
 unfold Tryz.yl;by_cases hi:id∈bU w
 .rw[ai hi];have hr:=fI hi;refine⟨h.c,h.l,h.lf,h.n,h.g,h.id,h.nl,h.nb,aj0 id h.sl,fun x hx=>?_⟩;rcases XW hx with hx|⟨p,hp,hx⟩
  .exact h.sb x hx
  .exact aIO (hm p hp) (h.ix hr.1 hr.2) x hx
 .rw[ah hi];exact h
def auA {c:Int×Int}{m:cQ}(h:dR c m=true){a:Int}(ha:ix 0 (ak (c.1-1)) a=true):auz c (a,CF m):=by have hb:=aqG h;exact⟨⟨by dsimp only;omega,hb.2.1⟩,by rw[ah3 h],ha⟩
def aq9 {c:Int×Int}:∀{ps:List kG} {l:List mn} {x:mn},x∈aq6 c ps l->x∈l\/auz c x
 |[],_,_,h=>.inl h|p::ps,l,x,h=>by
  rcases aq9 (ps:=ps) h with h|h
  .unfold aaZ at h;split at h
   .rename_i hh;rcases jx.1 h with h|h
    .exact .inl h
    .rw[hU.1 h];exact .inr (auA hh.2.1 hh.2.2)
   .exact .inl h
  .exact .inr h
def ara {c:Int×Int}:∀{ps:List kG} {l:List mn},l.length<=60->(aq6 c ps l).length<=60
 |[],_,h=>h|p::ps,l,h=>ara (ps:=ps) (aid h p)
def aM.send {w:an}(h:aM w)(list:List kG):aM (Ba w list) :=
 ⟨h.c,h.l,h.lf,h.n,h.g,h.id,ara h.nl,fun x hx=>(aq9 hx).elim (h.nb x) (fun h=>h),h.sl,h.sb⟩
def aM.XX {w:an}(h:aM w){UR:List mn}(hl:UR.length<=60)(hn:∀x∈UR,auz w.1 x):aM (w.1,w.2.1,w.2.2.1,UR,w.2.2.2.2) :=
 ⟨h.c,h.l,h.lf,h.n,h.g,h.id,hl,hn,h.sl,h.sb⟩
def bc.axu {c:Int×Int}{r:aC}(h:bc c r):∀p∈r.2.2.2.2.2.2.2,dR c p.2=true:=fun p hp=>azU (h.f.h p hp)
def bc.aLG {c:Int×Int}{r:aC}(h:bc c r):∀p∈r.2.2.2.2.2.2.2,gI p.2:=fun p hp=>axh (h.axu p hp)
def Good (w:an):Prop:=OL w/\(my w=true->aM w)
def aM.aCQ {w:an}(h:aM w):Good w:=⟨h.w,fun _=>h⟩
def aM.aLH {w:an}(h:aM w){UR:List mn}(hl:UR.length<=61)(hn:∀x∈UR,auz w.1 x):Good (w.1,w.2.1,w.2.2.1,UR,w.2.2.2.2) :=
 ⟨⟨⟨h.w.l.l,h.w.l.r,h.w.l.rl,by show UR.length<=_;omega,fun x hx=>(hn x hx).1,h.w.l.s,h.w.l.st⟩,h.w.b⟩,fun ho=>aM.of ho (fun x hx=>(hn x hx).1) fun r hr=>(h.g r hr).b⟩
def I2 {w:an}{a:Int}(h0:0<=a)(h1:a<w.2.2.1.length)(d:aC):aU w.2.2.1 a d=cN w a:=by
 have hk:a.toNat<w.2.2.1.length:=by omega
 unfold cN;rw[bm hk];exact bm hk d
def aEF (l:List dI)(id:Int)(list:List kG):Bool:=list.all fun p=>(dv id p.2).all fun x=>kD l x.1 x.2.1 x.2.2
def bA (w:an)(a:Int):List kG:=(cN w a).2.2.2.2.2.2.2
def mo (w:an)(a:Int):an:=hJ (yl w a (bA w a)) a (Ux (cN w a))
def aj2 (w:an)(a:Int):an×Int :=
 if aEF (yl w a (bA w a)).2.2.2.2 a (bA w a)=true then (if w.2.2.2.1.length+(bA w a).length<=60 then (Ba (mo w a) (bA w a),0) else (w,4)) else (w,4)
def arb (w:an)(id:Int)(list:List kG):(yl w id list).1=w.1/\(yl w id list).2.2.1=w.2.2.1/\(yl w id list).2.2.2.1=w.2.2.2.1:=by unfold yl;split<;>exact⟨rfl,rfl,rfl⟩
def aM.mo {w:an}(h:aM w){a:Int}(h0:0<=a)(h1:a<w.2.2.1.length):aM (mo w a):=by obtain⟨hg,hi⟩:=h.rep h0 h1;have hl:=h.yl a (list:=bA w a) hg.axu;have e:=(arb w a (bA w a)).1;exact hl.hJ h0 (by rw[e];exact hg.Ux) hi
def axv {w:an}(h:aM w){a:Int}(h0:0<=a)(h1:a<w.2.2.1.length):DX F0 w a=some ((aj2 w a).1,(aj2 w a).2,()):=by
 obtain⟨hg,hi⟩:=h.rep h0 h1;have hm:=hg.aLG;have hln:(bA w a).length<=30:=hg.f.n;have hO:=h.yl a (list:=bA w a) hg.axu;have hS:=axl hg;have hL:=aCJ h.w h.sl a (list:=bA w a) (by omega) hm;have e3:=(arb w a (bA w a)).2.1;have hsw:=h.mo h0 h1;rw[ahg,mx h0 (by omega),ae,I2 h0 h1,hS,aj];refine BC (qd (fun x=>Option.bind x _) hL) ?_;rw[aj];dsimp only;generalize hS':Ux (cN w a)=S;generalize hO':yl w a (bA w a)=O at hO e3 hsw;have aBT:∀n,gr F0 (.exit 0) (xv a w.1.1 w.1.2 w.2.1 w.2.2.1 w.2.2.2.1 w.2.2.2.2 0 0 S.1 S.2.1 S.2.2.1 S.2.2.2.1.1 S.2.2.2.1.2.1 S.2.2.2.1.2.2.1.1 S.2.2.2.1.2.2.1.2.1 S.2.2.2.1.2.2.2 S.2.2.2.2.2.2.1.2 O.1.1 O.1.2 (bA w a) [] [] [] [] S.2.2.2.1.2.2.1.2.2 S.2.2.2.2.1 S.2.2.2.2.2.1 S.2.2.2.2.2.2.1.1 S.2.2.2.2.2.2.2 O.2.1 O.2.2.1 O.2.2.2.1 O.2.2.2.2)=(fun _:Nat=>some (if w.2.2.2.1.length+(bA w a).length<=60 then (Ba (mo w a) (bA w a),(0:Int),()) else (w,4,()))) n:=fun n=>by
  have hw':hJ O a S=mo w a:=by unfold mo;rw[hO',hS']
  rw[<-hw']at hsw;have hSd:Qn F0 ((O.1.1,O.1.2),O.2.1,O.2.2.1.set a.toNat (S.1,S.2.1,S.2.2.1,(S.2.2.2.1.1,S.2.2.2.1.2.1,(S.2.2.2.1.2.2.1.1,S.2.2.2.1.2.2.1.2.1,S.2.2.2.1.2.2.1.2.2),S.2.2.2.1.2.2.2),S.2.2.2.2.1,S.2.2.2.2.2.1,(S.2.2.2.2.2.2.1.1,S.2.2.2.2.2.2.1.2),S.2.2.2.2.2.2.2),O.2.2.2.1,O.2.2.2.2) (bA w a)=some (Ba (hJ O a S) (bA w a),()):=by have:=aGj hsw.w hsw.nl (list:=bA w a) (by omega) hm;rw[hsw.ok,ai rfl]at this;exact this
  have hnl:=h.nl;rw[Y2,aJ (by omega) (by omega),mx h0 (by rw[e3];omega),ae,hSd,aj];by_cases hh:w.2.2.2.1.length+(bA w a).length<=60
  .rw[aR (show ¬(w.2.2.2.1.length:Int)+(bA w a).length>60 by omega),aa];dsimp only;rw[ai hh,hw']
  .rw[aN (show(w.2.2.2.1.length:Int)+(bA w a).length>60 by omega),af];dsimp only;rw[ah hh]
 have mr:=mg (fun n k=>pF F0 (gr F0) n (lN a ((bA w a).length:Int) k w.1.1 w.1.2 w.2.1 w.2.2.1 w.2.2.2.1 w.2.2.2.2 0 0 S.1 S.2.1 S.2.2.1 S.2.2.2.1.1 S.2.2.2.1.2.1 S.2.2.2.1.2.2.1.1 S.2.2.2.1.2.2.1.2.1 S.2.2.2.1.2.2.2 S.2.2.2.2.2.2.1.2 O.1.1 O.1.2 (bA w a) [] [] [] [] S.2.2.2.1.2.2.1.2.2 S.2.2.2.2.1 S.2.2.2.2.2.1 S.2.2.2.2.2.2.1.1 S.2.2.2.2.2.2.2 O.2.1 O.2.2.1 O.2.2.2.1 O.2.2.2.2)) (bA w a).length
  (fun k=>(dv a ((bA w a).getD k awW).2).all fun x=>kD O.2.2.2.2 x.1 x.2.1 x.2.2) (some (if w.2.2.2.1.length+(bA w a).length<=60 then (Ba (mo w a) (bA w a),(0:Int),()) else (w,4,()))) (some (w,4,()))
  (fun n k hk=>?_) (fun n=>?_) F0.n (by rw[cl];omega)
 .refine BC mr ?_;rw[Ll (bA w a) (fun p=>(dv a p.2).all fun x=>kD O.2.2.2.2 x.1 x.2.1 x.2.2) awW];unfold aj2 aEF;rw[hO'];cases ((bA w a).all fun p=>(dv a p.2).all fun x=>kD O.2.2.2.2 x.1 x.2.1 x.2.2) with
  |false=>rfl
  |true =>
   rw[ai rfl,ai rfl];split<;>rfl
 .have hsl:=acw a ((bA w a)[k]).2;rw[Fb,aX hk,af,av hk,ae,bF hk,ajZ (hm _ (cX hk)),aj,bm hk];have hin:=mg (fun m j=>wF F0 (qI F0 (gr F0) n) m (qH a ((bA w a).length:Int) (k:Int) ((dv a ((bA w a)[k]).2).length:Int) j w.1.1 w.1.2 w.2.1 w.2.2.1 w.2.2.2.1 w.2.2.2.2 0 0 S.1 S.2.1 S.2.2.1 S.2.2.2.1.1 S.2.2.2.1.2.1 S.2.2.2.1.2.2.1.1 S.2.2.2.1.2.2.1.2.1 S.2.2.2.1.2.2.2 S.2.2.2.2.2.2.1.2 O.1.1 O.1.2 (bA w a) (dv a ((bA w a)[k]).2) [] [] [] [] S.2.2.2.1.2.2.1.2.2 S.2.2.2.2.1 S.2.2.2.2.2.1 S.2.2.2.2.2.2.1.1 S.2.2.2.2.2.2.2 O.2.1 O.2.2.1 O.2.2.2.1 O.2.2.2.2)) (dv a ((bA w a)[k]).2).length
   (fun j=>(fun x:dI=>kD O.2.2.2.2 x.1 x.2.1 x.2.2) ((dv a ((bA w a)[k]).2).getD j acb)) (pF F0 (gr F0) n (lN a ((bA w a).length:Int) ((k+1:Nat):Int) w.1.1 w.1.2 w.2.1 w.2.2.1 w.2.2.2.1 w.2.2.2.2 0 0 S.1 S.2.1 S.2.2.1 S.2.2.2.1.1 S.2.2.2.1.2.1 S.2.2.2.1.2.2.1.1 S.2.2.2.1.2.2.1.2.1 S.2.2.2.1.2.2.2 S.2.2.2.2.2.2.1.2 O.1.1 O.1.2 (bA w a) [] [] [] [] S.2.2.2.1.2.2.1.2.2 S.2.2.2.2.1 S.2.2.2.2.2.1 S.2.2.2.2.2.2.1.1 S.2.2.2.2.2.2.2 O.2.1 O.2.2.1 O.2.2.2.1 O.2.2.2.2)) (some (w,4,()))
   (fun m j hj=>?_) (fun m=>?_) F0.n (by rw[cl];omega)
  .refine BC hin ?_;rw[Ll (dv a ((bA w a)[k]).2) (fun x:dI=>kD O.2.2.2.2 x.1 x.2.1 x.2.2) acb]
  .have hos:=hO.sl;rw[Fa,aX hj,af,av hj,ae,bF hj,CI (by omega),aj,abT,abU,ao (by omega),bm hj];rcases Bool.eq_false_or_eq_true (kD O.2.2.2.2 (dv a ((bA w a)[k]).2)[j].1 (dv a ((bA w a)[k]).2)[j].2.1 (dv a ((bA w a)[k]).2)[j].2.2) with hs|hs
   .simp only[hs,aO,aa,iA]
   .simp only[hs,ff,af];rfl
  .rw[Fa,aK,aa,Y1,ao (by omega)]
 .rw[Fb,aK,aa];exact aBT n
def acA (UR:List mn)(k:Nat):List mn:=UR.take k++UR.drop (k+1)
def dJ (w:an)(a:Int):mn:=w.2.2.2.1.getD a.toNat aB8
def XX (w:an)(UR:List mn):an:=(w.1,w.2.1,w.2.2.1,UR,w.2.2.2.2)
def Q9 (w:an)(a:Int):an:=XX w (acA w.2.2.2.1 a.toNat)
def aii (imp:Bool)(w:an)(x:mn):aC:=(LC imp w.1 (cN w x.1) (n7 w.1 x.2).1).1
def aj3 (imp:Bool)(w:an)(a:Int):an:=if (dJ w a).1∈bU w then hJ (Q9 w a) (dJ w a).1 (aii imp w (dJ w a)) else Q9 w a
def axw (w:an)(d:eU):an×Int :=
 if d.1=3 then (aj3 true w d.2.1,0) else if d.1=4 then (Q9 w d.2.1,0) else if d.1=5 then (XX w (w.2.2.2.1++[dJ w d.2.1]),0)
 else if Gp w.1 w.2.1 w.2.2.2.2 d.2.2.2=true then (XX w (w.2.2.2.1++[(d.2.1,CF d.2.2.2)]),0) else (w,5)
def acB {UR:List mn}{k:Nat}{x:mn}(h:x∈acA UR k):x∈UR:=by
 rcases jx.1 h with h|h
 .exact Zb h
 .exact auS h
def aCR (UR:List mn)(k:Nat):(acA UR k).length<=UR.length:=by unfold acA;rw[aL,bV,bB];omega
def aM.Q9 {w:an}(h:aM w)(a:Int):aM (Q9 w a):=h.XX (cR (aCR _ _) h.nl) fun x hx=>h.nb x (acB hx)
def aM.aj3 {w:an}(h:aM w)(imp:Bool)(a:Int):aM (aj3 imp w a):=by
 unfold Tryz.aj3;split
 .rename_i hi;have hr:=fI hi;obtain⟨hg,hid⟩:=h.rep hr.1 hr.2;exact(h.Q9 a).hJ hr.1 (hg.heard imp _) (by unfold aii;rw[axs];exact hid)
 .exact h.Q9 a
def aM.aKM {w:an}(h:aM w){a:Int}(h0:0<=a)(h1:a<w.2.2.2.1.length):auz w.1 (dJ w a):=by refine h.nb _ ?_;unfold dJ;rw[bm (show a.toNat<w.2.2.2.1.length by omega)];exact cX _
def aAg {c:Int×Int}{b:List Int}(h:(n7 c b).2=true):gI (n7 c b).1/\dR c (n7 c b).1=true:=by
 have:dR c (n7 c b).1=true:=by
  unfold n7 fin at h ⊢;split at h
  .rename_i hh;rw[ai hh];exact hh.2.2
  .cases h
 exact⟨axh this,this⟩
def aj4 {w:an}(h:aM w){d:eU}(hd:gI d.2.2.2)(hr:d.1=3\/d.1=4\/d.1=5->0<=d.2.1/\d.2.1<w.2.2.2.1.length):o4 F0 w d=some ((axw w d).1,(axw w d).2,()):=by
 have hnl:=h.nl;have hlen:=yk w;have h7:=h.le7;rw[alW,mi h.w,aj];dsimp only;unfold axw;by_cases k:d.1=3\/d.1=4\/d.1=5
 .obtain⟨r0,r1⟩:=hr k;have hx:=h.aKM r0 r1;obtain⟨hml,hmo⟩:=aAg hx.2.1;have e1:ak (d.2.1+1)=d.2.1+1:=aJ (by omega) (by omega);have et:(d.2.1+1).toNat=d.2.1.toNat+1:=by omega
  have ex:∀aG:mn,aU w.2.2.2.1 d.2.1 aG=dJ w d.2.1:=fun aG=>by
   unfold dJ;have hk:d.2.1.toNat<w.2.2.2.1.length:=by omega
   rw[bm hk];show w.2.2.2.1.getD d.2.1.toNat aG=_;exact bm hk aG
  obtain⟨t0,t1⟩:=h.aCP hx.2.2;obtain⟨hg,hid⟩:=h.rep t0 t1;have hH:∀aG:aC,Je F0 w.1 (aU w.2.2.1 (dJ w d.2.1).1 aG) (n7 w.1 (dJ w d.2.1).2).1=some ((LC true w.1 (cN w (dJ w d.2.1).1) (n7 w.1 (dJ w d.2.1).2).1).1,(LC true w.1 (cN w (dJ w d.2.1).1) (n7 w.1 (dJ w d.2.1).2).1).2,()):=fun aG=>by
   have hk:(dJ w d.2.1).1.toNat<w.2.2.1.length:=by omega
   have:aU w.2.2.1 (dJ w d.2.1).1 aG=cN w (dJ w d.2.1).1:=by unfold cN;rw[bm hk];exact bm hk aG
   rw[this];exact aus hg hml
  rw[mx r0 r1,ae,e1,aqy r0 (by omega) (by omega),ae,ae,ae,ex,aqm hx.1,aj,hx.2.1,af,Fq h.w.l,aj,fN (by dsimp only;omega),aj,mx t0 t1,ae,hH,aj,afm hx.1.1,aj,az (by omega) (by omega) (by first|omega|(simp only[aL,aZ,bE];omega)|(rw[bB,bV];omega)),ae];dsimp only;rw[ae,et];rcases k with k|k|k
  .rw[bC.2 k,af,ai k];unfold aj3;by_cases hh:(dJ w d.2.1).1∈bU w
   .rw[aN hh,af,ai hh];rfl
   .rw[aR hh,aa,ah hh];rfl
  .rw[ct.2 (show d.1≠3 by omega),aa,bC.2 k,af,ah (by omega),ai k];rfl
  .rw[ct.2 (show d.1≠3 by omega),aa,ct.2 (show d.1≠4 by omega),aa,bC.2 k,af,ah (by omega),ah (by omega),ai k];rfl
 .have hli:=h.liars;have hsl:=h.sl;rw[ct.2 (show d.1≠3 by omega),aa,ct.2 (show d.1≠4 by omega),aa,ct.2 (show d.1≠5 by omega),aa,ah (by omega),ah (by omega),ah (by omega),az7 (by omega) (by omega) hd,aj,aaU hd,aj,az (by omega) (by omega) (by first|omega|(simp only[aL,aZ,bE];omega)|(rw[bB,bV];omega)),ae];cases hm:Gp w.1 w.2.1 w.2.2.2.2 d.2.2.2 with
  |false=>rfl
  |true =>
   have dZ:dR w.1 d.2.2.2=true:=by unfold Gp at hm;rw[aI]at hm;exact hm.1
   dsimp only;rw[show afn w.1 d.2.2.2=CF d.2.2.2 from ai dZ];rfl
def Hr (d:eU):Bool:=(d.1==3) || ((d.1==4) || (d.1==5))
def gA {d:eU}:Hr d=true↔d.1=3\/d.1=4\/d.1=5:=by simp[Hr]
def ON (w:an)(d:eU):Bool :=
 if Hr d=true then ix 0 (ak ((w.2.2.2.1.length:Int)-1)) d.2.1 else if d.1=10 then ix 0 (ak (w.1.1-1)) d.2.1 else decide (d.2.1∈bU w)
def Jo {w:an}{d:eU}(h:Hr d=true):ON w d=ix 0 (ak ((w.2.2.2.1.length:Int)-1)) d.2.1:=ai h
def aij {w:an}{d:eU}(h:¬Hr d=true)(h2:d.1=10):ON w d=ix 0 (ak (w.1.1-1)) d.2.1:=by unfold ON;rw[ah h,ai h2]
def CK {w:an}{d:eU}(h:¬Hr d=true)(h2:¬d.1=10):ON w d=decide (d.2.1∈bU w):=by unfold ON;rw[ah h,ah h2]
def aAh {w:an}(h:aM w)(d:eU):Is F0 w d=some (ON w d,()):=by
 have hlen:=yk w;have h7:=h.le7;rw[alC,cm,aj,cm,aj,Fq h.w.l,aj,fN (by dsimp only;omega),aj];by_cases k3:d.1=3
 .rw[bC.2 k3,af,Jo (gA.2 (.inl k3))]
 .rw[ct.2 k3,aa];by_cases k4:d.1=4
  .rw[bC.2 k4,af,Jo (gA.2 (.inr (.inl k4)))]
  .rw[ct.2 k4,aa];by_cases k5:d.1=5
   .rw[bC.2 k5,af,Jo (gA.2 (.inr (.inr k5)))]
   .have kn:¬Hr d=true:=fun hh=>(gA.1 hh).elim k3 (fun hh=>hh.elim k4 k5)
    rw[ct.2 k5,aa];by_cases k10:d.1=10
    .rw[bC.2 k10,af,aij kn k10]
    .rw[ct.2 k10,aa,CK kn k10]
def arc (imp:Bool)(w:an)(d:eU):an×Int:=(hJ w d.2.1 (aih imp w.1 (cN w d.2.1) d).1,(aih imp w.1 (cN w d.2.1) d).2)
def axx (w:an)(d:eU):an×Int:=if d.1=2 then aj2 w d.2.1 else if Hr d=true\/d.1=10 then axw w d else arc true w d
def aGl (w:an)(x:an×Int):an×Int:=if x.2=0 then (if my x.1=true then (x.1,0) else (w,4)) else (w,x.2)
def doI (w:an)(d:eU):an×Int:=if ix 1 10 d.1=true then (if ON w d=true then aGl w (axx w d) else (w,2)) else (Eu,1)
def Ra {w:an}(h:aM w){a:Int}(ha:ix 0 (ak ((w.2.2.2.1.length:Int)-1)) a=true):0<=a/\a<w.2.2.2.1.length:=by have hn:=h.nl;rw[aJ (by omega) (by omega)]at ha;simp only[ix,aI,cA]at ha;omega
def aM.arc {w:an}(h:aM w)(imp:Bool){d:eU}(h0:0<=d.2.1)(h1:d.2.1<w.2.2.1.length):aM (arc imp w d).1:=by obtain⟨hg,hi⟩:=h.rep h0 h1;exact h.hJ h0 (hg.aih imp d) (by rw[aKL];exact hi)
def aEG {w:an}(h:aM w){a:Int}(h0:0<=a)(h1:a<w.2.2.1.length):aM (aj2 w a).1:=by
 unfold aj2;split
 .split
  .exact(h.mo h0 h1).send _
  .exact h
 .exact h
def YF {w:an}(h:aM w){d:eU}(hr:Hr d=true->0<=d.2.1/\d.2.1<w.2.2.2.1.length)(ht:¬Hr d=true->ix 0 (ak (w.1.1-1)) d.2.1=true):Good (axw w d).1:=by
 have hnl:=h.nl;unfold axw;split
 .exact(h.aj3 true _).aCQ
 .split
  .exact(h.Q9 _).aCQ
  .split
   .rename_i k5;obtain⟨r0,r1⟩:=hr (gA.2 (.inr (.inr k5)));refine h.aLH (by rw[aL,dM];omega) fun x hx=>?_
    rcases jx.1 hx with hx|hx
    .exact h.nb x hx
    .rw[hU.1 hx];exact h.aKM r0 r1
   .split
    .rename_i k3 k4 k5 hm;have dZ:dR w.1 d.2.2.2=true:=by unfold Gp at hm;rw[aI]at hm;exact hm.1
     refine h.aLH (by rw[aL,dM];omega) fun x hx=>?_
     rcases jx.1 hx with hx|hx
     .exact h.nb x hx
     .rw[hU.1 hx];exact auA dZ (ht fun hh=>(gA.1 hh).elim k3 (fun hh=>hh.elim k4 k5))
    .exact h.aCQ
def aIP {w:an}(hw:OL w){x:an×Int}(hx:Good x.1) :
  br (x.2==0) ((dA F0 x.1).bind fun r72=>br (!r72.1) (br ((4:Int) != 0) ((aS F0 w).bind fun Jc=>some (Jc.1,(4:Int),())) (some (x.1,0,()))) (br (x.2 != 0) ((aS F0 w).bind fun Jc=>some (Jc.1,x.2,())) (some (x.1,0,())))) (br (x.2 != 0) ((aS F0 w).bind fun Jc=>some (Jc.1,x.2,())) (some (x.1,0,())))=some ((aGl w x).1,(aGl w x).2,()):=by
 rw[tT hx.1.l,aj,mi hw,aj,aj];unfold aGl;by_cases h0:x.2=0
 .rw[bC.2 h0,af,ai h0,show(x.2 != 0)=false by simp[h0]];cases my x.1<;>rfl
 .rw[ct.2 h0,aa,ah h0,show(x.2 != 0)=true by simp[h0]];rfl
def aMR {w:an}(h:aM w){d:eU}(hd:gI d.2.2.2):amn F0 w d=some ((doI w d).1,(doI w d).2,()):=by
 have h7:=h.le7;rw[aBP,tT h.w.l,aj,h.ok,aO,aa,cm,aj,aAh h,aj,mi h.w];unfold doI;cases hk:ix 1 10 d.1 with
 |false=>rfl
 |true =>
  rw[ai rfl,aO,aa];cases ht:ON w d with
  |false=>rfl
  |true =>
   rw[ai rfl,aO,aa];simp only[aj];have tail:∀x:an×Int,Good x.1->_:=fun x hx=>aIP h.w hx
   rw[mi h.w]at tail;simp only[aj]at tail;unfold axx;by_cases k2:d.1=2
   .have hh:d.2.1∈bU w:=by rw[CK (fun hh=>by have:=gA.1 hh;omega) (by omega)]at ht;exact nW ht
    obtain⟨r0,r1⟩:=fI hh;rw[bC.2 k2,af,ai k2,axv h r0 r1,aj];exact tail _ (aEG h r0 r1).aCQ
   .rw[ct.2 k2,aa,ah k2];by_cases kn:Hr d=true
    .have hr:ix 0 (ak ((w.2.2.2.1.length:Int)-1)) d.2.1=true:=by rw[Jo kn]at ht;exact ht
     have hnr:=Ra h hr;have hN:=aj4 h hd (fun _=>hnr);have hG:Good (axw w d).1:=YF h (fun _=>hnr) (fun hh=>absurd kn hh);rw[ai (.inl kn),hN,aj];have fin:=tail _ hG;by_cases k3:d.1=3
     .rw[bC.2 k3,af];exact fin
     .rw[ct.2 k3,aa];by_cases k4:d.1=4
      .rw[bC.2 k4,af];exact fin
      .have k5:d.1=5:=by have:=gA.1 kn;omega
       rw[ct.2 k4,aa,bC.2 k5,af];exact fin
    .have kn':¬(d.1=3\/d.1=4\/d.1=5):=fun hh=>kn (gA.2 hh)
     rw[ct.2 (show d.1≠3 by omega),aa,ct.2 (show d.1≠4 by omega),aa,ct.2 (show d.1≠5 by omega),aa];by_cases k10:d.1=10
     .have hr:ix 0 (ak (w.1.1-1)) d.2.1=true:=by rw[aij kn k10]at ht;exact ht
      have hN:=aj4 h hd (fun hh=>absurd (gA.2 hh) kn);rw[bC.2 k10,af,ai (.inr k10),hN,aj];exact tail _ (YF h (fun hh=>absurd hh kn) (fun _=>hr))
     .have hh:d.2.1∈bU w:=by rw[CK kn k10]at ht;exact nW ht
      obtain⟨r0,r1⟩:=fI hh;obtain⟨hg,hi⟩:=h.rep r0 r1;rw[ct.2 k10,aa,ah (fun hh=>hh.elim kn k10),mx r0 (by omega),ae,I2 r0 r1,aAe hg hd,aj,ae];exact tail (arc true w d) (h.arc true r0 r1).aCQ
def aj5 (w:an)(d:eU):an:=if (doI w d).2=0 then (doI w d).1 else w
def aik (w:an)(list:List eU):an:=list.foldl aj5 w
def axy {w:an}(h:aM w)(d:eU):aM (aj5 w d):=by
 unfold aj5;split
 .rename_i h0;unfold doI at h0 ⊢;cases hk:ix 1 10 d.1 with
  |false=>rw[hk,ah (by decide)]at h0;exact absurd (show(1:Int)=0 from h0) (by decide)
  |true =>
   rw[hk,ai rfl]at h0;rw[ai rfl];cases ht:ON w d with
   |false=>rw[ht,ah (by decide)]at h0;exact absurd (show(2:Int)=0 from h0) (by decide)
   |true =>
    rw[ht,ai rfl]at h0;rw[ai rfl];have hG:Good (axx w d).1:=by
     unfold axx;by_cases k2:d.1=2
     .have hh:d.2.1∈bU w:=by rw[CK (fun hh=>by have:=gA.1 hh;omega) (by omega)]at ht;exact nW ht
      obtain⟨r0,r1⟩:=fI hh;rw[ai k2];exact(aEG h r0 r1).aCQ
     .rw[ah k2];by_cases kn:Hr d=true
      .have hr:ix 0 (ak ((w.2.2.2.1.length:Int)-1)) d.2.1=true:=by rw[Jo kn]at ht;exact ht
       rw[ai (.inl kn)];exact YF h (fun _=>Ra h hr) (fun hh=>absurd kn hh)
      .by_cases k10:d.1=10
       .have hr:ix 0 (ak (w.1.1-1)) d.2.1=true:=by rw[aij kn k10]at ht;exact ht
        rw[ai (.inr k10)];exact YF h (fun hh=>absurd hh kn) (fun _=>hr)
       .have hh:d.2.1∈bU w:=by rw[CK kn k10]at ht;exact nW ht
        obtain⟨r0,r1⟩:=fI hh;rw[ah (fun hh=>hh.elim kn k10)];exact(h.arc true r0 r1).aCQ
    unfold aGl at h0 ⊢;by_cases hx:(axx w d).2=0
    .rw[ai hx]at h0 ⊢;cases ho:my (axx w d).1 with
     |false=>rw[ho,ah (by decide)]at h0;exact absurd (show(4:Int)=0 from h0) (by decide)
     |true=>rw[ai rfl];exact hG.2 ho
    .rw[ah hx]at h0;exact absurd h0 hx
 .exact h
def aAi:∀{list:List eU} {w:an},aM w->aM (aik w list)
 |[],_,h=>h|d::list,w,h=>aAi (list:=list) (axy h d)
def aGm {w:an}(h:aM w){list:List eU}(hl:list.length<=500)(hd:∀d∈list,gI d.2.2.2):∃Uz:List Int,Uz.length=list.length/\Lj F0 w list=some (aik w list,Uz,()):=by
 rw[asJ,mi h.w,aj,tT h.w.l,aj,h.ok,aO,aa,aR (show ¬(list.length:Int)>500 by omega),aa];have key:∀(j k:Nat) (z:an) (xs:List Int) (n:Nat),k+j=list.length->aM z->xs.length=k->j<n->∃Uz:List Int,Uz.length=list.length /\
   A0 F0 (Li F0) n (rR list (list.length:Int) (k:Int) 0 0 z.1.1 z.1.2 z.2.1 z.2.2.1 z.2.2.2.1 z.2.2.2.2 xs [] [] [] [])=some (aik z (list.drop k),Uz,()):=by
  intro j
  induction j with
  |zero =>
   intro k z xs n hk hz hx hn;obtain⟨n,rfl⟩:∃m,n=m+1:=⟨n-1,by omega⟩;obtain rfl:k=list.length:=by omega
   rw[NR,aK,aa,ahH,UW];exact⟨xs,hx,rfl⟩
  |succ j ih =>
   intro k z xs n hk hz hx hn;obtain⟨n,rfl⟩:∃m,n=m+1:=⟨n-1,by omega⟩;have hk':k<list.length:=by omega
   have hD:=aMR hz (hd _ (cX hk'));rw[NR,aX hk',af,av hk',ae,bF hk',show(((z.1.1,z.1.2),z.2.1,z.2.2.1,z.2.2.2.1,z.2.2.2.2):an)=z from rfl,hD,aj,az (by omega) (by omega) (by first|omega|(simp only[aL,aZ,bE];omega)|(rw[bB,bV];omega)),ae,ae,ao (by omega),UT hk'];have hst:=axy hz list[k];show ∃Uz:List Int,_/\_=some (aik (aj5 z list[k]) (list.drop (k+1)),Uz,());by_cases h0:(doI z list[k]).2=0
   .have e:aj5 z list[k]=(doI z list[k]).1:=ai h0;rw[e]at hst ⊢;rw[bC.2 h0,af];exact ih (k+1) _ _ n (by omega) hst (by rw[aL,dM];omega) (by omega)
   .have e:aj5 z list[k]=z:=ah h0;rw[e];rw[ct.2 h0,aa];exact ih (k+1) _ _ n (by omega) hz (by rw[aL,dM];omega) (by omega)
 exact key list.length 0 w [] F0.n (by omega) h rfl (by rw[cl];omega)
def aGn {w:an}(h:aM w){list:List eU}(hl:list.length<=500)(hd:∀d∈list,gI d.2.2.2):∃Uz,Lj F0 w list=some (aik w list,Uz,()):=by obtain⟨Uz,_,h⟩:=aGm h hl hd;exact⟨Uz,h⟩
def afF (w:an)(x:an×Int):an×Int×an:=if x.2=0 then (x.1,0,Eu) else (Eu,x.2,w)
def ym (w x:an):afF w (x,0)=(x,0,Eu):=ai rfl
def Fv (w y:an){k:Int}(h:k≠0):afF w (y,k)=(Eu,k,w):=ah h
def aMS (w:an)(a:Int):an×Int:=(hJ w a (acy w.1 (cN w a)).1,(acy w.1 (cN w a)).2)
def aCS {w:an}(h:aM w){a:Int}(h0:0<=a)(h1:a<w.2.2.1.length):ML F0 w a=some (afF w (aMS w a)):=by
 obtain⟨hg,hi⟩:=h.rep h0 h1;rw[aoN,mx h0 (by omega),ae,I2 h0 h1,aEC hg,aj,ae,eS hg.bt,aj];unfold aMS acy;cases hk:(ask w.1 (cN w a)).2 with
 |false=>rfl
 |true =>
  obtain⟨_,hb,_,_⟩:=aIF hk;obtain⟨hb1,hb2⟩:=Jm hb;have hT:zS F0 w.1 ((cN w a).1,(cN w a).2.1,(cN w a).2.1,(cN w a).2.2.2) (1,0,(ask w.1 (cN w a)).1,(0,al,[]),(0,al,[]),0,0,0,0,0)=some ((aif w.1 (cN w a)).1,(aif w.1 (cN w a)).2,()):=azZ hg.LD (acr hb1 hb2);dsimp only;rw[hT,aj,aaY (aCK hg) hb,aj,aO,aa,ai rfl];cases (aif w.1 (cN w a)).2 with
  |false=>rw[ah (fun hh=>by cases hh.1)];rfl
  |true =>
   cases (gZ w.1 (aif w.1 (cN w a)).1 (ask w.1 (cN w a)).1).2 with
   |false=>rw[ah (fun hh=>by cases hh.2)];rfl
   |true =>
    rw[ai ⟨rfl,rfl⟩,aO,aa,aa,ae];rfl
def aIQ (w:an)(a:Int):an×Int:=(hJ w a (auu w.1 (cN w a)).1,(auu w.1 (cN w a)).2)
def aAj {w:an}(h:aM w){a:Int}(h0:0<=a)(h1:a<w.2.2.1.length):Ic F0 w a=some (afF w (aIQ w a)):=by
 obtain⟨hg,hi⟩:=h.rep h0 h1;have ht:=hg.f.l.t;rw[alh,mx h0 (by omega),ae,I2 h0 h1,aJ (by omega) (by omega)];unfold aIQ auu;generalize hr:cN w a=r at hg ht;have key:∀(k n:Nat),k<=r.2.2.2.2.2.1.length->k<n ->
   zX F0 (sY F0) n (sX a ((k:Int)-1) w.1.1 w.1.2 w.1.1 w.1.2 0 0 r.1 r.2.1 r.2.2.1 r.2.2.2.1.1 r.2.2.2.1.2.1 r.2.2.2.1.2.2.1.1 r.2.2.2.1.2.2.1.2.1 r.2.2.2.1.2.2.1.2.2 r.2.2.2.1.2.2.2 r.2.2.2.2.1 r.2.2.2.2.2.1 r.2.2.2.2.2.2.1.1 r.2.2.2.2.2.2.1.2 r.2.2.2.2.2.2.2 w.2.1 w.2.2.1 w.2.2.2.1 w.2.2.2.2 [] [] [] [])
    = some (afF w (hJ w a (Bb w.1 r k).1,(Bb w.1 r k).2)):=by
  intro k
  induction k with
  |zero =>
   intro n hk hn;obtain⟨n,rfl⟩:∃m,n=m+1:=⟨n-1,by omega⟩;rw[GW,aR (show ¬((0:Nat):Int)-1>=0 by omega),aa,abI];rfl
  |succ k ih =>
   intro n hk hn;obtain⟨n,rfl⟩:∃m,n=m+1:=⟨n-1,by omega⟩;have hk':k<r.2.2.2.2.2.1.length:=by omega
   have hC:=aGd hg (r.2.2.2.2.2.1[k]).1 (hg.l.tq _ (cX hk')).1 true;rw[GW,show((k+1:Nat):Int)-1=(k:Int) by omega,aN (show(k:Int)>=0 by omega),af,av hk',ae,ae,ae,bF hk',MQ,mx h0 (by omega)];unfold Bb;rw[bm hk',show((r.2.2.2.2.2.1[k]).2.1.toList==al.toList)=eh (r.2.2.2.2.2.1[k]).2.1 from rfl];cases hnn:eh (r.2.2.2.2.2.1[k]).2.1 with
   |true =>
    rw[ai rfl,af,aJ (by omega) (by omega)];exact ih n (by omega) (by omega)
   |false =>
    rw[ah (by decide),aa];refine BC (qd (fun x=>Option.bind x _) hC) ?_;rw[aj];cases (gM w.1 r (r.2.2.2.2.2.1[k]).1 (r.2.2.2.2.2.1[k]).2.1 true).2 with
    |false=>rfl
    |true =>
     rw[ai rfl,ai rfl];dsimp only;rw[aO,aa,ae,MQ];rfl
 exact key r.2.2.2.2.2.1.length F0.n (bZ _) (by rw[cl];omega)
def aIR {w:an}{a:Int}(r:aC)(list:List kG):yl (hJ w a r) a list=hJ (yl w a list) a r:=by
 have e:bU (hJ w a r)=bU w:=by unfold bU hJ;dsimp only;rw[Gv]
 unfold yl;rw[e];split<;>rfl
def aAk (w:an)(a:Int):an×Int:=if w.2.2.2.1.length+(bA w a).length<=60/\w.2.2.2.2.length+(bA w a).length<=300 then (Ba (mo w a) (bA w a),0) else (w,4)
def aAl {w:an}(h:aM w){a:Int}(h0:0<=a)(h1:a<w.2.2.1.length):Ib F0 w a=some (afF w (aAk w a)):=by
 obtain⟨hg,hi⟩:=h.rep h0 h1;have hln:(bA w a).length<=30:=hg.f.n;have hm:∀p∈bA w a,gI p.2:=hg.aLG;have hnl:=h.nl;have hsl:=h.sl;have hS:=azX hg;have avE:=h.hJ h0 hg.Ux hi;have hL:Ku F0 (w.1,w.2.1,w.2.2.1.set a.toNat (Ux (cN w a)),w.2.2.2) a (bA w a)=some (mo w a,()):=by have:=aGi avE.w avE.sl a (list:=bA w a) (by omega) hm;rw[aIR]at this;exact this
 have hsw:=h.mo h0 h1;rw[alf,mx h0 (by omega),ae,I2 h0 h1,hS,aj];dsimp only;rw[show(cN w a).2.2.2.2.2.2.2=bA w a from rfl,aJ (n:=(w.2.2.2.1.length:Int)+(bA w a).length) (by omega) (by omega),aJ (n:=(w.2.2.2.2.length:Int)+(bA w a).length) (by omega) (by omega),ae,hL,aj,aj1 hsw.nl (by omega) hm,aj];unfold aAk;by_cases g1:w.2.2.2.1.length+(bA w a).length<=60
 .rw[aR (show ¬(w.2.2.2.1.length:Int)+(bA w a).length>60 by omega),aa];by_cases g2:w.2.2.2.2.length+(bA w a).length<=300
  .rw[aR (show ¬(w.2.2.2.2.length:Int)+(bA w a).length>300 by omega),aa,ai ⟨g1,g2⟩,ym];rfl
  .rw[aN (show(w.2.2.2.2.length:Int)+(bA w a).length>300 by omega),af,ah (fun hh=>g2 hh.2),Fv _ _ (by decide)];rfl
 .rw[aN (show(w.2.2.2.1.length:Int)+(bA w a).length>60 by omega),af,ah (fun hh=>g1 hh.1),Fv _ _ (by decide)];rfl
def aIS (w:an)(d:eU):an×Int :=
 if ix 0 (ak ((w.2.2.2.1.length:Int)-1)) d.2.1=true then
  if d.1=5 then (if w.2.2.2.1.length<60 then (XX w (w.2.2.2.1++[dJ w d.2.1]),0) else (w,4))
  else if d.1=3/\(dJ w d.2.1).1 ∉ w.2.1 then (hJ (Q9 w d.2.1) (dJ w d.2.1).1 (aii false w (dJ w d.2.1)),0) else (Q9 w d.2.1,0)
 else (w,2)
def aKO {imp:Bool}{c:Int×Int}{r:aC}{m:cQ}(h:(LC imp c r m).2=false):(LC imp c r m).1=r:=by
 unfold LC at h ⊢;split
 .rename_i hh;rw[ai hh]at h;cases h
 .rfl
def aIT {w:an}{a:Int}(h0:0<=a)(h1:a<w.2.2.1.length):w.2.2.1.set a.toNat (cN w a)=w.2.2.1:=by unfold cN;rw[bm (show a.toNat<w.2.2.1.length by omega)];exact aAY _
def aKP {w:an}{a:Int}(h0:0<=a)(h1:a<w.2.2.2.1.length)(d:mn):aU w.2.2.2.1 a d=dJ w a:=by
 have hk:a.toNat<w.2.2.2.1.length:=by omega
 unfold dJ;rw[bm hk];exact bm hk d
def aCT {w:an}(h:aM w)(d:eU):x6 F0 w d=some (afF w (aIS w d)):=by
 have hnl:=h.nl;have hli:=h.liars;have h7:=h.le7;rw[aoD,dG,aj];unfold aIS;cases hr:ix 0 (ak ((w.2.2.2.1.length:Int)-1)) d.2.1 with
 |false=>rw[ah (by decide),Fv _ _ (by decide)];rfl
 |true =>
  obtain⟨r0,r1⟩:=Ra h hr;have hx:=h.aKM r0 r1;obtain⟨hml,hmo⟩:=aAg hx.2.1;obtain⟨t0,t1⟩:=h.aCP hx.2.2;obtain⟨hg,hid⟩:=h.rep t0 t1;have e1:ak (d.2.1+1)=d.2.1+1:=aJ (by omega) (by omega);have et:(d.2.1+1).toNat=d.2.1.toNat+1:=by omega
  have aQW:([]++w.2.2.2.1.take d.2.1.toNat)++(w.2.2.2.1.take (w.2.2.2.1.length:Int).toNat).drop (d.2.1+1).toNat=acA w.2.2.2.1 d.2.1.toNat:=by rw[jw,mB,et];rfl
  have hl1:(w.2.2.2.1.take d.2.1.toNat).length<=60:=by rw[bV];omega
  have hl2:((w.2.2.2.1.take (w.2.2.2.1.length:Int).toNat).drop (d.2.1+1).toNat).length<=60:=by rw[bB,bV];omega
  have aQX:okT d.2.1 (w.2.2.2.1.length:Int)=true:=by simp[okT];omega
  rw[ai rfl,aO,aa,mx r0 r1,ae,aKP r0 r1,az (a:=0) (by omega) (by omega) (by have:=hx.1.1;omega),ae,az (by omega) (by omega) (by first|omega|(simp only[aL,aZ,bE];omega)|(rw[bB,bV];omega)),ae,aQX,ae,e1,aqy (by omega) (by omega) (by omega),ae,az (a:=0) (by omega) (by omega) (by omega),ae,az (by omega) (by omega) (by rw[Bk];omega),ae,
   aQW,gv (by omega),aj,aue hx.1,aj,mx t0 t1,ae]
  dsimp only;rw[I2 t0 t1,az5 hg hml,aj,ae];by_cases k5:d.1=5
  .rw[bC.2 k5,af,ai k5];by_cases g:w.2.2.2.1.length<60
   .rw[aR (show ¬(w.2.2.2.1.length:Int)>=60 by omega),aa,ai g,ym];rfl
   .rw[aN (show(w.2.2.2.1.length:Int)>=60 by omega),af,ah g,Fv _ _ (by decide)];rfl
  .rw[ct.2 k5,aa,ah k5];by_cases k3:d.1=3
   .rw[bC.2 k3,af];by_cases hm:(dJ w d.2.1).1∈w.2.1
    .rw[aN hm,aO,aa,ah (fun hh=>hh.2 hm),ym];rfl
    .rw[aR hm,ff,af,ai ⟨k3,hm⟩,ym];unfold aii;cases h9:(LC false w.1 (cN w (dJ w d.2.1).1) (n7 w.1 (dJ w d.2.1).2).1).2 with
     |true=>rfl
     |false =>
      rw[aKO h9];have:=aIT t0 t1;show some (((w.1,w.2.1,w.2.2.1,acA w.2.2.2.1 d.2.1.toNat,w.2.2.2.2):an),(0:Int),_)=some ((w.1,w.2.1,w.2.2.1.set _ _,acA w.2.2.2.1 d.2.1.toNat,w.2.2.2.2),0,Eu);rw[this];rfl
   .rw[ct.2 k3,aa,ah (fun hh=>k3 hh.1),ym];rfl
def aIU (w:an)(d:eU):an×Int :=
 if ix 0 (ak (w.1.1-1)) d.2.1=true then (if Gp w.1 w.2.1 w.2.2.2.2 d.2.2.2=true then (if w.2.2.2.1.length<60 then (Ba w [(d.2.1,d.2.2.2)],0) else (w,4)) else (w,5)) else (w,2)
def aCU {w:an}(h:aM w){d:eU}(hd:gI d.2.2.2):MJ F0 w d=some (afF w (aIU w d)):=by
 have hnl:=h.nl;have hli:=h.liars;have hsl:=h.sl;rw[aoK,dG,aj,aCG (by omega) (by omega) hd,aj,aj1 hnl (by simp) (fun p hp=>by rw[hU.1 hp];exact hd),aj];unfold aIU;cases ix 0 (ak (w.1.1-1)) d.2.1 with
 |false=>rfl
 |true =>
  cases Gp w.1 w.2.1 w.2.2.2.2 d.2.2.2 with
  |false=>rfl
  |true =>
   by_cases g:w.2.2.2.1.length<60
   .rw[aR (show ¬(w.2.2.2.1.length:Int)>=60 by omega),ai g];rfl
   .rw[aN (show(w.2.2.2.1.length:Int)>=60 by omega),ah g];rfl
def aIV (w:an)(d:eU):an×Int:=if d.1=2 then aAk w d.2.1 else arc false w d
def auB {w:an}{x:an×Int}:((some (afF w x):Option (an×Int×an)).bind fun r=>br (r.2.1==0) (some (r.1,(0:Int),Eu)) (br (r.2.1==0) none (some (Eu,r.2.1,w.1,r.2.2.2))))=some (afF w x):=by
 rw[aj];unfold afF;by_cases h:x.2=0
 .rw[ai h];rfl
 .rw[ah h];dsimp only;rw[ct.2 h,aa,aa]
def aCV {w:an}(h:aM w){d:eU}(hd:gI d.2.2.2)(h0:0<=d.2.1)(h1:d.2.1<w.2.2.1.length):MU F0 w d=some (afF w (aIV w d)):=by
 obtain⟨hg,hi⟩:=h.rep h0 h1;have hR:P2 F0 w.1 ((cN w d.2.1).1,(cN w d.2.1).2.1,(cN w d.2.1).2.2.1,(cN w d.2.1).2.2.2.1,(cN w d.2.1).2.2.2.2.1,(cN w d.2.1).2.2.2.2.2.1,nS (cN w d.2.1).2.2.2.2.2.2.1 d.2.2.1,(cN w d.2.1).2.2.2.2.2.2.2)=some (auy w.1 (cN w d.2.1) d.2.2.1,()):=aIz (hg.XV d.2.2.1).bt (hg.XV d.2.2.1).ok;have pd:=fun x:an×Int=>auB (w:=w) (x:=x)
 unfold Eu at pd;rw[aoZ,mx h0 (by omega),ae,aCS h h0 h1,aAl h h0 h1,aAj h h0 h1,I2 h0 h1,eS hg.bt,aCr hg.bt.d.1,aIG hg,az5 hg hd];have p1:=pd (aMS w d.2.1);have p2:=pd (aAk w d.2.1);have p3:=pd (aIQ w d.2.1);unfold aIV arc aih;by_cases k1:d.1=1
 .rw[bC.2 k1,af,ah (by omega),ai k1];exact p1
 .rw[ct.2 k1,aa,ah k1];by_cases k2:d.1=2
  .rw[bC.2 k2,af,ai k2];exact p2
  .rw[ct.2 k2,aa,ah k2];by_cases k6:d.1=6
   .rw[bC.2 k6,af,ai k6];exact p3
   .rw[ct.2 k6,aa,ah k6];by_cases k8:d.1=8
    .rw[bC.2 k8,af,ah (by omega),ai k8,ym];simp only[aj,hR,ae];rfl
    .rw[ct.2 k8,aa];by_cases k7:d.1=7
     .rw[bC.2 k7,af,ai k7,aj];cases (Hq w.1 (cN w d.2.1)).2 with
      |false=>rw[ah (by decide),Fv _ _ (k:=3) (show(3:Int)≠0 by decide)];rfl
      |true=>rw[ai rfl,ym,ae];rfl
     .rw[ct.2 k7,aa,ah k7,ah k8,aj];unfold aCL;cases (LC false w.1 (cN w d.2.1) d.2.2.2).2 with
      |false=>rw[ah (fun hh=>by cases hh.1),Fv _ _ (k:=3) (show(3:Int)≠0 by decide)];rfl
      |true =>
       by_cases k4:d.2.2.2.1=4
       .rw[ai ⟨rfl,k4⟩,ym,aO,aa,show(d.2.2.2.1 != 4)=false by simp[k4],aa,ae];rfl
       .rw[ah (fun hh=>k4 hh.2),Fv _ _ (k:=3) (show(3:Int)≠0 by decide),aO,aa,show(d.2.2.2.1 != 4)=true by simp[k4],af];rfl
def aCW (w:an)(d:eU):an×Int:=if Hr d=true then aIS w d else if d.1=10 then aIU w d else if d.2.1∈bU w then aIV w d else (w,2)
def aCX {w:an}(h:aM w){d:eU}(hd:gI d.2.2.2):MV F0 w d=some (afF w (aCW w d)):=by
 have hlen:=yk w;have h7:=h.le7;have pd:=fun x:an×Int=>auB (w:=w) (x:=x)
 unfold Eu at pd;have p1:=pd (aIS w d);have p2:=pd (aIU w d);have p3:=pd (aIV w d);rw[ao1,aCT h,aCU h hd,aqq h.w.l];unfold aCW;by_cases kn:Hr d=true
 .rw[ai kn];by_cases k3:d.1=3
  .rw[bC.2 k3,af];exact p1
  .rw[ct.2 k3,aa];by_cases k4:d.1=4
   .rw[bC.2 k4,af];exact p1
   .have k5:d.1=5:=by have:=gA.1 kn;omega
    rw[ct.2 k4,aa,bC.2 k5,af];exact p1
 .have kn':¬(d.1=3\/d.1=4\/d.1=5):=fun hh=>kn (gA.2 hh)
  rw[ah kn,ct.2 (show d.1≠3 by omega),aa,ct.2 (show d.1≠4 by omega),aa,ct.2 (show d.1≠5 by omega),aa];by_cases k10:d.1=10
  .rw[bC.2 k10,af,ai k10];exact p2
  .rw[ct.2 k10,aa,ah k10,aj,gv (by dsimp only;omega),aj];by_cases hh:d.2.1∈bU w
   .obtain⟨r0,r1⟩:=fI hh;rw[aN hh,aO,aa,ai hh,aCV h hd r0 r1];exact p3
   .rw[aR hh,ff,af,ah hh,Fv _ _ (by decide)];rfl
def aAm (w:an)(d:eU):an:=if (aCW w d).2=0 then (aCW w d).1 else w
def aAn {w:an}(h:aM w){d:eU}(hd:gI d.2.2.2):Ie F0 w d=some ((aAm w d,()),()):=by
 rw[alm,aCX h hd,aj];unfold aAm afF;by_cases h0:(aCW w d).2=0
 .rw[ai h0,ai h0];rfl
 .rw[ah h0,ah h0];dsimp only;rw[ct.2 h0,aa,show((aCW w d).2 != 0)=true by simp[h0],af]
def aM.aQY {w:an}(h:aM w)(d:eU):aM (aAm w d):=by
 unfold aAm;split
 .rename_i h0;clear h0;unfold aCW;split
  .unfold aIS;split
   .rename_i hr;obtain⟨r0,r1⟩:=Ra h hr;have hx:=h.aKM r0 r1;split
    .split
     .rename_i g;refine h.XX (by rw[aL,dM];omega) fun x hx'=>?_
      rcases jx.1 hx' with hx'|hx'
      .exact h.nb x hx'
      .rw[hU.1 hx'];exact hx
     .exact h
    .split
     .obtain⟨t0,t1⟩:=h.aCP hx.2.2;obtain⟨hg,hid⟩:=h.rep t0 t1;exact(h.Q9 d.2.1).hJ t0 (hg.heard false _) (by unfold aii;rw[axs];exact hid)
     .exact h.Q9 _
   .exact h
  .split
   .unfold aIU;split
    .split
     .split
      .exact h.send _
      .exact h
     .exact h
    .exact h
   .split
    .rename_i hh;obtain⟨r0,r1⟩:=fI hh;unfold aIV;split
     .unfold aAk;split
      .exact(h.mo r0 r1).send _
      .exact h
     .exact h.arc false r0 r1
    .exact h
 .exact h
def Gq (i:Int):aC:=(i,1,0,lV,[],[],([],0),[])
def UN (c:Int×Int)(liars:List Int):an:=(c,liars,(List.range c.1.toNat).map fun i:Nat=>Gq (i:Int),[],[])
def ard {c:Int×Int}(hc:bL c=true){i:Int}(h0:0<=i)(h1:i<c.1):bc c (Gq i):=by have hn:=cF hc;refine⟨⟨hc,?_,rfl,rfl,acz hc,rfl,rfl,rfl,aT _,fun x hx=>by cases hx⟩,fun x hx=>by cases hx⟩;show ix 0 (ak (c.1-1)) i=true;rw[XB hn.1 hn.2.1];simp only[ix,aI,cA];omega
def aIW {c:Int×Int}(hc:bL c=true){liars:List Int}(hl:jA c.1 liars=true)(hf:(liars.length:Int)<=uv c):aM (UN c liars):=by
 have hn:=cF hc;refine⟨hc,hl,hf,?_,fun r hr=>?_,fun k hk=>?_,aT _,(fun x hx=>by cases hx),aT _,(fun x hx=>by cases hx)⟩
 .show(((List.range c.1.toNat).map fun i:Nat=>Gq (i:Int)).length:Int)=c.1;rw[qV,SD];omega
 .obtain⟨i,hi,rfl⟩:=Jr.1 hr;have:=kb.1 hi;exact ard hc (by omega) (by omega)
 .have hk':k<((List.range c.1.toNat).map fun i:Nat=>Gq (i:Int)).length:=hk;have hs:(((List.range c.1.toNat).map fun i:Nat=>Gq (i:Int))[k]'hk').1=(k:Int):=by rw[List.getElem_map,List.getElem_range];rfl
  exact hs
def aCY {c:Int×Int}(hc:bL c=true){i:Int}(h0:0<=i)(h1:i<c.1):Mb F0 c i=some (Gq i,true,()):=by
 have hg:=ard hc h0 h1;have hR:ez F0 c (i,1,0,(0,0,(0,al,[]),al),[],[],([],0),[])=some (true,()):=by have:=jc hg.l c;rw[hg.ok]at this;exact this
 rw[anX,hR];rfl
def aAo {c:Int×Int}(hc:bL c=true){i:Int}(h0:0<=i)(h1:i<c.1):M6 F0 c i=some (Gq i,true,()):=by
 have hg:=ard hc h0 h1;have hR:db F0 c (i,1,0,(0,0,(0,al,[]),al),[],[],([],0),[])=some (true,()):=by have:=fe hg.l c;rw[hg.ok]at this;exact this
 rw[apg,hR];rfl
def Sy {c:Int×Int}{liars:List Int}(h:aM (UN c liars)):l9 F0 c liars=some (UN c liars,true,()):=by
 have hn:=cF h.c;have hc:bL c=true:=h.c;have hli:liars.length<=7:=h.liars;have hN:(c.1.toNat:Int)=c.1:=LM (by have:4<=c.1:=hn.1;omega);have hN7:c.1.toNat<=7:=by have:c.1<=7:=hn.2.1;omega
 rw[agn,az (a:=0) (by omega) (by omega) (by omega),ae];refine aCm (fun n k xs=>vv F0 (za F0) n (qg k c.1 c.2 0 0 c.1 c.2 [] [] [] [] ([]++liars) xs [] [])) (List.range c.1.toNat) (fun i:Nat=>Gq (i:Int)) _ (fun n k xs hk hx=>?_) (fun n=>?_) _ (by rw[cl,SD];omega)
 .have hk':k<c.1.toNat:=by rw[SD]at hk;exact hk
  rw[EL,aN (show(k:Int)<c.1 by omega),af,show((c.1,c.2):Int×Int)=c from rfl,jt,aj,hc,af,aCY hc (by omega) (by omega),aj,az (by omega) (by omega) (by first|omega|(simp only[aL,aZ,bE];omega)|(rw[bB,bV];omega)),ae,ao (by omega),List.getElem_range]
 .have dZ:y9 F0 ((c.1,c.2),[]++liars,((List.range c.1.toNat).map fun i:Nat=>Gq (i:Int),([],[])))=some (true,()):=by have:=azr h.w.l;rw[h.ok]at this;exact this
  rw[EL,SD,aR (show ¬(c.1.toNat:Int)<c.1 by omega),aa,YO,dZ];rfl
def as8 {c:Int×Int}{liars:List Int}(h:aM (UN c liars)):uT F0 c liars=some (UN c liars,true,()):=by
 have hn:=cF h.c;have hc:bL c=true:=h.c;have hli:liars.length<=7:=h.liars;have hN:(c.1.toNat:Int)=c.1:=LM (by have:4<=c.1:=hn.1;omega);have hN7:c.1.toNat<=7:=by have:c.1<=7:=hn.2.1;omega
 rw[ag7,o5 (by omega),aj];refine aCm (fun n k xs=>wD F0 (Ar F0) n (qD k c.1 c.2 0 0 c.1 c.2 [] [] [] [] liars xs [] [])) (List.range c.1.toNat) (fun i:Nat=>Gq (i:Int)) _ (fun n k xs hk hx=>?_) (fun n=>?_) _ (by rw[cl,SD];omega)
 .have hk':k<c.1.toNat:=by rw[SD]at hk;exact hk
  rw[E8,show((c.1,c.2):Int×Int)=c from rfl,gF,aj,hc,af,aN (show(k:Int)<c.1 by omega),af,aAo hc (by omega) (by omega),aj,az (by omega) (by omega) (by first|omega|(simp only[aL,aZ,bE];omega)|(rw[bB,bV];omega)),ae,ao (by omega),List.getElem_range]
 .have dZ:dA F0 ((c.1,c.2),liars,((List.range c.1.toNat).map fun i:Nat=>Gq (i:Int),([],[])))=some (true,()):=by have:=tT h.w.l;rw[h.ok]at this;exact this
  rw[E8,show((c.1,c.2):Int×Int)=c from rfl,gF,aj,hc,af,SD,aR (show ¬(c.1.toNat:Int)<c.1 by omega),aa,Y0,dZ];rfl
def New (w:an):Prop:=∃c liars,w=UN c liars/\aM (UN c liars)
def New.g {w:an}(h:New w):aM w:=by obtain⟨c,l,rfl,hg⟩:=h;exact hg
def aQZ (n:Int):jA n []=true:=rfl
def aQ0 {n x:Int}(h0:0<=x)(h1:x<n):jA n [x]=true:=by simp[jA,h0,h1]
def aCZ {c:Int×Int}(h:bL c=true):1<=uv c:=by have hn:=cF h;unfold uv;rw[ai h];exact(ay6 hn.1 hn.2.1).1
def aIX {c:yq}(h:Sj c):Dr (U:=an) (qh F0 c) New:=by
 unfold Dr;rw[VZ];refine Dr.bind (ach h (l:=[4,4,4,5,7]) (by decide) (by decide)) fun x hx cx=>Dr.bind (iS cx (n:=3) (by omega) (by omega)) fun y hy cy=>Dr.bind (amu cy (n:=3) (by omega) (by omega)) fun z hz cz=>?_
 have hx':x.1.1=4\/x.1.1=5\/x.1.1=7:=by simp only[dE,amK,or_false]at hx;omega
 have y0:=hy.1;have y1:=hy.2;have hc:bL (x.1.1,ak (1+y.1.1))=true:=by rw[aJ (by omega) (by omega)];simp only[bL,ix,aI,cA];omega
 have hf:=aCZ hc;refine Gd.br (fun _=>?_) fun _=>?_
 .refine Dr.bind (iS cz (n:=x.1.1) (by omega) (by omega)) fun v hv cv=>?_
  have hg:aM (UN (x.1.1,ak (1+y.1.1)) [v.1.1]):=aIW hc (aQ0 hv.1 hv.2) (by simpa using hf);exact Gd.let (Sy hg) (Gd.ret ⟨⟨_,_,rfl,hg⟩,cv⟩)
 .have hg:aM (UN (x.1.1,ak (1+y.1.1)) []):=aIW hc (aQZ _) (by simp;omega);exact Gd.let (Sy hg) (Gd.ret ⟨⟨_,_,rfl,hg⟩,cz⟩)
def aC0 {a b:Int}{V:Type}{f:Int×Unit->Option V}{P:V->Prop}(h:Gd (f (Gn a b,())) P):Gd ((b8 F0 a b).bind f) P:=Gd.let (Yx a b) h
def aIY {a b:Int}{V:Type}{f:Int×Unit->Option V}{P:V->Prop}(h:Gd (f (tV a b,())) P):Gd ((eK F0 a b).bind f) P:=Gd.let (CG a b) h
def auC {up:ByteArray}(hu:up.size<=6000){view:Int}(hv:I64 view){l:List fE}(hl:l.length<=10){V:Type}{f:ByteArray×Unit->Option V}{P:V->Prop}(h:∀b:ByteArray,b.size<=7000->Gd (f (b,())) P):Gd ((ly F0 up view l).bind f) P:=by have hN:=aqx (up:=up.data.toList) (by show up.size<=_;omega) hv (l:=l) (by omega);have hle:=auj (up:=up.data.toList) hv l;refine Gd.let hN (h _ ?_);rw[bT];have:up.data.toList.length=up.size:=rfl;omega
def acC {w:an}(h:aM w)(view:Int)(name:ByteArray)(hn:name.size<=1048576){c:yq}(hc:Sj c) :
  Gd (dz F0 (fq F0) F0.n (da view name 0 c.1 c.2.1 c.2.2 w.1.1 w.1.2 w.2.1 w.2.2.1 w.2.2.2.1 w.2.2.2.2 0 0 al 0 al 0 al 0 al 0 0 0 0 0 ([]++w.2.1) [] [] [])) fun z:DrT cQ=>(∃q:cY,z.1.1=A8 q/\u6 q)/\Sj z.2.1:=by
 have hsl:=h.sl;have hli:=h.liars;refine ams (fun n i (z:List Int)=>dz F0 (fq F0) n (da view name i c.1 c.2.1 c.2.2 w.1.1 w.1.2 w.2.1 w.2.2.1 w.2.2.2.1 w.2.2.2.2 0 0 al 0 al 0 al 0 al 0 0 0 0 0 z [] [] [])) w.2.2.2.2.length (fun k z=>z.length<=7+k) _ (fun n k z hk hI ih=>?_) (fun n z hI=>?_) F0.n 0 ([]++w.2.1) (aT _) (by show w.2.1.length<=_;omega) (by rw[cl];omega)
 .rw[uM,aX hk,af,av hk,ae,ae,ae,ao (by omega)];refine Gd.br (fun _=>Gd.br (fun _=>Gd.let (ab4 (by omega) _) ?_) fun _=>?_) fun _=>?_
  .exact ih _ (by have:=aqa z (aU w.2.2.2.2 (k:Int) acb).2.2;exact cR (aqa _ _) (by omega))
  .exact ih _ (by omega)
  .exact ih _ (by omega)
 .rw[uM,aK,aa,Px];exact Gd.ret ⟨⟨(view,name,z),rfl,hn,by show z.length<=_;omega⟩,hc⟩
def aIZ {c:yq}(hc:Sj c){w:an}(h:aM w):Dr (U:=cQ) (qp F0 c w) fun m=>∃q:cY,m=A8 q/\u6 q:=by
 have hsl:=h.sl;have hli:=h.liars;unfold Dr;rw[Wb];refine Dr.bind (iS hc (n:=4) (by omega) (by omega)) fun x hx cx=>?_
 have x0:=hx.1;have x1:=hx.2;refine auC (aT _) (by rw[aJ (by omega) (by omega)];exact⟨by omega,by omega⟩) (aT _) fun b hb=>?_
 refine Gd.ck (az (a:=0) (by omega) (by omega) (by omega)) (Gd.br (fun hlen=>?_) fun _=>acC h _ _ (by show b.size<=_;omega) cx);have akg:0<w.2.2.2.2.length:=by have:=nW hlen;omega
 refine aC0 ?_;have m0:0<Gn (w.2.2.2.2.length:Int) 8:=by unfold Gn;split<;>omega
 have m1:Gn (w.2.2.2.2.length:Int) 8<=w.2.2.2.2.length:=by unfold Gn;split<;>omega
 refine Dr.bind (iS cx (n:=Gn (w.2.2.2.2.length:Int) 8) m0 (by omega)) fun y hy cy=>?_
 have y0:=hy.1;have y1:=hy.2;have e1:ak (ak ((w.2.2.2.2.length:Int)-1)-y.1.1)=((w.2.2.2.2.length-1-y.1.1.toNat:Nat):Int):=by rw[aJ (n:=(w.2.2.2.2.length:Int)-1) (by omega) (by omega),aJ (by omega) (by omega)];omega
 have hk:w.2.2.2.2.length-1-y.1.1.toNat<w.2.2.2.2.length:=by omega
 have hs:=h.sb _ (cX hk);have hsz:=kY hs.2.1;have hv:=pZ (w.2.2.2.2[w.2.2.2.2.length-1-y.1.1.toNat]).2.1.data.toList;have hv2:=hs.2.2;rw[e1];refine Gd.ck (av hk) (Dr.bind (amu cy (n:=3) (by omega) (by omega)) fun z hz cz=>?_);rw[bF hk];refine Gd.br (fun _=>Gd.let (ae5 (cR hsz (by omega))) ?_) fun _=>acC h _ _ (by omega) cz
 refine auC (up:=upB (w.2.2.2.2[w.2.2.2.2.length-1-y.1.1.toNat]).2.1) (cR (LA _) (by omega)) (by rw[<-hv2];exact⟨by omega,by omega⟩) (by simp) fun b hb=>acC h _ _ (by show b.size<=_;omega) cz
def are {c:Int×Int}{q:cY}{view:Int}{l:List fE}:(jD c q view l).1.1.size<=1048576/\u6 (jD c q view l).1.2:=by
 unfold jD;split
 .rename_i hh;exact Jm hh.1
 .exact⟨aT _,gz⟩
def aI0 {w:an}(h:aM w){q:cY}(hq:fO w.1 q=true)(dk:Int){view:Int}(v0:0<=view)(v1:view<=61){c:yq}(hc:Sj c) :
  Gd (b9 F0 (bI F0) F0.n (bH dk view 0 c.1 c.2.1 c.2.2 w.1.1 w.1.2 w.2.1 w.2.2.1 w.2.2.2.1 w.2.2.2.2 0 0 al 0 al 0 al 0 al 0 0 0 0 0 q.1 q.2.1 [] [] [] q.2.2)) fun z:DrT cQ=>gI z.1.1/\Sj z.2.1:=by
 have out:∀v:Int,0<=v->v<=61->Gd (bI F0 (.exit 1) (iJ v c.1 c.2.1 c.2.2 w.1.1 w.1.2 w.2.1 w.2.2.1 w.2.2.2.1 w.2.2.2.2 0 0 al 0 al 0 al 0 al 0 0 0 0 0 q.1 q.2.1 [] [] [] q.2.2)) fun z:DrT cQ=>gI z.1.1/\Sj z.2.1:=fun v h0 h1=>by
  rw[UH];refine Dr.bind (aui hc) fun x hx cx=>?_
  have hB:=afy (c:=w.1) hq (view:=v) ⟨by omega,by omega⟩ (l:=[x.1.1]) (by simp);exact Gd.let hB (Gd.ret ⟨acr are.1 are.2,cx⟩)
 refine ams (fun n k (v:Int)=>b9 F0 (bI F0) n (bH dk v k c.1 c.2.1 c.2.2 w.1.1 w.1.2 w.2.1 w.2.2.1 w.2.2.2.1 w.2.2.2.2 0 0 al 0 al 0 al 0 al 0 0 0 0 0 q.1 q.2.1 [] [] [] q.2.2)) 7 (fun k v=>0<=v/\v<=61) _ (fun n k v hk hI ih=>?_) (fun n v hI=>?_) F0.n 0 view (aT _) ⟨v0,v1⟩ (by rw[cl];omega)
 .have i0:=hI.1;have i1:=hI.2;rw[zr,aN (show(k:Int)<7 by omega),af];refine Gd.br (fun hv=>Gd.let (Ln _ _) (Gd.br (fun _=>?_) fun _=>out v i0 i1)) fun _=>out v i0 i1
  have hv':=nW hv;rw[aJ (n:=v+1) (by omega) (by omega),ao (by omega)];exact ih (v+1) ⟨by omega,by omega⟩
 .rw[zr,aR (show ¬((7:Nat):Int)<7 by omega),aa];exact out v hI.1 hI.2
def aAp {w:an}(h:aM w){q:cY}(hq:fO w.1 q=true)(dk:Int){m:cQ}(hm:gI m){c:yq}(hc:Sj c) :
  Gd ((ax F0 c 4).bind fun fc=>br (fc.1.1==0) (some ((m,()),fc.2.1,())) (br (fc.1.1==1) ((ax F0 fc.2.1 2).bind fun Mg=>(b8 F0 (ak ((ak (q.1+1))+Mg.1.1)) 60).bind fun r77=>some (((3,r77.1,(al,0,al,[]),(0,al,[]),q,dk,0,0,0,0),()),Mg.2.1,())) (b9 F0 (bI F0) F0.n (bH dk (ak (q.1+1)) 0 fc.2.1.1 fc.2.1.2.1 fc.2.1.2.2 w.1.1 w.1.2 w.2.1 w.2.2.1 w.2.2.2.1 w.2.2.2.2 0 0 al 0 al 0 al 0 al 0 0 0 0 0 q.1 q.2.1 [] [] [] q.2.2)))) fun z:DrT cQ=>gI z.1.1/\Sj z.2.1:=by
 obtain⟨_,_,h3,_⟩:=xG hq;have hv:=pZ q.2.1.data.toList;have e:ak (q.1+1)=q.1+1:=aJ (by omega) (by omega);refine Dr.bind (iS hc (n:=4) (by omega) (by omega)) fun x hx cx=>Gd.br (fun _=>Gd.ret ⟨hm,cx⟩) fun _=>Gd.br (fun _=>?_) fun _=>?_
 .exact Dr.bind (iS cx (n:=2) (by omega) (by omega)) fun y hy cy=>aC0 (Gd.ret ⟨Q2 (OM hq) dk,cy⟩)
 .rw[e];exact aI0 h hq dk (by omega) (by omega) cx
def aAq {c:Int×Int}(hc:bL c=true):fO c cM=true:=by unfold fO Y9;simp only[hc];rfl
def aAr:HX F0=some (cM,()):=by rw[akQ];rfl
def aMT {c:yq}(hc:Sj c){w:an}(h:aM w):Dr (U:=cQ) (jk F0 c w) gI:=by
 have h7:=h.le7;have hli:=h.liars;unfold Dr;rw[aby];refine Dr.bind (aIZ hc h) fun x hx cx=>?_
 obtain⟨q,e,hq⟩:=hx;obtain⟨⟨m,u⟩,⟨c',u'⟩⟩:=x;dsimp only at e cx ⊢;subst e;have hm:=aia hq;have dk:∀(Q:cY),fO w.1 Q=true->∀c'':yq,Sj c''->Gd (br (decide ((w.2.1.length:Int)>0)) ((ax F0 c'' (w.2.1.length:Int)).bind fun Ja=>ck (cr Ja.1.1 (w.2.1.length:Int)) ((ax F0 Ja.2.1 4).bind fun fc=>br (fc.1.1==0) (some ((A8 q,()),fc.2.1,())) (br (fc.1.1==1) ((ax F0 fc.2.1 2).bind fun Mg=>(b8 F0 (ak ((ak (Q.1+1))+Mg.1.1)) 60).bind fun r77=>some (((3,r77.1,(al,0,al,[]),(0,al,[]),Q,aU w.2.1 Ja.1.1 0,0,0,0,0),()),Mg.2.1,())) (b9 F0 (bI F0) F0.n (bH (aU w.2.1 Ja.1.1 0) (ak (Q.1+1)) 0 fc.2.1.1 fc.2.1.2.1 fc.2.1.2.2 w.1.1 w.1.2 w.2.1 w.2.2.1 w.2.2.2.1 w.2.2.2.2 0 0 al 0 al 0 al 0 al 0 0 0 0 0 Q.1 Q.2.1 [] [] [] Q.2.2))))) ((ax F0 c'' 4).bind fun fc=>br (fc.1.1==0) (some ((A8 q,()),fc.2.1,())) (br (fc.1.1==1) ((ax F0 fc.2.1 2).bind fun Mg=>(b8 F0 (ak ((ak (Q.1+1))+Mg.1.1)) 60).bind fun r77=>some (((3,r77.1,(al,0,al,[]),(0,al,[]),Q,0,0,0,0,0),()),Mg.2.1,())) (b9 F0 (bI F0) F0.n (bH 0 (ak (Q.1+1)) 0 fc.2.1.1 fc.2.1.2.1 fc.2.1.2.2 w.1.1 w.1.2 w.2.1 w.2.2.1 w.2.2.2.1 w.2.2.2.2 0 0 al 0 al 0 al 0 al 0 0 0 0 0 Q.1 Q.2.1 [] [] [] Q.2.2))))) fun z:DrT cQ=>gI z.1.1/\Sj z.2.1:=fun Q hQ c'' aOR=>by
  refine Gd.br (fun hl=>?_) fun _=>aAp h hQ 0 hm aOR
  have:=nW hl;refine Dr.bind (iS aOR (n:=(w.2.1.length:Int)) (by omega) (by omega)) fun y hy cy=>Gd.ck (mx hy.1 hy.2) (aAp h hQ _ hm cy)
 refine Gd.let (Sf (q:=q) hq w.1) (Gd.br (fun _=>Gd.let aAr (Gd.br (fun _=>?_) fun _=>dk cM (aAq h.c) _ cx)) fun dZ=>dk q (by simpa using dZ) _ cx);refine Dr.bind (amu cx (n:=2) (by omega) (by omega)) fun y hy cy=>Gd.br (fun _=>?_) fun _=>dk cM (aAq h.c) _ cy
 refine Dr.bind (iS cy (n:=(w.2.2.1.length:Int)) (by omega) (by omega)) fun z hz cz=>Gd.ck (mx hz.1 hz.2) ?_
 have hg:=(h.rep hz.1 hz.2).1;rw[I2 hz.1 hz.2];exact Gd.let (xH hg.l.s.1.2) (dk _ (dX hg.f.s).2.2.1 _ cz)
def aOS:cQ:=(0,0,(al,cM),cM,cM,0,qS)
def I3:gI aOS:=⟨aT _,gz,gz,gz⟩
def aj6 (d:eU):Prop:=gI d.2.2.2
def ail {w:an}(h:aM w)(a:Int){c:yq}(hc:Sj c) :
  Gd (br ((w.2.2.2.1.length:Int)==0) (some (((2,a,0,0,0,(al,0,al,[]),(0,al,[]),(0,al,[]),0,0,0,0,0),()),c,())) ((b8 F0 (w.2.2.2.1.length:Int) 4).bind fun agA=>(ax F0 c agA.1).bind fun Pz=>some (((3,Pz.1.1,0,0,0,(al,0,al,[]),(0,al,[]),(0,al,[]),0,0,0,0,0),()),Pz.2.1,()))) fun z:DrT eU=>aj6 z.1.1/\Sj z.2.1:=by
 refine Gd.br (fun _=>Gd.ret ⟨I3,hc⟩) fun hne=>aC0 ?_
 have h0:(w.2.2.2.1.length:Int)≠0:=by simpa using hne
 have m0:0<Gn (w.2.2.2.1.length:Int) 4:=by unfold Gn;split<;>omega
 have m1:Gn (w.2.2.2.1.length:Int) 4<=4:=by unfold Gn;split<;>omega
 exact Dr.bind (iS hc (n:=Gn (w.2.2.2.1.length:Int) 4) m0 (by omega)) fun y hy cy=>Gd.ret ⟨I3,cy⟩
def aI1 {a:Int}{n k:Nat}(a0:0<=a)(a1:a<n)(hk:k<n)(hn:n<=7):0<=Int.tmod (ak (a+(k:Int))) (n:Int)/\Int.tmod (ak (a+(k:Int))) (n:Int)<n:=by rw[aJ (by omega) (by omega),amA (by omega)];exact⟨aiw _ (by omega),amE _ (by omega)⟩
def nz0 {n:Nat}(h:0<n):(!((n:Int)==0))=true:=by simp;omega
def arf {w:an}(h:aM w){a:Int}(a0:0<=a)(a1:a<w.2.2.1.length){c:yq}(hc:Sj c) :
  Gd (eN F0 (eO F0) F0.n (dQ (w.2.2.1.length:Int) a 0 c.1 c.2.1 c.2.2 w.1.1 w.1.2 w.2.1 w.2.2.1 w.2.2.2.1 w.2.2.2.2 0 0 0 0 0 al 0 al 0 al 0 al 0 0 0 0 0 [] [] [])) fun z:DrT eU=>aj6 z.1.1/\Sj z.2.1:=by
 have h7:=h.le7;have hli:=h.liars;refine ams (fun n k (z:Unit)=>eN F0 (eO F0) n (dQ (w.2.2.1.length:Int) a k c.1 c.2.1 c.2.2 w.1.1 w.1.2 w.2.1 w.2.2.1 w.2.2.2.1 w.2.2.2.2 0 0 0 0 0 al 0 al 0 al 0 al 0 0 0 0 0 [] [] [])) w.2.2.1.length (fun _ _=>True) _ (fun n k z hk hI ih=>?_) (fun n z hI=>?_) F0.n 0 () (aT _) trivial (by rw[cl];omega)
 .obtain⟨r0,r1⟩:=aI1 a0 a1 hk h7.2;have hg:=(h.rep r0 r1).1;rw[x5,aX hk,af,nz0 (by omega),ae,mx r0 (by omega),ae,I2 r0 r1,ae,ae,UJ,ao (by omega)];refine Gd.let (aEC hg) (Gd.br (fun _=>?_) fun _=>ih () trivial);refine Gd.let (gv (by omega) _) (Gd.br (fun _=>?_) fun _=>ih () trivial);exact Gd.ret ⟨I3,hc⟩
 .rw[x5,aK,aa,RH];exact Gd.ret ⟨I3,hc⟩
def YG {w:an}(h:aM w){a:Int}(a0:0<=a)(a1:a<w.2.2.1.length){c:yq}(hc:Sj c) :
  Gd (eM F0 (dP F0) F0.n (dO (w.2.2.1.length:Int) a 0 c.1 c.2.1 c.2.2 w.1.1 w.1.2 w.2.1 w.2.2.1 w.2.2.2.1 w.2.2.2.2 0 0 0 0 0 al 0 al 0 al 0 al 0 0 0 0 0 [] [] [])) fun z:DrT eU=>aj6 z.1.1/\Sj z.2.1:=by
 have h7:=h.le7;refine ams (fun n k (z:Unit)=>eM F0 (dP F0) n (dO (w.2.2.1.length:Int) a k c.1 c.2.1 c.2.2 w.1.1 w.1.2 w.2.1 w.2.2.1 w.2.2.2.1 w.2.2.2.2 0 0 0 0 0 al 0 al 0 al 0 al 0 0 0 0 0 [] [] [])) w.2.2.1.length (fun _ _=>True) _ (fun n k z hk hI ih=>?_) (fun n z hI=>?_) F0.n 0 () (aT _) trivial (by rw[cl];omega)
 .obtain⟨r0,r1⟩:=aI1 a0 a1 hk h7.2;rw[xZ,aX hk,af,nz0 (by omega),ae,mx r0 (by omega),ae,ae,UI,ao (by omega)];refine Gd.br (fun _=>?_) fun _=>ih () trivial
  exact Gd.ret ⟨I3,hc⟩
 .rw[xZ,aK,aa,RG];exact ail h a hc
def arh {w:an}(h:aM w)(a:Int){c:yq}(hc:Sj c) :
  Gd (br (decide ((w.2.1.length:Int)>0)) ((jk F0 c w).bind fun aok=>some (((10,a,0,aok.1.1),()),aok.2.1,())) (br ((w.2.2.2.1.length:Int)==0) (some (((2,a,0,0,0,(al,0,al,[]),(0,al,[]),(0,al,[]),0,0,0,0,0),()),c,())) ((b8 F0 (w.2.2.2.1.length:Int) 4).bind fun agA=>(ax F0 c agA.1).bind fun Pz=>some (((3,Pz.1.1,0,0,0,(al,0,al,[]),(0,al,[]),(0,al,[]),0,0,0,0,0),()),Pz.2.1,())))) fun z:DrT eU=>aj6 z.1.1/\Sj z.2.1 :=
 Gd.br (fun _=>Dr.bind (aMT hc h) fun x hx cx=>Gd.ret ⟨hx,cx⟩) fun _=>ail h a hc
def aKQ {c:yq}(hc:Sj c){w:an}(h:aM w):Dr (U:=eU) (sG F0 c w) aj6:=by
 have h7:=h.le7;have hnl:=h.nl;unfold Dr;rw[YU];refine aIY ?_;have m:tV (w.2.2.1.length:Int) 1=w.2.2.1.length:=by unfold tV;rw[ah (by omega)]
 dsimp only;rw[m];refine Dr.bind (iS hc (n:=(w.2.2.1.length:Int)) (by omega) (by omega)) fun x hx cx=>?_
 obtain⟨a0,a1⟩:=hx;refine Dr.bind (iS cx (n:=20) (by omega) (by omega)) fun y hy cy=>?_
 refine Gd.br (fun _=>arf h a0 a1 cy) fun _=>Gd.br (fun _=>arf h a0 a1 cy) fun _=>Gd.br (fun _=>arf h a0 a1 cy) fun _=>Gd.br (fun _=>YG h a0 a1 cy) fun _=>Gd.br (fun _=>YG h a0 a1 cy) fun _=>Gd.br (fun _=>YG h a0 a1 cy) fun _=>Gd.br (fun _=>YG h a0 a1 cy) fun _=>Gd.br (fun _=>Gd.ret ⟨I3,cy⟩) fun _=>Gd.br (fun _=>Gd.ret ⟨I3,cy⟩) fun _=>Gd.br (fun _=>?_) fun _=>Gd.br (fun _=>?_) fun _=>Gd.br (fun _=>arh h _ cy) fun _=>Gd.br (fun _=>arh h _ cy) fun _=>Gd.br (fun _=>arh h _ cy) fun _=>ail h _ cy
 .refine Dr.bind (amu cy (n:=2) (by omega) (by omega)) fun z hz cz=>Gd.br (fun _=>?_) fun _=>?_
  .exact Dr.bind (ach cz (l:=[0,0,5,40,9999]) (by decide) (by decide)) fun v hv cv=>Gd.ret ⟨I3,cv⟩
  .refine Dr.bind (iS cz (n:=2) (by omega) (by omega)) fun v hv cv=>aIY ?_
   have m0:0<tV (w.2.2.2.1.length:Int) 1:=by unfold tV;split<;>omega
   have m1:tV (w.2.2.2.1.length:Int) 1<=60:=by unfold tV;split<;>omega
   exact Dr.bind (iS cv (n:=tV (w.2.2.2.1.length:Int) 1) m0 (by omega)) fun u hu cu=>Gd.ret ⟨I3,cu⟩
 .exact Dr.bind (aui cy) fun v hv cv=>Gd.ret ⟨⟨aT _,gz,gz,gz⟩,cv⟩
def aI2 {code:List Int}(h:code.length<=1048576):∃v:Int,Mk F0 code 70 140=some (v,())/\70<=v/\v<=140:=by
 have hd:Int.tdiv (code.length:Int) 4=(code.length:Int)/4:=amB (by omega);rw[an9,hd,aJ (n:=(code.length:Int)/4) (by omega) (by omega),aJ (by omega) (by omega)];by_cases g:70+(code.length:Int)/4>140
 .rw[aN g];exact⟨140,rfl,by omega,by omega⟩
 .rw[aR g];exact⟨70+(code.length:Int)/4,rfl,by omega,by omega⟩
def aGo {code:List Int}(h:code.length<=1048576):Gd (wj F0 code) fun z=>New z.1/\z.2.1.length<=140/\∀d∈z.2.1,aj6 d:=by
 rw[abJ];refine Gd.bind (aMF h) fun z0 hz0=>Dr.bind (aIX hz0) fun s hs cs=>?_
 have hg:=hs.g;refine Gd.let (ajU hg.w) ?_;obtain⟨v,hv,v0,v1⟩:=aI2 h;refine Gd.let hv (Dr.bind (iS cs (n:=v) (by omega) (by omega)) fun n1 hn cn=>?_);obtain⟨n0,n1'⟩:=hn;have key:∀(j k:Nat) (z:yq×(an×List eU)) (n:Nat),(k:Int)+j=n1.1.1->Sj z.1->aM z.2.1->z.2.2.length<=k->(∀d∈z.2.2,aj6 d)->j<n->k<=140 ->
   Gd (qA F0 (um F0) n (mw n1.1.1 (k:Int) 0 0 z.1.1 z.1.2.1 z.1.2.2 s.1.1.1.1 s.1.1.1.2 z.2.1.1.1 z.2.1.1.2 z.2.2 [] [] [] [] s.1.1.2.1 s.1.1.2.2.1 s.1.1.2.2.2.1 s.1.1.2.2.2.2 z.2.1.2.1 z.2.1.2.2.1 z.2.1.2.2.2.1 z.2.1.2.2.2.2)) fun z=>New z.1/\z.2.1.length<=140/\∀d∈z.2.1,aj6 d:=by
  intro j
  induction j with
  |zero =>
   intro k z n hk hc hw hl hd hn hk1;obtain⟨n,rfl⟩:∃m,n=m+1:=⟨n-1,by omega⟩;rw[zZ,aR (show ¬(k:Int)<n1.1.1 by omega),aa,UK];exact Gd.ret ⟨hs,cR hl hk1,hd⟩
  |succ j ih =>
   intro k z n hk hc hw hl hd hn hk1;obtain⟨n,rfl⟩:∃m,n=m+1:=⟨n-1,by omega⟩;rw[zZ,aN (show(k:Int)<n1.1.1 by omega),af];refine Dr.bind (aKQ hc hw) fun d hdd cd=>Gd.ck (az (by omega) (by omega) (by simp only[aZ,bE];omega)) (Gd.let (aAn hw hdd) ?_)
   rw[ao (by omega)];exact ih (k+1) (d.2.1,aAm z.2.1 d.1.1,z.2.2++[d.1.1]) n (by omega) cd (hw.aQY _) (by rw[aL,dM];omega) (fun x hx=>(jx.1 hx).elim (hd x) fun hx=>by rw[hU.1 hx];exact hdd) (by omega) (by omega)
 exact key n1.1.1.toNat 0 (n1.2.1,s.1.1,[]) F0.n (by omega) cn hg (bZ _) (fun d hd=>by cases hd) (by rw[cl];omega) (by omega)
section
variable {c:Int×Int} {r:aC}
def aC1 (d:qQ):(lW d).1=d.1:=by unfold lW;split<;>rfl
end
abbrev Nm:=List UInt8
def Anc (t s:Nm):Prop:=s=t\/∃r,s=t++47::r
def Anc.refl (t:Nm):Anc t t:=.inl rfl
def Anc.trans {a b c:Nm}(h:Anc a b)(h2:Anc b c):Anc a c:=by
 rcases h2 with rfl|⟨r,rfl⟩
 .exact h
 .rcases h with rfl|⟨q,rfl⟩
  .exact .inr ⟨r,rfl⟩
  .exact .inr ⟨q++47::r,by simp⟩
def Sz {s:Nm}(h:bu s=true):Anc (fQ s) s:=by
 by_cases h0:s=[]
 .subst h0;exact .inl rfl
 .obtain⟨t,_,e⟩:=QY h h0;exact .inr ⟨t,e⟩
def aKR {t s:Nm}(h:Anc t s):t.length<=s.length:=by
 rcases h with rfl|⟨r,rfl⟩
 .exact bZ _
 .rw[aL];omega
def afG {a b s:Nm}(ha:Anc a s)(hb:Anc b s)(h:a.length<=b.length):Anc a b:=by
 rcases hb with rfl|⟨q,rfl⟩
 .exact ha
 .rcases ha with e|⟨r,e⟩
  .have:=qd List.length e;rw[aL,aZ]at this;omega
  .by_cases hl:a.length=b.length
   .have:=List.append_inj_left e hl.symm;exact .inl this
   .refine .inr ⟨b.drop (a.length+1),?_⟩;have h1:(b++47::q).take a.length=a:=by rw[e];exact afQ
    have h2:(b++47::q)[a.length]?=some 47:=by rw[e];simp
    rw[aC6 h]at h1;rw[List.getElem?_append_left (by omega)]at h2;obtain⟨hh,h2⟩:=xJ.1 h2;have h3:=acL a.length b;rw[UT hh,h2,h1]at h3;exact h3.symm
def aI3 {a s:Nm}(hs:bu s=true)(ha:bu a=true):Anc a s->a≠s->aH a<aH s:=by
 intro h hne;generalize hn:s.length=n
 induction n using Nat.strongRecOn generalizing s with
 |_ n ih =>
  subst hn;have h0:s≠[]:=fun e=>by
   subst e;rcases h with h|⟨r,h⟩
   .exact hne h.symm
   .simp at h
  have hu:=aw3 hs h0;by_cases he:a=fQ s
  .rw[he];exact hu
  .have hl:a.length<=(fQ s).length:=by
    rcases h with h|⟨r,h⟩
    .exact absurd h.symm hne
    .rcases LO (fQ s).length a.length with hlt|hge
     .exfalso;obtain⟨t,ht,e⟩:=QY hs h0;have h2:s[a.length]?=some 47:=by rw[h];simp
      rw[e,as9 (by omega)]at h2;have h3:(47::t)[a.length-(fQ s).length]?=t[a.length-(fQ s).length-1]?:=by obtain⟨k,hk⟩:∃k,a.length-(fQ s).length=k+1:=⟨a.length-(fQ s).length-1,by omega⟩;rw[hk];simp
      rw[h3]at h2;exact ht (ata h2)
     .exact hge
   have h4:=afG h (Sz hs) hl;have:=ih (fQ s).length (aCi hs h0) (xF hs) h4 he rfl;omega
def aKS {s t:ByteArray}(hs:bu s.data.toList=true)(ht:bu t.data.toList=true)(h:Anc t.data.toList s.data.toList):asQ s t=true:=by
 have hl:=aKR h;have e1:s.size=s.data.toList.length:=rfl;have e2:t.size=t.data.toList.length:=rfl;unfold asQ;rw[hs,ht,hY,hY,aN (show(s.size:Int)>=(t.size:Int) by omega),hY];have hx:s.extract 0 t.size=t:=by
  have:=NT s.data.toList 0 t.data.toList.length;rw[acN,U1]at this;rw[<-VB]at this;refine this.trans ?_;rcases h with h|⟨r,h⟩
  .rw[h,mB];rfl
  .rw[h,afQ];rfl
 rw[hx,Zc,hY];rcases h with h|⟨r,h⟩
 .rw[show((s.size:Int)==(t.size:Int))=true from bC.2 (by rw[e1,e2,h])];rfl
 .have:kc s (t.size:Int)=47:=by
   have hg:s.data.toList[t.data.toList.length]?=some 47:=by rw[h];simp
   unfold kc;rw[jw,e2,Gr,hg];rfl
  rw[this];simp
def auD (A B:Nat->Bool):∀l:List Nat,l.countP A+l.countP B<=l.length+l.countP fun k=>A k&&B k
 |[]=>bZ _|x::l=>by have:=auD A B l;rw[Gu,Gu,Gu,aZ];cases A x<;>cases B x<;>simp<;>omega
def auE (A L:Nat->Bool):∀l:List Nat,l.countP A<=l.countP L+l.countP fun k=>A k&& !L k
 |[]=>bZ _|x::l=>by have:=auE A L l;rw[Gu,Gu,Gu];cases A x<;>cases L x<;>simp<;>omega
def auF {x:Nat}(p:Nat->Bool)(hp:p x=false):∀l:List Nat,x∈l->l.countP p+1<=l.countP fun k=>p k || k==x
 |y::l,h=>by
  rw[Gu,Gu];by_cases e:y=x
  .subst e;have:l.countP p<=l.countP fun k=>p k || k==y:=aAX fun k _ hk=>by rw[hk];rfl
   rw[hp];simp;omega
  .have:=auF p hp l (by rcases dE.1 h with h|h;exact absurd h.symm e;exact h);rw[show(y==x)=false by simp[e],amP];omega
def aim {n:Nat}:∀{w:List Int},w.Nodup->(∀x∈w,0<=x/\x<n)->w.length<=(List.range n).countP fun k:Nat=>decide ((k:Int)∈w)
 |[],_,_=>aT _|x::w,hd,hw=>by
  have ih:=aim (n:=n) (auY.1 hd).2 fun y hy=>hw y (ka x hy)
  have hx:=hw x qU;have hk:x.toNat∈List.range n:=kb.2 (by omega);have hp:decide (((x.toNat:Nat):Int)∈w)=false:=aR (by rw[LM hx.1];exact(auY.1 hd).1);have h1:=auF (fun k:Nat=>decide ((k:Int)∈w)) hp _ hk;have h2:((List.range n).countP fun k:Nat=>decide ((k:Int)∈w) || k==x.toNat)<=(List.range n).countP fun k:Nat=>decide ((k:Int)∈x::w):=aAX fun k _ hk=>by
   rcases(kE _ _).mp hk with h|h
   .exact aN (ka x (nW h))
   .have:=eq_of_beq h;exact aN (by rw[this,LM hx.1];exact qU)
  rw[aZ];omega
def count_le {n:Nat}{w:List Int}:((List.range n).countP fun k:Nat=>decide ((k:Int)∈w))<=w.length:=by
  induction w with
  |nil=>simp
  |cons x w ih =>
   have:((List.range n).countP fun k:Nat=>decide ((k:Int)∈x::w))<=((List.range n).countP fun k:Nat=>decide ((k:Int)∈w))+(List.range n).countP fun k:Nat=>decide ((k:Int)=x):=by
    generalize List.range n=l
    induction l with
    |nil=>simp
    |cons y l ih =>
     rw[Gu,Gu,Gu];by_cases h1:(y:Int)=x<;>by_cases h2:(y:Int)∈w<;>simp[h1,h2]at ih ⊢<;>omega
   have h1:∀m,((List.range m).countP fun k:Nat=>decide ((k:Int)=x))<=1/\(((m:Int)<=x)->((List.range m).countP fun k:Nat=>decide ((k:Int)=x))=0):=by
    intro m
    induction m with
    |zero=>simp
    |succ m ih =>
     rw[List.range_succ,List.countP_append,Gu,List.countP_nil];by_cases h:(m:Int)=x
     .have:=ih.2 (by omega);rw[this,aN h];exact⟨by simp,fun h2=>by omega⟩
     .rw[aR h];refine⟨by simp;exact ih.1,fun h2=>?_⟩;rw[ih.2 (by omega)];simp
   have:=(h1 n).1;rw[aZ];omega
def aj7 {n:Int}{s:List Int}(h:jA n s=true):s.Nodup:=by
 have hlt:∀(j i:Nat) (hj:j<s.length) (hi:i<j),s[i]<s[j]:=by
  intro j
  induction j with
  |zero=>intro i hj hi;omega
  |succ j ih =>
   intro i hj hi;have h1:=aqF h hj;rcases LO i j with h2|h2
   .have:=ih i (by omega) h2;omega
   .have:i=j:=by omega
    subst this;exact h1
 refine aAT.2 fun i j hi hj hij he=>?_
 have:=hlt j i hj hij;omega
def aAs {c:Int×Int}{liars w1 w2:List Int}(hc:bL c=true)(hl:(liars.length:Int)<=uv c)(h1:jA c.1 w1=true)(h2:jA c.1 w2=true)(q1:(w1.length:Int)>=uw c)(q2:(w2.length:Int)>=uw c) :
  ∃m,m∈w1/\m∈w2/\m ∉ liars:=by
 obtain⟨n0,n1,_,_⟩:=cF hc;have e:(c.1.toNat:Int)=c.1:=LM (by omega);have a1:=aim (n:=c.1.toNat) (aj7 h1) (fun x hx=>by have:=CE h1 x hx;omega);have a2:=aim (n:=c.1.toNat) (aj7 h2) (fun x hx=>by have:=CE h2 x hx;omega);have b:=auD (fun k:Nat=>decide ((k:Int)∈w1)) (fun k:Nat=>decide ((k:Int)∈w2)) (List.range c.1.toNat);have d:=auE (fun k:Nat=>decide ((k:Int)∈w1)&&decide ((k:Int)∈w2)) (fun k:Nat=>decide ((k:Int)∈liars)) (List.range c.1.toNat);have f:=count_le (n:=c.1.toNat) (w:=liars);rw[SD]at b;have akg:0<(List.range c.1.toNat).countP fun k:Nat=>(decide ((k:Int)∈w1)&&decide ((k:Int)∈w2))&& !decide ((k:Int)∈liars):=by
  unfold uw uv at *;rw[ai hc]at *;have:(Int.tdiv (c.1-1) 3)*3<=c.1-1:=by rw[amB (by omega)];omega
  omega
 obtain⟨k,hk,hp⟩:=List.countP_pos_iff.1 akg;simp only[aI,ais,cA,axQ]at hp;exact⟨(k:Int),hp.1.1,hp.1.2,hp.2⟩
def aKT {c:Int×Int}{liars w1:List Int}(hc:bL c=true)(hl:(liars.length:Int)<=uv c)(h1:jA c.1 w1=true)(q1:(w1.length:Int)>=uw c):∃m,m∈w1/\m ∉ liars:=by obtain⟨m,a,_,b⟩:=aAs hc hl h1 h1 q1 q1;exact⟨m,a,b⟩
end Go.Am.Tryz
