/- No condition. -/
import Derived.Test.YtpkabclplaibaaaGreatDoorQhYJL4
set_option linter.all false
namespace Go.Am.Tryz
open Go.Am
def T4 (w:aq):(tf w).length<=w.2.2.1.length:=O0 _ _
def adW {U ζ γ:Type}(X:Nat->Int->ζ->Option γ)(a:List U)(f:ζ->U->ζ)(b:ζ->Prop)(R:Option γ)(c:ζ)(e:b c)(g:∀z x,x∈a->b z->b (f z x))
  (i:∀n k z (h:k<a.length),b z->X (n+1) (k:Int) z=X n ((k+1:Nat):Int) (f z a[k])) (j:∀n,X (n+1) (a.length:Int) (a.foldl f c)=R) (n:Nat) (l:a.length<n):X n 0 c=R:=by
 refine b9 X a.length (fun k z=>z=(a.take k).foldl f c/\b z) R (fun n k z d h=>.inr ⟨_,i n k z d h.2,?_,g _ _ (dH d) h.2⟩) (fun n z h=>?_) n 0 c (a1 _) ⟨rfl,e⟩ (by omega)
 .rw[dQ d,List.foldl_append,h.1];rfl
 .rw[h.1,gq];exact j n
def isSaid (view:Int)(name:ByteArray)(c9:Int)(y:eb):Bool:=(y.1==view)&&((y.2.1.toList==name.toList)&&(y.2.2==c9))
def L3 (l:List eb)(view:Int)(name:ByteArray)(c9:Int):Bool:=l.any (isSaid view name c9)
def am1 {U:Type}{p:U->Bool}{l:List U}{k:Nat}(a:k<l.length):(l.drop k).any p=(p l[k] || (l.drop (k+1)).any p):=by rw[VZ a,List.any_cons]
def Zu {l:List eb}(h:l.length<=1048576)(view:Int)(name:ByteArray)(c9:Int):wN F0 l view name c9=some (L3 l view name c9,()):=by
 rw[XZ];refine b9 (fun n k (z:Unit)=>kx F0 (o0 F0) n (gm l view name c9 k)) l.length (fun k _=>L3 l view name c9=(l.drop k).any (isSaid view name c9)) _ (fun n k z b a=>?_) (fun n z a=>?_) F0.n 0 () (a1 _) rfl (by rw[b1];omega)
 .rw[am1 b]at a;rw[Cv,bp b,ae,aE b,ab,ab,ab,cB b,Sq,an (by omega),a];unfold isSaid;cases c:(l[k].1==view) with
  |false=>exact .inr ⟨(),aa _ _,rfl⟩
  |true =>
   cases d:(l[k].2.1.toList==name.toList) with
   |false=>exact .inr ⟨(),by rw[ae,aa],rfl⟩
   |true =>
    cases e:(l[k].2.2==c9) with
    |false=>exact .inr ⟨(),by rw[ae,ae,aa],rfl⟩
    |true=>exact .inl rfl
 .rw[aaM]at a;rw[Cv,aO,aa,Qx,a];rfl
def Zv (a:List Int)(l:List eb)(view:Int)(name:ByteArray)(i:Int):Bool:=decide (i∈a) || L3 l view name i
def signed (a:List Int)(l:List eb)(view:Int)(name:ByteArray)(c9:List Int):Bool:=c9.all (Zv a l view name)
def Pf {a:List Int}(d:a.length<=1048576){l:List eb}(c:l.length<=1048576)(view:Int)(name:ByteArray){c9:List Int}(e:c9.length<=1048576):pZ F0 a l view name c9=some (signed a l view name c9,()):=by
 rw[X0,E5 (fun m k=>nQ F0 (o1 F0) m (ki a l view name c9 k)) c9.length (fun k=>Zv a l view name (c9.getD k 0)) (some (true,())) (some (false,())) (fun m k b=>?_) (fun m=>?_) _ (by rw[b1];omega),YS,YX]
 .rfl
 .rw[Cw,bp b,ae,aE b,ab,ab,cB b,dP (by omega),av,Zu c,av,Sr,an (by omega),bH b];unfold Zv;cases decide (c9[k]∈a)<;>cases L3 l view name c9[k]<;>rfl
 .rw[Cw,aO,aa,Qy]
def adX (a:List Int)(l:List eb)(q:ct):Bool:=signed a l q.1 q.2.1 q.2.2
def adY (c:Int×Int)(a:List Int)(l:List eb)(m:cq):Bool :=
 dS c m&&(if m.1=1 then decide (dE c (bE m.2.2.1.1.data.toList)∈a)&&adX a l m.2.2.1.2 else if m.1=2 then adX a l m.2.2.2.1 else if m.1=3 then decide (m.2.2.2.2.2.1∈a)&&adX a l m.2.2.2.2.1 else true)
def aib {c:Int×Int}{a:List Int}(g:a.length<=1048576){l:List eb}(h:l.length<=1048576){m:cq}(b:iX m):DY F0 c a l m=some (adY c a l m,()):=by
 rw[X2,Bu b,av,eT b.1,av,CM,av,dP (by omega),av,Pf g h _ _ b.2.1.2,av,Pf g h _ _ b.2.2.1.2,av,dP (by omega),av,Pf g h _ _ b.2.2.2.2,av];unfold adY;cases dS c m with
 |false=>rfl
 |true =>
  rw[bc,aa,yJ];by_cases d:m.1=1
  .rw[cS.2 d,ae,aj d];dsimp only;cases decide (dE c (bE m.2.2.1.1.data.toList)∈a)<;>rfl
  .rw[cC.2 d,aa,ag d];by_cases e:m.1=2
   .rw[cS.2 e,ae,aj e];rfl
   .rw[cC.2 e,aa,ag e];by_cases f:m.1=3
    .rw[cS.2 f,ae,aj f];dsimp only;cases decide (m.2.2.2.2.2.1∈a)<;>rfl
    .rw[cC.2 f,aa,ag f]
def NU (id:Int)(q:ct):List eb:=if dR q.2.1=true then [] else if id∈q.2.2 then [(q.1,q.2.1,id)] else []
def nB (id:Int)(m:cq):List eb:=if m.1=4 then [] else if m.1=2 then NU id m.2.2.2.1 else if m.1=1 then NU id m.2.2.1.2 else NU id m.2.2.2.2.1
def Zw (id:Int)(q:ct):br (q.2.1.toList==ah.toList) (some (([]:List eb),())) (br (!decide (id∈q.2.2)) (some ([],())) (some ([(q.1,q.2.1,id)],())))=some (NU id q,()):=by
 unfold NU dR;cases (q.2.1.toList==ah.toList) with
 |true=>rfl
 |false =>
  by_cases h:id∈q.2.2
  .rw[aW h,ag (by decide),aj h];rfl
  .rw[a6 h,ag (by decide),ag h];rfl
def aic {m:cq}(d:iX m)(id:Int):Ee F0 id m=some (nB id m,()):=by
 rw[X9,dP (aL d.2.2.1.2 (by omega)),av,dP (aL d.2.1.2 (by omega)),av,dP (aL d.2.2.2.2 (by omega)),av];dsimp only;rw[Zw id m.2.2.2.1,Zw id m.2.2.1.2,Zw id m.2.2.2.2.1];unfold nB;by_cases a:m.1=4
 .rw[aj a,cC.2 (show m.1≠2 by omega),aa,cC.2 (show m.1≠1 by omega),aa,cS.2 a,ae]
 .rw[ag a,cC.2 a,aa,aa,aa];by_cases b:m.1=2
  .rw[aj b,cS.2 b,ae]
  .rw[ag b,cC.2 b,aa];by_cases c:m.1=1
   .rw[aj c,cS.2 c,ae]
   .rw[ag c,cC.2 c,aa]
def aid (id:Int)(m:cq):(nB id m).length<=1:=by
 have a:∀q:ct,(NU id q).length<=1:=fun q=>by
  unfold NU;split
  .exact a1 _
  .split
   .exact bq _
   .exact a1 _
 unfold nB;split
 .exact a1 _
 .split
  .exact a _
  .split
   .exact a _
   .exact a _
def Hx (l:List eb)(x:eb):List eb:=if l.length<300/\L3 l x.1 x.2.1 x.2.2=false then l++[x] else l
def am2 (id:Int)(l:List eb)(p:ll):List eb:=(nB id p.2).foldl Hx l
def adZ (id:Int)(list:List ll)(l:List eb):List eb:=list.foldl (am2 id) l
def EJ (w:aq)(id:Int)(list:List ll):aq:=if id∈tf w then (w.1,w.2.1,w.2.2.1,w.2.2.2.1,adZ id list w.2.2.2.2) else w
def Zx {l:List eb}(h:l.length<=300)(x:eb):(Hx l x).length<=300:=by
 unfold Hx;split
 .rename_i a;rw[aB,b2];omega
 .exact h
def Zy:∀{xs:List eb} {l:List eb},l.length<=300->(xs.foldl Hx l).length<=300
 |[],_,h=>h|x::xs,l,h=>Zy (xs:=xs) (Zx h x)
def T5 (id:Int):∀{list:List ll} {l:List eb},l.length<=300->(adZ id list l).length<=300
 |[],_,h=>h|p::list,l,h=>T5 id (list:=list) (Zy h)
def ak5 {w:aq}(h:Zg w)(j:w.2.2.2.2.length<=300)(id:Int){list:List ll}(o:list.length<=1048576)(l:∀p∈list,iX p.2):Cz F0 w id list=some (EJ w id list,()):=by
 rw[aai,afK h,av,Y3 h.l,av,dP (by have:=T4 w;have:=h.l.r;dsimp only;omega),av];unfold EJ;by_cases b:id∈tf w
 .rw[aW b,aj b,bc,aa];refine adW (fun n k z=>AU F0 (sF F0) n (sE id list k 0 0 w.1.1 w.1.2 [] [] [] [] w.2.1 w.2.2.1 w.2.2.2.1 z)) list (am2 id) (fun z=>z.length<=300) _ w.2.2.2.2 j (fun z p q d=>Zy d) (fun n k z c d=>?_) (fun n=>?_) _ (by rw[b1];omega)
  .rw[Eg,bp c,ae,aE c,ab,cB c,aic (l _ (dH c)),av];have r:=aid id list[k].2;refine adW (fun m a (y:List eb)=>mL F0 (Cy F0 (sF F0) n) m (iM id list (k:Int) a 0 0 w.1.1 w.1.2 (nB id list[k].2) [] [] [] [] w.2.1 w.2.2.1 w.2.2.2.1 y)) (nB id list[k].2) Hx (fun y=>y.length<=300) _ z d (fun y x s g=>Zx g x) (fun m a y e g=>?_) (fun m=>?_) _ (by rw[b1];omega)
   .rw[Ef,bp e,ae,aE e,ab,cB e,Zu (by omega),av,aC (by omega) (by omega) (by first|omega|(simp only[aB,aR,bo];omega)|(rw[bT,bQ];omega)),ab,an (by omega)];unfold Hx;by_cases i:y.length<300
    .rw[aW (show(y.length:Int)<300 by omega),ae];cases L3 y (nB id list[k].2)[a].1 (nB id list[k].2)[a].2.1 (nB id list[k].2)[a].2.2 with
     |true=>rw[ag (fun f=>by cases f.2)];rfl
     |false=>rw[aj ⟨i,rfl⟩];rfl
    .rw[a6 (show ¬(y.length:Int)<300 by omega),aa,ag (fun f=>i f.1)]
   .rw[Ef,aO,aa,Su,an (by omega)];rfl
  .rw[Eg,aO,aa,Sv];rfl
 .rw[a6 b,ag b];rfl
def abH (c:Int×Int)(a:List np)(p:ll):List np:=if a.length<60/\dS c p.2=true/\fR 0 (ak (c.1-1)) p.1=true then a++[(p.1,GA p.2)] else a
def aie (c:Int×Int)(list:List ll)(a:List np):List np:=list.foldl (abH c) a
def ajW (w:aq)(list:List ll):aq:=(w.1,w.2.1,w.2.2.1,aie w.1 list w.2.2.2.1,w.2.2.2.2)
def abI {c:Int×Int}{a:List np}(h:a.length<=60)(p:ll):(abH c a p).length<=60:=by
 unfold abH;split
 .rename_i b;rw[aB,b2];omega
 .exact h
def ak6 (c:Int×Int)(m:cq):decide (((Zh c m).length:Int)>0)=dS c m:=by
 unfold Zh;cases h:dS c m with
 |false=>rfl
 |true =>
  have:=(O9 h).2.2;rw[aj rfl];exact aW (by omega)
def T6 {w:aq}(e:w.2.2.2.1.length<=60){list:List ll}(h:list.length<=1048576)(f:∀p∈list,iX p.2):sy F0 w list=some ((ajW w list,()),()):=by
 rw[U5];refine adW (fun n k z=>fP F0 (uE F0) n (ej list k w.1.1 w.1.2 0 0 w.2.1 w.2.2.1 z w.2.2.2.2 [] [] [] [])) list (abH w.1) (fun z=>z.length<=60) _ w.2.2.2.1 e (fun z p i c=>abI c p) (fun n k z b c=>?_) (fun n=>?_) _ (by rw[b1];omega)
 .rw[y6,bp b,ae,aE b,ab,cB b,show((w.1.1,w.1.2):Int×Int)=w.1 from rfl,Ri (f _ (dH b)),av,ab,ch,av,ab,aC (by omega) (by omega) (by first|omega|(simp only[aB,aR,bo];omega)|(rw[bT,bQ];omega)),ab,an (by omega)];dsimp only;rw[ak6];unfold abH;by_cases d:z.length<60
  .rw[aW (show(z.length:Int)<60 by omega),ae];cases g:dS w.1 list[k].2 with
   |false=>rw[ag (fun a=>by cases a.2.1)];rfl
   |true =>
    cases j:fR 0 (ak (w.1.1-1)) list[k].1 with
    |false=>rw[ag (fun a=>by cases a.2.2)];rfl
    |true=>rw[aj ⟨d,rfl,rfl⟩,ae,ae,show Zh w.1 list[k].2=GA list[k].2 from aj g]
  .rw[a6 (show ¬(z.length:Int)<60 by omega),aa,ag (fun a=>d a.1)]
 .rw[y6,aO,aa,OD];rfl
def VY {c:Int×Int}{r:au}{a:Int}{m:cq}:(yG c r a m).1.1=r.1:=by unfold yG;split<;>rfl
def am3 {c:Int×Int}{r:au}{q:ct}:(EH c r q).1.1=r.1:=by
 have h:(written c r q).1.1=r.1:=Zm;unfold EH;split
 .split
  .exact h
  .split
   .exact h
   .rw[VY];exact h
 .rfl
def Zz {c:Int×Int}{r:au}{view:Int}{name:ByteArray}{a:Bool}:(ht c r view name a).1.1=r.1:=by
 unfold ht;split
 .rfl
 .split
  .split
   .exact am3
   .rfl
  .split
   .rfl
   .exact VY
def aqh {c:Int×Int}{r:au}{name:ByteArray}:(own c r name).1.1=r.1:=by
 unfold own;split
 .rw[Zz];rfl
 .rfl
def am4 {r:au}{b:cH}:(Ad r b).1=r.1:=by unfold Ad;split<;>rfl
def Rp {c:Int×Int}{r:au}{b:cH}:(ni c r b).1.1=r.1:=by
 have h:(tj c (Ad r b) (Hw c r b)).1.1=r.1:=by rw[Zm,am4]
 unfold ni Ls;split
 .split
  .split
   .rw[aqh];exact h
   .rfl
  .exact h
 .rfl
def af8 {c:Int×Int}{r:au}{p:ct}:(xJ c r p).1.1=r.1:=by
 unfold xJ;split
 .rw[Zz];rfl
 .rfl
def af9 {imp:Bool}{c:Int×Int}{r:au}{view:Int}{q:ct}{c9:Int}:(xU imp c r view q c9).1.1=r.1:=by
 have h:(written c r q).1.1=r.1:=Zm;have b:∀(l:Bool) (a:au),(Lt l a view q).1=a.1:=fun l a=>by unfold Lt;split<;>rfl
 unfold xU u1;split
 .split
  .split
   .rw[b];exact h
   .rfl
  .rw[b];exact h
 .rfl
def am5 {imp:Bool}{c:Int×Int}{r:au}{m:cq}:(NT imp c r m).1.1=r.1:=by
 unfold NT;split
 .exact Rp
 .split
  .exact af8
  .split
   .exact af9
   .rfl
def ajX {imp:Bool}{c:Int×Int}{r:au}{m:cq}:(Pe imp c r m).1.1=r.1:=by
 unfold Pe;split
 .exact am5 (imp:=imp)
 .rfl
def am6 {c:Int×Int}{r:au}:(NR c r).1.1=r.1:=by
 unfold NR;split
 .rfl
 .split
  .split
   .rfl
   .rfl
  .split
   .rw[VY];rfl
   .rfl
def S3 {c:Int×Int}{r:au}{m:cq}:∀(j k:Nat) (o:au),o.1=r.1->(E6 c r m j k o).1.1=r.1
 |0,_,_,h=>h|j+1,k,o,h=>by
  unfold E6;split
  .exact S3 j (k+1) o h
  .split
   .exact S3 j (k+1) _ (by rw[VY];exact h)
   .rfl
def Lu (r:au):au:=(r.1,r.2.1,r.2.1,r.2.2.2)
def aQ.Lu {c:Int×Int}{r:au}(h:aQ c r):aQ c (Lu r):=by have a:=h.view;exact⟨⟨h.f.cf,h.f.i,h.f.v,by show fR 0 60 r.2.1=true;simp only[fR,az,bu];omega,h.f.s,h.f.p,h.f.t,h.f.d,h.f.n,h.f.h⟩,h.b⟩
def aga (c:Int×Int)(r:au):au×Bool:=VX c (Lu r) (af0 (ask c r).1)
def aaG (c:Int×Int)(r:au):au×Int :=
 if (ask c r).2=true then (if (aga c r).2=true/\(ni c (aga c r).1 (ask c r).1).2=true then ((ni c (aga c r).1 (ask c r).1).1,0) else (r,4)) else (r,3)
def am7 {c:Int×Int}{r:au}(h:aQ c r):aQ c (aga c r).1:=h.Lu.aoC _
def aQ.aaG {c:Int×Int}{r:au}(h:aQ c r):aQ c (aaG c r).1:=by
 unfold Tryz.aaG;split
 .split
  .exact(am7 h).Zs _
  .exact h
 .exact h
def aoF {c:Int×Int}{r:au}:(aaG c r).1.1=r.1:=by
 unfold aaG;split
 .split
  .rw[Rp];exact S3 _ _ _ rfl
  .rfl
 .rfl
def Hy (c:Int×Int)(r:au):Nat->au×Int
 |0=>(r,3)|k+1=>if dR (r.2.2.2.2.2.1.getD k cI).2.1=true then Hy c r k
  else if (ht c r (r.2.2.2.2.2.1.getD k cI).1 (r.2.2.2.2.2.1.getD k cI).2.1 true).2=true then ((ht c r (r.2.2.2.2.2.1.getD k cI).1 (r.2.2.2.2.2.1.getD k cI).2.1 true).1,0) else (r,3)
def ajY (c:Int×Int)(r:au):au×Int:=Hy c r r.2.2.2.2.2.1.length
def agb {c:Int×Int}{r:au}(h:aQ c r):∀k,aQ c (Hy c r k).1
 |0=>h|k+1=>by
  unfold Hy;split
  .exact agb h k
  .split
   .exact h.adP _ _ _
   .exact h
def abJ {c:Int×Int}{r:au}:∀k,(Hy c r k).1.1=r.1
 |0=>rfl|k+1=>by
  unfold Hy;split
  .exact abJ k
  .split
   .exact Zz
   .rfl
def aoG (r:au)(d:tQ):au:=(r.1,r.2.1,r.2.2.1,r.2.2.2.1,r.2.2.2.2.1,r.2.2.2.2.2.1,d,r.2.2.2.2.2.2.2)
def S4 (r:au)(j4:Int):au:=aoG r (CT r.2.2.2.2.2.2.1 j4)
def agc (c:Int×Int)(r:au)(j4:Int):au:=aqd c (S4 r j4)
def aQ.S4 {c:Int×Int}{r:au}(h:aQ c r)(j4:Int):aQ c (S4 r j4):=by
 have b:=afQ h.f.d j4;have d:=dd.1 h.f.d;have e:CT r.2.2.2.2.2.2.1 j4=(r.2.2.2.2.2.2.1.1.take (NQ r.2.2.2.2.2.2.1 j4).toNat,NQ r.2.2.2.2.2.2.1 j4):=aj h.f.d;refine⟨⟨h.f.cf,h.f.i,h.f.v,h.f.a,h.f.s,h.f.p,h.f.t,?_,h.f.n,h.f.h⟩,?_⟩
 .show gh (CT r.2.2.2.2.2.2.1 j4)=true;rw[e];refine dd.2 ⟨?_,?_,?_⟩
  .dsimp only;rw[bQ];omega
  .dsimp only;omega
  .dsimp only;rw[bQ];omega
 .show ∀x∈(CT r.2.2.2.2.2.2.1 j4).1,_;rw[e];exact fun x a=>h.b x (Bw a)
def Pg {c:Int×Int}(a:bF c=true):cl c ln=true:=by unfold cl fg adq ln;simp only[a,fR];rfl
def ak7 {c:Int×Int}{b:List Int}(a:bF c=true):cl c (uW c b).1=true:=by
 unfold uW;split
 .rename_i h;exact h.2.2
 .exact Pg a
def agd {c:Int×Int}{b:List Int}(e:bF c=true):∀(f:Nat) (s:bC) (a:Nat),cl c s=true->cl c (Lg c b f s a).1=true
 |0,_,_,h=>h|f+1,s,a,h=>by
  cases d:NN c b a with
  |none=>rw[uX d];exact h
  |some z =>
   obtain⟨j,k⟩:=z;rw[O3 d];refine agd e f j k ?_;cases g:uV b a with
   |none=>rw[O2 g]at d;cases d
   |some y =>
    obtain⟨v,l⟩:=y;rw[O1 g]at d;split at d
    .cases d
    .split at d
     .cases d
     .split at d
      .have i:=C2 Prod.fst (dI d);dsimp only at i;rw[<-i];exact ak7 e
      .cases d
def age {c:Int×Int}(a:bF c=true)(b:List Int):cl c (lZ c b).1=true:=agd a _ _ _ (Pg a)
def aQ.aq9 {c:Int×Int}{r:au}(h:aQ c r):aQ c (aqd c r):=by
 have b:=age h.f.cf r.2.2.2.2.2.2.1.1;have d:=T3 c h.bt.d;have e:=dd.1 h.f.d;obtain⟨f,g,i,j⟩:=ez b;refine⟨⟨h.f.cf,h.f.i,?_,rfl,b,rfl,rfl,?_,a1 _,fun x a=>by cases a⟩,fun x a=>h.b x (Bw a)⟩
 .show fR 1 60 (Zi (lZ c r.2.2.2.2.2.2.1.1).1)=true;simp only[fR,az,bu];unfold Zi Bb nW
  repeat' split
  all_goals omega
 .show gh (r.2.2.2.2.2.2.1.1.take (lZ c r.2.2.2.2.2.2.1.1).2,((lZ c r.2.2.2.2.2.2.1.1).2:Int))=true;refine dd.2 ⟨?_,?_,?_⟩
  .dsimp only;rw[bQ];omega
  .dsimp only;omega
  .dsimp only;rw[bQ];omega
def aQ.agc {c:Int×Int}{r:au}(h:aQ c r)(j4:Int):aQ c (agc c r j4):=(h.S4 j4).aq9
abbrev lr:=Int×Int×Int×cq
def aoH (imp:Bool)(c:Int×Int)(r:au)(m:cq):au×Int:=if (Pe imp c r m).2=true/\m.1=4 then ((Pe imp c r m).1,0) else (r,3)
def ad0 (imp:Bool)(c:Int×Int)(r:au)(d:lr):au×Int :=
 if d.1=1 then aaG c r else if d.1=6 then ajY c r else if d.1=7 then (if (NR c r).2=true then ((NR c r).1,0) else (r,3)) else if d.1=8 then (agc c r d.2.2.1,0) else aoH imp c r d.2.2.2
def aQ.ad0 {c:Int×Int}{r:au}(h:aQ c r)(imp:Bool)(d:lr):aQ c (ad0 imp c r d).1:=by
 unfold Tryz.ad0;split
 .exact h.aaG
 .split
  .exact agb h _
  .split
   .split
    .exact h.aq6
    .exact h
   .split
    .exact h.agc _
    .unfold aoH;split
     .exact h.heard _ _
     .exact h
def aoI {imp:Bool}{c:Int×Int}{r:au}{d:lr}:(ad0 imp c r d).1.1=r.1:=by
 unfold ad0;split
 .exact aoF
 .split
  .exact abJ _
  .split
   .split
    .exact am6
    .rfl
   .split
    .rfl
    .unfold aoH;split
     .exact ajX
     .rfl
def Be:aq:=((0,0),[],[],[],[])
def agf (c:Int×Int)(x:np):Prop:=ep x.2/\(CP c x.2).2=true/\fR 0 (ak (c.1-1)) x.1=true
def agh (c:Int×Int)(x:eb):Prop:=fR 0 (ak (c.1-1)) x.2.2=true/\bR x.2.1.data.toList=true/\bE x.2.1.data.toList=x.1
structure aU (w:aq):Prop where
 c:bF w.1=true
 l:nn w.1.1 w.2.1=true
 lf:(w.2.1.length:Int)<=Lc w.1
 n:(w.2.2.1.length:Int)=w.1.1
 g:∀r∈w.2.2.1,aQ w.1 r
 id:∀(k:Nat) (h:k<w.2.2.1.length),(w.2.2.1[k]).1=(k:Int)
 nl:w.2.2.2.1.length<=60
 nb:∀x∈w.2.2.2.1,agf w.1 x
 sl:w.2.2.2.2.length<=300
 sb:∀x∈w.2.2.2.2,agh w.1 x
def aU.le7 {w:aq}(h:aU w):4<=w.2.2.1.length/\w.2.2.1.length<=7:=by have:=cj h.c;have:=h.n;omega
def aU.Rq {w:aq}(h:aU w):w.2.1.length<=7:=by have a:=cj h.c;have:=LU h.l;omega
def aif {c:Int×Int}{x:eb}(h:agh c x):x.2.1.size<=1048576:=aL (gp h.2.1) (by omega)
def aU.w {w:aq}(h:aU w):Zg w :=
 ⟨⟨by have:=h.Rq;omega,by have:=h.le7;omega,fun x a=>(h.g x a).l,by have:=h.nl;omega,fun x a=>(h.nb x a).1,by have:=h.sl;omega,fun x a=>aif (h.sb x a)⟩,fun r b=>(h.g r b).bt.d⟩
def S5 {U:Type}{l:List U}{k:Nat}(h:k<l.length)(d:U):l.getD k d=l[k]:=bH h d
def aU.ok {w:aq}(h:aU w):VP w=true:=by
 unfold VP ahD Q9 Hk;simp only[az,V1,agH,aaI,gb,gd];refine⟨h.c,h.l,by have:=h.lf;omega,h.n,by have:=h.nl;omega,by have:=h.sl;omega,fun k a=>?_,fun k a=>?_,fun k a=>?_⟩
 .unfold ajG;rw[S5 a,az,cS];exact⟨(h.g _ (dH a)).ok,h.id k a⟩
 .unfold adx;rw[S5 a,az];exact(h.nb _ (dH a)).2
 .unfold ady;rw[S5 a,az,az,cS];exact h.sb _ (dH a)
def b0 (w:aq)(a:Int):au:=w.2.2.1.getD a.toNat TY
def nC (w:aq)(a:Int)(r:au):aq:=(w.1,w.2.1,w.2.2.1.set a.toNat r,w.2.2.2)
def aih {w:aq}{a:Int}(b:0<=a)(c:a<w.2.2.1.length):b0 w a∈w.2.2.1:=by unfold b0;rw[bH (show a.toNat<w.2.2.1.length by omega)];exact dH _
def aU.rep {w:aq}(h:aU w){a:Int}(b:0<=a)(c:a<w.2.2.1.length):aQ w.1 (b0 w a)/\(b0 w a).1=a:=by refine⟨h.g _ (aih b c),?_⟩;unfold b0;rw[bH (show a.toNat<w.2.2.1.length by omega),h.id _ (show a.toNat<w.2.2.1.length by omega)];omega
def aU.nC {w:aq}(h:aU w){a:Int}(j:0<=a){r:au}(d:aQ w.1 r)(f:r.1=a):aU (nC w a r):=by
 refine⟨h.c,h.l,h.lf,by show((w.2.2.1.set a.toNat r).length:Int)=_;rw[Th];exact h.n,fun x b=>?_,fun k g=>?_,h.nl,h.nb,h.sl,h.sb⟩
 .rcases agG b with b|rfl
  .exact h.g x b
  .exact d
 .have c:k<(w.2.2.1.set a.toNat r).length:=g;have i:((w.2.2.1.set a.toNat r)[k]'c).1=(k:Int):=by
   rw[List.getElem_set];split
   .rename_i e;rw[f];omega
   .exact h.id k (by rw[Th]at c;exact c)
  exact i
def ajZ {c:Int×Int}{q:ct}(d:bR q.2.1.data.toList=true)(e:q.2.1.data.toList≠[]->bE q.2.1.data.toList=q.1){id:Int}(f:fR 0 (ak (c.1-1)) id=true):∀x∈NU id q,agh c x:=by
 intro x a;unfold NU at a;cases b:dR q.2.1 with
 |true=>rw[b,aj rfl]at a;cases a
 |false =>
  rw[b,ag (by decide)]at a;split at a
  .rw[fA.1 a];refine⟨f,d,e fun g=>?_⟩;rw[(CR _).2 g]at b;cases b
  .cases a
def am8 {c:Int×Int}{m:cq}(f:dS c m=true){id:Int}(b:fR 0 (ak (c.1-1)) id=true):∀x∈nB id m,agh c x:=by
 have a:=adV f;have d:∀q:ct,fg c q=true->∀x∈NU id q,agh c x:=fun q g=>by obtain⟨_,h,i,_⟩:=Hp g;exact ajZ h (fun _=>i) b
 rcases a.k with k|k|k|k
 .have e:=a.b k;simp only[fZ,az]at e;unfold nB;rw[ag (by omega),ag (by omega),aj k];exact d _ e.1
 .obtain⟨_,_,_,_,_,j,l⟩:=Re (a.p k).1;unfold nB;rw[ag (by omega),aj k];exact ajZ j l b
 .unfold nB;rw[ag (by omega),ag (by omega),ag (by omega)];exact d _ (a.v k).2.1
 .unfold nB;rw[aj k];exact fun x n=>by cases n
def aii {l:List eb}{y x:eb}(h:x∈Hx l y):x∈l\/x=y:=by
 unfold Hx at h;split at h
 .rcases en.1 h with h|h
  .exact .inl h
  .exact .inr (fA.1 h)
 .exact .inl h
def ZA:∀{ys l:List eb} {x:eb},x∈ys.foldl Hx l->x∈l\/x∈ys
 |[],_,_,h=>.inl h|y::ys,l,x,h=>by
  rcases ZA (ys:=ys) h with h|h
  .rcases aii h with h|rfl
   .exact .inl h
   .exact .inr tu
  .exact .inr (h8 _ h)
def T7 {id:Int}:∀{ps:List ll} {l:List eb} {x:eb},x∈adZ id ps l->x∈l\/∃p∈ps,x∈nB id p.2
 |[],_,_,h=>.inl h|p::ps,l,x,h=>by
  rcases T7 (ps:=ps) h with h|⟨q,a,h⟩
  .rcases ZA h with h|h
   .exact .inl h
   .exact .inr ⟨p,tu,h⟩
  .exact .inr ⟨q,h8 _ a,h⟩
def Hz {w:aq}{id:Int}(h:id∈tf w):0<=id/\id<w.2.2.1.length:=by have:=aby w.2.1 w.2.2.1.length id h;exact this
def aU.fR {w:aq}(h:aU w){a:Int}(c:0<=a)(d:a<w.2.2.1.length):fR 0 (ak (w.1.1-1)) a=true:=by have b:=cj h.c;have e:=h.n;rw[SO b.1 b.2.1];simp only[Tryz.fR,az,bu];omega
def aU.am9 {w:aq}(h:aU w){a:Int}(b:Tryz.fR 0 (ak (w.1.1-1)) a=true):0<=a/\a<w.2.2.1.length:=by have c:=cj h.c;have d:=h.n;rw[SO c.1 c.2.1]at b;simp only[Tryz.fR,az,bu]at b;omega
def aU.EJ {w:aq}(h:aU w)(id:Int){list:List ll}(d:∀p∈list,dS w.1 p.2=true):aU (EJ w id list):=by
 unfold Tryz.EJ;by_cases b:id∈tf w
 .rw[aj b];have c:=Hz b;refine⟨h.c,h.l,h.lf,h.n,h.g,h.id,h.nl,h.nb,T5 id h.sl,fun x a=>?_⟩;rcases T7 a with a|⟨p,e,a⟩
  .exact h.sb x a
  .exact am8 (d p e) (h.fR c.1 c.2) x a
 .rw[ag b];exact h
def ak8 {c:Int×Int}{m:cq}(h:dS c m=true){a:Int}(b:fR 0 (ak (c.1-1)) a=true):agf c (a,GA m):=by have d:=O9 h;exact⟨⟨by dsimp only;omega,d.2.1⟩,by rw[akR h],b⟩
def ZB {c:Int×Int}:∀{ps:List ll} {l:List np} {x:np},x∈aie c ps l->x∈l\/agf c x
 |[],_,_,h=>.inl h|p::ps,l,x,h=>by
  rcases ZB (ps:=ps) h with h|h
  .unfold abH at h;split at h
   .rename_i a;rcases en.1 h with h|h
    .exact .inl h
    .rw[fA.1 h];exact .inr (ak8 a.2.1 a.2.2)
   .exact .inl h
  .exact .inr h
def ZC {c:Int×Int}:∀{ps:List ll} {l:List np},l.length<=60->(aie c ps l).length<=60
 |[],_,h=>h|p::ps,l,h=>ZC (ps:=ps) (abI h p)
def aU.send {w:aq}(h:aU w)(list:List ll):aU (ajW w list) :=
 ⟨h.c,h.l,h.lf,h.n,h.g,h.id,ZC h.nl,fun x a=>(ZB a).elim (h.nb x) (fun h=>h),h.sl,h.sb⟩
def aU.ZD {w:aq}(h:aU w){a:List np}(b:a.length<=60)(c:∀x∈a,agf w.1 x):aU (w.1,w.2.1,w.2.2.1,a,w.2.2.2.2) :=
 ⟨h.c,h.l,h.lf,h.n,h.g,h.id,b,c,h.sl,h.sb⟩
def aQ.ana {c:Int×Int}{r:au}(h:aQ c r):∀p∈r.2.2.2.2.2.2.2,dS c p.2=true:=fun p a=>afX (h.f.h p a)
def aQ.ara {c:Int×Int}{r:au}(h:aQ c r):∀p∈r.2.2.2.2.2.2.2,iX p.2:=fun p a=>adL (h.ana p a)
def Bf {w:aq}{a:Int}(c:0<=a)(e:a<w.2.2.1.length)(d:au):bd w.2.2.1 a d=b0 w a:=by
 have b:a.toNat<w.2.2.1.length:=by omega
 unfold b0;rw[bH b];exact bH b d
def j2 (w:aq)(a:Int):List ll:=(b0 w a).2.2.2.2.2.2.2
def abK (w:aq)(a:Int):aq:=nC (EJ w a (j2 w a)) a (Zo (b0 w a))
def aij (w:aq)(id:Int)(list:List ll):(EJ w id list).1=w.1/\(EJ w id list).2.2.1=w.2.2.1/\(EJ w id list).2.2.2.1=w.2.2.2.1:=by unfold EJ;split<;>exact⟨rfl,rfl,rfl⟩
def aU.abK {w:aq}(h:aU w){a:Int}(b:0<=a)(d:a<w.2.2.1.length):aU (abK w a):=by obtain⟨c,f⟩:=h.rep b d;have g:=h.EJ a (list:=j2 w a) c.ana;have e:=(aij w a (j2 w a)).1;exact g.nC b (by rw[e];exact c.Zo) f
def Ph (a:List np)(k:Nat):List np:=a.take k++a.drop (k+1)
def tl (w:aq)(a:Int):np:=w.2.2.2.1.getD a.toNat ahC
def ZD (w:aq)(a:List np):aq:=(w.1,w.2.1,w.2.2.1,a,w.2.2.2.2)
def abL (w:aq)(a:Int):aq:=ZD w (Ph w.2.2.2.1 a.toNat)
def aik (imp:Bool)(w:aq)(x:np):au:=(Pe imp w.1 (b0 w x.1) (CP w.1 x.2).1).1
def ail {a:List np}{k:Nat}{x:np}(h:x∈Ph a k):x∈a:=by
 rcases en.1 h with h|h
 .exact Bw h
 .exact abU h
def aim (a:List np)(k:Nat):(Ph a k).length<=a.length:=by unfold Ph;rw[aB,bQ,bT];omega
def aU.abL {w:aq}(h:aU w)(a:Int):aU (abL w a):=h.ZD (aL (aim _ _) h.nl) fun x b=>h.nb x (ail b)
def aU.arb {w:aq}(h:aU w){a:Int}(b:0<=a)(c:a<w.2.2.2.1.length):agf w.1 (tl w a):=by refine h.nb _ ?_;unfold tl;rw[bH (show a.toNat<w.2.2.2.1.length by omega)];exact dH _
def anb {c:Int×Int}{b:List Int}(h:(CP c b).2=true):iX (CP c b).1/\dS c (CP c b).1=true:=by
 have:dS c (CP c b).1=true:=by
  unfold CP MB at h ⊢;split at h
  .rename_i a;rw[aj a];exact a.2.2
  .cases h
 exact⟨adL this,this⟩
def aj0 (d:lr):Bool:=(d.1==3) || ((d.1==4) || (d.1==5))
def abM {d:lr}:aj0 d=true↔d.1=3\/d.1=4\/d.1=5:=by simp[aj0]
def anc (imp:Bool)(w:aq)(d:lr):aq×Int:=(nC w d.2.1 (ad0 imp w.1 (b0 w d.2.1) d).1,(ad0 imp w.1 (b0 w d.2.1) d).2)
def abN {w:aq}(h:aU w){a:Int}(b:fR 0 (ak ((w.2.2.2.1.length:Int)-1)) a=true):0<=a/\a<w.2.2.2.1.length:=by have c:=h.nl;rw[aD (by omega) (by omega)]at b;simp only[fR,az,bu]at b;omega
def aU.anc {w:aq}(h:aU w)(imp:Bool){d:lr}(a:0<=d.2.1)(b:d.2.1<w.2.2.1.length):aU (anc imp w d).1:=by obtain⟨c,e⟩:=h.rep a b;exact h.nC a (c.ad0 imp d) (by rw[aoI];exact e)
def Rr (w:aq)(x:aq×Int):aq×Int×aq:=if x.2=0 then (x.1,0,Be) else (Be,x.2,w)
def p7 (w x:aq):Rr w (x,0)=(x,0,Be):=aj rfl
def xV (w y:aq){k:Int}(h:k≠0):Rr w (y,k)=(Be,k,w):=ag h
def aqi (w:aq)(a:Int):aq×Int:=(nC w a (aaG w.1 (b0 w a)).1,(aaG w.1 (b0 w a)).2)
def ain {w:aq}(h:aU w){a:Int}(c:0<=a)(e:a<w.2.2.1.length):Eb F0 w a=some (Rr w (aqi w a)):=by
 obtain⟨b,l⟩:=h.rep c e;rw[X7,gS c (by omega),ab,Bf c e,ajU b,av,ab,c5 b.bt,av];unfold aqi aaG;cases g:(ask w.1 (b0 w a)).2 with
 |false=>rfl
 |true =>
  obtain⟨_,f,_,_⟩:=aqe g;obtain⟨i,j⟩:=LX f;have k:sB F0 w.1 ((b0 w a).1,(b0 w a).2.1,(b0 w a).2.1,(b0 w a).2.2.2) (1,0,(ask w.1 (b0 w a)).1,(0,ah,[]),(0,ah,[]),0,0,0,0,0)=some ((aga w.1 (b0 w a)).1,(aga w.1 (b0 w a)).2,()):=af4 b.Lu (Pd i j);dsimp only;rw[k,av,NS (am7 b) f,av,bc,aa,aj rfl];cases (aga w.1 (b0 w a)).2 with
  |false=>rw[ag (fun d=>by cases d.1)];rfl
  |true =>
   cases (ni w.1 (aga w.1 (b0 w a)).1 (ask w.1 (b0 w a)).1).2 with
   |false=>rw[ag (fun d=>by cases d.2)];rfl
   |true =>
    rw[aj ⟨rfl,rfl⟩,bc,aa,aa,ab];rfl
def ane (w:aq)(a:Int):aq×Int:=(nC w a (ajY w.1 (b0 w a)).1,(ajY w.1 (b0 w a)).2)
def agi {w:aq}(h:aU w){a:Int}(b:0<=a)(e:a<w.2.2.1.length):AX F0 w a=some (Rr w (ane w a)):=by
 obtain⟨c,o⟩:=h.rep b e;have f:=c.f.l.t;rw[Ve,gS b (by omega),ab,Bf b e,aD (by omega) (by omega)];unfold ane ajY;generalize p:b0 w a=r at c f;have key:∀(k n:Nat),k<=r.2.2.2.2.2.1.length->k<n ->
   sI F0 (mN F0) n (mM a ((k:Int)-1) w.1.1 w.1.2 w.1.1 w.1.2 0 0 r.1 r.2.1 r.2.2.1 r.2.2.2.1.1 r.2.2.2.1.2.1 r.2.2.2.1.2.2.1.1 r.2.2.2.1.2.2.1.2.1 r.2.2.2.1.2.2.1.2.2 r.2.2.2.1.2.2.2 r.2.2.2.2.1 r.2.2.2.2.2.1 r.2.2.2.2.2.2.1.1 r.2.2.2.2.2.2.1.2 r.2.2.2.2.2.2.2 w.2.1 w.2.2.1 w.2.2.2.1 w.2.2.2.2 [] [] [] [])
    = some (Rr w (nC w a (Hy w.1 r k).1,(Hy w.1 r k).2)):=by
  intro k
  induction k with
  |zero =>
   intro n g i;obtain⟨n,rfl⟩:∃m,n=m+1:=⟨n-1,by omega⟩;rw[zs,a6 (show ¬((0:Nat):Int)-1>=0 by omega),aa,OH];rfl
  |succ k j =>
   intro n g i;obtain⟨n,rfl⟩:∃m,n=m+1:=⟨n-1,by omega⟩;have d:k<r.2.2.2.2.2.1.length:=by omega
   have l:=ak1 c (r.2.2.2.2.2.1[k]).1 (c.l.tq _ (dH d)).1 true;rw[zs,show((k+1:Nat):Int)-1=(k:Int) by omega,aW (show(k:Int)>=0 by omega),ae,aE d,ab,ab,ab,cB d,Ei,gS b (by omega)];unfold Hy;rw[bH d,show((r.2.2.2.2.2.1[k]).2.1.toList==ah.toList)=dR (r.2.2.2.2.2.1[k]).2.1 from rfl];cases q:dR (r.2.2.2.2.2.1[k]).2.1 with
   |true =>
    rw[aj rfl,ae,aD (by omega) (by omega)];exact j n (by omega) (by omega)
   |false =>
    rw[ag (by decide),aa];refine Eq.trans (C2 (fun x=>Option.bind x _) l) ?_;rw[av];cases (ht w.1 r (r.2.2.2.2.2.1[k]).1 (r.2.2.2.2.2.1[k]).2.1 true).2 with
    |false=>rfl
    |true =>
     rw[aj rfl,aj rfl];dsimp only;rw[bc,aa,ab,Ei];rfl
 exact key r.2.2.2.2.2.1.length F0.n (bq _) (by rw[b1];omega)
def anf {w:aq}{a:Int}(r:au)(list:List ll):EJ (nC w a r) a list=nC (EJ w a list) a r:=by
 have e:tf (nC w a r)=tf w:=by unfold tf nC;dsimp only;rw[Th]
 unfold EJ;rw[e];split<;>rfl
def agj (w:aq)(a:Int):aq×Int:=if w.2.2.2.1.length+(j2 w a).length<=60/\w.2.2.2.2.length+(j2 w a).length<=300 then (ajW (abK w a) (j2 w a),0) else (w,4)
def agk {w:aq}(h:aU w){a:Int}(b:0<=a)(d:a<w.2.2.1.length):AW F0 w a=some (Rr w (agj w a)):=by
 obtain⟨c,k⟩:=h.rep b d;have q:(j2 w a).length<=30:=c.f.n;have f:∀p∈j2 w a,iX p.2:=c.ara;have r:=h.nl;have s:=h.sl;have l:=af2 c;have g:=h.nC b c.Zo k;have m:Cz F0 (w.1,w.2.1,w.2.2.1.set a.toNat (Zo (b0 w a)),w.2.2.2) a (j2 w a)=some (abK w a,()):=by have:=ak5 g.w g.sl a (list:=j2 w a) (by omega) f;rw[anf]at this;exact this
 have o:=h.abK b d;rw[Vc,gS b (by omega),ab,Bf b d,l,av];dsimp only;rw[show(b0 w a).2.2.2.2.2.2.2=j2 w a from rfl,aD (n:=(w.2.2.2.1.length:Int)+(j2 w a).length) (by omega) (by omega),aD (n:=(w.2.2.2.2.length:Int)+(j2 w a).length) (by omega) (by omega),ab,m,av,T6 o.nl (by omega) f,av];unfold agj;by_cases i:w.2.2.2.1.length+(j2 w a).length<=60
 .rw[a6 (show ¬(w.2.2.2.1.length:Int)+(j2 w a).length>60 by omega),aa];by_cases j:w.2.2.2.2.length+(j2 w a).length<=300
  .rw[a6 (show ¬(w.2.2.2.2.length:Int)+(j2 w a).length>300 by omega),aa,aj ⟨i,j⟩,p7];rfl
  .rw[aW (show(w.2.2.2.2.length:Int)+(j2 w a).length>300 by omega),ae,ag (fun e=>j e.2),xV _ _ (by decide)];rfl
 .rw[aW (show(w.2.2.2.1.length:Int)+(j2 w a).length>60 by omega),ae,ag (fun e=>i e.1),xV _ _ (by decide)];rfl
def ang (w:aq)(d:lr):aq×Int :=
 if fR 0 (ak ((w.2.2.2.1.length:Int)-1)) d.2.1=true then
  if d.1=5 then (if w.2.2.2.1.length<60 then (ZD w (w.2.2.2.1++[tl w d.2.1]),0) else (w,4))
  else if d.1=3/\(tl w d.2.1).1 ∉ w.2.1 then (nC (abL w d.2.1) (tl w d.2.1).1 (aik false w (tl w d.2.1)),0) else (abL w d.2.1,0)
 else (w,2)
def aoJ {imp:Bool}{c:Int×Int}{r:au}{m:cq}(h:(Pe imp c r m).2=false):(Pe imp c r m).1=r:=by
 unfold Pe at h ⊢;split
 .rename_i a;rw[aj a]at h;cases h
 .rfl
def anh {w:aq}{a:Int}(b:0<=a)(c:a<w.2.2.1.length):w.2.2.1.set a.toNat (b0 w a)=w.2.2.1:=by unfold b0;rw[bH (show a.toNat<w.2.2.1.length by omega)];exact abR _
def aoK {w:aq}{a:Int}(c:0<=a)(e:a<w.2.2.2.1.length)(d:np):bd w.2.2.2.1 a d=tl w a:=by
 have b:a.toNat<w.2.2.2.1.length:=by omega
 unfold tl;rw[bH b];exact bH b d
def aio {w:aq}(h:aU w)(d:lr):pY F0 w d=some (Rr w (ang w d)):=by
 have t:=h.nl;have u:=h.Rq;have v:=h.le7;rw[XX,ch,av];unfold ang;cases l:fR 0 (ak ((w.2.2.2.1.length:Int)-1)) d.2.1 with
 |false=>rw[ag (by decide),xV _ _ (by decide)];rfl
 |true =>
  obtain⟨i,j⟩:=abN h l;have b:=h.arb i j;obtain⟨m,x⟩:=anb b.2.1;obtain⟨t0,t1⟩:=h.am9 b.2.2;obtain⟨n,hid⟩:=h.rep t0 t1;have o:ak (d.2.1+1)=d.2.1+1:=aD (by omega) (by omega);have p:(d.2.1+1).toNat=d.2.1.toNat+1:=by omega
  have q:([]++w.2.2.2.1.take d.2.1.toNat)++(w.2.2.2.1.take (w.2.2.2.1.length:Int).toNat).drop (d.2.1+1).toNat=Ph w.2.2.2.1 d.2.1.toNat:=by rw[wc,gq,p];rfl
  have y:(w.2.2.2.1.take d.2.1.toNat).length<=60:=by rw[bQ];omega
  have z:((w.2.2.2.1.take (w.2.2.2.1.length:Int).toNat).drop (d.2.1+1).toNat).length<=60:=by rw[bT,bQ];omega
  have r:okT d.2.1 (w.2.2.2.1.length:Int)=true:=by simp[okT];omega
  rw[aj rfl,bc,aa,gS i j,ab,aoK i j,aC (a:=0) (by omega) (by omega) (by have:=b.1.1;omega),ab,aC (by omega) (by omega) (by first|omega|(simp only[aB,aR,bo];omega)|(rw[bT,bQ];omega)),ab,r,ab,o,O5 (by omega) (by omega) (by omega),ab,aC (a:=0) (by omega) (by omega) (by omega),ab,aC (by omega) (by omega) (by rw[nD];omega),ab,
   q,dP (by omega),av,abw b.1,av,gS t0 t1,ab]
  dsimp only;rw[Bf t0 t1,af7 n m,av,ab];by_cases c:d.1=5
  .rw[cS.2 c,ae,aj c];by_cases g:w.2.2.2.1.length<60
   .rw[a6 (show ¬(w.2.2.2.1.length:Int)>=60 by omega),aa,aj g,p7];rfl
   .rw[aW (show(w.2.2.2.1.length:Int)>=60 by omega),ae,ag g,xV _ _ (by decide)];rfl
  .rw[cC.2 c,aa,ag c];by_cases e:d.1=3
   .rw[cS.2 e,ae];by_cases f:(tl w d.2.1).1∈w.2.1
    .rw[aW f,bc,aa,ag (fun k=>k.2 f),p7];rfl
    .rw[a6 f,h9,ae,aj ⟨e,f⟩,p7];unfold aik;cases s:(Pe false w.1 (b0 w (tl w d.2.1).1) (CP w.1 (tl w d.2.1).2).1).2 with
     |true=>rfl
     |false =>
      rw[aoJ s];have:=anh t0 t1;show some (((w.1,w.2.1,w.2.2.1,Ph w.2.2.2.1 d.2.1.toNat,w.2.2.2.2):aq),(0:Int),_)=some ((w.1,w.2.1,w.2.2.1.set _ _,Ph w.2.2.2.1 d.2.1.toNat,w.2.2.2.2),0,Be);rw[this];rfl
   .rw[cC.2 e,aa,ag (fun k=>e k.1),p7];rfl
def ani (w:aq)(d:lr):aq×Int :=
 if fR 0 (ak (w.1.1-1)) d.2.1=true then (if adY w.1 w.2.1 w.2.2.2.2 d.2.2.2=true then (if w.2.2.2.1.length<60 then (ajW w [(d.2.1,d.2.2.2)],0) else (w,4)) else (w,5)) else (w,2)
def aip {w:aq}(h:aU w){d:lr}(a:iX d.2.2.2):D7 F0 w d=some (Rr w (ani w d)):=by
 have b:=h.nl;have e:=h.Rq;have f:=h.sl;rw[X4,ch,av,aib (by omega) (by omega) a,av,T6 b (by simp) (fun p c=>by rw[fA.1 c];exact a),av];unfold ani;cases fR 0 (ak (w.1.1-1)) d.2.1 with
 |false=>rfl
 |true =>
  cases adY w.1 w.2.1 w.2.2.2.2 d.2.2.2 with
  |false=>rfl
  |true =>
   by_cases g:w.2.2.2.1.length<60
   .rw[a6 (show ¬(w.2.2.2.1.length:Int)>=60 by omega),aj g];rfl
   .rw[aW (show(w.2.2.2.1.length:Int)>=60 by omega),ag g];rfl
def anj (w:aq)(d:lr):aq×Int:=if d.1=2 then agj w d.2.1 else anc false w d
def abO {w:aq}{x:aq×Int}:((some (Rr w x):Option (aq×Int×aq)).bind fun r=>br (r.2.1==0) (some (r.1,(0:Int),Be)) (br (r.2.1==0) none (some (Be,r.2.1,w.1,r.2.2.2))))=some (Rr w x):=by
 rw[av];unfold Rr;by_cases h:x.2=0
 .rw[aj h];rfl
 .rw[ag h];dsimp only;rw[cC.2 h,aa,aa]
def aiq {w:aq}(h:aU w){d:lr}(o:iX d.2.2.2)(a:0<=d.2.1)(c:d.2.1<w.2.2.1.length):Em F0 w d=some (Rr w (anj w d)):=by
 obtain⟨b,t⟩:=h.rep a c;have p:Ge F0 w.1 ((b0 w d.2.1).1,(b0 w d.2.1).2.1,(b0 w d.2.1).2.2.1,(b0 w d.2.1).2.2.2.1,(b0 w d.2.1).2.2.2.2.1,(b0 w d.2.1).2.2.2.2.2.1,CT (b0 w d.2.1).2.2.2.2.2.2.1 d.2.2.1,(b0 w d.2.1).2.2.2.2.2.2.2)=some (agc w.1 (b0 w d.2.1) d.2.2.1,()):=amP (b.S4 d.2.2.1).bt (b.S4 d.2.2.1).ok;have e:=fun x:aq×Int=>abO (w:=w) (x:=x)
 unfold Be at e;rw[Yf,gS a (by omega),ab,ain h a c,agk h a c,agi h a c,Bf a c,c5 b.bt,ahV b.bt.d.1,amX b,af7 b o];have q:=e (aqi w d.2.1);have r:=e (agj w d.2.1);have s:=e (ane w d.2.1);unfold anj anc ad0;by_cases f:d.1=1
 .rw[cS.2 f,ae,ag (by omega),aj f];exact q
 .rw[cC.2 f,aa,ag f];by_cases g:d.1=2
  .rw[cS.2 g,ae,aj g];exact r
  .rw[cC.2 g,aa,ag g];by_cases i:d.1=6
   .rw[cS.2 i,ae,aj i];exact s
   .rw[cC.2 i,aa,ag i];by_cases j:d.1=8
    .rw[cS.2 j,ae,ag (by omega),aj j,p7];simp only[av,p,ab];rfl
    .rw[cC.2 j,aa];by_cases l:d.1=7
     .rw[cS.2 l,ae,aj l,av];cases (NR w.1 (b0 w d.2.1)).2 with
      |false=>rw[ag (by decide),xV _ _ (k:=3) (show(3:Int)≠0 by decide)];rfl
      |true=>rw[aj rfl,p7,ab];rfl
     .rw[cC.2 l,aa,ag l,ag j,av];unfold aoH;cases (Pe false w.1 (b0 w d.2.1) d.2.2.2).2 with
      |false=>rw[ag (fun n=>by cases n.1),xV _ _ (k:=3) (show(3:Int)≠0 by decide)];rfl
      |true =>
       by_cases m:d.2.2.2.1=4
       .rw[aj ⟨rfl,m⟩,p7,bc,aa,show(d.2.2.2.1 != 4)=false by simp[m],aa,ab];rfl
       .rw[ag (fun n=>m n.2),xV _ _ (k:=3) (show(3:Int)≠0 by decide),bc,aa,show(d.2.2.2.1 != 4)=true by simp[m],ae];rfl
def air (w:aq)(d:lr):aq×Int:=if aj0 d=true then ang w d else if d.1=10 then ani w d else if d.2.1∈tf w then anj w d else (w,2)
def ais {w:aq}(h:aU w){d:lr}(g:iX d.2.2.2):En F0 w d=some (Rr w (air w d)):=by
 have hlen:=T4 w;have p:=h.le7;have b:=fun x:aq×Int=>abO (w:=w) (x:=x)
 unfold Be at b;have f:=b (ang w d);have k:=b (ani w d);have l:=b (anj w d);rw[Yh,aio h,aip h g,Y3 h.w.l];unfold air;by_cases c:aj0 d=true
 .rw[aj c];by_cases i:d.1=3
  .rw[cS.2 i,ae];exact f
  .rw[cC.2 i,aa];by_cases j:d.1=4
   .rw[cS.2 j,ae];exact f
   .have m:d.1=5:=by have:=abM.1 c;omega
    rw[cC.2 j,aa,cS.2 m,ae];exact f
 .have q:¬(d.1=3\/d.1=4\/d.1=5):=fun a=>c (abM.2 a)
  rw[ag c,cC.2 (show d.1≠3 by omega),aa,cC.2 (show d.1≠4 by omega),aa,cC.2 (show d.1≠5 by omega),aa];by_cases e:d.1=10
  .rw[cS.2 e,ae,aj e];exact k
  .rw[cC.2 e,aa,ag e,av,dP (by dsimp only;omega),av];by_cases a:d.2.1∈tf w
   .obtain⟨n,o⟩:=Hz a;rw[aW a,bc,aa,aj a,aiq h g n o];exact l
   .rw[a6 a,h9,ae,ag a,xV _ _ (by decide)];rfl
def agl (w:aq)(d:lr):aq:=if (air w d).2=0 then (air w d).1 else w
def agm {w:aq}(h:aU w){d:lr}(b:iX d.2.2.2):AZ F0 w d=some ((agl w d,()),()):=by
 rw[Vg,ais h b,av];unfold agl Rr;by_cases a:(air w d).2=0
 .rw[aj a,aj a];rfl
 .rw[ag a,ag a];dsimp only;rw[cC.2 a,aa,show((air w d).2 != 0)=true by simp[a],ae]
def aU.ar8 {w:aq}(h:aU w)(d:lr):aU (agl w d):=by
 unfold agl;split
 .rename_i f;clear f;unfold air;split
  .unfold ang;split
   .rename_i i;obtain⟨b,c⟩:=abN h i;have e:=h.arb b c;split
    .split
     .rename_i g;refine h.ZD (by rw[aB,b2];omega) fun x a=>?_
      rcases en.1 a with a|a
      .exact h.nb x a
      .rw[fA.1 a];exact e
     .exact h
    .split
     .obtain⟨t0,t1⟩:=h.am9 e.2.2;obtain⟨j,hid⟩:=h.rep t0 t1;exact(h.abL d.2.1).nC t0 (j.heard false _) (by unfold aik;rw[ajX];exact hid)
     .exact h.abL _
   .exact h
  .split
   .unfold ani;split
    .split
     .split
      .exact h.send _
      .exact h
     .exact h
    .exact h
   .split
    .rename_i k;obtain⟨b,c⟩:=Hz k;unfold anj;split
     .unfold agj;split
      .exact(h.abK b c).send _
      .exact h
     .exact h.anc false b c
    .exact h
 .exact h
def Lw (i:Int):au:=(i,1,0,ln,[],[],([],0),[])
def ait (c:Int×Int)(a:List Int):aq:=(c,a,(List.range c.1.toNat).map fun i:Nat=>Lw (i:Int),[],[])
def agn {c:Int×Int}(a:bF c=true){i:Int}(e:0<=i)(f:i<c.1):aQ c (Lw i):=by have d:=cj a;refine⟨⟨a,?_,rfl,rfl,Pg a,rfl,rfl,rfl,a1 _,fun x b=>by cases b⟩,fun x b=>by cases b⟩;show fR 0 (ak (c.1-1)) i=true;rw[SO d.1 d.2.1];simp only[fR,az,bu];omega
def ank {c:Int×Int}(a:bF c=true){b:List Int}(e:nn c.1 b=true)(f:(b.length:Int)<=Lc c):aU (ait c b):=by
 have n:=cj a;refine⟨a,e,f,?_,fun r g=>?_,fun k h=>?_,a1 _,(fun x d=>by cases d),a1 _,(fun x d=>by cases d)⟩
 .show(((List.range c.1.toNat).map fun i:Nat=>Lw (i:Int)).length:Int)=c.1;rw[fB,aaL];omega
 .obtain⟨i,j,rfl⟩:=Bx.1 g;have:=gd.1 j;exact agn a (by omega) (by omega)
 .have l:k<((List.range c.1.toNat).map fun i:Nat=>Lw (i:Int)).length:=h;have m:(((List.range c.1.toNat).map fun i:Nat=>Lw (i:Int))[k]'l).1=(k:Int):=by rw[List.getElem_map,List.getElem_range];rfl
  exact m
def aiu {c:Int×Int}(b:bF c=true){i:Int}(d:0<=i)(e:i<c.1):Dy F0 c i=some (Lw i,true,()):=by
 have a:=agn b d e;have f:cQ F0 c (i,1,0,(0,0,(0,ah,[]),ah),[],[],([],0),[])=some (true,()):=by have:=eU a.l c;rw[a.ok]at this;exact this
 rw[Xu,f];rfl
def Rs {c:Int×Int}{b:List Int}(h:aU (ait c b)):nN F0 c b=some (ait c b,true,()):=by
 have d:=cj h.c;have e:bF c=true:=h.c;have g:b.length<=7:=h.Rq;have j:(c.1.toNat:Int)=c.1:=aea (by have:4<=c.1:=d.1;omega);have l:c.1.toNat<=7:=by have:c.1<=7:=d.2.1;omega
 rw[R4,aC (a:=0) (by omega) (by omega) (by omega),ab];refine amL (fun n k xs=>oF F0 (rV F0) n (kT k c.1 c.2 0 0 c.1 c.2 [] [] [] [] ([]++b) xs [] [])) (List.range c.1.toNat) (fun i:Nat=>Lw (i:Int)) _ (fun n k xs f m=>?_) (fun n=>?_) _ (by rw[b1,aaL];omega)
 .have o:k<c.1.toNat:=by rw[aaL]at f;exact f
  rw[wD,aW (show(k:Int)<c.1 by omega),ae,show((c.1,c.2):Int×Int)=c from rfl,e7,av,e,ae,aiu e (by omega) (by omega),av,aC (by omega) (by omega) (by first|omega|(simp only[aB,aR,bo];omega)|(rw[bT,bQ];omega)),ab,an (by omega),List.getElem_range]
 .have cR:rU F0 ((c.1,c.2),[]++b,((List.range c.1.toNat).map fun i:Nat=>Lw (i:Int),([],[])))=some (true,()):=by have:=afp h.w.l;rw[h.ok]at this;exact this
  rw[wD,aaL,a6 (show ¬(c.1.toNat:Int)<c.1 by omega),aa,Mg,cR];rfl
def New (w:aq):Prop:=∃c a,w=ait c a/\aU (ait c a)
def New.g {w:aq}(h:New w):aU w:=by obtain⟨c,l,rfl,a⟩:=h;exact a
def asa (n:Int):nn n []=true:=rfl
def asb {n x:Int}(a:0<=x)(b:x<n):nn n [x]=true:=by simp[nn,a,b]
def aiv {c:Int×Int}(h:bF c=true):1<=Lc c:=by have a:=cj h;unfold Lc;rw[aj h];exact(amr a.1 a.2.1).1
def anl {c:cz}(h:fz c):Dr (U:=aq) (kU F0 c) New:=by
 unfold Dr;rw[J3];refine Dr.bind (bO h (l:=[4,4,4,5,7]) (by decide) (by decide)) fun x g i=>Dr.bind (ax i (n:=3) (by omega) (by omega)) fun y d j=>Dr.bind (tg j (n:=3) (by omega) (by omega)) fun z o e=>?_
 have p:x.1.1=4\/x.1.1=5\/x.1.1=7:=by simp only[c7,Te,Ja]at g;omega
 have q:=d.1;have r:=d.2;have b:bF (x.1.1,ak (1+y.1.1))=true:=by rw[aD (by omega) (by omega)];simp only[bF,fR,az,bu];omega
 have k:=aiv b;refine Gd.br (fun _=>?_) fun _=>?_
 .refine Dr.bind (ax e (n:=x.1.1) (by omega) (by omega)) fun v f m=>?_
  have a:aU (ait (x.1.1,ak (1+y.1.1)) [v.1.1]):=ank b (asb f.1 f.2) (by simpa using k);exact Gd.let (Rs a) (Gd.ret ⟨⟨_,_,rfl,a⟩,m⟩)
 .have a:aU (ait (x.1.1,ak (1+y.1.1)) []):=ank b (asa _) (by simp;omega);exact Gd.let (Rs a) (Gd.ret ⟨⟨_,_,rfl,a⟩,e⟩)
def aiw {a b:Int}{V:Type}{f:Int×Unit->Option V}{P:V->Prop}(h:Gd (f (Bb a b,())) P):Gd ((bh F0 a b).bind f) P:=Gd.let (LW a b) h
def aix {a b:Int}{V:Type}{f:Int×Unit->Option V}{P:V->Prop}(h:Gd (f (nW a b,())) P):Gd ((cO F0 a b).bind f) P:=Gd.let (uZ a b) h
def S6 {up:ByteArray}(d:up.size<=6000){view:Int}(a:pg view){l:List dW}(e:l.length<=10){V:Type}{f:ByteArray×Unit->Option V}{P:V->Prop}(h:∀b:ByteArray,b.size<=7000->Gd (f (b,())) P):Gd ((dX F0 up view l).bind f) P:=by have c:=Ho (up:=up.data.toList) (by show up.size<=_;omega) a (l:=l) (by omega);have g:=LR (up:=up.data.toList) a l;refine Gd.let c (h _ ?_);rw[ao];have:up.data.toList.length=up.size:=rfl;omega
def Pj {w:aq}(h:aU w)(view:Int)(name:ByteArray)(d:name.size<=1048576){c:cz}(e:fz c) :
  Gd (ca F0 (df F0) F0.n (bP view name 0 c.1 c.2.1 c.2.2 w.1.1 w.1.2 w.2.1 w.2.2.1 w.2.2.2.1 w.2.2.2.2 0 0 ah 0 ah 0 ah 0 ah 0 0 0 0 0 ([]++w.2.1) [] [] [])) fun z:DrT cq=>(∃q:ct,z.1.1=Bd q/\Bs q)/\fz z.2.1:=by
 have g:=h.sl;have j:=h.Rq;refine eV (fun n i (z:List Int)=>ca F0 (df F0) n (bP view name i c.1 c.2.1 c.2.2 w.1.1 w.1.2 w.2.1 w.2.2.1 w.2.2.2.1 w.2.2.2.2 0 0 ah 0 ah 0 ah 0 ah 0 0 0 0 0 z [] [] [])) w.2.2.2.2.length (fun k z=>z.length<=7+k) _ (fun n k z b f a=>?_) (fun n z f=>?_) F0.n 0 ([]++w.2.1) (a1 _) (by show w.2.1.length<=_;omega) (by rw[b1];omega)
 .rw[nO,bp b,ae,aE b,ab,ab,ab,an (by omega)];refine Gd.br (fun _=>Gd.br (fun _=>Gd.let (CL (by omega) _) ?_) fun _=>?_) fun _=>?_
  .exact a _ (by have:=La z (bd w.2.2.2.2 (k:Int) YY).2.2;exact aL (La _ _) (by omega))
  .exact a _ (by omega)
  .exact a _ (by omega)
 .rw[nO,aO,aa,FK];exact Gd.ret ⟨⟨(view,name,z),rfl,d,by show z.length<=_;omega⟩,e⟩
def anm {c:cz}(k:fz c){w:aq}(h:aU w):Dr (U:=cq) (kY F0 c w) fun m=>∃q:ct,m=Bd q/\Bs q:=by
 have t:=h.sl;have u:=h.Rq;unfold Dr;rw[J7];refine Dr.bind (ax k (n:=4) (by omega) (by omega)) fun x e f=>?_
 have v:=e.1;have A:=e.2;refine S6 (a1 _) (by rw[aD (by omega) (by omega)];exact⟨by omega,by omega⟩) (a1 _) fun b l=>?_
 refine Gd.ck (aC (a:=0) (by omega) (by omega) (by omega)) (Gd.br (fun hlen=>?_) fun _=>Pj h _ _ (by show b.size<=_;omega) f);have B:0<w.2.2.2.2.length:=by have:=wb hlen;omega
 refine aiw ?_;have m0:0<Bb (w.2.2.2.2.length:Int) 8:=by unfold Bb;split<;>omega
 have m1:Bb (w.2.2.2.2.length:Int) 8<=w.2.2.2.2.length:=by unfold Bb;split<;>omega
 refine Dr.bind (ax f (n:=Bb (w.2.2.2.2.length:Int) 8) m0 (by omega)) fun y g o=>?_
 have C:=g.1;have D:=g.2;have p:ak (ak ((w.2.2.2.2.length:Int)-1)-y.1.1)=((w.2.2.2.2.length-1-y.1.1.toNat:Nat):Int):=by rw[aD (n:=(w.2.2.2.2.length:Int)-1) (by omega) (by omega),aD (by omega) (by omega)];omega
 have d:w.2.2.2.2.length-1-y.1.1.toNat<w.2.2.2.2.length:=by omega
 have i:=h.sb _ (dH d);have r:=gp i.2.1;have E:=na (w.2.2.2.2[w.2.2.2.2.length-1-y.1.1.toNat]).2.1.data.toList;have s:=i.2.2;rw[p];refine Gd.ck (aE d) (Dr.bind (tg o (n:=3) (by omega) (by omega)) fun z F j=>?_);rw[cB d];refine Gd.br (fun _=>Gd.let (Q3 (aL r (by omega))) ?_) fun _=>Pj h _ _ (by omega) j
 refine S6 (up:=upB (w.2.2.2.2[w.2.2.2.2.length-1-y.1.1.toNat]).2.1) (aL (Lo _) (by omega)) (by rw[<-s];exact⟨by omega,by omega⟩) (by simp) fun b l=>Pj h _ _ (by show b.size<=_;omega) j
def Pk {c:Int×Int}{q:ct}{view:Int}{l:List dW}:(eI c q view l).1.1.size<=1048576/\Bs (eI c q view l).1.2:=by
 unfold eI;split
 .rename_i a;exact LX a.1
 .exact⟨a1 _,dr⟩
def ann {w:aq}(h:aU w){q:ct}(b:fg w.1 q=true)(c9:Int){view:Int}(d:0<=view)(e:view<=61){c:cz}(f:fz c) :
  Gd (bj F0 (aZ F0) F0.n (aY c9 view 0 c.1 c.2.1 c.2.2 w.1.1 w.1.2 w.2.1 w.2.2.1 w.2.2.2.1 w.2.2.2.2 0 0 ah 0 ah 0 ah 0 ah 0 0 0 0 0 q.1 q.2.1 [] [] [] q.2.2)) fun z:DrT cq=>iX z.1.1/\fz z.2.1:=by
 have out:∀v:Int,0<=v->v<=61->Gd (aZ F0 (.exit 1) (eH v c.1 c.2.1 c.2.2 w.1.1 w.1.2 w.2.1 w.2.2.1 w.2.2.2.1 w.2.2.2.2 0 0 ah 0 ah 0 ah 0 ah 0 0 0 0 0 q.1 q.2.1 [] [] [] q.2.2)) fun z:DrT cq=>iX z.1.1/\fz z.2.1:=fun v o p=>by
  rw[IU];refine Dr.bind (p5 f) fun x r g=>?_
  have i:=Rm (c:=w.1) b (view:=v) ⟨by omega,by omega⟩ (l:=[x.1.1]) (by simp);exact Gd.let i (Gd.ret ⟨Pd Pk.1 Pk.2,g⟩)
 refine eV (fun n k (v:Int)=>bj F0 (aZ F0) n (aY c9 v k c.1 c.2.1 c.2.2 w.1.1 w.1.2 w.2.1 w.2.2.1 w.2.2.2.1 w.2.2.2.2 0 0 ah 0 ah 0 ah 0 ah 0 0 0 0 0 q.1 q.2.1 [] [] [] q.2.2)) 7 (fun k v=>0<=v/\v<=61) _ (fun n k v s a j=>?_) (fun n v a=>?_) F0.n 0 view (a1 _) ⟨d,e⟩ (by rw[b1];omega)
 .have i0:=a.1;have i1:=a.2;rw[rZ,aW (show(k:Int)<7 by omega),ae];refine Gd.br (fun m=>Gd.let (CM _ _) (Gd.br (fun _=>?_) fun _=>out v i0 i1)) fun _=>out v i0 i1
  have t:=wb m;rw[aD (n:=v+1) (by omega) (by omega),an (by omega)];exact j (v+1) ⟨by omega,by omega⟩
 .rw[rZ,a6 (show ¬((7:Nat):Int)<7 by omega),aa];exact out v a.1 a.2
def ago {w:aq}(h:aU w){q:ct}(b:fg w.1 q=true)(c9:Int){m:cq}(g:iX m){c:cz}(i:fz c) :
  Gd ((af F0 c 4).bind fun a=>br (a.1.1==0) (some ((m,()),a.2.1,())) (br (a.1.1==1) ((af F0 a.2.1 2).bind fun f=>(bh F0 (ak ((ak (q.1+1))+f.1.1)) 60).bind fun j=>some (((3,j.1,(ah,0,ah,[]),(0,ah,[]),q,c9,0,0,0,0),()),f.2.1,())) (bj F0 (aZ F0) F0.n (aY c9 (ak (q.1+1)) 0 a.2.1.1 a.2.1.2.1 a.2.1.2.2 w.1.1 w.1.2 w.2.1 w.2.2.1 w.2.2.2.1 w.2.2.2.2 0 0 ah 0 ah 0 ah 0 ah 0 0 0 0 0 q.1 q.2.1 [] [] [] q.2.2)))) fun z:DrT cq=>iX z.1.1/\fz z.2.1:=by
 obtain⟨_,_,l,_⟩:=Hp b;have o:=na q.2.1.data.toList;have e:ak (q.1+1)=q.1+1:=aD (by omega) (by omega);refine Dr.bind (ax i (n:=4) (by omega) (by omega)) fun x p d=>Gd.br (fun _=>Gd.ret ⟨g,d⟩) fun _=>Gd.br (fun _=>?_) fun _=>?_
 .exact Dr.bind (ax d (n:=2) (by omega) (by omega)) fun y r k=>aiw (Gd.ret ⟨LY (Pb b) c9,k⟩)
 .rw[e];exact ann h b c9 (by omega) (by omega) d
def agp {c:Int×Int}(a:bF c=true):fg c cI=true:=by unfold fg adq;simp only[a];rfl
def agq:AJ F0=some (cI,()):=by rw[UH];rfl
def aqj {c:cz}(v:fz c){w:aq}(h:aU w):Dr (U:=cq) (e2 F0 c w) iX:=by
 have D:=h.le7;have E:=h.Rq;unfold Dr;rw[Ov];refine Dr.bind (anm v h) fun x A f=>?_
 obtain⟨q,e,o⟩:=A;obtain⟨⟨m,u⟩,⟨F,G⟩⟩:=x;dsimp only at e f ⊢;subst e;have p:=LZ o;have c9:∀(Q:ct),fg w.1 Q=true->∀g:cz,fz g->Gd (br (decide ((w.2.1.length:Int)>0)) ((af F0 g (w.2.1.length:Int)).bind fun i=>ck (b5 i.1.1 (w.2.1.length:Int)) ((af F0 i.2.1 4).bind fun a=>br (a.1.1==0) (some ((Bd q,()),a.2.1,())) (br (a.1.1==1) ((af F0 a.2.1 2).bind fun d=>(bh F0 (ak ((ak (Q.1+1))+d.1.1)) 60).bind fun k=>some (((3,k.1,(ah,0,ah,[]),(0,ah,[]),Q,bd w.2.1 i.1.1 0,0,0,0,0),()),d.2.1,())) (bj F0 (aZ F0) F0.n (aY (bd w.2.1 i.1.1 0) (ak (Q.1+1)) 0 a.2.1.1 a.2.1.2.1 a.2.1.2.2 w.1.1 w.1.2 w.2.1 w.2.2.1 w.2.2.2.1 w.2.2.2.2 0 0 ah 0 ah 0 ah 0 ah 0 0 0 0 0 Q.1 Q.2.1 [] [] [] Q.2.2))))) ((af F0 g 4).bind fun a=>br (a.1.1==0) (some ((Bd q,()),a.2.1,())) (br (a.1.1==1) ((af F0 a.2.1 2).bind fun d=>(bh F0 (ak ((ak (Q.1+1))+d.1.1)) 60).bind fun k=>some (((3,k.1,(ah,0,ah,[]),(0,ah,[]),Q,0,0,0,0,0),()),d.2.1,())) (bj F0 (aZ F0) F0.n (aY 0 (ak (Q.1+1)) 0 a.2.1.1 a.2.1.2.1 a.2.1.2.2 w.1.1 w.1.2 w.2.1 w.2.2.1 w.2.2.2.1 w.2.2.2.2 0 0 ah 0 ah 0 ah 0 ah 0 0 0 0 0 Q.1 Q.2.1 [] [] [] Q.2.2))))) fun z:DrT cq=>iX z.1.1/\fz z.2.1:=fun Q r g s=>by
  refine Gd.br (fun B=>?_) fun _=>ago h r 0 p s
  have:=wb B;refine Dr.bind (ax s (n:=(w.2.1.length:Int)) (by omega) (by omega)) fun y l j=>Gd.ck (gS l.1 l.2) (ago h r _ p j)
 refine Gd.let (Hg (q:=q) o w.1) (Gd.br (fun _=>Gd.let agq (Gd.br (fun _=>?_) fun _=>c9 cI (agp h.c) _ f)) fun cR=>c9 q (by simpa using cR) _ f);refine Dr.bind (tg f (n:=2) (by omega) (by omega)) fun y l j=>Gd.br (fun _=>?_) fun _=>c9 cI (agp h.c) _ j
 refine Dr.bind (ax j (n:=(w.2.2.1.length:Int)) (by omega) (by omega)) fun z b C=>Gd.ck (gS b.1 b.2) ?_
 have t:=(h.rep b.1 b.2).1;rw[Bf b.1 b.2];exact Gd.let (l0 t.l.s.1.2) (c9 _ (ez t.f.s).2.2.1 _ C)
def arc:cq:=(0,0,(ah,cI),cI,cI,0,w7)
def Bg:iX arc:=⟨a1 _,dr,dr,dr⟩
def agr (d:lr):Prop:=iX d.2.2.2/\fR 1 10 d.1=true
def S7 {w:aq}(h:aU w)(a:Int){c:cz}(b:fz c) :
  Gd (br ((w.2.2.2.1.length:Int)==0) (some (((2,a,0,0,0,(ah,0,ah,[]),(0,ah,[]),(0,ah,[]),0,0,0,0,0),()),c,())) ((bh F0 (w.2.2.2.1.length:Int) 4).bind fun e=>(af F0 c e.1).bind fun d=>some (((3,d.1.1,0,0,0,(ah,0,ah,[]),(0,ah,[]),(0,ah,[]),0,0,0,0,0),()),d.2.1,()))) fun z:DrT lr=>agr z.1.1/\fz z.2.1:=by
 refine Gd.br (fun _=>Gd.ret ⟨⟨Bg,by simp[fR]⟩,b⟩) fun f=>aiw ?_
 have i:(w.2.2.2.1.length:Int)≠0:=by simpa using f
 have m0:0<Bb (w.2.2.2.1.length:Int) 4:=by unfold Bb;split<;>omega
 have m1:Bb (w.2.2.2.1.length:Int) 4<=4:=by unfold Bb;split<;>omega
 exact Dr.bind (ax b (n:=Bb (w.2.2.2.1.length:Int) 4) m0 (by omega)) fun y j g=>Gd.ret ⟨⟨Bg,by simp[fR]⟩,g⟩
def ano {a:Int}{n k:Nat}(b:0<=a)(c:a<n)(d:k<n)(e:n<=7):0<=Int.tmod (ak (a+(k:Int))) (n:Int)/\Int.tmod (ak (a+(k:Int))) (n:Int)<n:=by rw[aD (by omega) (by omega),ad6 (by omega)];exact⟨V2 _ (by omega),V0 _ (by omega)⟩
def nz0 {n:Nat}(h:0<n):(!((n:Int)==0))=true:=by simp;omega
def ZE {w:aq}(h:aU w){a:Int}(i:0<=a)(j:a<w.2.2.1.length){c:cz}(d:fz c) :
  Gd (c2 F0 (c3 F0) F0.n (cx (w.2.2.1.length:Int) a 0 c.1 c.2.1 c.2.2 w.1.1 w.1.2 w.2.1 w.2.2.1 w.2.2.2.1 w.2.2.2.2 0 0 0 0 0 ah 0 ah 0 ah 0 ah 0 0 0 0 0 [] [] [])) fun z:DrT lr=>agr z.1.1/\fz z.2.1:=by
 have l:=h.le7;have p:=h.Rq;refine eV (fun n k (z:Unit)=>c2 F0 (c3 F0) n (cx (w.2.2.1.length:Int) a k c.1 c.2.1 c.2.2 w.1.1 w.1.2 w.2.1 w.2.2.1 w.2.2.2.1 w.2.2.2.2 0 0 0 0 0 ah 0 ah 0 ah 0 ah 0 0 0 0 0 [] [] [])) w.2.2.1.length (fun _ _=>True) _ (fun n k z e m f=>?_) (fun n z m=>?_) F0.n 0 () (a1 _) trivial (by rw[b1];omega)
 .obtain⟨b,g⟩:=ano i j e l.2;have o:=(h.rep b g).1;rw[pX,bp e,ae,nz0 (by omega),ab,gS b (by omega),ab,Bf b g,ab,ab,IW,an (by omega)];refine Gd.let (ajU o) (Gd.br (fun _=>?_) fun _=>f () trivial);refine Gd.let (dP (by omega) _) (Gd.br (fun _=>?_) fun _=>f () trivial);exact Gd.ret ⟨⟨Bg,by simp[fR]⟩,d⟩
 .rw[pX,aO,aa,G4];exact Gd.ret ⟨⟨Bg,by simp[fR]⟩,d⟩
def L4 {w:aq}(h:aU w){a:Int}(e:0<=a)(f:a<w.2.2.1.length){c:cz}(b:fz c) :
  Gd (c1 F0 (cw F0) F0.n (cv (w.2.2.1.length:Int) a 0 c.1 c.2.1 c.2.2 w.1.1 w.1.2 w.2.1 w.2.2.1 w.2.2.2.1 w.2.2.2.2 0 0 0 0 0 ah 0 ah 0 ah 0 ah 0 0 0 0 0 [] [] [])) fun z:DrT lr=>agr z.1.1/\fz z.2.1:=by
 have g:=h.le7;refine eV (fun n k (z:Unit)=>c1 F0 (cw F0) n (cv (w.2.2.1.length:Int) a k c.1 c.2.1 c.2.2 w.1.1 w.1.2 w.2.1 w.2.2.1 w.2.2.2.1 w.2.2.2.2 0 0 0 0 0 ah 0 ah 0 ah 0 ah 0 0 0 0 0 [] [] [])) w.2.2.1.length (fun _ _=>True) _ (fun n k z d i j=>?_) (fun n z i=>?_) F0.n 0 () (a1 _) trivial (by rw[b1];omega)
 .obtain⟨l,m⟩:=ano e f d g.2;rw[pW,bp d,ae,nz0 (by omega),ab,gS l (by omega),ab,ab,IV,an (by omega)];refine Gd.br (fun _=>?_) fun _=>j () trivial
  exact Gd.ret ⟨⟨Bg,by simp[fR]⟩,b⟩
 .rw[pW,aO,aa,G3];exact S7 h a b
def ZF {w:aq}(h:aU w)(a:Int){c:cz}(b:fz c) :
  Gd (br (decide ((w.2.1.length:Int)>0)) ((e2 F0 c w).bind fun d=>some (((10,a,0,d.1.1),()),d.2.1,())) (br ((w.2.2.2.1.length:Int)==0) (some (((2,a,0,0,0,(ah,0,ah,[]),(0,ah,[]),(0,ah,[]),0,0,0,0,0),()),c,())) ((bh F0 (w.2.2.2.1.length:Int) 4).bind fun f=>(af F0 c f.1).bind fun e=>some (((3,e.1.1,0,0,0,(ah,0,ah,[]),(0,ah,[]),(0,ah,[]),0,0,0,0,0),()),e.2.1,())))) fun z:DrT lr=>agr z.1.1/\fz z.2.1 :=
 Gd.br (fun _=>Dr.bind (aqj b h) fun x g i=>Gd.ret ⟨⟨g,by simp[fR]⟩,i⟩) fun _=>S7 h a b
def aoL {c:cz}(i:fz c){w:aq}(h:aU w):Dr (U:=lr) (mu F0 c w) agr:=by
 have p:=h.le7;have q:=h.nl;unfold Dr;rw[Mi];refine aix ?_;have m:nW (w.2.2.1.length:Int) 1=w.2.2.1.length:=by unfold nW;rw[ag (by omega)]
 dsimp only;rw[m];refine Dr.bind (ax i (n:=(w.2.2.1.length:Int)) (by omega) (by omega)) fun x j k=>?_
 obtain⟨b,d⟩:=j;refine Dr.bind (ax k (n:=20) (by omega) (by omega)) fun y r a=>?_
 refine Gd.br (fun _=>ZE h b d a) fun _=>Gd.br (fun _=>ZE h b d a) fun _=>Gd.br (fun _=>ZE h b d a) fun _=>Gd.br (fun _=>L4 h b d a) fun _=>Gd.br (fun _=>L4 h b d a) fun _=>Gd.br (fun _=>L4 h b d a) fun _=>Gd.br (fun _=>L4 h b d a) fun _=>Gd.br (fun _=>Gd.ret ⟨⟨Bg,by simp[fR]⟩,a⟩) fun _=>Gd.br (fun _=>Gd.ret ⟨⟨Bg,by simp[fR]⟩,a⟩) fun _=>Gd.br (fun _=>?_) fun _=>Gd.br (fun _=>?_) fun _=>Gd.br (fun _=>ZF h _ a) fun _=>Gd.br (fun _=>ZF h _ a) fun _=>Gd.br (fun _=>ZF h _ a) fun _=>S7 h _ a
 .refine Dr.bind (tg a (n:=2) (by omega) (by omega)) fun z s g=>Gd.br (fun _=>?_) fun _=>?_
  .exact Dr.bind (bO g (l:=[0,0,5,40,9999]) (by decide) (by decide)) fun v f e=>Gd.ret ⟨⟨Bg,by simp[fR]⟩,e⟩
  .refine Dr.bind (ax g (n:=2) (by omega) (by omega)) fun v f e=>aix ?_
   have m0:0<nW (w.2.2.2.1.length:Int) 1:=by unfold nW;split<;>omega
   have m1:nW (w.2.2.2.1.length:Int) 1<=60:=by unfold nW;split<;>omega
   exact Dr.bind (ax e (n:=nW (w.2.2.2.1.length:Int) 1) m0 (by omega)) fun u t o=>Gd.ret ⟨⟨Bg,by have A:=f.1;have B:=f.2;simp only[fR];rw[aD (by omega) (by omega)];simp;omega⟩,o⟩
 .exact Dr.bind (p5 a) fun v f e=>Gd.ret ⟨⟨⟨a1 _,dr,dr,dr⟩,by simp[fR]⟩,e⟩
structure ZK (q:ct):Prop where
 v:pg q.1
 s:q.2.1.size<=100000
 w:q.2.2.length<=100
 i:∀x∈q.2.2,pg x
def ZK.l {q:ct}(h:ZK q):Bs q:=⟨aL h.s (by omega),aL h.w (by omega)⟩
def ZK.ints {q:ct}(h:ZK q):C0 q.2.2:=⟨aL h.w (by omega),h.i⟩
structure Lx (s:bC):Prop where
 v:pg s.1
 k:pg s.2.1
 q:ZK s.2.2.1
 d:s.2.2.2.size<=100000
def Lx.l {s:bC}(h:Lx s):td s:=⟨h.q.l,aL h.d (by omega)⟩
def ags (r:au):Prop:=amM r/\YZ r
def anp {lo a x:Int}(h:fR lo a x=true):lo<=x/\x<=a:=by simpa [fR,az,bu]using h
def anq {n:Int}{s:List Int}(h:nn n s=true):∀x∈s,0<=x/\x<n:=by intro x b;obtain⟨k,a,rfl⟩:=aeb b;simp only[nn,az,gb,gd,bu]at h;have:=h k a;rw[bH a]at this;exact⟨this.1,this.2.1⟩
def aqk {c:Int×Int}{q:ct}(h:fg c q=true):ZK q:=by
 obtain⟨f,g,i,d,e⟩:=Hp h;have j:=na q.2.1.data.toList;have k:=gp g;have l:=cj f;refine⟨⟨by omega,by omega⟩,by omega,?_,?_⟩
 .by_cases a:q.2.1.data.toList=[]
  .rw[d a];exact a1 _
  .have:=LU (e a).1;omega
 .intro x b;by_cases a:q.2.1.data.toList=[]
  .rw[d a]at b;cases b
  .have:=anq (e a).1 x b;exact⟨by omega,by omega⟩
def agt {c:Int×Int}{s:bC}(h:cl c s=true):Lx s:=by obtain⟨d,e,a,b⟩:=ez h;have:=gp b;exact⟨⟨by omega,by omega⟩,⟨by omega,by omega⟩,aqk a,by omega⟩
def aQ.x {c:Int×Int}{r:au}(h:aQ c r):ags r:=by have e:=cj h.f.cf;have b:=anp h.f.i;have f:=anp h.f.v;rw[aD (by omega) (by omega)]at b;have a:=agt h.f.s;have g:=Pc h.f.p;have d:=v8 h.f.t;have i:=h.f.n;exact⟨h.bt,⟨by omega,by omega⟩,⟨by omega,by omega⟩,a.v,a.k,a.q.v,aL a.d (by omega),by omega,aL d.1 (by omega),by omega⟩
structure S8 (w:aq):Prop where
 l:w.2.1.length<=100
 r:w.2.2.1.length<=100
 rx:∀x∈w.2.2.1,ags x
 n:w.2.2.2.1.length<=1000
 nb:∀x∈w.2.2.2.1,ep x.2
 s:w.2.2.2.2.length<=1000
 st:∀x∈w.2.2.2.2,x.2.1.size<=100000
def S8.wl {w:aq}(h:S8 w):OY w:=⟨aL h.l (by omega),aL h.r (by omega),fun x a=>(h.rx x a).1.l,aL h.n (by omega),h.nb,aL h.s (by omega),fun x a=>aL (h.st x a) (by omega)⟩
def aU.x {w:aq}(h:aU w):S8 w:=by have b:=h.le7;have c:=h.Rq;exact⟨by omega,by omega,fun x a=>(h.g x a).x,aL h.nl (by omega),fun x a=>(h.nb x a).1,aL h.sl (by omega),fun x a=>aL (gp (h.sb x a).2.1) (by omega)⟩
end Go.Am.Tryz
