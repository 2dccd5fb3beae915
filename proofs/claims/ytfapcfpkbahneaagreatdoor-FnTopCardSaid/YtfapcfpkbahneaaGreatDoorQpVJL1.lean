/- No condition. -/
import Derived.Test.YtfapcfpkbahneaaGreatDoorQpVJG7
import Derived.Lib.MinMaxS
import Derived.Lib.CutLaws
import Derived.Lib.PathFns
import Derived.Lib.SplitLaws
import Derived.Test.YtfapcfpkbahneaaGreatDoorQpAmData
set_option linter.all false
namespace Go.Am.Tryz
open Go.Am
def I64 (n:Int):Prop:=-9223372036854775808<=n/\n<=9223372036854775807
def Cw {n:Int}(h:I64 n):lj F0 n=some (tx (Lib.itoa n),()):=by
 rw[anL];by_cases hz:n=0
 .subst hz;simp only[Zc,af]
  congr 2
  simp[tx,Lib.itoa,Lib.decDigits]
 .rw[show(n==0)=false from ct.2 hz,aa];have hD:(Lib.decDigits n.natAbs).length<=20:=by rw[Lib.decDigits_length];exact Lib.nDigits_le20 _ (by obtain⟨h1,h2⟩:=h;omega)
  refine aDH (fun m (x:Int×List UInt8)=>uG F0 (FF F0) m (ph x.1 (decide (n<0)) (tx x.2))) _ (fun x=>I64 x.1/\aFq x.1.natAbs++x.2=Lib.decDigits n.natAbs) (fun x=>x.1.natAbs) (fun m x hx=>?_) _ (n,[]) ⟨h,?_⟩ ?_
  .obtain⟨x,l⟩:=x;obtain⟨⟨h1,h2⟩,h3⟩:=hx;simp only at h1 h2 h3 ⊢;have hl:l.length<=20:=by have:=qd List.length h3;rw[aL]at this;omega
   by_cases hx0:x=0
   .left;subst hx0;rw[JL];simp only[amI,aa,adp];rw[show aFq (Int.natAbs 0)=[] from rfl,Bk]at h3;subst h3;by_cases hn:n<0
    .rw[aN hn,af,jf (by rw[bT];have:(ByteArray.mk #[45]).size=1:=rfl;omega),ae,show ByteArray.mk #[45]=tx [45] from rfl,gP];unfold Lib.itoa;rw[ai hn];rfl
    .rw[aR hn,aa];unfold Lib.itoa;rw[ah hn,show n.natAbs=n.toNat by omega]
   .right;have aJQ:x.natAbs%10<10:=aa0 _ (by omega);have aOJ:(Int.tdiv x 10).natAbs=x.natAbs/10:=by rw[Int.natAbs_tdiv];rfl
    have hI:I64 (Int.tdiv x 10):=⟨by omega,by omega⟩;have hr:=aHM (u:=x.natAbs) (by omega);have hw:ak (Int.tdiv x 10)=Int.tdiv x 10:=aJ hI.1 hI.2;refine⟨(Int.tdiv x 10,UInt8.ofNat (48+x.natAbs%10)::l),?_,⟨hI,?_⟩,?_⟩
    .rw[JL,show(x != 0)=true from Ew.2 hx0,af];have key:tx [UInt8.ofNat (48+x.natAbs%10)]++tx l=tx (UInt8.ofNat (48+x.natAbs%10)::l):=by rw[gP];rfl
     have hsz:okC F0 (tx [UInt8.ofNat (48+x.natAbs%10)]).size (tx l).size=true:=jf (by rw[bT,bT];simp only[aZ,bE];omega);by_cases aTO:x<0
     .have hm:Int.tmod x 10=-((x.natAbs%10:Nat):Int):=by obtain⟨u,rfl⟩:∃u:Nat,x=-(u:Int):=⟨x.natAbs,by omega⟩;rw[Int.neg_tmod,Int.natAbs_neg,Int.natAbs_natCast];rfl
      by_cases hz:x.natAbs%10=0
      .rw[hm,hz,show decide (-((0:Nat):Int)<0)=false from rfl,aa,show(48+-((0:Nat):Int))=48+((0:Nat):Int) from rfl,dig (by omega)];rw[hz]at hsz key;rw[hsz,ae,key,hw]
      .rw[hm,aN (by omega),af,aJ (n:=0 - -((x.natAbs%10:Nat):Int)) (by omega) (by omega),show(0:Int) - -((x.natAbs%10:Nat):Int)=((x.natAbs%10:Nat):Int) by omega,dig aJQ,hsz,ae,key,hw]
     .have hm:Int.tmod x 10=((x.natAbs%10:Nat):Int):=by obtain⟨u,rfl⟩:∃u:Nat,x=(u:Int):=⟨x.natAbs,by omega⟩;rfl
      rw[hm,aR (by omega),aa,dig aJQ,hsz,ae,key,hw]
    .simp only;rw[aOJ,<-h3,hr];simp
    .simp only;rw[aOJ];omega
  .simp only[iz];unfold aFq;rw[ah (by omega)]
  .simp only;rw[cl];obtain⟨h1,h2⟩:=h;omega
def QM {n:Int}(h:I64 n):lD F0 n=some (tx (Lib.itoa n),()):=by rw[ao5];unfold strconv_Itoa;rw[aN h.1,aN h.2];rfl
def R7 {n:Int}(h:I64 n):(Lib.itoa n).length<=21:=Lib.itoa_length_le n h.1 h.2
def ahJ {xs:List ByteArray}{l:List (List UInt8)}{s:List UInt8}(h:(xs.map fun b=>b.data.toList)=l)(h1:xs.length<=67108864)(h2:(Lib.join l s).length<=67108864):strings_Join F0 xs (tx s)=some (tx (Lib.join l s),()):=by have e1:decide ((xs.length:Int)<=F0.mem)=true:=aN (show((xs.length:Nat):Int)<=140737488355328 by omega);have e2:decide (((Lib.join l s).length:Int)<=F0.mem)=true:=aN (show(((Lib.join l s).length:Nat):Int)<=140737488355328 by omega);unfold strings_Join anE;rw[h,gb,e1,e2];rfl
def Ut (a b:List UInt8):((tx a).toList==(tx b).toList)=decide (a=b):=by
 rw[Lib.toList_data,Lib.toList_data,gb,gb];by_cases h:a=b
 .simp[h]
 .simp[h]
def Ym (l:List UInt8)(k:Nat):kc (tx l) (k:Int)=((l.getD k 0).toNat:Int):=by unfold kc;rw[gb];rfl
def awD (c:UInt8):c.toNat<256:=UInt8.toNat_lt c
def isD (c:UInt8):Bool:=decide (48<=c.toNat)&&decide (c.toNat<=57)
def val:List UInt8->Nat->Nat
 |[],n=>n|c::l,n=>val l (10*n+(c.toNat-48))
def gu (l:List UInt8):Int×Bool :=
 if l.length<1\/6<l.length then (0,false)
 else if l.all isD then (if Lib.itoa (val l 0:Int)=l then ((val l 0:Int),true) else (0,false)) else (0,false)
def apW (a b:List UInt8)(n:Nat):val (a++b) n=val b (val a n):=by
 induction a generalizing n with
 |nil=>rfl|cons c l ih=>exact ih _
def aMx {l:List UInt8}(h:∀c∈l,isD c=true)(n:Nat):val l n<(n+1)*10 ^ l.length:=by
 induction l generalizing n with
 |nil=>simp[val]
 |cons c l ih =>
  have h1:=ih (fun d hd=>h d (ka _ hd)) (10*n+(c.toNat-48));have h2:=h c qU;simp only[isD,aI,cA]at h2;refine Ev h1 ?_;rw[aZ,Nat.pow_succ];have h3:10*n+(c.toNat-48)+1<=(n+1)*10:=by omega
  calc (10*n+(c.toNat-48)+1)*10 ^ l.length<=((n+1)*10)*10 ^ l.length:=Gs _ h3
   _=(n+1)*(10 ^ l.length*10):=by rw[Nat.mul_assoc,Nat.mul_comm 10]
def aH6 {l:List UInt8}{k:Nat}(h:k<l.length):val (l.take (k+1)) 0=10*val (l.take k) 0+((l.getD k 0).toNat-48):=by rw[LN,bm h 0,apW];rfl
def ahK {l:List UInt8}(h6:l.length<=6)(h:∀c∈l,isD c=true):val l 0<=999999:=by have h1:=aMx h 0;have h2:10 ^ l.length<=10 ^ 6:=Nat.pow_le_pow_right (by omega) h6;omega
def apX (l:List UInt8):0<=(gu l).1/\(gu l).1<=999999:=by
 unfold gu;split
 .simp
 .split
  .rename_i h1 h2;have:=ahK (l:=l) (by omega) (fun c hc=>iU.1 h2 c hc);split
   .simp only;omega
   .simp
  .simp
def ayZ {l:List UInt8}(h1:1<=l.length)(h6:l.length<=6){X:Nat->Int->Int->Option (Int×(Bool×Unit))}{D:Int->Option (ByteArray×Unit)}(hD:∀n,I64 n->D n=some (tx (Lib.itoa n),()))
  (hs:∀n k (m:Nat),k<l.length->m<=999999->X (n+1) m k=br (decide (((l.getD k 0).toNat:Int)<48)) (some (0,false,())) (br (decide (((l.getD k 0).toNat:Int)>57)) (some (0,false,())) (X n (ak (ak (10*m)+ak ((l.getD k 0).toNat-48))) ((k+1:Nat):Int))))
  (he:∀n (m:Nat),X (n+1) m l.length=(D m).bind fun r=>br (!(r.1.toList==(tx l).toList)) (some (0,false,())) (some ((m:Int),true,()))) (n:Nat) (hn:6<n):X n 0 0=some ((gu l).1,(gu l).2,()):=by
 refine dp (fun n i (m:Nat)=>X n m i) l.length (fun k m=>m=val (l.take k) 0/\∀c∈l.take k,isD c=true) _ (fun n k m hk hI=>?_) (fun n m hI=>?_) n 0 0 (aT _) ⟨rfl,by simp⟩ (by omega)
 .obtain⟨rfl,mr⟩:=hI;have hsm:=ahK (l:=l.take k) (by rw[bV];omega) mr;have w9:=pf hk (0:UInt8);have hb:=awD (l.getD k 0);rw[hs n k _ hk hsm];by_cases h48:(l.getD k 0).toNat<48
  .left;rw[aN (by omega),af];have:l.all isD=false:=by rw[afP];exact⟨_,w9,fun h=>by simp only[isD,aI,cA]at h;omega⟩
   unfold gu;rw[ah (by omega),this];rfl
  .by_cases h57:(l.getD k 0).toNat>57
   .left;rw[aR (by omega),aa,aN (by omega),af];have:l.all isD=false:=by rw[afP];exact⟨_,w9,fun h=>by simp only[isD,aI,cA]at h;omega⟩
    unfold gu;rw[ah (by omega),this];rfl
   .right;refine⟨val (l.take (k+1)) 0,?_,rfl,?_⟩
    .rw[aR (by omega),aa,aR (by omega),aa,aH6 hk,aJ (n:=10*_) (by omega) (by omega),aJ (n:=((l.getD k 0).toNat:Int)-48) (by omega) (by omega),aJ (by omega) (by omega)]
     congr 1
     omega
    .intro c hc;rw[LN,bm hk 0]at hc;rcases jx.1 hc with hc|hc
     .exact mr c hc
     .simp only[amH,hU]at hc;subst hc;simp only[isD,aI,cA];omega
 .obtain⟨rfl,mr⟩:=hI;rw[mB]at mr ⊢;have hsm:=ahK h6 mr;rw[he,hD _ ⟨by omega,by omega⟩,aj,Ut];unfold gu;rw[ah (by omega),ai (iU.2 mr)];by_cases hit:Lib.itoa (val l 0:Int)=l
  .rw[aN hit,ai hit];rfl
  .rw[aR hit,ah hit];rfl
def Cx (l:List UInt8):nY F0 (tx l)=some ((gu l).1,(gu l).2,()):=by
 rw[anM,bT];by_cases h1:l.length<1
 .rw[aN (by omega),af];unfold gu;rw[ai (.inl h1)]
 .rw[aR (by omega),aa];by_cases h6:6<l.length
  .rw[aN (by omega),af];unfold gu;rw[ai (.inr h6)]
  .rw[aR (by omega),aa];refine ayZ (X:=fun n m k=>CX F0 (vg F0) n (vf (tx l) m k)) (by omega) (by omega) (fun n hn=>Cw hn) (fun n k m hk hm=>?_) (fun n m=>?_) _ (by rw[cl];omega)
   .have hb:=awD (l.getD k 0);rw[JN];simp only[bT,Ym,age,aX hk,av hk,af,ae,ao (show k+1<=9223372036854775807 by omega)]
    congr 2
    congr 2
    rw[aJ (n:=10*(m:Int)) (by omega) (by omega),aJ (n:=((l.getD k 0).toNat:Int)) (by omega) (by omega),aJ (n:=10*(m:Int)+((l.getD k 0).toNat:Int)) (by omega) (by omega),aJ (n:=((l.getD k 0).toNat:Int)-48) (by omega) (by omega)]
    congr 1
    omega
   .rw[JN];simp only[bT,aK,aa,adq]
def Fm (l:List UInt8):n5 F0 (tx l)=some ((gu l).1,(gu l).2,()):=by
 rw[ao6,bT];by_cases h1:l.length<1
 .rw[aN (by omega),af];unfold gu;rw[ai (.inl h1)]
 .rw[aR (by omega),aa];by_cases h6:6<l.length
  .rw[aN (by omega),af];unfold gu;rw[ai (.inr h6)]
  .rw[aR (by omega),aa];refine ayZ (X:=fun n m k=>DH F0 (wq F0) n (wo (tx l) m k)) (by omega) (by omega) (fun n hn=>QM hn) (fun n k m hk hm=>?_) (fun n m=>?_) _ (by rw[cl];omega)
   .have hb:=awD (l.getD k 0);rw[Kz];simp only[bT,Ym,agW,aX hk,av hk,af,ae,ao (show k+1<=9223372036854775807 by omega)];by_cases h48:(l.getD k 0).toNat<48
    .rw[aN (by omega),af,af]
    .rw[IntWalk.u8_in _ (by omega)]
   .rw[Kz];simp only[bT,aK,aa,ad6]
def apY (l:List UInt8)(k:Nat):(tx l).extract 0 k=tx (l.take k):=by rw[VB ((tx l).extract 0 k),Lib.Pa.extract_upto_list,gb]
def extract_from (l:List UInt8)(k:Nat):(tx l).extract k (tx l).size=tx (l.drop k):=by rw[VB ((tx l).extract k (tx l).size),Lib.extract_to_end,gb]
def apZ {a b:List UInt8}{c:UInt8}(h:c ∉ a):(a++c::b).takeWhile (· != c)=a/\(a++c::b).dropWhile (· != c)=c::b:=by
 induction a with
 |nil=>simp
 |cons x a ih =>
  have hx:(x != c)=true:=by simp;rintro rfl;simp at h
  have:=ih fun h'=>h (ka _ h')
  rw[Gt,List.takeWhile_cons,List.dropWhile_cons,hx];exact⟨by simp[this.1],by simp[this.2]⟩
def aLE {a:List UInt8}{c:UInt8}(h:c ∉ a):a.takeWhile (· != c)=a/\a.dropWhile (· != c)=[]:=by
 induction a with
 |nil=>simp
 |cons x a ih =>
  have hx:(x != c)=true:=by simp;rintro rfl;simp at h
  have:=ih fun h'=>h (ka _ h')
  rw[List.takeWhile_cons,List.dropWhile_cons,hx];exact⟨by simp[this.1],by simp[this.2]⟩
def ay0 {l:List UInt8}{k:Nat}(h:k<l.length):l=l.take k++l.getD k 0::l.drop (k+1):=by
 have:l.getD k 0=l[k]:=by simp[List.getD,h]
 rw[this,List.getElem_cons_drop,acL]
def atZ {l:List UInt8}(c:UInt8)(hl:l.length<=4294967296) :
  jg F0 (tx l) (c.toNat:Int)=some (if c∈l then (tx (l.takeWhile (· != c)),tx ((l.dropWhile (· != c)).drop 1),true,()) else (tx [],tx [],false,())):=by
 rw[ar0];refine dp (fun n i (_:Unit)=>HB F0 (yM F0) n (yL (tx l) (c.toNat:Int) i)) l.length (fun k _=>c ∉ l.take k) _ (fun n k _ hk hI=>?_) (fun n _ hI=>?_) F0.n 0 () (aT _) (by simp) (by rw[cl];omega)
 .rw[LZ,bT,aX hk,af,av hk,ae,Ym];by_cases hc:l.getD k 0=c
  .left;have hs:=ay0 hk;rw[hc]at hs;have ht:=apZ (b:=l.drop (k+1)) hI;have h1:((((l.getD k 0).toNat:Int))==(c.toNat:Int))=true:=by rw[hc];simp
   have h2:SJ 0 (k:Int) (l.length:Int)=true:=by simp[SJ];omega
   have h3:SJ ((k+1:Nat):Int) (l.length:Int) (l.length:Int)=true:=by simp only[SJ,aI,cA];omega
   rw[h1,af,h2,ae,ao (by omega),h3,ae,ako];simp only[jw,show(0:Int).toNat=0 from rfl];have hm:c∈l:=by rw[hs];simp
   rw[ai hm,apY,show((tx l).extract (k+1) l.length)=tx (l.drop (k+1)) by rw[<-extract_from,bT]];have e1:l.takeWhile (· != c)=l.take k:=by
    have:=ht.1
    rwa [<-hs]at this
   have e2:(l.dropWhile (· != c)).drop 1=l.drop (k+1):=by have:=ht.2;rw[<-hs]at this;rw[this];rfl
   rw[e1,e2]
  .right;have h1:((((l.getD k 0).toNat:Int))==(c.toNat:Int))=false:=by refine ct.2 fun h=>hc (UInt8.toNat_inj.1 (by omega))
   refine⟨(),by rw[h1,aa,ao (by omega)],?_⟩;rw[LN,bm hk 0];simp only[amH,jx,hU];rintro(h|h)
   .exact hI h
   .exact hc h.symm
 .rw[mB]at hI;rw[LZ,bT,aK,aa,agd,ah hI];rfl
def aeT {a b:List UInt8}{c:UInt8}(h:c ∉ a):Lib.indexByte (a++c::b) c=a.length:=by
 induction a with
 |nil=>simp[Lib.indexByte]
 |cons x a ih =>
  have hx:(x==c)=false:=by simp;rintro rfl;simp at h
  have:=ih fun h'=>h (ka _ h')
  rw[Gt];unfold Lib.indexByte;rw[hx,this];simp
def aeU {a:List UInt8}{c:UInt8}(h:c ∉ a):Lib.indexByte a c=-1:=by
 induction a with
 |nil=>rfl
 |cons x a ih =>
  have hx:(x==c)=false:=by simp;rintro rfl;simp at h
  have:=ih fun h'=>h (ka _ h')
  unfold Lib.indexByte;rw[hx,this];rfl
def aeV {l:List UInt8}{c:UInt8}(h:c∈l):∃a b,l=a++c::b/\c ∉ a:=by
 induction l with
 |nil=>cases h
 |cons x l ih =>
  by_cases hx:x=c
  .exact⟨[],l,by rw[hx];rfl,by simp⟩
  .rcases dE.1 h with h'|h'
   .exact absurd h'.symm hx
   .obtain⟨a,b,h1,h2⟩:=ih h';exact⟨x::a,b,by rw[h1];rfl,fun h3=>by
     rcases dE.1 h3 with h4|h4
     .exact hx h4.symm
     .exact h2 h4⟩
def aKf (l:List UInt8)(c:UInt8):Lib.cut l [c]=(l.takeWhile (· != c),(l.dropWhile (· != c)).drop 1,decide (c∈l)):=by
 unfold Lib.cut;rw[Lib.index_one];by_cases h:c∈l
 .obtain⟨a,b,rfl,h2⟩:=aeV h;rw[aeT h2,ai (by omega),(apZ h2).1,(apZ h2).2];simp[auX,List.drop_append]
 .rw[aeU h,ah (by omega),(aLE h).1,(aLE h).2];simp[h]
def wZ {l:List UInt8}(c:UInt8)(hl:l.length<4294967281):strings_Cut F0 (tx l) (tx [c])=some (tx (l.takeWhile (· != c)),tx ((l.dropWhile (· != c)).drop 1),decide (c∈l),()):=by
 have h:Nat.blt (tx l).size 4294967281=true:=by rw[bT];simpa using hl
 unfold strings_Cut;rw[h,ae,gb,gb,aKf];rfl
abbrev fE:=Int×(Int×(Int×Int))
def aeW (x lo hi:Int):cg F0 x lo hi=some (decide (lo<=x)&&decide (x<=hi),()):=by
 rw[avV];by_cases h:lo<=x
 .rw[aN (show x>=lo from h),af,hY]
 .rw[aR (show ¬x>=lo from h),aa,Zd]
def R8 (x lo hi:Int):bg F0 x lo hi=some (decide (lo<=x)&&decide (x<=hi),()):=by
 rw[ao3];by_cases h:lo<=x
 .rw[aN (show x>=lo from h),af,hY]
 .rw[aR (show ¬x>=lo from h),aa,Zd]
def inB (x lo hi:Int):Bool:=decide (lo<=x)&&decide (x<=hi)
def iP (x:fE):Bool:=inB x.1 0 3&&inB x.2.1 0 3&&inB x.2.2.1 0 1000&&inB x.2.2.2 0 99
def aBR (a b:Bool):br a (some (b,())) (some (false,()))=some (a&&b,()):=by cases a<;>rfl
def QN (x:fE):so F0 x=some (iP x,()):=by rw[avW];simp only[aeW,aj,aBR];simp only[iP,inB,Bool.and_assoc]
def Cy (x:fE):pW F0 x=some (iP x,()):=by rw[awf];simp only[R8,aj,aBR];simp only[iP,inB,Bool.and_assoc]
def yg {x:fE}(h:iP x=true):(0<=x.1/\x.1<=3)/\(0<=x.2.1/\x.2.1<=3)/\(0<=x.2.2.1/\x.2.2.1<=1000)/\(0<=x.2.2.2/\x.2.2.2<=99):=by simp only[iP,inB,aI,cA]at h;exact⟨h.1.1.1,h.1.1.2,h.1.2,h.2⟩
def txL (x:fE):List UInt8:=Lib.itoa x.1++62::(Lib.itoa x.2.1++58::(Lib.itoa x.2.2.1++35::Lib.itoa x.2.2.2))
def ap0 {x:fE}(h:iP x=true):(txL x).length<=90:=by obtain⟨h1,h2,h3,h4⟩:=yg h;have e1:=R7 (n:=x.1) ⟨by omega,by omega⟩;have e2:=R7 (n:=x.2.1) ⟨by omega,by omega⟩;have e3:=R7 (n:=x.2.2.1) ⟨by omega,by omega⟩;have e4:=R7 (n:=x.2.2.2) ⟨by omega,by omega⟩;simp only[txL,aL,aZ];omega
def ab1 (x:fE):List UInt8:=if iP x=true then txL x else []
def ap1 (x:fE):xR F0 x=some (tx (ab1 x),()):=by
 rw[anN,QN,aj];unfold ab1;cases h:iP x with
 |false=>rfl
 |true =>
  obtain⟨h1,h2,h3,h4⟩:=yg h;have d1:=Cw (n:=x.1) ⟨by omega,by omega⟩;have d2:=Cw (n:=x.2.1) ⟨by omega,by omega⟩;have d3:=Cw (n:=x.2.2.1) ⟨by omega,by omega⟩;have d4:=Cw (n:=x.2.2.2) ⟨by omega,by omega⟩;have e:=ap0 h;simp only[txL,aL,aZ]at e;simp only[aO,aa,d1,d2,d3,d4,aj,show ByteArray.mk #[62]=tx [62] from rfl,show ByteArray.mk #[58]=tx [58] from rfl,show ByteArray.mk #[35]=tx [35] from rfl,gP,bT];rw[jf (by simp only[aL,aZ,bE];omega),ae,jf (by simp only[aL,aZ,bE];omega),ae,jf (by simp only[aL,aZ,bE];omega),ae,jf (by simp only[aL,aZ,bE];omega),ae,jf (by simp only[aL,aZ,bE];omega),ae,jf (by simp only[aL,aZ,bE];omega),ae];simp[txL]
def ajC (x:fE):E1 F0 x=some (tx (ab1 x),()):=by
 rw[ao7,Cy,aj];unfold ab1;cases h:iP x with
 |false=>rfl
 |true =>
  obtain⟨h1,h2,h3,h4⟩:=yg h;have d1:=QM (n:=x.1) ⟨by omega,by omega⟩;have d2:=QM (n:=x.2.1) ⟨by omega,by omega⟩;have d3:=QM (n:=x.2.2.1) ⟨by omega,by omega⟩;have d4:=QM (n:=x.2.2.2) ⟨by omega,by omega⟩;have e:=ap0 h;simp only[txL,aL,aZ]at e;simp only[aO,aa,d1,d2,d3,d4,aj,show ByteArray.mk #[62]=tx [62] from rfl,show ByteArray.mk #[58]=tx [58] from rfl,show ByteArray.mk #[35]=tx [35] from rfl,gP,bT];rw[jf (by simp only[aL,aZ,bE];omega),ae,jf (by simp only[aL,aZ,bE];omega),ae,jf (by simp only[aL,aZ,bE];omega),ae,jf (by simp only[aL,aZ,bE];omega),ae,jf (by simp only[aL,aZ,bE];omega),ae,jf (by simp only[aL,aZ,bE];omega),ae];simp[txL]
def aEp (u:Nat):∀c∈Lib.decDigits u,isD c=true:=by
 induction u using Nat.strongRecOn with
 |ind u ih =>
  intro c hc;rw[Lib.decDigits]at hc;have key:∀v:Nat,v<10->isD (UInt8.ofNat (48+v))=true:=fun v hv=>by
   have:(UInt8.ofNat (48+v)).toNat=48+v:=by rw[UInt8.toNat_ofNat'];omega
   simp only[isD,this,aI,cA];omega
  by_cases Rc:u<10
  .rw[dif_pos Rc,hU]at hc;rw[hc];exact key u Rc
  .rw[dif_neg Rc]at hc;rcases jx.1 hc with hc|hc
   .exact ih (u/10) (by omega) c hc
   .rw[hU]at hc;rw[hc];exact key _ (aa0 _ (by omega))
def aKg (u:Nat):val (Lib.decDigits u) 0=u:=by
 induction u using Nat.strongRecOn with
 |ind u ih =>
  have key:∀v:Nat,v<10->(UInt8.ofNat (48+v)).toNat=48+v:=fun v hv=>by rw[UInt8.toNat_ofNat'];omega
  rw[Lib.decDigits];by_cases Rc:u<10
  .rw[dif_pos Rc];simp only[val,key u Rc];omega
  .rw[dif_neg Rc,apW,ih (u/10) (by omega)];simp only[val,key (u%10) (aa0 _ (by omega))];omega
def aKh {k:Nat}:∀{u:Nat},u<10 ^ (k+1)->1<=(Lib.decDigits u).length/\(Lib.decDigits u).length<=k+1:=by
 induction k with
 |zero =>
  intro u hu;rw[Lib.decDigits,dif_pos (by omega)];simp
 |succ k ih =>
  intro u hu;rw[Lib.decDigits];by_cases Rc:u<10
  .rw[dif_pos Rc];simp
  .rw[dif_neg Rc];have:=ih (u:=u/10) (by rw[Nat.pow_succ]at hu;omega);rw[aL,dM];omega
def ap2 (u:Nat):Lib.itoa (u:Int)=Lib.decDigits u:=Lib.itoa_nonneg u
def yh {n:Int}(h0:0<=n)(h1:n<=999999):gu (Lib.itoa n)=(n,true):=by obtain⟨u,rfl⟩:∃u:Nat,n=u:=⟨n.toNat,by omega⟩;rw[ap2];have hl:=aKh (k:=5) (u:=u) (by omega);unfold gu;rw[ah (by omega),ai (iU.2 (aEp u)),aKg,ap2,ai rfl]
def ahN {n:Int}(h0:0<=n){c:UInt8}(hc:isD c=false):c ∉ Lib.itoa n:=by obtain⟨u,rfl⟩:∃u:Nat,n=u:=⟨n.toNat,by omega⟩;rw[ap2];intro h;rw[aEp u c h]at hc;cases hc
def A4 (l:List UInt8)(c:UInt8):List UInt8×List UInt8:=if c∈l then (l.takeWhile (· != c),(l.dropWhile (· != c)).drop 1) else ([],[])
def fC (l:List UInt8)(c:UInt8):List UInt8×List UInt8:=(l.takeWhile (· != c),(l.dropWhile (· != c)).drop 1)
def ahO (l:List UInt8):fE:=((gu (A4 l 62).1).1,(gu (A4 (A4 l 62).2 58).1).1,(gu (A4 (A4 (A4 l 62).2 58).2 35).1).1,(gu (A4 (A4 (A4 l 62).2 58).2 35).2).1)
def aBS (l:List UInt8):fE:=((gu (fC l 62).1).1,(gu (fC (fC l 62).2 58).1).1,(gu (fC (fC (fC l 62).2 58).2 35).1).1,(gu (fC (fC (fC l 62).2 58).2 35).2).1)
def awE {a b:List UInt8}{c:UInt8}(h:c ∉ a):A4 (a++c::b) c=(a,b):=by unfold A4;rw[ai (by simp),(apZ h).1,(apZ h).2];rfl
def awF {a b:List UInt8}{c:UInt8}(h:c ∉ a):fC (a++c::b) c=(a,b):=by unfold fC;rw[(apZ h).1,(apZ h).2];rfl
def aH7 {x:fE}(h:iP x=true):ahO (txL x)=x:=by obtain⟨h1,h2,h3,h4⟩:=yg h;unfold ahO txL;rw[awE (ahN h1.1 (by decide)),awE (ahN h2.1 (by decide)),awE (ahN h3.1 (by decide))];simp only[yh h1.1 (by omega),yh h2.1 (by omega),yh h3.1 (by omega),yh h4.1 (by omega)]
def ay1 {x:fE}(h:iP x=true):aBS (txL x)=x:=by obtain⟨h1,h2,h3,h4⟩:=yg h;unfold aBS txL;rw[awF (ahN h1.1 (by decide)),awF (ahN h2.1 (by decide)),awF (ahN h3.1 (by decide))];simp only[yh h1.1 (by omega),yh h2.1 (by omega),yh h3.1 (by omega),yh h4.1 (by omega)]
def Y8 (l:List UInt8):fE×Bool:=if iP (ahO l)=true/\txL (ahO l)=l then (ahO l,true) else ((0,0,0,0),false)
def ay2 (l:List UInt8)(c:UInt8):((l.dropWhile (· != c)).drop 1).length<=l.length:=by rw[bB];have:=(List.dropWhile_sublist (l:=l) (· != c)).length_le;omega
def awG (l:List UInt8)(c:UInt8):(A4 l c).2.length<=l.length:=by
 unfold A4;split
 .exact ay2 l c
 .simp
def amo (l:List UInt8)(c:UInt8):(fC l c).2.length<=l.length:=ay2 l c
def ap3 {l:List UInt8}(c:UInt8)(hl:l.length<=4294967296):∃b,jg F0 (tx l) (c.toNat:Int)=some (tx (A4 l c).1,tx (A4 l c).2,b,()):=by
 rw[atZ c hl];unfold A4;split
 .exact⟨_,rfl⟩
 .exact⟨_,rfl⟩
def aH8 {l:List UInt8}(hl:l.length<=4294967280):X9 F0 (tx l)=some ((Y8 l).1,(Y8 l).2,()):=by
 obtain⟨b1,e1⟩:=ap3 (l:=l) 62 (by omega);obtain⟨b2,e2⟩:=ap3 (l:=(A4 l 62).2) 58 (by have:=awG l 62;omega);obtain⟨b3,e3⟩:=ap3 (l:=(A4 (A4 l 62).2 58).2) 35 (by have:=awG l 62;have:=awG (A4 l 62).2 58;omega);rw[avX];rw[show jg F0 (tx l) 62=_ from e1,aj,show jg F0 _ 58=_ from e2,aj,show jg F0 _ 35=_ from e3,aj,Cx,aj,Cx,aj,Cx,aj,Cx,aj,show al=tx [] from rfl,Ut];have hp:((gu (A4 l 62).1).1,(gu (A4 (A4 l 62).2 58).1).1,(gu (A4 (A4 (A4 l 62).2 58).2 35).1).1,(gu (A4 (A4 (A4 l 62).2 58).2 35).2).1)=ahO l:=rfl;simp only[hp,ap1,aj,Ut];unfold Y8 ab1;by_cases dZ:iP (ahO l)=true
 .rw[ai dZ];by_cases ht:txL (ahO l)=l
  .have hne:¬l=[]:=by rw[<-ht];simp[txL]
   rw[ai ⟨dZ,ht⟩,aR hne,aa,aN ht];rfl
  .rw[ah (fun h=>ht h.2),aR ht];cases decide (l=[])<;>rfl
 .rw[ah dZ,ah (fun h=>dZ h.1)];by_cases hne:l=[]
  .rw[aN hne];rfl
  .rw[aR hne,aa,aR (fun h=>hne h.symm)];rfl
def aFF {l:List UInt8}(hl:l.length<4294967281):Yf F0 (tx l)=some ((Y8 l).1,(Y8 l).2,()):=by
 have e1:=wZ (l:=l) 62 hl;have h2:=amo l 62;have h3:=amo (fC l 62).2 58;have e2:=wZ (l:=(fC l 62).2) 58 (by omega);have e3:=wZ (l:=(fC (fC l 62).2 58).2) 35 (by omega);rw[awg];rw[show ByteArray.mk #[62]=tx [62] from rfl,e1,aj,show ByteArray.mk #[58]=tx [58] from rfl];rw[show strings_Cut F0 (tx ((l.dropWhile (· != 62)).drop 1)) (tx [58])=_ from e2,aj,show ByteArray.mk #[35]=tx [35] from rfl];rw[show strings_Cut F0 (tx (((fC l 62).2.dropWhile (· != 58)).drop 1)) (tx [35])=_ from e3,aj];have n0:=fun (a b c d:ByteArray)=>(show aU [a,b,c,d] 0 ByteArray.empty=a from rfl)
 have n1:=fun (a b c d:ByteArray)=>(show aU [a,b,c,d] 1 ByteArray.empty=b from rfl)
 have n2:=fun (a b c d:ByteArray)=>(show aU [a,b,c,d] 2 ByteArray.empty=c from rfl)
 have n3:=fun (a b c d:ByteArray)=>(show aU [a,b,c,d] 3 ByteArray.empty=d from rfl)
 rw[show cr 0 4=true from rfl,ae,n0,Fm,aj,show cr 1 4=true from rfl,ae,n1,Fm,aj,show cr 2 4=true from rfl,ae,n2,Fm,aj,show cr 3 4=true from rfl,ae,n3,Fm,aj];have hp:((gu (l.takeWhile (· != 62))).1,(gu ((fC l 62).2.takeWhile (· != 58))).1,(gu ((fC (fC l 62).2 58).2.takeWhile (· != 35))).1,(gu (((fC (fC l 62).2 58).2.dropWhile (· != 35)).drop 1)).1)=aBS l:=rfl;simp only[hp,Cy,ajC,aj,Ut];unfold Y8 ab1;by_cases dZ:iP (aBS l)=true
 .rw[ai dZ,dZ];by_cases ht:txL (aBS l)=l
  .have hpe:ahO l=aBS l:=by have:=aH7 dZ;rw[ht]at this;exact this
   rw[hpe,ai ⟨dZ,ht⟩,aN ht];rfl
  .have:¬(iP (ahO l)=true/\txL (ahO l)=l):=by rintro⟨q1,q2⟩;have:=ay1 q1;rw[q2]at this;rw[this]at ht;exact ht q2
   rw[ah this,aR ht];rfl
 .have:¬(iP (ahO l)=true/\txL (ahO l)=l):=by rintro⟨q1,q2⟩;have:=ay1 q1;rw[q2]at this;rw[this]at dZ;exact dZ q1
  rw[ah this];have hf:iP (aBS l)=false:=by simpa using dZ
  rw[hf];rfl
def aH9 (l:List UInt8):iP (Y8 l).1=true:=by
 unfold Y8;split
 .rename_i h1;exact h1.1
 .rfl
def parts (c:UInt8):List UInt8->List (List UInt8)
 |[]=>[[]]|x::l=>if x=c then []::parts c l else match parts c l with
  |p::ps=>(x::p)::ps|[]=>[[x]]
def Fo (c:UInt8)(l:List UInt8):parts c l≠[]:=by
 cases l with
 |nil=>simp[parts]
 |cons x l =>
  unfold parts;split
  .simp
  .split<;>simp
def ap4 {c:UInt8}{a:List UInt8}(h:c ∉ a):parts c a=[a]:=by
 induction a with
 |nil=>rfl
 |cons x a ih =>
  have hx:¬x=c:=by rintro rfl;simp at h
  unfold parts;rw[ah hx,ih fun h'=>h (ka _ h')]
def ay3 {c:UInt8}{a b:List UInt8}(h:c ∉ a):parts c (a++c::b)=a::parts c b:=by
 induction a with
 |nil =>
  rw[Bk]
  conv=>lhs;unfold parts
  rw[ai rfl]
 |cons x a ih =>
  have hx:¬x=c:=by rintro rfl;simp at h
  rw[Gt]
  conv=>lhs;unfold parts
  rw[ah hx,ih fun h'=>h (ka _ h')]
def Jf (c:UInt8)(l:List UInt8):(parts c l).length<=l.length+1:=by
 induction l with
 |nil=>simp[parts]
 |cons x l ih =>
  unfold parts;split
  .simp only[aZ];omega
  .split
   .rename_i p ps h;rw[h]at ih;simp only[aZ]at ih ⊢;omega
   .simp
def Cz {c:UInt8}:∀{l p:List UInt8},p∈parts c l->p.length<=l.length
 |[],p,h=>by simp only[parts,hU]at h;rw[h];simp
 |x::l,p,h=>by
  unfold parts at h;split at h
  .rcases dE.1 h with rfl|h
   .simp
   .have:=Cz h;simp only[aZ];omega
  .split at h
   .rename_i q qs hq;rcases dE.1 h with rfl|h
    .have:=Cz (c:=c) (l:=l) (p:=q) (by rw[hq];simp);simp only[aZ];omega
    .have:=Cz (c:=c) (l:=l) (p:=p) (by rw[hq];simp[h]);simp only[aZ];omega
   .rw[hU]at h;rw[h];simp
def NT (l:List UInt8)(a b:Nat):(tx l).extract a b=tx ((l.drop a).take (b-a)):=by rw[VB ((tx l).extract a b),Lib.extract_data,gb]
def at0 {l:List UInt8}(c:UInt8)(hl:l.length<=4294967296):xb F0 (tx l) (c.toNat:Int)=some ((parts c l).map tx,()):=by
 have hpl:=Jf c l;rw[arZ];refine dp (fun n i (z:Nat×List ByteArray)=>sk F0 (JI F0) n (mH (tx l) (c.toNat:Int) (z.1:Int) i z.2)) (l.length+1)
  (fun k z=>if k<=l.length then ∃done:List (List UInt8),z.2=done.map tx/\parts c l=done++parts c (l.drop z.1)/\z.1<=k/\c ∉ (l.drop z.1).take (k-z.1) else z.2=(parts c l).map tx) _ (fun n k z hk hI=>.inr ?_) (fun n z hI=>?_) F0.n 0 (0,[]) (aT _) ?_ (by rw[cl];omega)
 .obtain⟨fa,xs⟩:=z;rw[ai (by omega)]at hI;obtain⟨done,rfl,hd,hf,hno⟩:=hI;simp only at hd hf hno;have hdl:done.length+1<=l.length+1:=by have h1:=qd List.length hd;have h2:0<(parts c (l.drop fa)).length:=List.length_pos_iff.2 (Fo c _);rw[aL]at h1;omega
  have hle:decide ((k:Int)<=(l.length:Int))=true:=aN (by omega);rw[LY,bT,hle,af];have hos:SJ (fa:Int) (k:Int) (l.length:Int)=true:=by simp only[SJ,aI,cA];omega
  have hoa:∀b:ByteArray,fp F0 (done.map tx).length [b].length 16=true:=fun b=>az (by omega) (by omega) (by rw[qV];simp only[aZ,bE];omega)
  simp only[jw,NT,hos,hoa,ae,ao (show k+1<=9223372036854775807 by omega)];by_cases aBT:k=l.length
  .subst aBT;rw[Zc,af];refine⟨(l.length+1,(parts c l).map tx),?_,by rw[ah (by omega)]⟩;have ht:(l.drop fa).take (l.length-fa)=l.drop fa:=amC (by rw[bB];omega);rw[ht]at hno ⊢;rw[hd,ap4 hno];simp
  .have hlt:k<l.length:=by omega
   have hb:(((k:Nat):Int)==(l.length:Int))=false:=ct.2 (by omega);rw[hb,aa,av hlt,ae,Ym];have hs:l.drop fa=(l.drop fa).take (k-fa)++l.getD k 0::l.drop (k+1):=by
    have:=ay0 (l:=l.drop fa) (k:=k-fa) (by rw[bB];omega);have e1:(l.drop fa).getD (k-fa) 0=l.getD k 0:=by simp only[Gr,air];rw[show fa+(k-fa)=k by omega]
    rw[e1,amN,show fa+(k-fa+1)=k+1 by omega]at this;exact this
   by_cases hc:l.getD k 0=c
   .have h1:((((l.getD k 0).toNat:Int))==(c.toNat:Int))=true:=by rw[hc];simp
    rw[h1,af];refine⟨(k+1,done.map tx++[tx ((l.drop fa).take (k-fa))]),rfl,?_⟩;rw[ai (by omega)];refine⟨done++[(l.drop fa).take (k-fa)],by simp,?_,bZ _,by simp⟩;rw[hc]at hs;rw[hd,hs,ay3 hno,<-hs];simp
   .have h1:((((l.getD k 0).toNat:Int))==(c.toNat:Int))=false:=ct.2 fun h=>hc (UInt8.toNat_inj.1 (by omega))
    rw[h1,aa];refine⟨(fa,done.map tx),rfl,?_⟩;rw[ai (by omega)];refine⟨done,rfl,hd,by show fa<=k+1;omega,?_⟩;have e1:(l.drop fa).take (k+1-fa)=(l.drop fa).take (k-fa)++[l.getD k 0]:=by
     rw[show k+1-fa=(k-fa)+1 by omega,LN]
     congr 1
     have:(l.drop fa)[k-fa]?=some (l.getD k 0):=by rw[air,show fa+(k-fa)=k by omega];exact bm hlt 0
     rw[this];rfl
    show c ∉ (l.drop fa).take (k+1-fa);rw[e1,jx,hU];rintro(h|h)
    .exact hno h
    .exact hc h.symm
 .rw[ah (by omega)]at hI;rw[LY,bT,aR (by omega),aa,agc,hI]
 .rw[ai (by omega)];exact⟨[],rfl,rfl,bZ _,by simp⟩
def awH (c:UInt8):∀(n:Nat) (l:List UInt8),l.length<=n->∀k,k=Lib.countB (tx l) (tx [c])->Lib.splitB (tx [c]) 0 k (tx l)=(parts c l).map tx:=by
 intro n
 induction n with
 |zero =>
  intro l hl k hk;obtain rfl:l=[]:=Za (by omega);have hi:Lib.indexB (tx []) (tx [c])=-1:=by show Lib.index (tx []).data.toList (tx [c]).data.toList=-1;rw[gb,gb,Lib.index_one];rfl
  rw[Lib.splitB_miss _ _ _ _ hi];rfl
 |succ n ih =>
  intro l hl k hk;by_cases h:c∈l
  .obtain⟨a,b,rfl,h2⟩:=aeV h;have hi:Lib.indexB (tx (a++c::b)) (tx [c])=(a.length:Int):=by show Lib.index (tx (a++c::b)).data.toList (tx [c]).data.toList=_;rw[gb,gb,Lib.index_one,aeT h2]
   have hsz:(tx [c]).size=1:=bT [c];have aG6:(tx (a++c::b)).extract (a.length+(tx [c]).size) (tx (a++c::b)).size=tx b:=by
    rw[extract_from,hsz]
    congr 1
    simp[List.drop_append]
   have aMi:=Lib.countB_hit (tx (a++c::b)) (tx [c]) a.length (by rw[hsz];omega) hi;rw[aG6]at aMi;obtain⟨k',rfl⟩:∃k',k=k'+1:=⟨Lib.countB (tx b) (tx [c]),by omega⟩;rw[Lib.splitB_hit _ _ _ _ _ hi,aG6,ih b (by simp only[aL,aZ]at hl;omega) k' (by omega),ay3 h2,Ri,apY];simp[auX]
  .have hi:Lib.indexB (tx l) (tx [c])=-1:=by show Lib.index (tx l).data.toList (tx [c]).data.toList=-1;rw[gb,gb,Lib.index_one,aeU h]
   rw[Lib.splitB_miss _ _ _ _ hi,ap4 h];rfl
def ap5 {l:List UInt8}(c:UInt8)(hl:l.length<4294967281):xj F0 (tx l) (c.toNat:Int)=some ((parts c l).map tx,()):=by
 have hso:strOf [(c.toNat:Int)]=tx [c]:=by
  simp only[strOf,tx,tW,List.map_nil]
  congr 2
  simp
 have h:Nat.blt (tx l).size 4294967281=true:=by rw[bT];simpa using hl
 have h2:Nat.ble 1 (tx [c]).size=true:=by rw[bT];rfl
 rw[aso,hso];unfold strings_Split;rw[h,h2,Bool.and_self,ae,aj,awH c l.length l (bZ _) _ rfl]
def ur {σ V:Type}(f:σ->List UInt8->Option (σ×V)):σ->List (List UInt8)->Option (List V)
 |_,[]=>some []|s,p::ps=>match f s p with
  |none=>none|some (s',b)=>match ur f s' ps with
   |none=>none|some r=>some (b::r)
def QO {σ V γ:Type}(f:σ->List UInt8->Option (σ×V))(I:σ->Prop)(P:List (List UInt8))(X:Nat->σ->Int->List V->Option γ)(R0:Option γ)(R1:List V->Option γ)
  (hs:∀n k s xs p,k<P.length->P[k]?=some p->I s->xs.length=k->X (n+1) s (k:Int) xs=match f s p with|none=>R0|some (s',b)=>X n s' ((k+1:Nat):Int) (xs++[b]))
  (he:∀n s xs,xs.length=P.length->X (n+1) s (P.length:Int) xs=R1 xs) (hI:∀s p s' b,I s->f s p=some (s',b)->I s') :
  ∀(n k:Nat) (s:σ) (xs:List V),k<=P.length->P.length-k<n->I s->xs.length=k->X n s (k:Int) xs=match ur f s (P.drop k) with|none=>R0|some l=>R1 (xs++l)
 |0,_,_,_,_,h,_,_=>absurd h (SE _)|n+1,k,s,xs,hk,hn,hIs,hx=>by
  rcases LO k P.length with hlt|hge
  .have hp:P[k]?=some P[k]:=pc hlt;rw[hs n k s xs P[k] hlt hp hIs hx,UT hlt];simp only[ur];cases hf:f s P[k]with
   |none=>rfl
   |some q =>
    obtain⟨s',b⟩:=q;simp only;rw[QO f I P X R0 R1 hs he hI n (k+1) s' (xs++[b]) hlt (by omega) (hI _ _ _ _ hIs hf) (by simp[hx])];cases ur f s' (P.drop (k+1)) with
    |none=>rfl|some r=>simp
  .obtain rfl:k=P.length:=by omega
   rw[he n s xs hx,UW];simp[ur]
def QP {σ V:Type}{f:σ->List UInt8->Option (σ×V)}:∀{P:List (List UInt8)} {s:σ} {r:List V},ur f s P=some r->r.length=P.length
 |[],_,r,h=>by cases h;rfl
 |p::ps,s,r,h=>by
  simp only[ur]at h;split at h
  .cases h
  .split at h
   .cases h
   .rename_i hr;cases h;simp[QP hr]
def ap6 {σ V:Type}{f:σ->List UInt8->Option (σ×V)}{Q:V->Prop}(hQ:∀s p s' b,f s p=some (s',b)->Q b):∀{P:List (List UInt8)} {s:σ} {r:List V},ur f s P=some r->∀b∈r,Q b
 |[],_,r,h=>by cases h;simp
 |p::ps,s,r,h=>by
  simp only[ur]at h;split at h
  .cases h
  .rename_i hf;split at h
   .cases h
   .rename_i hr;cases h;intro b hb;rcases dE.1 hb with rfl|hb
    .exact hQ _ _ _ _ hf
    .exact ap6 hQ hr b hb
def txF (_:Unit)(p:List UInt8):Option (Unit×fE):=if (Y8 p).2=true then some ((),(Y8 p).1) else none
def mm (l:List UInt8):List fE×Bool:=if l=[] then ([],true) else match ur txF () (parts 44 l) with|none=>([],false)|some r=>(r,true)
def at2 (l:List UInt8):(mm l).1.length<=l.length+1:=by
 unfold mm;split
 .simp
 .split
  .simp
  .rename_i r hr;have:=QP hr;have:=Jf 44 l;simp only;omega
def aIb (l:List UInt8):∀x∈(mm l).1,iP x=true:=by
 unfold mm;split
 .simp
 .split
  .simp
  .rename_i r hr;refine ap6 (Q:=fun x=>iP x=true) (fun s p s' b h=>?_) hr;unfold txF at h;split at h
   .cases h;exact aH9 p
   .cases h
def ahP (l:List UInt8):((tx l).toList==al.toList)=decide (l=[]):=Ut l []
def awI (P:List (List UInt8))(k:Nat){p:List UInt8}(h:P[k]?=some p):aU (P.map tx) (k:Int) ByteArray.empty=tx p:=by show(P.map tx).getD k ByteArray.empty=_;simp[Gr,h]
def at3 {l:List UInt8}(hl:l.length<=1073741824):BL F0 (tx l)=some ((mm l).1,(mm l).2,()):=by
 have hpl:=Jf 44 l;rw[ar1,ahP];unfold mm;by_cases h0:l=[]
 .rw[aN h0,ai h0];rfl
 .rw[aR h0,aa,ah h0,show xb F0 (tx l) 44=_ from at0 44 (by omega),aj];have:=QO txF (fun _=>True) (parts 44 l) (fun n _ i xs=>HE F0 (yO F0) n (yN i xs ((parts 44 l).map tx))) (some ([],false,())) (fun xs=>some (xs,true,())) (fun n k s xs p hk hp _ hx=>?_) (fun n s xs hx=>?_) (fun _ _ _ _ _ _=>trivial) F0.n 0 () [] (aT _) (by rw[cl];omega) trivial rfl
  .simp only[acN,Bk]at this;rw[show((0:Nat):Int)=0 from rfl]at this;rw[this];cases ur txF () (parts 44 l)<;>rfl
  .have Ol:=Cz (ata hp);rw[L0,qV,aX hk,af,av hk,ae,awI _ _ hp,aH8 (by omega),aj];unfold txF;cases dZ:(Y8 p).2 with
   |false=>simp only[ff,af,akp];rfl
   |true =>
    simp only[aO,aa];rw[az (b:=[(Y8 p).1].length) (k:=32) (by omega) (by omega) (by simp only[aZ,bE];omega),ae,ao (by omega)];rfl
  .rw[L0,qV,aK,aa,agf]
def aBU {l:List UInt8}(hl:l.length<=1073741824):KA F0 (tx l)=some ((mm l).1,(mm l).2,()):=by
 have hpl:=Jf 44 l;rw[asp,ahP];unfold mm;by_cases h0:l=[]
 .rw[aN h0,ai h0];rfl
 .rw[aR h0,aa,ah h0,show xj F0 (tx l) 44=_ from ap5 44 (by omega),aj];have:=QO txF (fun _=>True) (parts 44 l) (fun n _ i xs=>Ii F0 (z7 F0) n (z6 ((parts 44 l).map tx) (((parts 44 l).map tx).length:Int) i xs)) (some ([],false,())) (fun xs=>some (xs,true,())) (fun n k s xs p hk hp _ hx=>?_) (fun n s xs hx=>?_) (fun _ _ _ _ _ _=>trivial) F0.n 0 () [] (aT _) (by rw[cl];omega) trivial rfl
  .simp only[acN,Bk]at this;rw[show((0:Nat):Int)=0 from rfl]at this;rw[this];cases ur txF () (parts 44 l)<;>rfl
  .have Ol:=Cz (ata hp);rw[MW,qV,aX hk,af,av hk,ae,awI _ _ hp,aFF (by omega),aj];unfold txF;cases dZ:(Y8 p).2 with
   |false=>simp only[ff,af,alo];rfl
   |true =>
    simp only[aO,aa];rw[az (b:=[(Y8 p).1].length) (k:=32) (by omega) (by omega) (by simp only[aZ,bE];omega),ae,ao (by omega)];rfl
  .rw[MW,qV,aK,aa,agX]
abbrev QQ:=Int×List fE
def ud (JO:Int)(p:List UInt8):Option (Int×QQ) :=
 if 124∈p/\(gu (fC p 124).1).2=true/\(mm (fC p 124).2).2=true/\JO<(gu (fC p 124).1).1/\(gu (fC p 124).1).1<=60/\(mm (fC p 124).2).1.length<=2
 then some ((gu (fC p 124).1).1,(gu (fC p 124).1).1,(mm (fC p 124).2).1) else none
def bj (l:List UInt8):List QQ×Bool:=if l=[] then ([],true) else match parts 47 l with
 |[]=>([],false)|p0::ps=>if ¬p0=[]\/30<ps.length then ([],false) else match ur ud 0 ps with
  |none=>([],false)|some r=>(r,true)
def awJ (s:QQ):Prop:=0<=s.1/\s.1<=60/\s.2.length<=2/\∀x∈s.2,iP x=true
def Xt {JO:Int}{p:List UInt8}{s':Int}{b:QQ}(h:ud JO p=some (s',b)):awJ b/\s'=b.1:=by
 unfold ud at h;split at h
 .rename_i hc;cases h;exact⟨⟨(apX _).1,hc.2.2.2.2.1,hc.2.2.2.2.2,aIb _⟩,rfl⟩
 .cases h
def R9 (l:List UInt8):∀s∈(bj l).1,awJ s:=by
 unfold bj;split
 .simp
 .split
  .simp
  .split
   .simp
   .split
    .simp
    .rename_i hr;exact ap6 (Q:=awJ) (fun s p s' b h=>(Xt h).1) hr
def rT (l:List UInt8):(bj l).1.length<=30:=by
 unfold bj;split
 .simp
 .split
  .simp
  .split
   .simp
   .split
    .simp
    .rename_i hr;have:=QP hr;simp only;omega
def br6 {U:Type}(a b c d e f:Bool)(x y:U):br (!a) x (br (!b) x (br (!c) x (br d x (br e x (br f x y)))))=if a=true/\b=true/\c=true/\d=false/\e=false/\f=false then y else x:=by cases a<;>cases b<;>cases c<;>cases d<;>cases e<;>cases f<;>rfl
def br5 {U:Type}(a b c d f:Bool)(x y:U):br (!a) x (br (!b) x (br (!c) x (br (!d) x (br f x y))))=if a=true/\b=true/\c=true/\d=true/\f=false then y else x:=by cases a<;>cases b<;>cases c<;>cases d<;>cases f<;>rfl
def Yn {l:List UInt8}(hl:l.length<=1073741824):q9 F0 (tx l)=some ((bj l).1,(bj l).2,()):=by
 have hpl:=Jf 47 l;have Ol:=fun p (h:p∈parts 47 l)=>Cz h
 rw[ar3,ahP];unfold bj;by_cases h0:l=[]
 .rw[aN h0,ai h0];rfl
 .rw[aR h0,aa,ah h0,show xb F0 (tx l) 47=_ from at0 47 (by omega),aj];cases hP:parts 47 l with
  |nil=>exact absurd hP (Fo 47 l)
  |cons p0 ps =>
   rw[hP]at hpl Ol;simp only[aZ]at hpl;have ha0:aU ((p0::ps).map tx) 0 ByteArray.empty=tx p0:=rfl;have ho:cr 0 (((p0::ps).map tx).length:Int)=true:=av (k:=0) (by simp);simp only[ho,ae,ha0,ahP];by_cases hp0:p0=[]
   .by_cases h30:30<ps.length
    .rw[aN hp0,aO,aa,aN (by rw[qV,aZ];omega),af,ai (.inr h30)]
    .rw[aN hp0,aO,aa,aR (by rw[qV,aZ];omega),aa,ah (by simp[hp0];omega)];have:=QO ud (fun s=>0<=s/\s<=60) ps (fun n s i xs=>HH F0 (yQ F0) n (yP s (i+1) [] xs ((p0::ps).map tx))) (some ([],false,())) (fun xs=>some (xs,true,())) (fun n k s xs p hk hp hs hx=>?_) (fun n s xs hx=>?_) (fun s p s' b hs hf=>?_) F0.n 0 0 [] (aT _) (by rw[cl];omega) ⟨by omega,by omega⟩ rfl
     .simp only[acN,Bk]at this;rw[show((0:Nat):Int)+1=1 from rfl]at this;rw[this];cases ur ud 0 ps<;>rfl
     .have aQP:=Ol p (ka _ (ata hp));have hk1:k+1<((p0::ps).map tx).length:=by simp;omega
      have hat:aU ((p0::ps).map tx) (((k+1:Nat)):Int) ByteArray.empty=tx p:=awI _ _ (by simpa using hp);rw[show((k:Int)+1)=((k+1:Nat):Int) by omega,L3,aX hk1,af,av hk1,ae,hat,show jg F0 (tx p) 124=_ from atZ 124 (by omega),aj];have anB:=amo p 124;have hmx:=apX (fC p 124).1;have htl:=at2 (fC p 124).2;by_cases hm:(124:UInt8)∈p
      .rw[ai hm];simp only[Cx,aj];rw[show BL F0 (tx ((p.dropWhile (· != 124)).drop 1))=some ((mm (fC p 124).2).1,(mm (fC p 124).2).2,()) from at3 (by show(fC p 124).2.length<=_;omega),aj];simp only[SS];rw[br6];unfold ud;have hw:(gu (p.takeWhile (· != 124)))=gu (fC p 124).1:=rfl;rw[hw];by_cases O1:124∈p/\(gu (fC p 124).1).2=true/\(mm (fC p 124).2).2=true/\s<(gu (fC p 124).1).1/\(gu (fC p 124).1).1<=60/\(mm (fC p 124).2).1.length<=2
       .have q1:decide ((gu (fC p 124).1).1<=s)=false:=aR (by omega);have q2:decide ((gu (fC p 124).1).1>60)=false:=aR (by omega);have q3:decide (((mm (fC p 124).2).1.length:Int)>2)=false:=aR (by omega);rw[ai O1,ai ⟨rfl,O1.2.1,O1.2.2.1,q1,q2,q3⟩];simp only;rw[az (b:=[((gu (fC p 124).1).1,(mm (fC p 124).2).1)].length) (k:=32) (by omega) (by omega) (by simp only[aZ,bE];omega),ae,ao (by omega)];rfl
       .rw[ah O1,ah (fun h=>O1 ?_)];have q1:decide ((gu (fC p 124).1).1<=s)=false:=h.2.2.2.1;have q2:decide ((gu (fC p 124).1).1>60)=false:=h.2.2.2.2.1;have q3:decide (((mm (fC p 124).2).1.length:Int)>2)=false:=h.2.2.2.2.2;have r1:=afO q1;have r2:=afO q2;have r3:=afO q3;exact⟨hm,h.2.1,h.2.2.1,by omega,by omega,by omega⟩
      .rw[ah hm];unfold ud;rw[ah (fun h=>hm h.1),Cx,aj,show BL F0 (tx [])=_ from at3 (by simp),aj];simp only[ff,af,SS]
     .rw[show((ps.length:Int)+1)=(((p0::ps).map tx).length:Int) by simp,L3,aK,aa,agh]
     .obtain⟨h1,h2⟩:=Xt hf;rw[h2];exact⟨h1.1,h1.2.1⟩
   .rw[aR hp0,ff,af,ai (.inl hp0)]
def Lk {l:List UInt8}(hl:l.length<=1073741824):oE F0 (tx l)=some ((bj l).1,(bj l).2,()):=by
 have hpl:=Jf 47 l;have Ol:=fun p (h:p∈parts 47 l)=>Cz h
 rw[asr,ahP];unfold bj;by_cases h0:l=[]
 .rw[aN h0,ai h0];rfl
 .rw[aR h0,aa,ah h0,show xj F0 (tx l) 47=_ from ap5 47 (by omega),aj];cases hP:parts 47 l with
  |nil=>exact absurd hP (Fo 47 l)
  |cons p0 ps =>
   rw[hP]at hpl Ol;simp only[aZ]at hpl;have ha0:aU ((p0::ps).map tx) 0 ByteArray.empty=tx p0:=rfl;have ho:cr 0 (((p0::ps).map tx).length:Int)=true:=av (k:=0) (by simp);have hlen:((p0::ps).map tx).length=ps.length+1:=by simp
   have hos:SJ 1 (((p0::ps).map tx).length:Int) (((p0::ps).map tx).length:Int)=true:=by rw[hlen];simp only[SJ,aI,cA];omega
   have hdr:((((p0::ps).map tx).take (((p0::ps).map tx).length:Int).toNat).drop (1:Int).toNat)=ps.map tx:=by rw[jw,mB];rfl
   simp only[ho,ae,ha0,ahP,hos,hdr];rw[hlen,aJ (by omega) (by omega)];by_cases hp0:p0=[]
   .by_cases h30:30<ps.length
    .rw[aN hp0,aO,aa,aN (by omega),af,ai (.inr h30)]
    .rw[aN hp0,aO,aa,aR (by omega),aa,ah (by simp[hp0];omega)];have:=QO ud (fun s=>0<=s/\s<=60) ps (fun n s i xs=>Il F0 (Aa F0) n (z8 s (ps.map tx) ((ps.map tx).length:Int) i xs)) (some ([],false,())) (fun xs=>some (xs,true,())) (fun n k s xs p hk hp hs hx=>?_) (fun n s xs hx=>?_) (fun s p s' b hs hf=>?_) F0.n 0 0 [] (aT _) (by rw[cl];omega) ⟨by omega,by omega⟩ rfl
     .simp only[acN,Bk]at this;rw[show((0:Nat):Int)=0 from rfl]at this;rw[this];cases ur ud 0 ps<;>rfl
     .have aQP:=Ol p (ka _ (ata hp));have anB:=amo p 124;have hmx:=apX (fC p 124).1;have htl:=at2 (fC p 124).2;rw[MX,qV,aX hk,af,av hk,ae,awI _ _ hp,show ByteArray.mk #[124]=tx [124] from rfl,wZ 124 (by omega),aj];simp only[Fm,aj];rw[show KA F0 (tx ((p.dropWhile (· != 124)).drop 1))=some ((mm (fC p 124).2).1,(mm (fC p 124).2).2,()) from aBU (by show(fC p 124).2.length<=_;omega),aj];simp only[alp,R8,aj];rw[br5];unfold ud;have hw:(gu (p.takeWhile (· != 124)))=gu (fC p 124).1:=rfl;rw[hw,aJ (n:=s+1) (by omega) (by omega)];by_cases O1:124∈p/\(gu (fC p 124).1).2=true/\(mm (fC p 124).2).2=true/\s<(gu (fC p 124).1).1/\(gu (fC p 124).1).1<=60/\(mm (fC p 124).2).1.length<=2
      .have hin:(decide (s+1<=(gu (fC p 124).1).1)&&decide ((gu (fC p 124).1).1<=60))=true:=by rw[aN (by omega),aN (by omega)];rfl
       rw[ai O1,ai ⟨aN O1.1,O1.2.1,O1.2.2.1,hin,aR (by omega)⟩];simp only;rw[az (b:=[((gu (fC p 124).1).1,(mm (fC p 124).2).1)].length) (k:=32) (by omega) (by omega) (by simp only[aZ,bE];omega),ae,ao (by omega)]
      .rw[ah O1,ah (fun h=>O1 ⟨nW h.1,h.2.1,h.2.2.1,by have:=h.2.2.2.1;rw[aI]at this;have:=nW this.1;omega,by have:=h.2.2.2.1;rw[aI]at this;have:=nW this.2;omega,by have:=afO h.2.2.2.2;omega⟩)]
     .rw[MX,qV,aK,aa,agY]
     .obtain⟨h1,h2⟩:=Xt hf;rw[h2];exact⟨h1.1,h1.2.1⟩
   .rw[aR hp0,ff,af,ai (.inl hp0)]
abbrev nU:=List Int×List Int
def Xu (l:nU):Bool:=decide (l.1.length=4)&&(decide (l.2.length=4)&&(l.1.all (fun n=>inB n 0 400)&&l.2.all (fun n=>inB n 0 100)))
def aaN {a:List Int}(lo hi:Int)(h:a.length<=1048576):rP F0 a lo hi=some (a.all (fun n=>inB n lo hi),()):=by
 rw[aeG];refine dp (fun n i (_:Unit)=>tL F0 (oY F0) n (oX lo hi a (a.length:Int) i)) a.length (fun k _=>∀x∈a.take k,inB x lo hi=true) _ (fun n k _ hk hI=>?_) (fun n _ hI=>?_) F0.n 0 () (aT _) (by simp) (by rw[cl];omega)
 .rw[BA,aX hk,af,av hk,ae,mF,R8,aj];show(br (!inB (a.getD k 0) lo hi) _ _=_)\/∃z':Unit,br (!inB (a.getD k 0) lo hi) _ _=_/\_;cases hb:inB (a.getD k 0) lo hi with
  |false =>
   left;rw[ff,af,Y5];have:a.all (fun n=>inB n lo hi)=false:=afP.2 ⟨_,pf hk 0,by rw[hb];simp⟩;rw[this]
  |true =>
   right;refine⟨(),by rw[aO,aa,ao (by omega)],?_⟩;intro x hx;rw[LN,bm hk 0]at hx;rcases jx.1 hx with hx|hx
   .exact hI x hx
   .simp only[amH,hU]at hx;rw[hx];exact hb
 .rw[mB]at hI;rw[BA,aK,aa,Xk,iU.2 hI]
def aaO {l:nU}(h1:l.1.length<=1048576)(h2:l.2.length<=1048576):u2 F0 l=some (Xu l,()):=by
 rw[aht,aaN 0 400 h1,aaN 0 100 h2];have e:∀n:Nat,((n:Int)==4)=decide (n=4):=fun n=>by
  by_cases h:n=4
  .subst h;rfl
  .rw[aR h];exact ct.2 (by omega)
 simp only[aj,e,aBR];rfl
def aeX {l:nU}:uL F0 l=some (Xu l,()):=by
 rw[ags];have e:∀n:Nat,((n:Int) != 4)= !decide (n=4):=fun n=>by
  by_cases h:n=4
  .subst h;rfl
  .rw[aR h];exact Ew.2 (by omega)
 rw[e,e];unfold Xu;by_cases h1:l.1.length=4
 .by_cases h2:l.2.length=4
  .rw[aN h1,aN h2,aO,aa,aa,hY,hY];refine dp (fun n i (_:Unit)=>vM F0 (qo F0) n (qn i l.1 l.2)) 4 (fun k _=>(∀x∈l.1.take k,inB x 0 400=true)/\∀x∈l.2.take k,inB x 0 100=true) _ (fun n k _ hk hI=>?_) (fun n _ hI=>?_) F0.n 0 () (by omega) (by simp) (by rw[cl];omega)
   .have hk1:k<l.1.length:=by omega
    have hk2:k<l.2.length:=by omega
    rw[EP,show decide ((k:Int)<4)=true from aN (by omega),af,av hk1,ae,mF,aeW,aj,av hk2,ae,mF,aeW,aj];show(br (!inB (l.1.getD k 0) 0 400) _ (br (!inB (l.2.getD k 0) 0 100) _ _)=_)\/∃z':Unit,br (!inB (l.1.getD k 0) 0 400) _ (br (!inB (l.2.getD k 0) 0 100) _ _)=_/\_;cases hb:inB (l.1.getD k 0) 0 400 with
    |false =>
     left;rw[ff,af,J7];have:l.1.all (fun n=>inB n 0 400)=false:=afP.2 ⟨_,pf hk1 0,by rw[hb];simp⟩;rw[this];rfl
    |true =>
     cases hc:inB (l.2.getD k 0) 0 100 with
     |false =>
      left;rw[aO,aa,ff,af,J7];have:l.2.all (fun n=>inB n 0 100)=false:=afP.2 ⟨_,pf hk2 0,by rw[hc];simp⟩;rw[this,UZ]
     |true =>
      right;refine⟨(),by rw[aO,aa,aa,ao (by omega)],?_,?_⟩
      .intro x hx;rw[LN,bm hk1 0]at hx;rcases jx.1 hx with hx|hx
       .exact hI.1 x hx
       .simp only[amH,hU]at hx;rw[hx];exact hb
      .intro x hx;rw[LN,bm hk2 0]at hx;rcases jx.1 hx with hx|hx
       .exact hI.2 x hx
       .simp only[amH,hU]at hx;rw[hx];exact hc
   .rw[amC (by omega),amC (by omega)]at hI;rw[EP,show decide (((4:Nat):Int)<4)=false from rfl,aa,YS,iU.2 hI.1,iU.2 hI.2];rfl
  .rw[aN h1,aR h2];rfl
 .rw[aR h1];rfl
def lT (l:nU)(x:fE):nU×Int :=
 if Xu l=true/\iP x=true then
  if x.2.2.2<aU l.2 x.1 0 then (l,2)
  else if x.2.2.2>aU l.2 x.1 0 then (l,3)
  else if x.2.2.1>aU l.1 x.1 0 then ((l.1,l.2.set x.1.toNat (x.2.2.2+1)),4)
  else if Xu ((l.1.set x.1.toNat (aU l.1 x.1 0-x.2.2.1)).set x.2.1.toNat (aU (l.1.set x.1.toNat (aU l.1 x.1 0-x.2.2.1)) x.2.1 0+x.2.2.1),l.2.set x.1.toNat (x.2.2.2+1))=true
   then (((l.1.set x.1.toNat (aU l.1 x.1 0-x.2.2.1)).set x.2.1.toNat (aU (l.1.set x.1.toNat (aU l.1 x.1 0-x.2.2.1)) x.2.1 0+x.2.2.1),l.2.set x.1.toNat (x.2.2.2+1)),0)
   else (l,1)
 else (l,1)
def ap7 {l:nU}(h:Xu l=true):l.1.length=4/\l.2.length=4/\(∀x∈l.1,0<=x/\x<=400)/\∀x∈l.2,0<=x/\x<=100:=by simp only[Xu,aI,cA,iU,inB]at h;exact⟨h.1,h.2.1,fun x hx=>⟨(h.2.2.1 x hx).1,(h.2.2.1 x hx).2⟩,fun x hx=>⟨(h.2.2.2 x hx).1,(h.2.2.2 x hx).2⟩⟩
def ab2 {l:nU}(h1:l.1.length<=1048576)(h2:l.2.length<=1048576):rk F0 l=some (l,()):=by rw[aob,az (by omega) (by omega) (by omega),ae,az (by omega) (by omega) (by omega),ae];simp
def Xv {l:nU}(h1:l.1.length<=1048576)(h2:l.2.length<=1048576):kV F0 l=some (l,()):=by rw[abY,Ce,Ce,az (by omega) (by omega) (by omega),ae,aj,az (by omega) (by omega) (by omega),ae,aj];simp
def dT {p:Prop}(i:Decidable p)(h:p): @decide p i=true:=aN h
def dF {p:Prop}(i:Decidable p)(h:¬p): @decide p i=false:=aR h
def aEq {a:List Int}{k:Nat}{v:Int}{lo hi:Int}(ha:∀x∈a,lo<=x/\x<=hi)(hv:lo<=v/\v<=hi):∀x∈a.set k v,lo<=x/\x<=hi:=fun x hx=>by
 rcases List.mem_or_eq_of_mem_set hx with h|h
 .exact ha x h
 .rw[h];exact hv
def awK {l:nU}(h1:l.1.length<=1048576)(h2:l.2.length<=1048576)(x:fE):J8 F0 l x=some ((lT l x).1,(lT l x).2,()):=by
 rw[ayJ,ab2 h1 h2,aj,aeX,aj];unfold lT;cases hl:Xu l with
 |false=>rw[ah (by simp)];rfl
 |true =>
  rw[aO,aa,QN,aj];cases hx:iP x with
  |false=>rw[ah (by simp)];rfl
  |true =>
   rw[aO,aa,ai ⟨rfl,rfl⟩];obtain⟨e1,e2,e3,e4⟩:=ap7 hl;obtain⟨q1,q2,q3,q4⟩:=yg hx;have o0:∀(y:Int) (n:Nat),n=4->0<=y->y<=3->cr y (n:Int)=true:=fun y n h h1 h2=>by obtain⟨u,rfl⟩:∃u:Nat,y=u:=⟨y.toNat,by omega⟩;exact av (by omega)
   have o1:=o0 x.1 _ e1 q1.1 q1.2;have o2:=o0 x.1 _ e2 q1.1 q1.2;have o3:∀w,cr x.2.1 ((l.1.set x.1.toNat w).length:Int)=true:=fun w=>o0 x.2.1 _ (by rw[Gv];exact e1) q2.1 q2.2
   simp only[o1,o2,o3,ae];have g1:0<=aU l.1 x.1 0/\aU l.1 x.1 0<=400:=e3 _ (pf (a:=l.1) (k:=x.1.toNat) (by omega) 0);have g2:0<=aU l.2 x.1 0/\aU l.2 x.1 0<=100:=e4 _ (pf (a:=l.2) (k:=x.1.toNat) (by omega) 0);by_cases c1:x.2.2.2<aU l.2 x.1 0
   .rw[dT _ c1,af,ai c1]
   .rw[dF _ c1,aa,ah c1];by_cases c2:x.2.2.2>aU l.2 x.1 0
    .rw[dT _ c2,af,ai c2]
    .rw[dF _ c2,aa,ah c2,aJ (n:=x.2.2.2+1) (by omega) (by omega)];by_cases c3:x.2.2.1>aU l.1 x.1 0
     .rw[dT _ c3,af,ai c3]
     .have g3:0<=aU (l.1.set x.1.toNat (aU l.1 x.1 0-x.2.2.1)) x.2.1 0/\aU (l.1.set x.1.toNat (aU l.1 x.1 0-x.2.2.1)) x.2.1 0<=400:=aEq (k:=x.1.toNat) (v:=aU l.1 x.1 0-x.2.2.1) e3 ⟨by omega,by omega⟩ _ (pf (a:=l.1.set x.1.toNat (aU l.1 x.1 0-x.2.2.1)) (k:=x.2.1.toNat) (by rw[Gv];omega) 0);rw[dF _ c3,aa,ah c3,aJ (n:=aU l.1 x.1 0-x.2.2.1) (by omega) (by omega),aJ (n:=aU (l.1.set x.1.toNat (aU l.1 x.1 0-x.2.2.1)) x.2.1 0+x.2.2.1) (by omega) (by omega),aeX,aj];cases Xu ((l.1.set x.1.toNat (aU l.1 x.1 0-x.2.2.1)).set x.2.1.toNat (aU (l.1.set x.1.toNat (aU l.1 x.1 0-x.2.2.1)) x.2.1 0+x.2.2.1),l.2.set x.1.toNat (x.2.2.2+1)) with
      |false=>rw[ah (by simp),ff,af,aj]
      |true=>rw[ai rfl];rfl
def ap8 {l:nU}(h1:l.1.length<=1048576)(h2:l.2.length<=1048576)(x:fE):La F0 l x=some ((lT l x).1,(lT l x).2,()):=by
 rw[ayU,Xv h1 h2,aj,aaO h1 h2,aj];unfold lT;cases hl:Xu l with
 |false=>rw[ah (by simp)];rfl
 |true =>
  rw[aO,aa,Cy,aj];cases hx:iP x with
  |false=>rw[ah (by simp)];rfl
  |true =>
   rw[aO,aa,ai ⟨rfl,rfl⟩];obtain⟨e1,e2,e3,e4⟩:=ap7 hl;obtain⟨q1,q2,q3,q4⟩:=yg hx;have o0:∀(y:Int) (n:Nat),n=4->0<=y->y<=3->cr y (n:Int)=true:=fun y n h h1 h2=>by obtain⟨u,rfl⟩:∃u:Nat,y=u:=⟨y.toNat,by omega⟩;exact av (by omega)
   have o1:=o0 x.1 _ e1 q1.1 q1.2;have o2:=o0 x.1 _ e2 q1.1 q1.2;have o3:∀w,cr x.2.1 ((l.1.set x.1.toNat w).length:Int)=true:=fun w=>o0 x.2.1 _ (by rw[Gv];exact e1) q2.1 q2.2
   simp only[o1,o2,o3,ae];have g1:0<=aU l.1 x.1 0/\aU l.1 x.1 0<=400:=e3 _ (pf (a:=l.1) (k:=x.1.toNat) (by omega) 0);have g2:0<=aU l.2 x.1 0/\aU l.2 x.1 0<=100:=e4 _ (pf (a:=l.2) (k:=x.1.toNat) (by omega) 0);by_cases c1:x.2.2.2<aU l.2 x.1 0
   .rw[dT _ c1,af,ai c1]
   .rw[dF _ c1,aa,ah c1];by_cases c2:x.2.2.2>aU l.2 x.1 0
    .rw[dT _ c2,af,ai c2]
    .have hnn:aU l.2 x.1 0=x.2.2.2:=by omega
     rw[dF _ c2,aa,ah c2,hnn,aJ (n:=x.2.2.2+1) (by omega) (by omega)];by_cases c3:x.2.2.1>aU l.1 x.1 0
     .rw[dT _ c3,af,ai c3]
     .have g3:0<=aU (l.1.set x.1.toNat (aU l.1 x.1 0-x.2.2.1)) x.2.1 0/\aU (l.1.set x.1.toNat (aU l.1 x.1 0-x.2.2.1)) x.2.1 0<=400:=aEq (k:=x.1.toNat) (v:=aU l.1 x.1 0-x.2.2.1) e3 ⟨by omega,by omega⟩ _ (pf (a:=l.1.set x.1.toNat (aU l.1 x.1 0-x.2.2.1)) (k:=x.2.1.toNat) (by rw[Gv];omega) 0);rw[dF _ c3,aa,ah c3,aJ (n:=aU l.1 x.1 0-x.2.2.1) (by omega) (by omega),aJ (n:=aU (l.1.set x.1.toNat (aU l.1 x.1 0-x.2.2.1)) x.2.1 0+x.2.2.1) (by omega) (by omega),aaO (by simp only[Gv];omega) (by simp only[Gv];omega),aj];cases Xu ((l.1.set x.1.toNat (aU l.1 x.1 0-x.2.2.1)).set x.2.1.toNat (aU (l.1.set x.1.toNat (aU l.1 x.1 0-x.2.2.1)) x.2.1 0+x.2.2.1),l.2.set x.1.toNat (x.2.2.2+1)) with
      |false=>rw[ah (by simp),ff,af,aj]
      |true=>rw[ai rfl];rfl
def ay4 (l:nU)(x:fE):(lT l x).1.1.length=l.1.length/\(lT l x).1.2.length=l.2.length:=by
 unfold lT;split
 .split
  .exact⟨rfl,rfl⟩
  .split
   .exact⟨rfl,rfl⟩
   .split
    .exact⟨rfl,by simp⟩
    .split
     .exact⟨by simp,by simp⟩
     .exact⟨rfl,rfl⟩
 .exact⟨rfl,rfl⟩
def awL:nU:=([100,100,100,100],[0,0,0,0])
def aaP:mY F0=some (awL,()):=by
 have st:∀n (k:Nat) (xs:List Int),k<4->xs.length=k->j3 F0 (km F0) (n+1) (gR (k:Int) [] [] xs [0,0,0,0])=j3 F0 (km F0) n (gR ((k+1:Nat):Int) [] [] (xs++[100]) [0,0,0,0]):=fun n k xs hk hx=>by rw[Bo,show decide ((k:Int)<4)=true from aN (by omega),af,az (a:=xs.length) (b:=[(100:Nat)].length) (k:=8) (by omega) (by omega) (by simp only[aZ,bE];omega),ae,ao (by omega)]
 rw[adG,show okM F0 4 4 8=true from aHL (n:=4) (by omega) (by omega) (by omega),ae];refine dp (fun n i xs=>j3 F0 (km F0) n (gR i [] [] xs [0,0,0,0])) 4 (fun k xs=>xs=List.replicate k 100) _ (fun n k xs hk hI=>.inr ⟨_,st n k xs hk (by rw[hI];simp),by rw[hI,<-List.replicate_succ']⟩) (fun n xs hI=>?_) F0.n 0 [] (by omega) rfl (by rw[cl];omega);rw[Bo,show decide (((4:Nat):Int)<4)=false from rfl,aa,V4,hI];rfl
def Xw:nN F0=some (awL,()):=by
 have st:∀n (k:Nat) (xs:List Int),k<4->xs.length=k->j8 F0 (ku F0) (n+1) (gY (k:Int) [] [] xs [0,0,0,0])=j8 F0 (ku F0) n (gY ((k+1:Nat):Int) [] [] (xs++[100]) [0,0,0,0]):=fun n k xs hk hx=>by rw[Bz,show decide ((k:Int)<4)=true from aN (by omega),af,az (a:=xs.length) (b:=[(100:Nat)].length) (k:=8) (by omega) (by omega) (by simp only[aZ,bE];omega),ae,ao (by omega)]
 rw[aeF,show okM F0 4 4 8=true from aHL (n:=4) (by omega) (by omega) (by omega),ae];refine dp (fun n i xs=>j8 F0 (ku F0) n (gY i [] [] xs [0,0,0,0])) 4 (fun k xs=>xs=List.replicate k 100) _ (fun n k xs hk hI=>.inr ⟨_,st n k xs hk (by rw[hI];simp),by rw[hI,<-List.replicate_succ']⟩) (fun n xs hI=>?_) F0.n 0 [] (by omega) rfl (by rw[cl];omega);rw[Bz,show decide (((4:Nat):Int)<4)=false from rfl,aa,Xj,hI];rfl
def ab3 (l:nU):Prop:=l.1.length=4/\l.2.length=4
def aKi {l:nU}(h:ab3 l)(x:fE):ab3 (lT l x).1:=⟨(ay4 l x).1.trans h.1,(ay4 l x).2.trans h.2⟩
def aaQ {U:Type}{a:List U}{k:Nat}(h:k<a.length)(d:U):aU a (k:Int) d=a[k]:=by rw[mF];simp[List.getD,h]
def aOK (x:fE):(x.1,x.2.1,x.2.2.1,x.2.2.2)=x:=rfl
def rU:nU->List fE->List Int
 |_,[]=>[]|l,x::xs=>(lT l x).2::rU (lT l x).1 xs
def rV:nU->List fE->nU
 |l,[]=>l|l,x::xs=>rV (lT l x).1 xs
def Yo:∀{xs:List fE} {l:nU},ab3 l->ab3 (rV l xs)
 |[],_,h=>h|x::xs,l,h=>Yo (xs:=xs) (aKi h x)
def Sa:∀(xs:List fE) (l:nU),(rU l xs).length=xs.length
 |[],_=>rfl|x::xs,l=>by simp[rU,Sa xs]
def Sb:∀(a b:List fE) (l:nU),rU l (a++b)=rU l a++rU (rV l a) b
 |[],_,_=>rfl|x::a,b,l=>by simp[rU,rV,Sb a b]
def Xx:∀(a:List fE) (x:fE) (l:nU),rV l (a++[x])=(lT (rV l a) x).1
 |[],_,_=>rfl|y::a,x,l=>by simp[rV,Xx a x]
def ap9 {l:nU}(h4:ab3 l){list:List fE}(hl:list.length<=1048576):xX F0 l list=some (rV l list,rU l list,()):=by
 rw[aod,ab2 (by have:=h4.1;omega) (by have:=h4.2;omega),aj];refine dp (fun n i (z:List Int×nU)=>Db F0 (FQ F0) n (vN list i z.1 [] [] z.2.1 z.2.2)) list.length (fun k z=>z.1=rU l (list.take k)/\z.2=rV l (list.take k)) _ (fun n k z hk hI=>.inr ⟨(z.1++[(lT z.2 list[k]).2],(lT z.2 list[k]).1),?_,?_⟩) (fun n z hI=>?_) F0.n 0 ([],l) (aT _) ⟨rfl,rfl⟩ (by rw[cl];omega)
 .obtain⟨h1,h2⟩:=hI;have q4:ab3 z.2:=by rw[h2];exact Yo h4
  have hz:z.1.length<=1048576:=by rw[h1,Sa,bV];omega
  rw[J9,aX hk,af,av hk,ae,aaQ hk]
  try rw[aOK]
  rw[awK (l:=(z.2.1,z.2.2)) (by have:=q4.1;show z.2.1.length<=_;omega) (by have:=q4.2;show z.2.2.length<=_;omega),aj];simp only;rw[az (a:=z.1.length) (b:=[(lT (z.2.1,z.2.2) list[k]).2].length) (k:=8) (by omega) (by omega) (by simp only[aZ,bE];omega),ae,ao (by omega)]
 .obtain⟨h1,h2⟩:=hI;have ht:list.take (k+1)=list.take k++[list[k]]:=by rw[LN,pc hk];rfl
  refine⟨?_,?_⟩
  .rw[ht,Sb,<-h1,<-h2];rfl
  .rw[ht,Xx,<-h2]
 .obtain⟨h1,h2⟩:=hI;rw[mB]at h1 h2;rw[J9,aK,aa,adH,h1,h2]
def aeY:∀{ss:List QQ},(∀s∈ss,awJ s)->(ss.flatMap (·.2)).length<=2*ss.length
 |[],_=>by simp
 |s::ss,h=>by
  have h1:=(h s qU).2.2.1;have h2:=aeY (ss:=ss) fun x hx=>h x (ka _ hx)
  rw[List.flatMap_cons,aL,aZ];omega
def aFG {l:List UInt8}(hl:l.length<=1073741824):xf F0 (tx l)=some ((bj l).1.flatMap (·.2),()):=by
 rw[ar9,Yn hl,aj];have hlen:=rT l;have dZ:=R9 l;generalize hss:(bj l).1=ss at hlen dZ;refine dp (fun n i xs=>HU F0 (J3 F0) n (zk i xs ss)) ss.length (fun k xs=>xs=(ss.take k).flatMap (·.2)) _ (fun n k xs hk hI=>.inr ⟨_,?_,rfl⟩) (fun n xs hI=>?_) F0.n 0 [] (aT _) rfl (by rw[cl];omega)
 .have h1:=(dZ _ (cX hk)).2.2.1;have hx:=aeY (ss:=ss.take k) fun x hx=>dZ x (Zb hx)
  rw[<-hI,bV]at hx;rw[Mn,aX hk,af,av hk,ae,aaQ hk,az (a:=xs.length) (b:=ss[k].2.length) (k:=32) (by omega) (by omega) (by omega),ae,ao (by omega),hI];have hf:(ss.take (k+1)).flatMap (·.2)=(ss.take k).flatMap (·.2)++ss[k].2:=by rw[show ss.take (k+1)=ss.take k++[ss[k]] by rw[LN,pc hk];rfl,List.flatMap_append];simp
  rw[hf]
 .rw[mB]at hI;rw[Mn,aK,aa,agr,hI]
def mg {V:Type}(X:Nat->Int->Option V)(L:Nat)(p:Nat->Bool)(Rt Rf:Option V)(hs:∀n k,k<L->X (n+1) (k:Int)=if p k=true then X n ((k+1:Nat):Int) else Rf)(he:∀n,X (n+1) (L:Int)=Rt)(n:Nat)(hn:L<n) :
  X n 0=if (List.range L).all p=true then Rt else Rf:=by
 refine dp (fun n i (_:Unit)=>X n i) L (fun k _=>∀j,j<k->p j=true) _ (fun n k _ hk h=>?_) (fun n _ h=>?_) n 0 () (aT _) (fun j hj=>absurd hj (SE _)) (by omega)
 .try dsimp only
  rw[hs n k hk];by_cases hp:p k=true
  .rw[ai hp];refine .inr ⟨(),rfl,fun j hj=>?_⟩;by_cases hjk:j=k
   .exact hjk▸hp
   .exact h j (by omega)
  .rw[ah hp,ah]
   .exact .inl rfl
   .intro ha;exact hp (iU.1 ha k (kb.2 hk))
 .try dsimp only
  rw[he,ai];exact iU.2 fun j hj=>h j (kb.1 hj)
def Ll {U:Type}(s:List U)(q:U->Bool)(d:U):(List.range s.length).all (fun k=>q (s.getD k d))=s.all q:=by
 rw[Bool.eq_iff_iff,iU,iU];constructor
 .intro h x hx;obtain⟨i,hi,rfl⟩:=auR.1 hx;have:=h i (kb.2 hi);simpa [List.getD,hi]using this
 .intro h k hk;exact h _ (pf (kb.1 hk) d)
def aMy (s:List Int)(i:Int):(s.all fun x=> !(x==i))= !decide (i∈s):=by rw[Bool.eq_iff_iff,iU];simp only[ais,ct,axQ];exact⟨fun h hi=>h i hi rfl,fun h x hx e=>h (e▸hx)⟩
def ite_not (b:Bool){U:Type}(x y:U):(if (!b)=true then x else y)=if b=true then y else x:=by cases b<;>rfl
def aBW {U:Type}(b:Bool)(x y:U):br b x y=if b=true then x else y:=by cases b<;>rfl
def gv {s:List Int}(h:s.length<=1073741824)(i:Int):dN F0 s i=some (decide (i∈s),()):=by
 rw[aoh,mg (fun n k=>Dg F0 (vT F0) n (vS s i k)) s.length (fun k=> !(s.getD k 0==i)) (some (false,())) (some (true,())) (fun n k hk=>?_) (fun n=>?_) _ (by rw[cl];omega),
  Ll s (fun x=> !(x==i)),aMy,ite_not]
 .by_cases hm:i∈s<;>simp[hm]
 .rw[Kb,aX hk,af,av hk,ae,mF,ao (by omega),ite_not,aBW,agy]
 .rw[Kb,aK,aa,adL]
def awM {s:List Int}(h:s.length<=1073741824)(i:Int):ja F0 s i=some (decide (i∈s),()):=by
 have key:∃j,lL F0 s i=some (j,())/\decide (j>=0)=decide (i∈s):=by
  rw[Qf];have:=dp (fun n k (_:Unit)=>jN F0 (iw F0) n (iv s i (s.length:Int) k)) s.length (fun k _=>∀j,j<k->s.getD j 0≠i)
   (some ((if i∈s then ((s.idxOf i:Nat):Int) else -1),())) (fun n k _ hk hI=>?_) (fun n _ hI=>?_) F0.n 0 () (aT _) (fun j hj=>absurd hj (SE _)) (by rw[cl];omega)
  .refine⟨_,this,?_⟩;by_cases hm:i∈s
   .rw[ai hm,aN hm];exact aN (Int.natCast_nonneg _)
   .rw[ah hm,aR hm];rfl
  .try dsimp only
   rw[qE,aX hk,af,av hk,ae,mF,ao (by omega),LL];by_cases he:i=s.getD k 0
   .left;have hm:i∈s:=he▸pf hk 0;rw[bC.2 he,af,ai hm];have hx:s.idxOf i=k:=by
     have h1:s.idxOf i<s.length:=List.idxOf_lt_length_of_mem hm;have h2:s.getD (s.idxOf i) 0=i:=by simp[List.getD,h1]
     rcases Nat.lt_trichotomy (s.idxOf i) k with hlt|heq|hgt
     .exact absurd h2 (hI _ hlt)
     .exact heq
     .have:=List.not_of_lt_findIdx (p:=(·==i)) (xs:=s) hgt;have h3:s[k]'(by omega)=i:=by rw[he];simp[List.getD,hk]
      simp[h3]at this
    rw[hx]
   .right;rw[ct.2 he,aa];refine⟨(),rfl,fun j hj=>?_⟩;by_cases hjk:j=k
    .exact fun e=>he (hjk▸e.symm)
    .exact hI j (by omega)
  .try dsimp only
   have hm:i ∉ s:=by intro hm;obtain⟨j,hj,e⟩:=auR.1 hm;exact hI j hj (by simp[List.getD,hj,e])
   rw[qE,aK,aa,KJ,ah hm]
 obtain⟨j,h1,h2⟩:=key;rw[KK,h1,aj,h2]
def fN {s:List Int}(h:s.length<=1073741824)(i:Int):er F0 s i=some (decide (i∈s),()):=by rw[apk,awM h,aj]
def al8 (i:Int):List Int->List Int
 |[]=>[i]|x::l=>if x>=i then i::x::l else x::al8 i l
def QR (s:List Int)(i:Int):List Int:=if i∈s then s else al8 i s
def ay5 (i:Int):∀s:List Int,(al8 i s).length=s.length+1
 |[]=>rfl|x::l=>by
  unfold al8;split
  .rfl
  .simp[ay5 i l]
def aqa (s:List Int)(i:Int):(QR s i).length<=s.length+1:=by
 unfold QR;split
 .omega
 .rw[ay5];exact bZ _
def amp {i:Int}:∀{s:List Int} {k:Nat},k<=s.length->(∀j (h:j<s.length),j<k->s[j]<i)->(∀h:k<s.length,¬s[k]<i)->al8 i s=s.take k++i::s.drop k
 |[],k,_,_,_=>by simp[al8]
 |x::l,0,_,_,h=>by have:=h (by simp);simp only[List.getElem_cons_zero]at this;unfold al8;rw[ai (by omega)];rfl
 |x::l,k+1,hk,h1,h2=>by have hx:=h1 0 (by simp) (by omega);simp only[List.getElem_cons_zero]at hx;unfold al8;rw[ah (by omega),List.take_succ_cons,List.drop_succ_cons,Gt,amp (k:=k) (by simpa using hk) (fun j h hj=>h1 (j+1) (by simp only[aZ];omega) (by omega)) (fun h=>h2 (by simp only[aZ];omega))]
def Yp {l h n:Nat}(h1:l<=h)(h2:h<=n):SJ (l:Int) (h:Int) (n:Int)=true:=by simp[SJ];omega
def ab4 {s:List Int}(h:s.length<=1048576)(i:Int):xY F0 s i=some (QR s i,()):=by
 rw[aoi,gv (by omega),aj];unfold QR;by_cases hm:i∈s
 .rw[aN hm,af,ai hm,az (by omega) (by omega) (by omega),ae];rfl
 .rw[aR hm,aa,ah hm];have fin:∀k:Nat,k<=s.length->(∀j (h:j<s.length),j<k->s[j]<i)->(∀h:k<s.length,¬s[k]<i)->vV F0 (.exit 0) (sF s i (k:Int))=some (al8 i s,()):=by
   intro k hk h1 h2;rw[adM,show SJ 0 (k:Int) (s.length:Int)=true from Yp (l:=0) (aT _) hk,ae,jw,jw,show(0:Int).toNat=0 from rfl,acN,Bk,mB,
    az (by omega) (by omega) (by rw[bV];omega),ae,az (by omega) (by omega) (by rw[bV];simp only[aZ,bE];omega),ae,Yp hk (bZ _),ae,
    az (by omega) (by omega) (by rw[aL,bV,bB];simp only[aZ,bE];omega),ae,amp hk h1 h2]
   simp
  refine dp (fun n k (_:Unit)=>Dj F0 (vV F0) n (vU s i k)) s.length (fun k _=>∀j (h:j<s.length),j<k->s[j]<i) _ (fun n k _ hk hI=>?_) (fun n _ hI=>?_) F0.n 0 () (aT _) (fun j _ hj=>absurd hj (SE _)) (by rw[cl];omega)
  .try dsimp only
   rw[Kd,aX hk,af,av hk,ae,aaQ hk,ao (by omega)];by_cases hlt:s[k]<i
   .right;rw[aN hlt,af];refine⟨(),rfl,fun j hj hjk=>?_⟩;by_cases e:j=k
    .subst e;exact hlt
    .exact hI j hj (by omega)
   .left;rw[aR hlt,aa];exact fin k (by omega) hI (fun _=>hlt)
  .try dsimp only
   rw[Kd,aK,aa];exact fin s.length (bZ _) hI (fun h=>absurd h (U0 _))
def o5 {l:List Int}(h:l.length<=1073741824):eW F0 l=some (l,()):=by rw[Ce,az (by omega) (by omega) (by omega),ae];rfl
def ahQ {U:Type}(p:U->Bool):∀(l:List U) (j:Nat),(qW p l (j:Int)=-1/\∀x∈l,p x=false)\/∃k,∃h:k<l.length,qW p l (j:Int)=((j+k:Nat):Int)/\p l[k]=true/\∀i (hi:i<l.length),i<k->p l[i]=false
 |[],j=>.inl ⟨rfl,by simp⟩
 |x::l,j=>by
  unfold qW;cases hp:p x with
  |true=>exact .inr ⟨0,by simp,by simp,by simpa using hp,fun i _ hi=>absurd hi (SE _)⟩
  |false =>
   have e:(j:Int)+1=((j+1:Nat):Int):=by omega
   dsimp only;rw[e];rcases ahQ p l (j+1) with ⟨h1,h2⟩|⟨k,hk,h1,h2,h3⟩
   .refine .inl ⟨h1,fun y hy=>?_⟩;rcases dE.1 hy with rfl|hy
    .exact hp
    .exact h2 y hy
   .refine .inr ⟨k+1,by simpa using hk,by rw[h1];omega,by simpa using h2,fun i hi hik=>?_⟩;cases i with
    |zero=>simpa using hp|succ i=>simpa using h3 i (by simpa using hi) (by omega)
def Jg {k a b:Nat}(h1:k<=a)(h2:1<=b)(h3:a+b<=1073741824):aiR (k:Int) a b=true:=by unfold aiR;rw[aN (show(0:Int)<=k by omega),aN (show(k:Int)<=a by omega),aN (show(1:Int)<=b by omega),aN (show((a+b:Nat):Int)<=1073741824 by omega)];rfl
def ajD {s:List Int}(h:s.length<=1048576)(i:Int):Fc F0 s i=some (QR s i,()):=by
 rw[aps,fN (by omega),aj];unfold QR;by_cases hm:i∈s
 .rw[aN hm,af,ai hm,o5 (by omega),aj]
 .rw[aR hm,aa,ah hm];rcases ahQ (fun e=>geP e i) s 0 with ⟨h1,h2⟩|⟨k,hk,h1,h2,h3⟩
  .have h1:qW (fun e=>geP e i) s 0=-1:=h1;rw[h1,show decide ((-1:Int)<0)=true from rfl,af,o5 (by omega),aj,Jg (bZ _) (by simp) (by simp only[aZ,bE];omega),ae,jw,
    amp (k:=s.length) (bZ _) (fun j hj _=>?_) (fun h=>absurd h (U0 _))]
   .simp
   .have:=afO (h2 s[j] (cX hj));omega
  .have h1:qW (fun e=>geP e i) s 0=((0+k:Nat):Int):=h1;rw[xK]at h1;have h2:=nW h2;rw[h1,show decide (((k:Nat):Int)<0)=false from aR (by omega),aa,o5 (by omega),aj,Jg (k:=k) (a:=s.length) (by omega) (by simp) (by simp only[aZ,bE];omega),ae,jw,
    amp (k:=k) (by omega) (fun j hj hjk=>?_) (fun _=>by omega)]
   .simp
   .have:=afO (h3 j hj hjk);omega
def ix (lo hi x:Int):Bool:=decide (lo<=x)&&decide (x<=hi)
def dG (x lo hi:Int):cg F0 x lo hi=some (ix lo hi x,()):=aeW x lo hi
def cm (x lo hi:Int):bg F0 x lo hi=some (ix lo hi x,()):=R8 x lo hi
def iy {U:Type}{l:List U}{k:Nat}(h:k<l.length):l.take (k+1)=l.take k++[l[k]]:=by rw[LN,pc h];rfl
abbrev cY:=Int×ByteArray×List Int
def bu (l:List UInt8):Bool:=(bj l).2
def aH (l:List UInt8):Int:=match (bj l).1.getLast? with|some s=>s.1|none=>0
def Xy {l:List UInt8}(h:(bj l).2=false):(bj l).1=[]:=by
 unfold bj at h ⊢;split
 .rfl
 .rename_i h0;rw[ah h0]at h;split
  .rfl
  .rename_i hp;rw[hp]at h;dsimp only at h;split
   .rfl
   .rename_i h1;rw[ah h1]at h;split
    .rfl
    .rename_i hr;rw[hr]at h;cases h
def Sc {l:List UInt8}(h:l.length<=1073741824):fL F0 (tx l)=some (bu l,()):=by rw[anO,Yn h,aj];rfl
def NU {l:List UInt8}(h:l.length<=1073741824):fi F0 (tx l)=some (bu l,()):=by rw[ao8,Lk h,aj];rfl
def at4 (ss:List QQ)(hlen:ss.length<=30)(d:QQ:=(0,[])):br ((ss.length:Int)==0) (some ((0:Int),())) (ck (cr (ak ((ss.length:Int)-1)) (ss.length:Int)) (some ((aU ss (ak ((ss.length:Int)-1)) d).1,())))=some ((match ss.getLast? with|some s=>s.1|none=>0),()):=by
 cases hs:ss with
 |nil=>rfl
 |cons s r =>
  rw[<-hs];have h0:ss.length≠0:=by rw[hs];simp
  have h1:((ss.length:Int)==0)=false:=ct.2 (by omega);have h2:ak ((ss.length:Int)-1)=((ss.length-1:Nat):Int):=by rw[aJ (by omega) (by omega)];omega
  rw[h1,aa,h2,av (by omega),ae,aaQ (by omega),List.getLast?_eq_getElem?,pc (by omega)]
def aqb {l:List UInt8}(h:l.length<=1073741824):ep F0 (tx l)=some (aH l,()):=by
 rw[anP,Yn h,aj];dsimp only;cases hb:(bj l).2 with
 |true =>
  rw[aO,aa];exact at4 _ (rT l)
 |false =>
  rw[ff,af];unfold aH;rw[Xy hb];rfl
def ajE {l:List UInt8}(h:l.length<=1073741824):fj F0 (tx l)=some (aH l,()):=by rw[ao9,Lk h,aj];exact at4 _ (rT l)
def pZ (l:List UInt8):0<=aH l/\aH l<=60:=by
 unfold aH;split
 .rename_i s hs;have:=R9 l s (List.mem_of_getLast? hs);exact⟨this.1,this.2.1⟩
 .omega
def bL (c:Int×Int):Bool:=ix 4 7 c.1&&ix 1 6 c.2
def jt (c:Int×Int):eJ F0 c=some (bL c,()):=by rw[anK,dG,aj,dG,aj];unfold bL;dsimp only;cases ix 4 7 c.1<;>rfl
def gF (c:Int×Int):fh F0 c=some (bL c,()):=by rw[ao4,cm,aj,cm,aj];unfold bL;dsimp only;cases ix 4 7 c.1<;>rfl
def cF {c:Int×Int}(h:bL c=true):4<=c.1/\c.1<=7/\1<=c.2/\c.2<=6:=by unfold bL ix at h;simp only[aI,cA]at h;omega
def ay6 {n:Int}(h1:4<=n)(h2:n<=7):1<=Int.tdiv (n-1) 3/\Int.tdiv (n-1) 3<=2:=by
 have:n=4\/n=5\/n=6\/n=7:=by omega
 rcases this with rfl|rfl|rfl|rfl<;>decide
def uv (c:Int×Int):Int:=if bL c=true then Int.tdiv (c.1-1) 3 else 0
def uw (c:Int×Int):Int:=if bL c=true then c.1-Int.tdiv (c.1-1) 3 else 0
def ajF (c:Int×Int):E2 F0 c=some (uv c,()):=by
 rw[apa,gF,aj];unfold uv;dsimp only;cases h:bL c with
 |false=>rfl
 |true =>
  have:=cF h;have h3:=ay6 this.1 this.2.1;have e:ak (c.1-1)=c.1-1:=aJ (by omega) (by omega);rw[aO,aa,e,aJ (by omega) (by omega),ai rfl]
def ajG (c:Int×Int):E3 F0 c=some (uw c,()):=by
 rw[apb,gF,aj,ajF,aj];unfold uw uv;dsimp only;cases h:bL c with
 |false=>rfl
 |true =>
  have:=cF h;have h3:=ay6 this.1 this.2.1;rw[aO,aa,ai rfl,ai rfl,aJ (by omega) (by omega)]
def ab5 (c:Int×Int):xS F0 c=some (uw c,()):=by
 rw[anQ,jt,aj];unfold uw;dsimp only;cases h:bL c with
 |false=>rfl
 |true =>
  have:=cF h;have h3:=ay6 this.1 this.2.1;have e:ak (c.1-1)=c.1-1:=aJ (by omega) (by omega);rw[aO,aa,e,aJ (n:=Int.tdiv (c.1-1) 3) (by omega) (by omega),aJ (by omega) (by omega),ai rfl]
def jA (n:Int)(s:List Int):Bool:=(List.range s.length).all fun k=>decide (0<=s.getD k 0)&&(decide (s.getD k 0<n)&&(decide (k=0) || decide (s.getD (k-1) 0<s.getD k 0)))
def Se {V:Type}{n:Int}{s:List Int}{k:Nat}(hk:k<s.length)(x y:Option V) :
  br (decide (s.getD k 0<0)) x (br (decide (s.getD k 0>=n)) x (br (decide ((k:Int)>0)) (br (decide (s.getD (k-1) 0>=s.getD k 0)) x y) y)) =
  if (decide (0<=s.getD k 0)&&(decide (s.getD k 0<n)&&(decide (k=0) || decide (s.getD (k-1) 0<s.getD k 0))))=true then y else x:=by
 generalize s.getD k 0=a;generalize s.getD (k-1) 0=b;by_cases h1:a<0
 .rw[aN h1,af,aR (show ¬0<=a by omega)];rfl
 .rw[aR h1,aa,aN (show 0<=a by omega),hY];by_cases h2:a>=n
  .rw[aN h2,af,aR (show ¬a<n by omega)];rfl
  .rw[aR h2,aa,aN (show a<n by omega),hY];by_cases h3:k=0
   .subst h3;rfl
   .rw[aN (show(k:Int)>0 by omega),af,aR h3,Jq];by_cases h4:b>=a
    .rw[aN h4,af,aR (show ¬b<a by omega)];rfl
    .rw[aR h4,aa,aN (show b<a by omega)];rfl
def Lm {k:Nat}(h0:0<k)(h:k<=9223372036854775807):ak ((k:Int)-1)=((k-1:Nat):Int):=by rw[aJ (by omega) (by omega)];omega
def ahR {s:List Int}(h:s.length<=1073741824)(n:Int):BM F0 n s=some (jA n s,()):=by
 rw[ar4,mg (fun m k=>yS F0 (yT F0) m (rb n s k)) s.length (fun k=>decide (0<=s.getD k 0)&&(decide (s.getD k 0<n)&&(decide (k=0) || decide (s.getD (k-1) 0<s.getD k 0)))) (some (true,())) (some (false,())) (fun m k hk=>?_) (fun m=>?_) _ (by rw[cl];omega)]
 .show(if jA n s=true then _ else _)=_;cases jA n s<;>rfl
 .rw[L4,aX hk,af,av hk,ae,mF,akq,ae,ao (by omega)];by_cases h0:k=0
  .subst h0;rw[<-Se hk];rfl
  .rw[Lm (by omega) (by omega),av (show k-1<s.length by omega),ae,ae,mF,<-Se hk]
 .rw[L4,aK,aa,agi]
def ab6 {s:List Int}(h:s.length<=1073741824)(n:Int):xk F0 n s=some (jA n s,()):=by
 rw[ass,mg (fun m k=>Ac F0 (Ad F0) m (rB n s s (s.length:Int) k)) s.length (fun k=>decide (0<=s.getD k 0)&&(decide (s.getD k 0<n)&&(decide (k=0) || decide (s.getD (k-1) 0<s.getD k 0)))) (some (true,())) (some (false,())) (fun m k hk=>?_) (fun m=>?_) _ (by rw[cl];omega)]
 .show(if jA n s=true then _ else _)=_;cases jA n s<;>rfl
 .rw[MY,aX hk,af,av hk,ae,mF,alq,ao (by omega)];by_cases h0:k=0
  .subst h0;rw[<-Se hk];rfl
  .rw[Lm (by omega) (by omega),av (show k-1<s.length by omega),ae,mF,<-Se hk]
 .rw[MY,aK,aa,agZ]
def ahS {a b:List Int}(h:a.length<=1073741824):iK F0 a b=some (decide (a=b),()):=by
 rw[P4];by_cases hl:a.length=b.length
 .have e:((a.length:Int) != (b.length:Int))=false:=by rw[hl];exact amI (b.length:Int)
  rw[e,aa,mg (fun m k=>jJ F0 (iu F0) m (ir a b (a.length:Int) k)) a.length (fun k=>a.getD k 0==b.getD k 0) (some (true,())) (some (false,())) (fun m k hk=>?_) (fun m=>?_) _ (by rw[cl];omega)]
  .by_cases hab:a=b
   .rw[aN hab,ai (iU.2 fun k _=>by rw[hab];exact Zc (b.getD k 0))]
   .rw[aR hab,ah];intro mr;refine hab (List.ext_getElem hl fun k h1 h2=>?_);have:=iU.1 mr k (kb.2 h1);simpa [List.getD,h1,h2]using this
  .rw[qB,aX hk,af,av hk,ae,av (hl▸hk),ae,mF,mF,LK,ao (by omega),aBW];by_cases h3:a.getD k 0=b.getD k 0
   .simp[h3]
   .simp[h3]
  .rw[qB,aK,aa,Kw]
 .have e:((a.length:Int) != (b.length:Int))=true:=Ew.2 (by omega);rw[e,af,aR (fun hab=>hl (by rw[hab]))]
def Y9 (c:Int×Int)(q:Int×List UInt8×List Int):Bool:=bL c&&(bu q.2.1&&(decide (aH q.2.1=q.1)&&(if q.2.1=[] then decide (q.2.2=[]) else jA c.1 q.2.2&&decide ((q.2.2.length:Int)>=uw c))))
def awN:al=tx []:=rfl
def aqc {q:cY}(h:q.2.2.length<=1073741824):iN F0 q=some (q,()):=by rw[apj,o5 h,aj]
def aBX {v v':Int}{a b:List UInt8}{s t:List Int}(h:s.length<=1073741824):jV F0 (v,tx a,s) (v',tx b,t)=some ((v==v')&&(decide (a=b)&&decide (s=t)),()):=by rw[WA];dsimp only;rw[Ut,ahS h,aj];cases (v==v')<;>cases decide (a=b)<;>rfl
def ay7 {v:Int}{l:List UInt8}{s:List Int}(hl:l.length<=1073741824)(hs:s.length<=1073741824)(c:Int×Int):kN F0 c (v,tx l,s)=some (Y9 c (v,l,s),()):=by
 rw[avZ,jt,aj];unfold Y9;dsimp only;rw[Sc hl,aj,aqb hl,aj,ahR hs,aj,ab5,aj,awN,Ut];cases bL c with
 |false=>rfl
 |true =>
  cases bu l with
  |false=>rfl
  |true =>
   by_cases hv:aH l=v
   .rw[aN hv,show(aH l != v)=false by rw[hv];exact amI v];by_cases h0:l=[]
    .rw[aN h0,ai h0];cases s with
     |nil=>rfl|cons x r=>rfl
    .rw[aR h0,ah h0];cases jA c.1 s<;>rfl
   .rw[aR hv,show(aH l != v)=true from Ew.2 hv];rfl
def aFH {c:UInt8}{l:List UInt8}(h:parts c l=[[]]):l=[]:=by
 cases l with
 |nil=>rfl
 |cons x l =>
  unfold parts at h;split at h
  .exact absurd (uE h).2 (Fo c l)
  .split at h
   .cases (uE h).1
   .cases (uE h).1
def ay8 {σ V:Type}{f:σ->List UInt8->Option (σ×V)}{I:σ->Prop}{Q:V->Prop}(hf:∀s p s' b,I s->f s p=some (s',b)->Q b/\I s'):∀{l:List (List UInt8)} {s:σ} {r:List V},I s->ur f s l=some r->∀b∈r,Q b
 |[],s,r,_,h,b,hb=>by cases h;cases hb
 |p::l,s,r,hI,h,b,hb=>by
  unfold ur at h;cases hp:f s p with
  |none=>rw[hp]at h;cases h
  |some x =>
   obtain⟨s',b'⟩:=x;rw[hp]at h;obtain⟨h1,h2⟩:=hf s p s' b' hI hp;dsimp only at h;cases hr:ur f s' l with
   |none=>rw[hr]at h;cases h
   |some r' =>
    rw[hr]at h;cases h;rcases dE.1 hb with rfl|hb
    .exact h1
    .exact ay8 hf h2 hr b hb
def awO {l:List UInt8}:∀s∈(bj l).1,1<=s.1:=by
 unfold bj;split
 .simp
 .split
  .simp
  .split
   .simp
   .split
    .simp
    .rename_i hr;refine ay8 (I:=fun s=>0<=s) (Q:=fun b=>1<=b.1) (fun s p s' b hs hf=>?_) (by omega) hr;obtain⟨h1,h2⟩:=Xt hf;unfold ud at hf;split at hf
     .rename_i hc;cases hf;exact⟨by have:=hc.2.2.2.1;show 1<=_;omega,by have:=hc.2.2.2.1;omega⟩
     .cases hf
def aBY {l:List UInt8}(h:bu l=true)(h0:l≠[]):(bj l).1≠[]:=by
 unfold bu at h;unfold bj at h ⊢;rw[ah h0]at h ⊢;cases hp:parts 47 l with
 |nil=>rw[hp]at h;cases h
 |cons p0 ps =>
  rw[hp]at h;dsimp only at h ⊢;split
  .rename_i h1;rw[ai h1]at h;cases h
  .rename_i h1;rw[ah h1]at h;have hp0:p0=[]:=axP fun hne=>h1 (.inl hne)
   cases hr:ur ud 0 ps with
   |none=>rw[hr]at h;cases h
   |some r =>
    dsimp only;intro X8;have hl:=QP hr;rw[X8]at hl;have:ps=[]:=Za hl.symm;subst this hp0;exact h0 (aFH hp)
def aqd {l:List UInt8}(h:bu l=true)(h0:l≠[]):1<=aH l:=by
 have hne:=aBY h h0;unfold aH;cases hs:(bj l).1.getLast? with
 |none=>exact absurd (List.getLast?_eq_none_iff.1 hs) hne|some s=>exact awO s (List.mem_of_getLast? hs)
def aqe:aH []=0:=rfl
def ab7:bu []=true:=rfl
def aIc (c:Int×Int)(v:Int)(l:List UInt8)(s:List Int) :
  (bL c&&(((v==0)&&(decide (l=[])&&decide (s=[]))) || (decide (v>=1)&&(bu l&&((v==aH l)&&(jA c.1 s&&decide ((s.length:Int)>=uw c)))))))=Y9 c (v,l,s):=by
 unfold Y9;dsimp only;cases hc:bL c with
 |false=>rfl
 |true =>
  rw[hY,hY];by_cases h0:l=[]
  .subst h0;rw[aqe,ab7,ai rfl,aN rfl,hY,hY,hY];by_cases hv:v=0
   .subst hv;rw[Zc,aN rfl,aR (show ¬(0:Int)>=1 by omega),Zd,amP]
   .rw[ct.2 hv,aR (show ¬(0:Int)=v from fun h=>hv h.symm)];simp
  .rw[aR h0,Zd,UZ,Jq,ah h0];cases hn:bu l with
   |false=>rw[Zd,Zd,UZ]
   |true =>
    have:=aqd hn h0;by_cases hv:v=aH l
    .rw[aN (show v>=1 by omega),bC.2 hv,aN hv.symm];rfl
    .rw[ct.2 hv,aR (show ¬aH l=v from fun h=>hv h.symm)];simp
def at5 {v:Int}{l:List UInt8}{s:List Int}(hl:l.length<=1073741824)(hs:s.length<=1073741824)(c:Int×Int):nr F0 c (v,tx l,s)=some (Y9 c (v,l,s),()):=by rw[<-aIc,awi,gF,aj,TK,aj];dsimp only;rw[awN,aBX hs,aj,NU hl,aj,ajE hl,aj,ab6 hs,aj,ajG,aj];dsimp only;generalize bu l=b1;generalize aH l=b2;generalize jA c.1 s=b3;generalize decide ((s.length:Int)>=uw c)=b4;generalize decide (v>=1)=b5;generalize ((v==0)&&(decide (l=[])&&decide (s=[])))=b6;generalize (v==b2)=b7;cases bL c<;>cases b1<;>cases b3<;>cases b4<;>cases b5<;>cases b6<;>cases b7<;>rfl
def Xz (c:Int×Int)(p:Int×List UInt8×List Int):Option (Int×List UInt8×List Int):=if p.2.1≠[]/\Y9 c p=true then some p else none
def aEr (o:Option (Int×List UInt8×List Int)):cY×Bool:=match o with
 |some q=>((q.1,tx q.2.1,q.2.2),true)|none=>((0,tx [],[]),false)
def aBZ {v:Int}{l:List UInt8}{s:List Int}(hl:l.length<=1073741824)(hs:s.length<=1073741824)(c:Int×Int):EV F0 c (v,tx l,s)=some ((aEr (Xz c (v,l,s))).1,(aEr (Xz c (v,l,s))).2,()):=by
 rw[aop];dsimp only;rw[az (by omega) (by omega) (by omega),ae,awN,Ut,Bk,ay7 hl hs,aj];unfold Xz;dsimp only;by_cases h0:l=[]
 .rw[aN h0,af,ah (fun h=>h.1 h0)];rfl
 .rw[aR h0,aa];cases hq:Y9 c (v,l,s) with
  |true=>rw[ai ⟨h0,rfl⟩];rfl|false=>rw[ah (fun h=>by cases h.2)];rfl
def aFI {c:Int×Int}{v:Int}{l:List UInt8}{s:List Int}(h:Y9 c (v,l,s)=true):(v==0)=decide (l=[]):=by
 unfold Y9 at h;simp only[aI,cA]at h;obtain⟨_,h1,h2,_⟩:=h;by_cases h0:l=[]
 .subst h0;rw[<-h2];rfl
 .have:=aqd h1 h0;rw[aR h0];exact ct.2 (by omega)
def ay9 {v:Int}{l:List UInt8}{s:List Int}(hl:l.length<=1073741824)(hs:s.length<=1073741824)(c:Int×Int):Fg F0 c (v,tx l,s)=some ((aEr (Xz c (v,l,s))).1,(aEr (Xz c (v,l,s))).2,()):=by
 rw[apu,aqc (q:=(v,tx l,s)) hs,aj];dsimp only;rw[at5 hl hs,aj];unfold Xz;dsimp only;cases hq:Y9 c (v,l,s) with
 |false=>rw[ah (fun h=>by cases h.2)];rfl
 |true =>
  rw[aO,aa,aFI hq];by_cases h0:l=[]
  .rw[aN h0,af,ah (fun h=>h.1 h0)];rfl
  .rw[aR h0,aa,ai ⟨h0,rfl⟩];rfl
def cG (c:Int×Int)(view:Int):Int:=if bL c=true/\0<=view then view%c.1 else -1
def XA (c:Int×Int)(view s:Int):Int:=if bL c=true/\0<=view/\0<=s/\s<=c.1-1 then (view%c.1+s)%c.1 else -1
def cc (c:Int×Int)(view i:Int):Int:=if bL c=true/\0<=view/\0<=i/\i<=c.1-1 then (i+c.1-view%c.1)%c.1 else -1
def QS (c:Int×Int)(view i:Int):Int:=if cc c view i<=0 then -1 else XA c view ((cc c view i-1)/c.2)
def u5 {a b:Int}(h:0<=a):Int.tmod a b=a%b:=amA h
def ne0 {n:Int}(h:4<=n):(!(n==0))=true:=by rw[ct.2 (show n≠0 by omega)];rfl
def amq {lo hi x:Int}:ix lo hi x=decide (lo<=x/\x<=hi):=by unfold ix;by_cases h1:lo<=x<;>by_cases h2:x<=hi<;>simp[h1,h2]
def awP {n:Int}(h1:4<=n)(view:Int):0<=view%n/\view%n<n:=⟨aiw _ (by omega),amE _ (by omega)⟩
def Ln (c:Int×Int)(view:Int):mX F0 c view=some (cG c view,()):=by
 rw[av2,jt,aj];unfold cG;cases hc:bL c with
 |false=>rfl
 |true =>
  have hn:=cF hc;by_cases hv:view<0
  .rw[aN hv,ah (fun h=>by omega)];rfl
  .rw[aR hv,aO,aa,aa,ne0 hn.1,ae,ai ⟨rfl,by omega⟩,u5 (by omega)]
def Jh (c:Int×Int)(view:Int):tD F0 c view=some (cG c view,()):=by
 rw[aws,gF,aj];unfold cG;cases hc:bL c with
 |false=>rfl
 |true =>
  have hn:=cF hc;by_cases hv:view<0
  .rw[aN hv,ah (fun h=>by omega)];rfl
  .rw[aR hv,aO,aa,aa,ne0 hn.1,ae,ai ⟨rfl,by omega⟩,u5 (by omega)]
def XB {n:Int}(h1:4<=n)(h2:n<=7):ak (n-1)=n-1:=aJ (by omega) (by omega)
def aId (c:Int×Int)(view s:Int):Yb F0 c view s=some (XA c view s,()):=by
 rw[av6,jt,aj];unfold XA;cases hc:bL c with
 |false=>rfl
 |true =>
  have hn:=cF hc;have hm:=awP hn.1 view;by_cases hv:view<0
  .rw[aN hv,ah (fun h=>by omega)];rfl
  .rw[aR hv,aO,aa,aa,dG,aj,XB hn.1 hn.2.1,amq];by_cases hs:0<=s/\s<=c.1-1
   .rw[aN hs,aO,aa,ne0 hn.1,ae,ae,ai ⟨rfl,by omega,hs.1,hs.2⟩,u5 (a:=view) (by omega),aJ (by omega) (by omega),u5 (by omega)]
   .rw[aR hs,ah (fun h=>hs ⟨h.2.2.1,h.2.2.2⟩)];rfl
def aFJ (c:Int×Int)(view s:Int):Yj F0 c view s=some (XA c view s,()):=by
 rw[awv,gF,aj];unfold XA;cases hc:bL c with
 |false=>rfl
 |true =>
  have hn:=cF hc;have hm:=awP hn.1 view;by_cases hv:view<0
  .rw[aN hv,ah (fun h=>by omega)];rfl
  .rw[aR hv,aO,aa,aa,cm,aj,XB hn.1 hn.2.1,amq];by_cases hs:0<=s/\s<=c.1-1
   .rw[aN hs,aO,aa,ne0 hn.1,ae,ae,ai ⟨rfl,by omega,hs.1,hs.2⟩,u5 (a:=view) (by omega),aJ (by omega) (by omega),u5 (by omega)]
   .rw[aR hs,ah (fun h=>hs ⟨h.2.2.1,h.2.2.2⟩)];rfl
def XC (c:Int×Int)(view i:Int):Jb F0 c view i=some (cc c view i,()):=by
 rw[av5,jt,aj];unfold cc;cases hc:bL c with
 |false=>rfl
 |true =>
  have hn:=cF hc;have hm:=awP hn.1 view;by_cases hv:view<0
  .rw[aN hv,ah (fun h=>by omega)];rfl
  .rw[aR hv,aO,aa,aa,dG,aj,XB hn.1 hn.2.1,amq];by_cases hs:0<=i/\i<=c.1-1
   .rw[aN hs,aO,aa,ne0 hn.1,ae,ae,ai ⟨rfl,by omega,hs.1,hs.2⟩,u5 (a:=view) (by omega),aJ (n:=i+c.1) (by omega) (by omega),aJ (by omega) (by omega),u5 (by omega)]
   .rw[aR hs,ah (fun h=>hs ⟨h.2.2.1,h.2.2.2⟩)];rfl
def Ji (c:Int×Int)(view i:Int):Jd F0 c view i=some (cc c view i,()):=by
 rw[awu,gF,aj];unfold cc;cases hc:bL c with
 |false=>rfl
 |true =>
  have hn:=cF hc;have hm:=awP hn.1 view;by_cases hv:view<0
  .rw[aN hv,ah (fun h=>by omega)];rfl
  .rw[aR hv,aO,aa,aa,cm,aj,XB hn.1 hn.2.1,amq];by_cases hs:0<=i/\i<=c.1-1
   .rw[aN hs,aO,aa,ne0 hn.1,ae,ae,ai ⟨rfl,by omega,hs.1,hs.2⟩,u5 (a:=view) (by omega),aJ (n:=i-view%c.1) (by omega) (by omega),aJ (by omega) (by omega),u5 (by omega),
     show i-view%c.1+c.1=i+c.1-view%c.1 by omega]
   .rw[aR hs,ah (fun h=>hs ⟨h.2.2.1,h.2.2.2⟩)];rfl
def Yq (c:Int×Int)(view i:Int):-1<=cc c view i/\cc c view i<=6:=by
 unfold cc;split
 .rename_i h;have hn:=cF h.1;have h1:=aiw (i+c.1-view%c.1) (show c.1≠0 by omega);have h2:=amE (i+c.1-view%c.1) (show 0<c.1 by omega);omega
 .omega
def ajH {c:Int×Int}{view i:Int}(h:0<=cc c view i):bL c=true:=by
 unfold cc at h;split at h
 .rename_i hh;exact hh.1
 .omega
def aIe {a b:Int}(h1:0<=a)(h2:a<=6)(h3:1<=b):0<=a/b/\a/b<=6:=⟨Int.ediv_nonneg h1 (by omega),amT (Int.ediv_le_self b h1) h2⟩
def aIf (c:Int×Int)(view i:Int):Yc F0 c view i=some (QS c view i,()):=by
 rw[aBM,XC,aj];unfold QS;have hs:=Yq c view i;by_cases h0:cc c view i<=0
 .rw[aN (show(cc c view i,()).1<=0 from h0),af,ai h0]
 .have hn:=cF (ajH (c:=c) (view:=view) (i:=i) (by omega));have hd:=aIe (a:=cc c view i-1) (b:=c.2) (by omega) (by omega) hn.2.2.1;rw[aR (show ¬(cc c view i,()).1<=0 from h0),aa,ah h0,show(!(c.2==0))=true by rw[ct.2 (show c.2≠0 by omega)];rfl,ae];dsimp only;rw[aJ (n:=cc c view i-1) (by omega) (by omega),amB (show 0<=cc c view i-1 by omega),aJ (by omega) (by omega),aId,aj]
def aEs (c:Int×Int)(view i:Int):Yk F0 c view i=some (QS c view i,()):=by
 rw[aBO,Ji,aj];unfold QS;have hs:=Yq c view i;by_cases h0:cc c view i<=0
 .rw[aN (show(cc c view i,()).1<1 by show cc c view i<1;omega),af,ai h0]
 .have hn:=cF (ajH (c:=c) (view:=view) (i:=i) (by omega));have hd:=aIe (a:=cc c view i-1) (b:=c.2) (by omega) (by omega) hn.2.2.1;rw[aR (show ¬(cc c view i,()).1<1 by show ¬cc c view i<1;omega),aa,ah h0,show(!(c.2==0))=true by rw[ct.2 (show c.2≠0 by omega)];rfl,ae];dsimp only;rw[aJ (n:=cc c view i-1) (by omega) (by omega),amB (show 0<=cc c view i-1 by omega),aJ (by omega) (by omega),aFJ,aj]
def aeZ (a b:List Int):List Int:=b.foldl QR (a.foldl QR [])
def nP:∀(l out:List Int),(l.foldl QR out).length<=out.length+l.length
 |[],out=>by simp
 |x::l,out=>by have h1:=nP l (QR out x);have h2:=aqa out x;rw[amL,aZ];omega
def aFK (a b:List Int):(aeZ a b).length<=a.length+b.length:=by unfold aeZ;have h1:=nP b (a.foldl QR []);have h2:=nP a [];rw[bE]at h2;omega
def Yr {γ:Type}(X:Nat->Int->List Int->Option γ)(l out:List Int)(R:Option γ)(hlen:out.length+l.length<=1048576)(hs:∀n k xs (h:k<l.length),xs.length<=1048575->X (n+1) (k:Int) xs=X n ((k+1:Nat):Int) (QR xs l[k]))
  (he:∀n,X (n+1) (l.length:Int) (l.foldl QR out)=R) (n:Nat) (hn:l.length<n):X n 0 out=R:=by
 refine dp X l.length (fun k xs=>xs=(l.take k).foldl QR out) R (fun n k xs hk h=>.inr ⟨QR xs l[k],hs n k xs hk ?_,?_⟩) (fun n xs h=>?_) n 0 out (aT _) rfl (by omega)
 .have:=nP (l.take k) out;rw[h];rw[bV]at this;omega
 .rw[iy hk,List.foldl_append,<-h];rfl
 .rw[mB]at h;rw[h];exact he n
def aza {a b:List Int}(h:a.length+b.length<=1048576):H3 F0 a b=some (aeZ a b,()):=by
 rw[ak1];have hl:=nP a [];rw[bE]at hl;refine Yr (fun n i xs=>zB F0 (B6 F0) n (sL a b i xs)) a [] _ (by rw[bE];omega) (fun n k xs hk hx=>?_) (fun n=>?_) _ (by rw[cl];omega)
 .rw[GO,aX hk,af,av hk,ae,bF hk,ab4 (by omega),aj,ao (by omega)]
 .rw[GO,aK,aa,abC];refine Yr (fun n i xs=>zA F0 (B5 F0) n (sK b i xs)) b (a.foldl QR []) _ (by omega) (fun n k xs hk hx=>?_) (fun n=>?_) _ (by rw[cl];omega)
  .rw[GN,aX hk,af,av hk,ae,bF hk,ab4 (by omega),aj,ao (by omega)]
  .rw[GN,aK,aa,abB];rfl
def awQ {a b:List Int}(h:a.length+b.length<=1048576):Iz F0 a b=some (aeZ a b,()):=by
 rw[alS];have hl:=nP a [];rw[bE]at hl;refine Yr (fun n i xs=>AK F0 (Cu F0) n (tB b a (a.length:Int) i xs)) a [] _ (by rw[bE];omega) (fun n k xs hk hx=>?_) (fun n=>?_) _ (by rw[cl];omega)
 .rw[Hi,aX hk,af,av hk,ae,bF hk,ajD (by omega),aj,ao (by omega)]
 .rw[Hi,aK,aa,abW];refine Yr (fun n i xs=>AJ F0 (Ct F0) n (tz b (b.length:Int) i xs)) b (a.foldl QR []) _ (by omega) (fun n k xs hk hx=>?_) (fun n=>?_) _ (by rw[cl];omega)
  .rw[Hh,aX hk,af,av hk,ae,bF hk,ajD (by omega),aj,ao (by omega)]
  .rw[Hh,aK,aa,abV];rfl
def mx {i n:Int}(h0:0<=i)(h:i<n):cr i n=true:=by simp[cr];omega
end Go.Am.Tryz
