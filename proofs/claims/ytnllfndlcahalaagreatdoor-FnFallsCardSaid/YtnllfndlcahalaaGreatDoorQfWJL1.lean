/- No condition. -/
import Derived.Test.YtnllfndlcahalaaGreatDoorQfWJG7
import Derived.Lib.MinMaxS
import Derived.Lib.CutLaws
import Derived.Lib.PathFns
import Derived.Lib.SplitLaws
import Derived.Test.YtnllfndlcahalaaGreatDoorQfAmData
set_option linter.all false
namespace Go.Am.Tryz
open Go.Am
def I64 (n:Int):Prop:=-9223372036854775808<=n/\n<=9223372036854775807
def C2 {n:Int}(h:I64 n):kM F0 n=some (tx (Lib.itoa n),()):=by
 rw[anU];by_cases a:n=0
 .subst a;simp only[ZN,ae]
  congr 2
  simp[tx,Lib.itoa,Lib.decDigits]
 .rw[show(n==0)=false from bT.2 a,aa];have r:(Lib.decDigits n.natAbs).length<=20:=by rw[Lib.decDigits_length];exact Lib.nDigits_le20 _ (by obtain⟨f,g⟩:=h;omega)
  refine aDd (fun m (x:Int×List UInt8)=>tN F0 (Gf F0) m (oo x.1 (decide (n<0)) (tx x.2))) _ (fun x=>I64 x.1/\aES x.1.natAbs++x.2=Lib.decDigits n.natAbs) (fun x=>x.1.natAbs) (fun m x p=>?_) _ (n,[]) ⟨h,?_⟩ ?_
  .obtain⟨x,l⟩:=x;obtain⟨⟨f,g⟩,b⟩:=p;simp only at f g b ⊢;have s:l.length<=20:=by have:=oh List.length b;rw[aK]at this;omega
   by_cases k:x=0
   .left;subst k;rw[Kj];simp only[am2,aa,adX];rw[show aES (Int.natAbs 0)=[] from rfl,BH]at b;subst b;by_cases c:n<0
    .rw[aL c,ae,h9 (by rw[bD];have:(ByteArray.mk #[45]).size=1:=rfl;omega),ab,show ByteArray.mk #[45]=tx [45] from rfl,fX];unfold Lib.itoa;rw[ag c];rfl
    .rw[aQ c,aa];unfold Lib.itoa;rw[af c,show n.natAbs=n.toNat by omega]
   .right;have o:x.natAbs%10<10:=abF _ (by omega);have aLg:(Int.tdiv x 10).natAbs=x.natAbs/10:=by rw[Int.natAbs_tdiv];rfl
    have i:I64 (Int.tdiv x 10):=⟨by omega,by omega⟩;have q:=aGD (u:=x.natAbs) (by omega);have j:aj (Int.tdiv x 10)=Int.tdiv x 10:=aI i.1 i.2;refine⟨(Int.tdiv x 10,UInt8.ofNat (48+x.natAbs%10)::l),?_,⟨i,?_⟩,?_⟩
    .rw[Kj,show(x != 0)=true from E3.2 k,ae];have key:tx [UInt8.ofNat (48+x.natAbs%10)]++tx l=tx (UInt8.ofNat (48+x.natAbs%10)::l):=by rw[fX];rfl
     have d:UU F0 (tx [UInt8.ofNat (48+x.natAbs%10)]).size (tx l).size=true:=h9 (by rw[bD,bD];simp only[aW,bj];omega);by_cases t:x<0
     .have e:Int.tmod x 10=-((x.natAbs%10:Nat):Int):=by obtain⟨u,rfl⟩:∃u:Nat,x=-(u:Int):=⟨x.natAbs,by omega⟩;rw[Int.neg_tmod,Int.natAbs_neg,Int.natAbs_natCast];rfl
      by_cases a:x.natAbs%10=0
      .rw[e,a,show decide (-((0:Nat):Int)<0)=false from rfl,aa,show(48+-((0:Nat):Int))=48+((0:Nat):Int) from rfl,dig (by omega)];rw[a]at d key;rw[d,ab,key,j]
      .rw[e,aL (by omega),ae,aI (n:=0 - -((x.natAbs%10:Nat):Int)) (by omega) (by omega),show(0:Int) - -((x.natAbs%10:Nat):Int)=((x.natAbs%10:Nat):Int) by omega,dig o,d,ab,key,j]
     .have e:Int.tmod x 10=((x.natAbs%10:Nat):Int):=by obtain⟨u,rfl⟩:∃u:Nat,x=(u:Int):=⟨x.natAbs,by omega⟩;rfl
      rw[e,aQ (by omega),aa,dig o,d,ab,key,j]
    .simp only;rw[aLg,<-b,q];simp
    .simp only;rw[aLg];omega
  .simp only[fh];unfold aES;rw[af (by omega)]
  .simp only;rw[bB];obtain⟨f,g⟩:=h;omega
def Rj {n:Int}(h:I64 n):kX F0 n=some (tx (Lib.itoa n),()):=by rw[ao3];unfold strconv_Itoa;rw[aL h.1,aL h.2];rfl
def Sr {n:Int}(h:I64 n):(Lib.itoa n).length<=21:=Lib.itoa_length_le n h.1 h.2
def aik {xs:List ByteArray}{l:List (List UInt8)}{s:List UInt8}(h:(xs.map fun b=>b.data.toList)=l)(d:xs.length<=67108864)(e:(Lib.join l s).length<=67108864):strings_Join F0 xs (tx s)=some (tx (Lib.join l s),()):=by have a:decide ((xs.length:Int)<=F0.mem)=true:=aL (show((xs.length:Nat):Int)<=140737488355328 by omega);have c:decide (((Lib.join l s).length:Int)<=F0.mem)=true:=aL (show(((Lib.join l s).length:Nat):Int)<=140737488355328 by omega);unfold strings_Join anN;rw[h,fq,a,c];rfl
def UN (a b:List UInt8):((tx a).toList==(tx b).toList)=decide (a=b):=by
 rw[Lib.toList_data,Lib.toList_data,fq,fq];by_cases h:a=b
 .simp[h]
 .simp[h]
def YR (l:List UInt8)(k:Nat):jO (tx l) (k:Int)=((l.getD k 0).toNat:Int):=by unfold jO;rw[fq];rfl
def aww (c:UInt8):c.toNat<256:=UInt8.toNat_lt c
def isD (c:UInt8):Bool:=decide (48<=c.toNat)&&decide (c.toNat<=57)
def val:List UInt8->Nat->Nat
 |[],n=>n|c::l,n=>val l (10*n+(c.toNat-48))
def fB (l:List UInt8):Int×Bool :=
 if l.length<1\/6<l.length then (0,false)
 else if l.all isD then (if Lib.itoa (val l 0:Int)=l then ((val l 0:Int),true) else (0,false)) else (0,false)
def apP (a b:List UInt8)(n:Nat):val (a++b) n=val b (val a n):=by
 induction a generalizing n with
 |nil=>rfl|cons c l d=>exact d _
def aKb {l:List UInt8}(h:∀c∈l,isD c=true)(n:Nat):val l n<(n+1)*10 ^ l.length:=by
 induction l generalizing n with
 |nil=>simp[val]
 |cons c l a =>
  have b:=a (fun d e=>h d (jN _ e)) (10*n+(c.toNat-48));have f:=h c pZ;simp only[isD,aG,bV]at f;refine E1 b ?_;rw[aW,Nat.pow_succ];have g:10*n+(c.toNat-48)+1<=(n+1)*10:=by omega
  calc (10*n+(c.toNat-48)+1)*10 ^ l.length<=((n+1)*10)*10 ^ l.length:=GY _ g
   _=(n+1)*(10 ^ l.length*10):=by rw[Nat.mul_assoc,Nat.mul_comm 10]
def aGR {l:List UInt8}{k:Nat}(h:k<l.length):val (l.take (k+1)) 0=10*val (l.take k) 0+((l.getD k 0).toNat-48):=by rw[Ml,aJ h 0,apP];rfl
def ail {l:List UInt8}(a:l.length<=6)(h:∀c∈l,isD c=true):val l 0<=999999:=by have b:=aKb h 0;have d:10 ^ l.length<=10 ^ 6:=Nat.pow_le_pow_right (by omega) a;omega
def apQ (l:List UInt8):0<=(fB l).1/\(fB l).1<=999999:=by
 unfold fB;split
 .simp
 .split
  .rename_i d a;have:=ail (l:=l) (by omega) (fun c b=>eb.1 a c b);split
   .simp only;omega
   .simp
  .simp
def ayD {l:List UInt8}(t:1<=l.length)(o:l.length<=6){X:Nat->Int->Int->Option (Int×(Bool×Unit))}{D:Int->Option (ByteArray×Unit)}(p:∀n,I64 n->D n=some (tx (Lib.itoa n),()))
  (q:∀n k (m:Nat),k<l.length->m<=999999->X (n+1) m k=br (decide (((l.getD k 0).toNat:Int)<48)) (some (0,false,())) (br (decide (((l.getD k 0).toNat:Int)>57)) (some (0,false,())) (X n (aj (aj (10*m)+aj ((l.getD k 0).toNat-48))) ((k+1:Nat):Int))))
  (s:∀n (m:Nat),X (n+1) m l.length=(D m).bind fun r=>br (!(r.1.toList==(tx l).toList)) (some (0,false,())) (some ((m:Int),true,()))) (n:Nat) (u:6<n):X n 0 0=some ((fB l).1,(fB l).2,()):=by
 refine cu (fun n i (m:Nat)=>X n m i) l.length (fun k m=>m=val (l.take k) 0/\∀c∈l.take k,isD c=true) _ (fun n k m d f=>?_) (fun n m f=>?_) n 0 0 (aR _) ⟨rfl,by simp⟩ (by omega)
 .obtain⟨rfl,b⟩:=f;have g:=ail (l:=l.take k) (by rw[bz];omega) b;have j:=oj d (0:UInt8);have v:=aww (l.getD k 0);rw[q n k _ d g];by_cases w:(l.getD k 0).toNat<48
  .left;rw[aL (by omega),ae];have:l.all isD=false:=by rw[agt];exact⟨_,j,fun h=>by simp only[isD,aG,bV]at h;omega⟩
   unfold fB;rw[af (by omega),this];rfl
  .by_cases x:(l.getD k 0).toNat>57
   .left;rw[aQ (by omega),aa,aL (by omega),ae];have:l.all isD=false:=by rw[agt];exact⟨_,j,fun h=>by simp only[isD,aG,bV]at h;omega⟩
    unfold fB;rw[af (by omega),this];rfl
   .right;refine⟨val (l.take (k+1)) 0,?_,rfl,?_⟩
    .rw[aQ (by omega),aa,aQ (by omega),aa,aGR d,aI (n:=10*_) (by omega) (by omega),aI (n:=((l.getD k 0).toNat:Int)-48) (by omega) (by omega),aI (by omega) (by omega)]
     congr 1
     omega
    .intro c a;rw[Ml,aJ d 0]at a;rcases gK.1 a with a|a
     .exact b c a
     .simp only[am1,fm]at a;subst a;simp only[isD,aG,bV];omega
 .obtain⟨rfl,b⟩:=f;rw[ki]at b ⊢;have g:=ail o b;rw[s,p _ ⟨by omega,by omega⟩,ai,UN];unfold fB;rw[af (by omega),ag (eb.2 b)];by_cases e:Lib.itoa (val l 0:Int)=l
  .rw[aL e,ag e];rfl
  .rw[aQ e,af e];rfl
def C3 (l:List UInt8):nk F0 (tx l)=some ((fB l).1,(fB l).2,()):=by
 rw[anV,bD];by_cases b:l.length<1
 .rw[aL (by omega),ae];unfold fB;rw[ag (.inl b)]
 .rw[aQ (by omega),aa];by_cases c:6<l.length
  .rw[aL (by omega),ae];unfold fB;rw[ag (.inr c)]
  .rw[aQ (by omega),aa];refine ayD (X:=fun n m k=>Du F0 (uy F0) n (ux (tx l) m k)) (by omega) (by omega) (fun n d=>C2 d) (fun n k m a e=>?_) (fun n m=>?_) _ (by rw[bB];omega)
   .have f:=aww (l.getD k 0);rw[Kl];simp only[bD,YR,agO,aM a,an a,ae,ab,al (show k+1<=9223372036854775807 by omega)]
    congr 2
    congr 2
    rw[aI (n:=10*(m:Int)) (by omega) (by omega),aI (n:=((l.getD k 0).toNat:Int)) (by omega) (by omega),aI (n:=10*(m:Int)+((l.getD k 0).toNat:Int)) (by omega) (by omega),aI (n:=((l.getD k 0).toNat:Int)-48) (by omega) (by omega)]
    congr 1
    omega
   .rw[Kl];simp only[bD,aE,aa,adY]
def FY (l:List UInt8):nq F0 (tx l)=some ((fB l).1,(fB l).2,()):=by
 rw[ao4,bD];by_cases b:l.length<1
 .rw[aL (by omega),ae];unfold fB;rw[ag (.inl b)]
 .rw[aQ (by omega),aa];by_cases c:6<l.length
  .rw[aL (by omega),ae];unfold fB;rw[ag (.inr c)]
  .rw[aQ (by omega),aa];refine ayD (X:=fun n m k=>Ek F0 (vu F0) n (vr (tx l) m k)) (by omega) (by omega) (fun n d=>Rj d) (fun n k m a e=>?_) (fun n m=>?_) _ (by rw[bB];omega)
   .have f:=aww (l.getD k 0);rw[Lc];simp only[bD,YR,aht,aM a,an a,ae,ab,al (show k+1<=9223372036854775807 by omega)];by_cases g:(l.getD k 0).toNat<48
    .rw[aL (by omega),ae,ae]
    .rw[IntWalk.u8_in _ (by omega)]
   .rw[Lc];simp only[bD,aE,aa,aeD]
def apR (l:List UInt8)(k:Nat):(tx l).extract 0 k=tx (l.take k):=by rw[Kd ((tx l).extract 0 k),Lib.Pa.extract_upto_list,fq]
def extract_from (l:List UInt8)(k:Nat):(tx l).extract k (tx l).size=tx (l.drop k):=by rw[Kd ((tx l).extract k (tx l).size),Lib.extract_to_end,fq]
def apS {a b:List UInt8}{c:UInt8}(h:c ∉ a):(a++c::b).takeWhile (· != c)=a/\(a++c::b).dropWhile (· != c)=c::b:=by
 induction a with
 |nil=>simp
 |cons x a d =>
  have e:(x != c)=true:=by simp;rintro rfl;simp at h
  have:=d fun f=>h (jN _ f)
  rw[GZ,List.takeWhile_cons,List.dropWhile_cons,e];exact⟨by simp[this.1],by simp[this.2]⟩
def aJX {a:List UInt8}{c:UInt8}(h:c ∉ a):a.takeWhile (· != c)=a/\a.dropWhile (· != c)=[]:=by
 induction a with
 |nil=>simp
 |cons x a b =>
  have d:(x != c)=true:=by simp;rintro rfl;simp at h
  have:=b fun e=>h (jN _ e)
  rw[List.takeWhile_cons,List.dropWhile_cons,d];exact⟨by simp[this.1],by simp[this.2]⟩
def ayE {l:List UInt8}{k:Nat}(h:k<l.length):l=l.take k++l.getD k 0::l.drop (k+1):=by
 have:l.getD k 0=l[k]:=by simp[List.getD,h]
 rw[this,List.getElem_cons_drop,ZM]
def atM {l:List UInt8}(c:UInt8)(s:l.length<=4294967296) :
  ib F0 (tx l) (c.toNat:Int)=some (if c∈l then (tx (l.takeWhile (· != c)),tx ((l.dropWhile (· != c)).drop 1),true,()) else (tx [],tx [],false,())):=by
 rw[arY];refine cu (fun n i (_:Unit)=>Ia F0 (yo F0) n (yn (tx l) (c.toNat:Int) i)) l.length (fun k _=>c ∉ l.take k) _ (fun n k _ d a=>?_) (fun n _ a=>?_) F0.n 0 () (aR _) (by simp) (by rw[bB];omega)
 .rw[Mv,bD,aM d,ae,an d,ab,YR];by_cases e:l.getD k 0=c
  .left;have f:=ayE d;rw[e]at f;have j:=apS (b:=l.drop (k+1)) a;have g:((((l.getD k 0).toNat:Int))==(c.toNat:Int))=true:=by rw[e];simp
   have m:RZ 0 (k:Int) (l.length:Int)=true:=by simp[RZ];omega
   have o:RZ ((k+1:Nat):Int) (l.length:Int) (l.length:Int)=true:=by simp only[RZ,aG,bV];omega
   rw[g,ae,m,ab,al (by omega),o,ab,akJ];simp only[gr,show(0:Int).toNat=0 from rfl];have p:c∈l:=by rw[f];simp
   rw[ag p,apR,show((tx l).extract (k+1) l.length)=tx (l.drop (k+1)) by rw[<-extract_from,bD]];have q:l.takeWhile (· != c)=l.take k:=by
    have:=j.1
    rwa [<-f]at this
   have r:(l.dropWhile (· != c)).drop 1=l.drop (k+1):=by have:=j.2;rw[<-f]at this;rw[this];rfl
   rw[q,r]
  .right;have g:((((l.getD k 0).toNat:Int))==(c.toNat:Int))=false:=by refine bT.2 fun h=>e (UInt8.toNat_inj.1 (by omega))
   refine⟨(),by rw[g,aa,al (by omega)],?_⟩;rw[Ml,aJ d 0];simp only[am1,gK,fm];rintro(h|h)
   .exact a h
   .exact e h.symm
 .rw[ki]at a;rw[Mv,bD,aE,aa,agN,af a];rfl
def aft {a b:List UInt8}{c:UInt8}(h:c ∉ a):Lib.indexByte (a++c::b) c=a.length:=by
 induction a with
 |nil=>simp[Lib.indexByte]
 |cons x a d =>
  have e:(x==c)=false:=by simp;rintro rfl;simp at h
  have:=d fun f=>h (jN _ f)
  rw[GZ];unfold Lib.indexByte;rw[e,this];simp
def afu {a:List UInt8}{c:UInt8}(h:c ∉ a):Lib.indexByte a c=-1:=by
 induction a with
 |nil=>rfl
 |cons x a b =>
  have d:(x==c)=false:=by simp;rintro rfl;simp at h
  have:=b fun e=>h (jN _ e)
  unfold Lib.indexByte;rw[d,this];rfl
def afv {l:List UInt8}{c:UInt8}(h:c∈l):∃a b,l=a++c::b/\c ∉ a:=by
 induction l with
 |nil=>cases h
 |cons x l g =>
  by_cases d:x=c
  .exact⟨[],l,by rw[d];rfl,by simp⟩
  .rcases cT.1 h with e|e
   .exact absurd e.symm d
   .obtain⟨a,b,i,j⟩:=g e;exact⟨x::a,b,by rw[i];rfl,fun k=>by
     rcases cT.1 k with f|f
     .exact d f.symm
     .exact j f⟩
def aIK (l:List UInt8)(c:UInt8):Lib.cut l [c]=(l.takeWhile (· != c),(l.dropWhile (· != c)).drop 1,decide (c∈l)):=by
 unfold Lib.cut;rw[Lib.index_one];by_cases h:c∈l
 .obtain⟨a,b,rfl,d⟩:=afv h;rw[aft d,ag (by omega),(apS d).1,(apS d).2];simp[auT,List.drop_append]
 .rw[afu h,af (by omega),(aJX h).1,(aJX h).2];simp[h]
def v8 {l:List UInt8}(c:UInt8)(a:l.length<4294967281):strings_Cut F0 (tx l) (tx [c])=some (tx (l.takeWhile (· != c)),tx ((l.dropWhile (· != c)).drop 1),decide (c∈l),()):=by
 have h:Nat.blt (tx l).size 4294967281=true:=by rw[bD];simpa using a
 unfold strings_Cut;rw[h,ab,fq,fq,aIK];rfl
abbrev dH:=Int×(Int×(Int×Int))
def afw (x lo hi:Int):bN F0 x lo hi=some (decide (lo<=x)&&decide (x<=hi),()):=by
 rw[avL];by_cases h:lo<=x
 .rw[aL (show x>=lo from h),ae,eD]
 .rw[aQ (show ¬x>=lo from h),aa,ZP]
def Ss (x lo hi:Int):aZ F0 x lo hi=some (decide (lo<=x)&&decide (x<=hi),()):=by
 rw[ao1];by_cases h:lo<=x
 .rw[aL (show x>=lo from h),ae,eD]
 .rw[aQ (show ¬x>=lo from h),aa,ZP]
def inB (x lo hi:Int):Bool:=decide (lo<=x)&&decide (x<=hi)
def gn (x:dH):Bool:=inB x.1 0 3&&inB x.2.1 0 3&&inB x.2.2.1 0 1000&&inB x.2.2.2 0 99
def aBl (a b:Bool):br a (some (b,())) (some (false,()))=some (a&&b,()):=by cases a<;>rfl
def Rk (x:dH):rQ F0 x=some (gn x,()):=by rw[avM];simp only[afw,ai,aBl];simp only[gn,inB,Bool.and_assoc]
def C4 (x:dH):oY F0 x=some (gn x,()):=by rw[av4];simp only[Ss,ai,aBl];simp only[gn,inB,Bool.and_assoc]
def mW {x:dH}(h:gn x=true):(0<=x.1/\x.1<=3)/\(0<=x.2.1/\x.2.1<=3)/\(0<=x.2.2.1/\x.2.2.1<=1000)/\(0<=x.2.2.2/\x.2.2.2<=99):=by simp only[gn,inB,aG,bV]at h;exact⟨h.1.1.1,h.1.1.2,h.1.2,h.2⟩
def txL (x:dH):List UInt8:=Lib.itoa x.1++62::(Lib.itoa x.2.1++58::(Lib.itoa x.2.2.1++35::Lib.itoa x.2.2.2))
def apT {x:dH}(h:gn x=true):(txL x).length<=90:=by obtain⟨a,b,c,d⟩:=mW h;have e:=Sr (n:=x.1) ⟨by omega,by omega⟩;have f:=Sr (n:=x.2.1) ⟨by omega,by omega⟩;have g:=Sr (n:=x.2.2.1) ⟨by omega,by omega⟩;have i:=Sr (n:=x.2.2.2) ⟨by omega,by omega⟩;simp only[txL,aK,aW];omega
def acL (x:dH):List UInt8:=if gn x=true then txL x else []
def apU (x:dH):wV F0 x=some (tx (acL x),()):=by
 rw[anW,Rk,ai];unfold acL;cases h:gn x with
 |false=>rfl
 |true =>
  obtain⟨f,g,i,j⟩:=mW h;have a:=C2 (n:=x.1) ⟨by omega,by omega⟩;have b:=C2 (n:=x.2.1) ⟨by omega,by omega⟩;have c:=C2 (n:=x.2.2.1) ⟨by omega,by omega⟩;have d:=C2 (n:=x.2.2.2) ⟨by omega,by omega⟩;have e:=apT h;simp only[txL,aK,aW]at e;simp only[aN,aa,a,b,c,d,ai,show ByteArray.mk #[62]=tx [62] from rfl,show ByteArray.mk #[58]=tx [58] from rfl,show ByteArray.mk #[35]=tx [35] from rfl,fX,bD];rw[h9 (by simp only[aK,aW,bj];omega),ab,h9 (by simp only[aK,aW,bj];omega),ab,h9 (by simp only[aK,aW,bj];omega),ab,h9 (by simp only[aK,aW,bj];omega),ab,h9 (by simp only[aK,aW,bj];omega),ab,h9 (by simp only[aK,aW,bj];omega),ab];simp[txL]
def aj3 (x:dH):Fw F0 x=some (tx (acL x),()):=by
 rw[ao5,C4,ai];unfold acL;cases h:gn x with
 |false=>rfl
 |true =>
  obtain⟨f,g,i,j⟩:=mW h;have a:=Rj (n:=x.1) ⟨by omega,by omega⟩;have b:=Rj (n:=x.2.1) ⟨by omega,by omega⟩;have c:=Rj (n:=x.2.2.1) ⟨by omega,by omega⟩;have d:=Rj (n:=x.2.2.2) ⟨by omega,by omega⟩;have e:=apT h;simp only[txL,aK,aW]at e;simp only[aN,aa,a,b,c,d,ai,show ByteArray.mk #[62]=tx [62] from rfl,show ByteArray.mk #[58]=tx [58] from rfl,show ByteArray.mk #[35]=tx [35] from rfl,fX,bD];rw[h9 (by simp only[aK,aW,bj];omega),ab,h9 (by simp only[aK,aW,bj];omega),ab,h9 (by simp only[aK,aW,bj];omega),ab,h9 (by simp only[aK,aW,bj];omega),ab,h9 (by simp only[aK,aW,bj];omega),ab,h9 (by simp only[aK,aW,bj];omega),ab];simp[txL]
def aDS (u:Nat):∀c∈Lib.decDigits u,isD c=true:=by
 induction u using Nat.strongRecOn with
 |ind u d =>
  intro c a;rw[Lib.decDigits]at a;have key:∀v:Nat,v<10->isD (UInt8.ofNat (48+v))=true:=fun v e=>by
   have:(UInt8.ofNat (48+v)).toNat=48+v:=by rw[UInt8.toNat_ofNat'];omega
   simp only[isD,this,aG,bV];omega
  by_cases b:u<10
  .rw[dif_pos b,fm]at a;rw[a];exact key u b
  .rw[dif_neg b]at a;rcases gK.1 a with a|a
   .exact d (u/10) (by omega) c a
   .rw[fm]at a;rw[a];exact key _ (abF _ (by omega))
def aIL (u:Nat):val (Lib.decDigits u) 0=u:=by
 induction u using Nat.strongRecOn with
 |ind u b =>
  have key:∀v:Nat,v<10->(UInt8.ofNat (48+v)).toNat=48+v:=fun v c=>by rw[UInt8.toNat_ofNat'];omega
  rw[Lib.decDigits];by_cases a:u<10
  .rw[dif_pos a];simp only[val,key u a];omega
  .rw[dif_neg a,apP,b (u/10) (by omega)];simp only[val,key (u%10) (abF _ (by omega))];omega
def aIM {k:Nat}:∀{u:Nat},u<10 ^ (k+1)->1<=(Lib.decDigits u).length/\(Lib.decDigits u).length<=k+1:=by
 induction k with
 |zero =>
  intro u a;rw[Lib.decDigits,dif_pos (by omega)];simp
 |succ k c =>
  intro u a;rw[Lib.decDigits];by_cases b:u<10
  .rw[dif_pos b];simp
  .rw[dif_neg b];have:=c (u:=u/10) (by rw[Nat.pow_succ]at a;omega);rw[aK,cS];omega
def apV (u:Nat):Lib.itoa (u:Int)=Lib.decDigits u:=Lib.itoa_nonneg u
def xV {n:Int}(a:0<=n)(b:n<=999999):fB (Lib.itoa n)=(n,true):=by obtain⟨u,rfl⟩:∃u:Nat,n=u:=⟨n.toNat,by omega⟩;rw[apV];have c:=aIM (k:=5) (u:=u) (by omega);unfold fB;rw[af (by omega),ag (eb.2 (aDS u)),aIL,apV,ag rfl]
def ain {n:Int}(b:0<=n){c:UInt8}(a:isD c=false):c ∉ Lib.itoa n:=by obtain⟨u,rfl⟩:∃u:Nat,n=u:=⟨n.toNat,by omega⟩;rw[apV];intro h;rw[aDS u c h]at a;cases a
def Bv (l:List UInt8)(c:UInt8):List UInt8×List UInt8:=if c∈l then (l.takeWhile (· != c),(l.dropWhile (· != c)).drop 1) else ([],[])
def eL (l:List UInt8)(c:UInt8):List UInt8×List UInt8:=(l.takeWhile (· != c),(l.dropWhile (· != c)).drop 1)
def aio (l:List UInt8):dH:=((fB (Bv l 62).1).1,(fB (Bv (Bv l 62).2 58).1).1,(fB (Bv (Bv (Bv l 62).2 58).2 35).1).1,(fB (Bv (Bv (Bv l 62).2 58).2 35).2).1)
def aBm (l:List UInt8):dH:=((fB (eL l 62).1).1,(fB (eL (eL l 62).2 58).1).1,(fB (eL (eL (eL l 62).2 58).2 35).1).1,(fB (eL (eL (eL l 62).2 58).2 35).2).1)
def awx {a b:List UInt8}{c:UInt8}(h:c ∉ a):Bv (a++c::b) c=(a,b):=by unfold Bv;rw[ag (by simp),(apS h).1,(apS h).2];rfl
def awy {a b:List UInt8}{c:UInt8}(h:c ∉ a):eL (a++c::b) c=(a,b):=by unfold eL;rw[(apS h).1,(apS h).2];rfl
def aGS {x:dH}(h:gn x=true):aio (txL x)=x:=by obtain⟨a,b,c,d⟩:=mW h;unfold aio txL;rw[awx (ain a.1 (by decide)),awx (ain b.1 (by decide)),awx (ain c.1 (by decide))];simp only[xV a.1 (by omega),xV b.1 (by omega),xV c.1 (by omega),xV d.1 (by omega)]
def ayF {x:dH}(h:gn x=true):aBm (txL x)=x:=by obtain⟨a,b,c,d⟩:=mW h;unfold aBm txL;rw[awy (ain a.1 (by decide)),awy (ain b.1 (by decide)),awy (ain c.1 (by decide))];simp only[xV a.1 (by omega),xV b.1 (by omega),xV c.1 (by omega),xV d.1 (by omega)]
def ZJ (l:List UInt8):dH×Bool:=if gn (aio l)=true/\txL (aio l)=l then (aio l,true) else ((0,0,0,0),false)
def ayG (l:List UInt8)(c:UInt8):((l.dropWhile (· != c)).drop 1).length<=l.length:=by rw[bc];have:=(List.dropWhile_sublist (l:=l) (· != c)).length_le;omega
def awz (l:List UInt8)(c:UInt8):(Bv l c).2.length<=l.length:=by
 unfold Bv;split
 .exact ayG l c
 .simp
def amG (l:List UInt8)(c:UInt8):(eL l c).2.length<=l.length:=ayG l c
def apW {l:List UInt8}(c:UInt8)(a:l.length<=4294967296):∃b,ib F0 (tx l) (c.toNat:Int)=some (tx (Bv l c).1,tx (Bv l c).2,b,()):=by
 rw[atM c a];unfold Bv;split
 .exact⟨_,rfl⟩
 .exact⟨_,rfl⟩
def aGT {l:List UInt8}(g:l.length<=4294967280):YD F0 (tx l)=some ((ZJ l).1,(ZJ l).2,()):=by
 obtain⟨i,c⟩:=apW (l:=l) 62 (by omega);obtain⟨j,d⟩:=apW (l:=(Bv l 62).2) 58 (by have:=awz l 62;omega);obtain⟨k,e⟩:=apW (l:=(Bv (Bv l 62).2 58).2) 35 (by have:=awz l 62;have:=awz (Bv l 62).2 58;omega);rw[avN];rw[show ib F0 (tx l) 62=_ from c,ai,show ib F0 _ 58=_ from d,ai,show ib F0 _ 35=_ from e,ai,C3,ai,C3,ai,C3,ai,C3,ai,show ak=tx [] from rfl,UN];have f:((fB (Bv l 62).1).1,(fB (Bv (Bv l 62).2 58).1).1,(fB (Bv (Bv (Bv l 62).2 58).2 35).1).1,(fB (Bv (Bv (Bv l 62).2 58).2 35).2).1)=aio l:=rfl;simp only[f,apU,ai,UN];unfold ZJ acL;by_cases df:gn (aio l)=true
 .rw[ag df];by_cases a:txL (aio l)=l
  .have b:¬l=[]:=by rw[<-a];simp[txL]
   rw[ag ⟨df,a⟩,aQ b,aa,aL a];rfl
  .rw[af (fun h=>a h.2),aQ a];cases decide (l=[])<;>rfl
 .rw[af df,af (fun h=>df h.1)];by_cases b:l=[]
  .rw[aL b];rfl
  .rw[aQ b,aa,aQ (fun h=>b h.symm)];rfl
def aEY {l:List UInt8}(h:l.length<4294967281):YI F0 (tx l)=some ((ZJ l).1,(ZJ l).2,()):=by
 have i:=v8 (l:=l) 62 h;have t:=amG l 62;have u:=amG (eL l 62).2 58;have j:=v8 (l:=(eL l 62).2) 58 (by omega);have k:=v8 (l:=(eL (eL l 62).2 58).2) 35 (by omega);rw[av5];rw[show ByteArray.mk #[62]=tx [62] from rfl,i,ai,show ByteArray.mk #[58]=tx [58] from rfl];rw[show strings_Cut F0 (tx ((l.dropWhile (· != 62)).drop 1)) (tx [58])=_ from j,ai,show ByteArray.mk #[35]=tx [35] from rfl];rw[show strings_Cut F0 (tx (((eL l 62).2.dropWhile (· != 58)).drop 1)) (tx [35])=_ from k,ai];have m:=fun (a b c d:ByteArray)=>(show aH [a,b,c,d] 0 ByteArray.empty=a from rfl)
 have n:=fun (a b c d:ByteArray)=>(show aH [a,b,c,d] 1 ByteArray.empty=b from rfl)
 have o:=fun (a b c d:ByteArray)=>(show aH [a,b,c,d] 2 ByteArray.empty=c from rfl)
 have p:=fun (a b c d:ByteArray)=>(show aH [a,b,c,d] 3 ByteArray.empty=d from rfl)
 rw[show bE 0 4=true from rfl,ab,m,FY,ai,show bE 1 4=true from rfl,ab,n,FY,ai,show bE 2 4=true from rfl,ab,o,FY,ai,show bE 3 4=true from rfl,ab,p,FY,ai];have q:((fB (l.takeWhile (· != 62))).1,(fB ((eL l 62).2.takeWhile (· != 58))).1,(fB ((eL (eL l 62).2 58).2.takeWhile (· != 35))).1,(fB (((eL (eL l 62).2 58).2.dropWhile (· != 35)).drop 1)).1)=aBm l:=rfl;simp only[q,C4,aj3,ai,UN];unfold ZJ acL;by_cases df:gn (aBm l)=true
 .rw[ag df,df];by_cases e:txL (aBm l)=l
  .have r:aio l=aBm l:=by have:=aGS df;rw[e]at this;exact this
   rw[r,ag ⟨df,e⟩,aL e];rfl
  .have:¬(gn (aio l)=true/\txL (aio l)=l):=by rintro⟨f,g⟩;have:=ayF f;rw[g]at this;rw[this]at e;exact e g
   rw[af this,aQ e];rfl
 .have:¬(gn (aio l)=true/\txL (aio l)=l):=by rintro⟨f,g⟩;have:=ayF f;rw[g]at this;rw[this]at df;exact df f
  rw[af this];have s:gn (aBm l)=false:=by simpa using df
  rw[s];rfl
def aGU (l:List UInt8):gn (ZJ l).1=true:=by
 unfold ZJ;split
 .rename_i a;exact a.1
 .rfl
def parts (c:UInt8):List UInt8->List (List UInt8)
 |[]=>[[]]|x::l=>if x=c then []::parts c l else match parts c l with
  |p::a=>(x::p)::a|[]=>[[x]]
def FZ (c:UInt8)(l:List UInt8):parts c l≠[]:=by
 cases l with
 |nil=>simp[parts]
 |cons x l =>
  unfold parts;split
  .simp
  .split<;>simp
def apX {c:UInt8}{a:List UInt8}(h:c ∉ a):parts c a=[a]:=by
 induction a with
 |nil=>rfl
 |cons x a b =>
  have d:¬x=c:=by rintro rfl;simp at h
  unfold parts;rw[af d,b fun e=>h (jN _ e)]
def ayH {c:UInt8}{a b:List UInt8}(h:c ∉ a):parts c (a++c::b)=a::parts c b:=by
 induction a with
 |nil =>
  rw[BH]
  conv=>lhs;unfold parts
  rw[ag rfl]
 |cons x a d =>
  have e:¬x=c:=by rintro rfl;simp at h
  rw[GZ]
  conv=>lhs;unfold parts
  rw[af e,d fun f=>h (jN _ f)]
def JL (c:UInt8)(l:List UInt8):(parts c l).length<=l.length+1:=by
 induction l with
 |nil=>simp[parts]
 |cons x l a =>
  unfold parts;split
  .simp only[aW];omega
  .split
   .rename_i p b h;rw[h]at a;simp only[aW]at a ⊢;omega
   .simp
def C5 {c:UInt8}:∀{l p:List UInt8},p∈parts c l->p.length<=l.length
 |[],p,h=>by simp only[parts,fm]at h;rw[h];simp
 |x::l,p,h=>by
  unfold parts at h;split at h
  .rcases cT.1 h with rfl|h
   .simp
   .have:=C5 h;simp only[aW];omega
  .split at h
   .rename_i q b a;rcases cT.1 h with rfl|h
    .have:=C5 (c:=c) (l:=l) (p:=q) (by rw[a];simp);simp only[aW];omega
    .have:=C5 (c:=c) (l:=l) (p:=p) (by rw[a];simp[h]);simp only[aW];omega
   .rw[fm]at h;rw[h];simp
def On (l:List UInt8)(a b:Nat):(tx l).extract a b=tx ((l.drop a).take (b-a)):=by rw[Kd ((tx l).extract a b),Lib.extract_data,fq]
def atN {l:List UInt8}(c:UInt8)(w:l.length<=4294967296):we F0 (tx l) (c.toNat:Int)=some ((parts c l).map tx,()):=by
 have x:=JL c l;rw[arX];refine cu (fun n i (z:Nat×List ByteArray)=>rP F0 (Kg F0) n (l2 (tx l) (c.toNat:Int) (z.1:Int) i z.2)) (l.length+1)
  (fun k z=>if k<=l.length then ∃done:List (List UInt8),z.2=done.map tx/\parts c l=done++parts c (l.drop z.1)/\z.1<=k/\c ∉ (l.drop z.1).take (k-z.1) else z.2=(parts c l).map tx) _ (fun n k z y d=>.inr ?_) (fun n z d=>?_) F0.n 0 (0,[]) (aR _) ?_ (by rw[bB];omega)
 .obtain⟨a,xs⟩:=z;rw[ag (by omega)]at d;obtain⟨done,rfl,e,p,f⟩:=d;simp only at e p f;have A:done.length+1<=l.length+1:=by have g:=oh List.length e;have B:0<(parts c (l.drop a)).length:=List.length_pos_iff.2 (FZ c _);rw[aK]at g;omega
  have q:decide ((k:Int)<=(l.length:Int))=true:=aL (by omega);rw[Mu,bD,q,ae];have r:RZ (a:Int) (k:Int) (l.length:Int)=true:=by simp only[RZ,aG,bV];omega
  have s:∀b:ByteArray,en F0 (done.map tx).length [b].length 16=true:=fun b=>ar (by omega) (by omega) (by rw[nh];simp only[aW,bj];omega)
  simp only[gr,On,r,s,ab,al (show k+1<=9223372036854775807 by omega)];by_cases t:k=l.length
  .subst t;rw[ZN,ae];refine⟨(l.length+1,(parts c l).map tx),?_,by rw[af (by omega)]⟩;have u:(l.drop a).take (l.length-a)=l.drop a:=ai2 (by rw[bc];omega);rw[u]at f ⊢;rw[e,apX f];simp
  .have hlt:k<l.length:=by omega
   have v:(((k:Nat):Int)==(l.length:Int))=false:=bT.2 (by omega);rw[v,aa,an hlt,ab,YR];have m:l.drop a=(l.drop a).take (k-a)++l.getD k 0::l.drop (k+1):=by
    have:=ayE (l:=l.drop a) (k:=k-a) (by rw[bc];omega);have o:(l.drop a).getD (k-a) 0=l.getD k 0:=by simp only[BG,ai5];rw[show a+(k-a)=k by omega]
    rw[o,am5,show a+(k-a+1)=k+1 by omega]at this;exact this
   by_cases j:l.getD k 0=c
   .have g:((((l.getD k 0).toNat:Int))==(c.toNat:Int))=true:=by rw[j];simp
    rw[g,ae];refine⟨(k+1,done.map tx++[tx ((l.drop a).take (k-a))]),rfl,?_⟩;rw[ag (by omega)];refine⟨done++[(l.drop a).take (k-a)],by simp,?_,bG _,by simp⟩;rw[j]at m;rw[e,m,ayH f,<-m];simp
   .have g:((((l.getD k 0).toNat:Int))==(c.toNat:Int))=false:=bT.2 fun h=>j (UInt8.toNat_inj.1 (by omega))
    rw[g,aa];refine⟨(a,done.map tx),rfl,?_⟩;rw[ag (by omega)];refine⟨done,rfl,e,by show a<=k+1;omega,?_⟩;have o:(l.drop a).take (k+1-a)=(l.drop a).take (k-a)++[l.getD k 0]:=by
     rw[show k+1-a=(k-a)+1 by omega,Ml]
     congr 1
     have:(l.drop a)[k-a]?=some (l.getD k 0):=by rw[ai5,show a+(k-a)=k by omega];exact aJ hlt 0
     rw[this];rfl
    show c ∉ (l.drop a).take (k+1-a);rw[o,gK,fm];rintro(h|h)
    .exact f h
    .exact j h.symm
 .rw[af (by omega)]at d;rw[Mu,bD,aQ (by omega),aa,agM,d]
 .rw[ag (by omega)];exact⟨[],rfl,rfl,bG _,by simp⟩
def awA (c:UInt8):∀(n:Nat) (l:List UInt8),l.length<=n->∀k,k=Lib.countB (tx l) (tx [c])->Lib.splitB (tx [c]) 0 k (tx l)=(parts c l).map tx:=by
 intro n
 induction n with
 |zero =>
  intro l f k m;obtain rfl:l=[]:=ZL (by omega);have d:Lib.indexB (tx []) (tx [c])=-1:=by show Lib.index (tx []).data.toList (tx [c]).data.toList=-1;rw[fq,fq,Lib.index_one];rfl
  rw[Lib.splitB_miss _ _ _ _ d];rfl
 |succ n o =>
  intro l f k m;by_cases h:c∈l
  .obtain⟨a,b,rfl,g⟩:=afv h;have d:Lib.indexB (tx (a++c::b)) (tx [c])=(a.length:Int):=by show Lib.index (tx (a++c::b)).data.toList (tx [c]).data.toList=_;rw[fq,fq,Lib.index_one,aft g]
   have i:(tx [c]).size=1:=bD [c];have j:(tx (a++c::b)).extract (a.length+(tx [c]).size) (tx (a++c::b)).size=tx b:=by
    rw[extract_from,i]
    congr 1
    simp[List.drop_append]
   have p:=Lib.countB_hit (tx (a++c::b)) (tx [c]) a.length (by rw[i];omega) d;rw[j]at p;obtain⟨e,rfl⟩:∃e,k=e+1:=⟨Lib.countB (tx b) (tx [c]),by omega⟩;rw[Lib.splitB_hit _ _ _ _ _ d,j,o b (by simp only[aK,aW]at f;omega) e (by omega),ayH g,RG,apR];simp[auT]
  .have d:Lib.indexB (tx l) (tx [c])=-1:=by show Lib.index (tx l).data.toList (tx [c]).data.toList=-1;rw[fq,fq,Lib.index_one,afu h]
   rw[Lib.splitB_miss _ _ _ _ d,apX h];rfl
def apY {l:List UInt8}(c:UInt8)(a:l.length<4294967281):wu F0 (tx l) (c.toNat:Int)=some ((parts c l).map tx,()):=by
 have b:strOf [(c.toNat:Int)]=tx [c]:=by
  simp only[strOf,tx,tf,List.map_nil]
  congr 2
  simp
 have h:Nat.blt (tx l).size 4294967281=true:=by rw[bD];simpa using a
 have d:Nat.ble 1 (tx [c]).size=true:=by rw[bD];rfl
 rw[asj,b];unfold strings_Split;rw[h,d,Bool.and_self,ab,ai,awA c l.length l (bG _) _ rfl]
def tF {σ V:Type}(f:σ->List UInt8->Option (σ×V)):σ->List (List UInt8)->Option (List V)
 |_,[]=>some []|s,p::a=>match f s p with
  |none=>none|some (c,b)=>match tF f c a with
   |none=>none|some r=>some (b::r)
def Rl {σ V γ:Type}(f:σ->List UInt8->Option (σ×V))(I:σ->Prop)(P:List (List UInt8))(X:Nat->σ->Int->List V->Option γ)(c:Option γ)(d:List V->Option γ)
  (g:∀n k s xs p,k<P.length->P[k]?=some p->I s->xs.length=k->X (n+1) s (k:Int) xs=match f s p with|none=>c|some (a,b)=>X n a ((k+1:Nat):Int) (xs++[b]))
  (i:∀n s xs,xs.length=P.length->X (n+1) s (P.length:Int) xs=d xs) (j:∀s p a b,I s->f s p=some (a,b)->I a) :
  ∀(n k:Nat) (s:σ) (xs:List V),k<=P.length->P.length-k<n->I s->xs.length=k->X n s (k:Int) xs=match tF f s (P.drop k) with|none=>c|some l=>d (xs++l)
 |0,_,_,_,_,h,_,_=>absurd h (S1 _)|n+1,k,s,xs,u,v,m,e=>by
  rcases S2 k P.length with hlt|w
  .have o:P[k]?=some P[k]:=og hlt;rw[g n k s xs P[k] hlt o m e,Vh hlt];simp only[tF];cases t:f s P[k]with
   |none=>rfl
   |some q =>
    obtain⟨a,b⟩:=q;simp only;rw[Rl f I P X c d g i j n (k+1) a (xs++[b]) hlt (by omega) (j _ _ _ _ m t) (by simp[e])];cases tF f a (P.drop (k+1)) with
    |none=>rfl|some r=>simp
  .obtain rfl:k=P.length:=by omega
   rw[i n s xs e,Vk];simp[tF]
def Rm {σ V:Type}{f:σ->List UInt8->Option (σ×V)}:∀{P:List (List UInt8)} {s:σ} {r:List V},tF f s P=some r->r.length=P.length
 |[],_,r,h=>by cases h;rfl
 |p::b,s,r,h=>by
  simp only[tF]at h;split at h
  .cases h
  .split at h
   .cases h
   .rename_i a;cases h;simp[Rm a]
def apZ {σ V:Type}{f:σ->List UInt8->Option (σ×V)}{Q:V->Prop}(a:∀s p c b,f s p=some (c,b)->Q b):∀{P:List (List UInt8)} {s:σ} {r:List V},tF f s P=some r->∀b∈r,Q b
 |[],_,r,h=>by cases h;simp
 |p::g,s,r,h=>by
  simp only[tF]at h;split at h
  .cases h
  .rename_i d;split at h
   .cases h
   .rename_i e;cases h;intro b hb;rcases cT.1 hb with rfl|hb
    .exact a _ _ _ _ d
    .exact apZ a e b hb
def txF (_:Unit)(p:List UInt8):Option (Unit×dH):=if (ZJ p).2=true then some ((),(ZJ p).1) else none
def lM (l:List UInt8):List dH×Bool:=if l=[] then ([],true) else match tF txF () (parts 44 l) with|none=>([],false)|some r=>(r,true)
def atO (l:List UInt8):(lM l).1.length<=l.length+1:=by
 unfold lM;split
 .simp
 .split
  .simp
  .rename_i r a;have:=Rm a;have:=JL 44 l;simp only;omega
def aGW (l:List UInt8):∀x∈(lM l).1,gn x=true:=by
 unfold lM;split
 .simp
 .split
  .simp
  .rename_i r a;refine apZ (Q:=fun x=>gn x=true) (fun s p c b h=>?_) a;unfold txF at h;split at h
   .cases h;exact aGU p
   .cases h
def aip (l:List UInt8):((tx l).toList==ak.toList)=decide (l=[]):=UN l []
def awB (P:List (List UInt8))(k:Nat){p:List UInt8}(h:P[k]?=some p):aH (P.map tx) (k:Int) ByteArray.empty=tx p:=by show(P.map tx).getD k ByteArray.empty=_;simp[BG,h]
def atP {l:List UInt8}(f:l.length<=1073741824):Ci F0 (tx l)=some ((lM l).1,(lM l).2,()):=by
 have g:=JL 44 l;rw[arZ,aip];unfold lM;by_cases a:l=[]
 .rw[aL a,ag a];rfl
 .rw[aQ a,aa,af a,show we F0 (tx l) 44=_ from atN 44 (by omega),ai];have:=Rl txF (fun _=>True) (parts 44 l) (fun n _ i xs=>Ie F0 (yq F0) n (yp i xs ((parts 44 l).map tx))) (some ([],false,())) (fun xs=>some (xs,true,())) (fun n k s xs p c d _ e=>?_) (fun n s xs e=>?_) (fun _ _ _ _ _ _=>trivial) F0.n 0 () [] (aR _) (by rw[bB];omega) trivial rfl
  .simp only[ZO,BH]at this;rw[show((0:Nat):Int)=0 from rfl]at this;rw[this];cases tF txF () (parts 44 l)<;>rfl
  .have h:=C5 (as5 d);rw[Mw,nh,aM c,ae,an c,ab,awB _ _ d,aGT (by omega),ai];unfold txF;cases df:(ZJ p).2 with
   |false=>simp only[eh,ae,akK];rfl
   |true =>
    simp only[aN,aa];rw[ar (b:=[(ZJ p).1].length) (k:=32) (by omega) (by omega) (by simp only[aW,bj];omega),ab,al (by omega)];rfl
  .rw[Mw,nh,aE,aa,agP]
def aBn {l:List UInt8}(f:l.length<=1073741824):Ld F0 (tx l)=some ((lM l).1,(lM l).2,()):=by
 have g:=JL 44 l;rw[asl,aip];unfold lM;by_cases a:l=[]
 .rw[aL a,ag a];rfl
 .rw[aQ a,aa,af a,show wu F0 (tx l) 44=_ from apY 44 (by omega),ai];have:=Rl txF (fun _=>True) (parts 44 l) (fun n _ i xs=>IQ F0 (Aq F0) n (Ap ((parts 44 l).map tx) (((parts 44 l).map tx).length:Int) i xs)) (some ([],false,())) (fun xs=>some (xs,true,())) (fun n k s xs p c d _ e=>?_) (fun n s xs e=>?_) (fun _ _ _ _ _ _=>trivial) F0.n 0 () [] (aR _) (by rw[bB];omega) trivial rfl
  .simp only[ZO,BH]at this;rw[show((0:Nat):Int)=0 from rfl]at this;rw[this];cases tF txF () (parts 44 l)<;>rfl
  .have h:=C5 (as5 d);rw[Ns,nh,aM c,ae,an c,ab,awB _ _ d,aEY (by omega),ai];unfold txF;cases df:(ZJ p).2 with
   |false=>simp only[eh,ae,alJ];rfl
   |true =>
    simp only[aN,aa];rw[ar (b:=[(ZJ p).1].length) (k:=32) (by omega) (by omega) (by simp only[aW,bj];omega),ab,al (by omega)];rfl
  .rw[Ns,nh,aE,aa,ahu]
abbrev Rn:=Int×List dH
def tn (a:Int)(p:List UInt8):Option (Int×Rn) :=
 if 124∈p/\(fB (eL p 124).1).2=true/\(lM (eL p 124).2).2=true/\a<(fB (eL p 124).1).1/\(fB (eL p 124).1).1<=60/\(lM (eL p 124).2).1.length<=2
 then some ((fB (eL p 124).1).1,(fB (eL p 124).1).1,(lM (eL p 124).2).1) else none
def a6 (l:List UInt8):List Rn×Bool:=if l=[] then ([],true) else match parts 47 l with
 |[]=>([],false)|b::a=>if ¬b=[]\/30<a.length then ([],false) else match tF tn 0 a with
  |none=>([],false)|some r=>(r,true)
def awC (s:Rn):Prop:=0<=s.1/\s.1<=60/\s.2.length<=2/\∀x∈s.2,gn x=true
def XU {d:Int}{p:List UInt8}{a:Int}{b:Rn}(h:tn d p=some (a,b)):awC b/\a=b.1:=by
 unfold tn at h;split at h
 .rename_i c;cases h;exact⟨⟨(apQ _).1,c.2.2.2.2.1,c.2.2.2.2.2,aGW _⟩,rfl⟩
 .cases h
def Su (l:List UInt8):∀s∈(a6 l).1,awC s:=by
 unfold a6;split
 .simp
 .split
  .simp
  .split
   .simp
   .split
    .simp
    .rename_i a;exact apZ (Q:=awC) (fun s p c b h=>(XU h).1) a
def rA (l:List UInt8):(a6 l).1.length<=30:=by
 unfold a6;split
 .simp
 .split
  .simp
  .split
   .simp
   .split
    .simp
    .rename_i a;have:=Rm a;simp only;omega
def br6 {U:Type}(a b c d e f:Bool)(x y:U):br (!a) x (br (!b) x (br (!c) x (br d x (br e x (br f x y)))))=if a=true/\b=true/\c=true/\d=false/\e=false/\f=false then y else x:=by cases a<;>cases b<;>cases c<;>cases d<;>cases e<;>cases f<;>rfl
def br5 {U:Type}(a b c d f:Bool)(x y:U):br (!a) x (br (!b) x (br (!c) x (br (!d) x (br f x y))))=if a=true/\b=true/\c=true/\d=true/\f=false then y else x:=by cases a<;>cases b<;>cases c<;>cases d<;>cases f<;>rfl
def YS {l:List UInt8}(G:l.length<=1073741824):p6 F0 (tx l)=some ((a6 l).1,(a6 l).2,()):=by
 have q:=JL 47 l;have r:=fun p (h:p∈parts 47 l)=>C5 h
 rw[ar1,aip];unfold a6;by_cases f:l=[]
 .rw[aL f,ag f];rfl
 .rw[aQ f,aa,af f,show we F0 (tx l) 47=_ from atN 47 (by omega),ai];cases t:parts 47 l with
  |nil=>exact absurd t (FZ 47 l)
  |cons c a =>
   rw[t]at q r;simp only[aW]at q;have x:aH ((c::a).map tx) 0 ByteArray.empty=tx c:=rfl;have y:bE 0 (((c::a).map tx).length:Int)=true:=an (k:=0) (by simp);simp only[y,ab,x,aip];by_cases d:c=[]
   .by_cases z:30<a.length
    .rw[aL d,aN,aa,aL (by rw[nh,aW];omega),ae,ag (.inr z)]
    .rw[aL d,aN,aa,aQ (by rw[nh,aW];omega),aa,af (by simp[d];omega)];have:=Rl tn (fun s=>0<=s/\s<=60) a (fun n s i xs=>Ii F0 (yt F0) n (yr s (i+1) [] xs ((c::a).map tx))) (some ([],false,())) (fun xs=>some (xs,true,())) (fun n k s xs p H u A B=>?_) (fun n s xs B=>?_) (fun s p I b A C=>?_) F0.n 0 0 [] (aR _) (by rw[bB];omega) ⟨by omega,by omega⟩ rfl
     .simp only[ZO,BH]at this;rw[show((0:Nat):Int)+1=1 from rfl]at this;rw[this];cases tF tn 0 a<;>rfl
     .have K:=r p (jN _ (as5 u));have v:k+1<((c::a).map tx).length:=by simp;omega
      have D:aH ((c::a).map tx) (((k+1:Nat)):Int) ByteArray.empty=tx p:=awB _ _ (by simpa using u);rw[show((k:Int)+1)=((k+1:Nat):Int) by omega,Mx,aM v,ae,an v,ab,D,show ib F0 (tx p) 124=_ from atM 124 (by omega),ai];have L:=amG p 124;have M:=apQ (eL p 124).1;have N:=atO (eL p 124).2;by_cases g:(124:UInt8)∈p
      .rw[ag g];simp only[C3,ai];rw[show Ci F0 (tx ((p.dropWhile (· != 124)).drop 1))=some ((lM (eL p 124).2).1,(lM (eL p 124).2).2,()) from atP (by show(eL p 124).2.length<=_;omega),ai];simp only[Td];rw[br6];unfold tn;have E:(fB (p.takeWhile (· != 124)))=fB (eL p 124).1:=rfl;rw[E];by_cases e:124∈p/\(fB (eL p 124).1).2=true/\(lM (eL p 124).2).2=true/\s<(fB (eL p 124).1).1/\(fB (eL p 124).1).1<=60/\(lM (eL p 124).2).1.length<=2
       .have j:decide ((fB (eL p 124).1).1<=s)=false:=aQ (by omega);have m:decide ((fB (eL p 124).1).1>60)=false:=aQ (by omega);have o:decide (((lM (eL p 124).2).1.length:Int)>2)=false:=aQ (by omega);rw[ag e,ag ⟨rfl,e.2.1,e.2.2.1,j,m,o⟩];simp only;rw[ar (b:=[((fB (eL p 124).1).1,(lM (eL p 124).2).1)].length) (k:=32) (by omega) (by omega) (by simp only[aW,bj];omega),ab,al (by omega)];rfl
       .rw[af e,af (fun h=>e ?_)];have j:decide ((fB (eL p 124).1).1<=s)=false:=h.2.2.2.1;have m:decide ((fB (eL p 124).1).1>60)=false:=h.2.2.2.2.1;have o:decide (((lM (eL p 124).2).1.length:Int)>2)=false:=h.2.2.2.2.2;have O:=ags j;have P:=ags m;have Q:=ags o;exact⟨g,h.2.1,h.2.2.1,by omega,by omega,by omega⟩
      .rw[af g];unfold tn;rw[af (fun h=>g h.1),C3,ai,show Ci F0 (tx [])=_ from atP (by simp),ai];simp only[eh,ae,Td]
     .rw[show((a.length:Int)+1)=(((c::a).map tx).length:Int) by simp,Mx,aE,aa,agQ]
     .obtain⟨w,F⟩:=XU C;rw[F];exact⟨w.1,w.2.1⟩
   .rw[aQ d,eh,ae,ag (.inl d)]
def Sv {l:List UInt8}(E:l.length<=1073741824):q5 F0 (tx l)=some ((a6 l).1,(a6 l).2,()):=by
 have g:=JL 47 l;have j:=fun p (h:p∈parts 47 l)=>C5 h
 rw[asn,aip];unfold a6;by_cases f:l=[]
 .rw[aL f,ag f];rfl
 .rw[aQ f,aa,af f,show wu F0 (tx l) 47=_ from apY 47 (by omega),ai];cases m:parts 47 l with
  |nil=>exact absurd m (FZ 47 l)
  |cons c a =>
   rw[m]at g j;simp only[aW]at g;have t:aH ((c::a).map tx) 0 ByteArray.empty=tx c:=rfl;have u:bE 0 (((c::a).map tx).length:Int)=true:=an (k:=0) (by simp);have hlen:((c::a).map tx).length=a.length+1:=by simp
   have v:RZ 1 (((c::a).map tx).length:Int) (((c::a).map tx).length:Int)=true:=by rw[hlen];simp only[RZ,aG,bV];omega
   have w:((((c::a).map tx).take (((c::a).map tx).length:Int).toNat).drop (1:Int).toNat)=a.map tx:=by rw[gr,ki];rfl
   simp only[u,ab,t,aip,v,w];rw[hlen,aI (by omega) (by omega)];by_cases e:c=[]
   .by_cases x:30<a.length
    .rw[aL e,aN,aa,aL (by omega),ae,ag (.inr x)]
    .rw[aL e,aN,aa,aQ (by omega),aa,af (by simp[e];omega)];have:=Rl tn (fun s=>0<=s/\s<=60) a (fun n s i xs=>IU F0 (As F0) n (Ar s (a.map tx) ((a.map tx).length:Int) i xs)) (some ([],false,())) (fun xs=>some (xs,true,())) (fun n k s xs p o q y z=>?_) (fun n s xs z=>?_) (fun s p F b y A=>?_) F0.n 0 0 [] (aR _) (by rw[bB];omega) ⟨by omega,by omega⟩ rfl
     .simp only[ZO,BH]at this;rw[show((0:Nat):Int)=0 from rfl]at this;rw[this];cases tF tn 0 a<;>rfl
     .have G:=j p (jN _ (as5 q));have H:=amG p 124;have I:=apQ (eL p 124).1;have K:=atO (eL p 124).2;rw[Nt,nh,aM o,ae,an o,ab,awB _ _ q,show ByteArray.mk #[124]=tx [124] from rfl,v8 124 (by omega),ai];simp only[FY,ai];rw[show Ld F0 (tx ((p.dropWhile (· != 124)).drop 1))=some ((lM (eL p 124).2).1,(lM (eL p 124).2).2,()) from aBn (by show(eL p 124).2.length<=_;omega),ai];simp only[alK,Ss,ai];rw[br5];unfold tn;have B:(fB (p.takeWhile (· != 124)))=fB (eL p 124).1:=rfl;rw[B,aI (n:=s+1) (by omega) (by omega)];by_cases d:124∈p/\(fB (eL p 124).1).2=true/\(lM (eL p 124).2).2=true/\s<(fB (eL p 124).1).1/\(fB (eL p 124).1).1<=60/\(lM (eL p 124).2).1.length<=2
      .have C:(decide (s+1<=(fB (eL p 124).1).1)&&decide ((fB (eL p 124).1).1<=60))=true:=by rw[aL (by omega),aL (by omega)];rfl
       rw[ag d,ag ⟨aL d.1,d.2.1,d.2.2.1,C,aQ (by omega)⟩];simp only;rw[ar (b:=[((fB (eL p 124).1).1,(lM (eL p 124).2).1)].length) (k:=32) (by omega) (by omega) (by simp only[aW,bj];omega),ab,al (by omega)]
      .rw[af d,af (fun h=>d ⟨ng h.1,h.2.1,h.2.2.1,by have:=h.2.2.2.1;rw[aG]at this;have:=ng this.1;omega,by have:=h.2.2.2.1;rw[aG]at this;have:=ng this.2;omega,by have:=ags h.2.2.2.2;omega⟩)]
     .rw[Nt,nh,aE,aa,ahv]
     .obtain⟨r,D⟩:=XU A;rw[D];exact⟨r.1,r.2.1⟩
   .rw[aQ e,eh,ae,ag (.inl e)]
abbrev hl:=List Int×List Int
def B5 (l:hl):Bool:=decide (l.1.length=4)&&(decide (l.2.length=4)&&(l.1.all (fun n=>inB n 0 400)&&l.2.all (fun n=>inB n 0 100)))
def abm {a:List Int}(lo hi:Int)(h:a.length<=1048576):rr F0 a lo hi=some (a.all (fun n=>inB n lo hi),()):=by
 rw[afd];refine cu (fun n i (_:Unit)=>sY F0 (n4 F0) n (n2 lo hi a (a.length:Int) i)) a.length (fun k _=>∀x∈a.take k,inB x lo hi=true) _ (fun n k _ c d=>?_) (fun n _ d=>?_) F0.n 0 () (aR _) (by simp) (by rw[bB];omega)
 .rw[BY,aM c,ae,an c,ab,ly,Ss,ai];show(br (!inB (a.getD k 0) lo hi) _ _=_)\/∃f:Unit,br (!inB (a.getD k 0) lo hi) _ _=_/\_;cases e:inB (a.getD k 0) lo hi with
  |false =>
   left;rw[eh,ae,Zz];have:a.all (fun n=>inB n lo hi)=false:=agt.2 ⟨_,oj c 0,by rw[e];simp⟩;rw[this]
  |true =>
   right;refine⟨(),by rw[aN,aa,al (by omega)],?_⟩;intro x b;rw[Ml,aJ c 0]at b;rcases gK.1 b with b|b
   .exact d x b
   .simp only[am1,fm]at b;rw[b];exact e
 .rw[ki]at d;rw[BY,aE,aa,XA,eb.2 d]
def abn {l:hl}(a:l.1.length<=1048576)(b:l.2.length<=1048576):uh F0 l=some (B5 l,()):=by
 rw[ahZ,abm 0 400 a,abm 0 100 b];have e:∀n:Nat,((n:Int)==4)=decide (n=4):=fun n=>by
  by_cases h:n=4
  .subst h;rfl
  .rw[aQ h];exact bT.2 (by omega)
 simp only[ai,e,aBl];rfl
def afx {l:hl}:tS F0 l=some (B5 l,()):=by
 rw[ag1];have e:∀n:Nat,((n:Int) != 4)= !decide (n=4):=fun n=>by
  by_cases h:n=4
  .subst h;rfl
  .rw[aQ h];exact E3.2 (by omega)
 rw[e,e];unfold B5;by_cases c:l.1.length=4
 .by_cases g:l.2.length=4
  .rw[aL c,aL g,aN,aa,aa,eD,eD];refine cu (fun n i (_:Unit)=>uZ F0 (pt F0) n (pr i l.1 l.2)) 4 (fun k _=>(∀x∈l.1.take k,inB x 0 400=true)/\∀x∈l.2.take k,inB x 0 100=true) _ (fun n k _ o b=>?_) (fun n _ b=>?_) F0.n 0 () (by omega) (by simp) (by rw[bB];omega)
   .have d:k<l.1.length:=by omega
    have f:k<l.2.length:=by omega
    rw[Fj,show decide ((k:Int)<4)=true from aL (by omega),ae,an d,ab,ly,afw,ai,an f,ab,ly,afw,ai];show(br (!inB (l.1.getD k 0) 0 400) _ (br (!inB (l.2.getD k 0) 0 100) _ _)=_)\/∃p:Unit,br (!inB (l.1.getD k 0) 0 400) _ (br (!inB (l.2.getD k 0) 0 100) _ _)=_/\_;cases j:inB (l.1.getD k 0) 0 400 with
    |false =>
     left;rw[eh,ae,KE];have:l.1.all (fun n=>inB n 0 400)=false:=agt.2 ⟨_,oj d 0,by rw[j];simp⟩;rw[this];rfl
    |true =>
     cases m:inB (l.2.getD k 0) 0 100 with
     |false =>
      left;rw[aN,aa,eh,ae,KE];have:l.2.all (fun n=>inB n 0 100)=false:=agt.2 ⟨_,oj f 0,by rw[m];simp⟩;rw[this,adt]
     |true =>
      right;refine⟨(),by rw[aN,aa,aa,al (by omega)],?_,?_⟩
      .intro x a;rw[Ml,aJ d 0]at a;rcases gK.1 a with a|a
       .exact b.1 x a
       .simp only[am1,fm]at a;rw[a];exact j
      .intro x a;rw[Ml,aJ f 0]at a;rcases gK.1 a with a|a
       .exact b.2 x a
       .simp only[am1,fm]at a;rw[a];exact m
   .rw[ai2 (by omega),ai2 (by omega)]at b;rw[Fj,show decide (((4:Nat):Int)<4)=false from rfl,aa,Zm,eb.2 b.1,eb.2 b.2];rfl
  .rw[aL c,aQ g];rfl
 .rw[aQ c];rfl
def ei (l:hl)(x:dH):hl×Int :=
 if B5 l=true/\gn x=true then
  if x.2.2.2<aH l.2 x.1 0 then (l,2)
  else if x.2.2.2>aH l.2 x.1 0 then (l,3)
  else if x.2.2.1>aH l.1 x.1 0 then ((l.1,l.2.set x.1.toNat (x.2.2.2+1)),4)
  else if B5 ((l.1.set x.1.toNat (aH l.1 x.1 0-x.2.2.1)).set x.2.1.toNat (aH (l.1.set x.1.toNat (aH l.1 x.1 0-x.2.2.1)) x.2.1 0+x.2.2.1),l.2.set x.1.toNat (x.2.2.2+1))=true
   then (((l.1.set x.1.toNat (aH l.1 x.1 0-x.2.2.1)).set x.2.1.toNat (aH (l.1.set x.1.toNat (aH l.1 x.1 0-x.2.2.1)) x.2.1 0+x.2.2.1),l.2.set x.1.toNat (x.2.2.2+1)),0)
   else (l,1)
 else (l,1)
def acM {l:hl}(h:B5 l=true):l.1.length=4/\l.2.length=4/\(∀x∈l.1,0<=x/\x<=400)/\∀x∈l.2,0<=x/\x<=100:=by simp only[B5,aG,bV,eb,inB]at h;exact⟨h.1,h.2.1,fun x a=>⟨(h.2.2.1 x a).1,(h.2.2.1 x a).2⟩,fun x a=>⟨(h.2.2.2 x a).1,(h.2.2.2 x a).2⟩⟩
def acN {l:hl}(a:l.1.length<=1048576)(b:l.2.length<=1048576):qU F0 l=some (l,()):=by rw[aoi,ar (by omega) (by omega) (by omega),ab,ar (by omega) (by omega) (by omega),ab];simp
def XV {l:hl}(a:l.1.length<=1048576)(b:l.2.length<=1048576):kD F0 l=some (l,()):=by rw[acC,CH,CH,ar (by omega) (by omega) (by omega),ab,ai,ar (by omega) (by omega) (by omega),ab,ai];simp
def dT {p:Prop}(i:Decidable p)(h:p): @decide p i=true:=aL h
def dF {p:Prop}(i:Decidable p)(h:¬p): @decide p i=false:=aQ h
def awD {a:List Int}{k:Nat}{v:Int}{lo hi:Int}(b:∀x∈a,lo<=x/\x<=hi)(c:lo<=v/\v<=hi):∀x∈a.set k v,lo<=x/\x<=hi:=fun x d=>by
 rcases aAs d with h|h
 .exact b x h
 .rw[h];exact c
def awE {l:hl}(g:l.1.length<=1048576)(i:l.2.length<=1048576)(x:dH):KF F0 l x=some ((ei l x).1,(ei l x).2,()):=by
 rw[ayr,acN g i,ai,afx,ai];unfold ei;cases p:B5 l with
 |false=>rw[af (by simp)];rfl
 |true =>
  rw[aN,aa,Rk,ai];cases q:gn x with
  |false=>rw[af (by simp)];rfl
  |true =>
   rw[aN,aa,ag ⟨rfl,rfl⟩];obtain⟨j,r,m,s⟩:=acM p;obtain⟨b,o,B,C⟩:=mW q;have f:∀(y:Int) (n:Nat),n=4->0<=y->y<=3->bE y (n:Int)=true:=fun y n h g i=>by obtain⟨u,rfl⟩:∃u:Nat,y=u:=⟨y.toNat,by omega⟩;exact an (by omega)
   have t:=f x.1 _ j b.1 b.2;have z:=f x.1 _ r b.1 b.2;have A:∀w,bE x.2.1 ((l.1.set x.1.toNat w).length:Int)=true:=fun w=>f x.2.1 _ (by rw[ni];exact j) o.1 o.2
   simp only[t,z,A,ab];have D:0<=aH l.1 x.1 0/\aH l.1 x.1 0<=400:=m _ (oj (a:=l.1) (k:=x.1.toNat) (by omega) 0);have E:0<=aH l.2 x.1 0/\aH l.2 x.1 0<=100:=s _ (oj (a:=l.2) (k:=x.1.toNat) (by omega) 0);by_cases c:x.2.2.2<aH l.2 x.1 0
   .rw[dT _ c,ae,ag c]
   .rw[dF _ c,aa,af c];by_cases d:x.2.2.2>aH l.2 x.1 0
    .rw[dT _ d,ae,ag d]
    .rw[dF _ d,aa,af d,aI (n:=x.2.2.2+1) (by omega) (by omega)];by_cases e:x.2.2.1>aH l.1 x.1 0
     .rw[dT _ e,ae,ag e]
     .have F:0<=aH (l.1.set x.1.toNat (aH l.1 x.1 0-x.2.2.1)) x.2.1 0/\aH (l.1.set x.1.toNat (aH l.1 x.1 0-x.2.2.1)) x.2.1 0<=400:=awD (k:=x.1.toNat) (v:=aH l.1 x.1 0-x.2.2.1) m ⟨by omega,by omega⟩ _ (oj (a:=l.1.set x.1.toNat (aH l.1 x.1 0-x.2.2.1)) (k:=x.2.1.toNat) (by rw[ni];omega) 0);rw[dF _ e,aa,af e,aI (n:=aH l.1 x.1 0-x.2.2.1) (by omega) (by omega),aI (n:=aH (l.1.set x.1.toNat (aH l.1 x.1 0-x.2.2.1)) x.2.1 0+x.2.2.1) (by omega) (by omega),afx,ai];cases B5 ((l.1.set x.1.toNat (aH l.1 x.1 0-x.2.2.1)).set x.2.1.toNat (aH (l.1.set x.1.toNat (aH l.1 x.1 0-x.2.2.1)) x.2.1 0+x.2.2.1),l.2.set x.1.toNat (x.2.2.2+1)) with
      |false=>rw[af (by simp),eh,ae,ai]
      |true=>rw[ag rfl];rfl
def ap0 {l:hl}(f:l.1.length<=1048576)(g:l.2.length<=1048576)(x:dH):LC F0 l x=some ((ei l x).1,(ei l x).2,()):=by
 rw[ayA,XV f g,ai,abn f g,ai];unfold ei;cases p:B5 l with
 |false=>rw[af (by simp)];rfl
 |true =>
  rw[aN,aa,C4,ai];cases q:gn x with
  |false=>rw[af (by simp)];rfl
  |true =>
   rw[aN,aa,ag ⟨rfl,rfl⟩];obtain⟨j,r,m,s⟩:=acM p;obtain⟨b,o,C,D⟩:=mW q;have i:∀(y:Int) (n:Nat),n=4->0<=y->y<=3->bE y (n:Int)=true:=fun y n h f g=>by obtain⟨u,rfl⟩:∃u:Nat,y=u:=⟨y.toNat,by omega⟩;exact an (by omega)
   have t:=i x.1 _ j b.1 b.2;have z:=i x.1 _ r b.1 b.2;have A:∀w,bE x.2.1 ((l.1.set x.1.toNat w).length:Int)=true:=fun w=>i x.2.1 _ (by rw[ni];exact j) o.1 o.2
   simp only[t,z,A,ab];have E:0<=aH l.1 x.1 0/\aH l.1 x.1 0<=400:=m _ (oj (a:=l.1) (k:=x.1.toNat) (by omega) 0);have F:0<=aH l.2 x.1 0/\aH l.2 x.1 0<=100:=s _ (oj (a:=l.2) (k:=x.1.toNat) (by omega) 0);by_cases c:x.2.2.2<aH l.2 x.1 0
   .rw[dT _ c,ae,ag c]
   .rw[dF _ c,aa,af c];by_cases d:x.2.2.2>aH l.2 x.1 0
    .rw[dT _ d,ae,ag d]
    .have B:aH l.2 x.1 0=x.2.2.2:=by omega
     rw[dF _ d,aa,af d,B,aI (n:=x.2.2.2+1) (by omega) (by omega)];by_cases e:x.2.2.1>aH l.1 x.1 0
     .rw[dT _ e,ae,ag e]
     .have G:0<=aH (l.1.set x.1.toNat (aH l.1 x.1 0-x.2.2.1)) x.2.1 0/\aH (l.1.set x.1.toNat (aH l.1 x.1 0-x.2.2.1)) x.2.1 0<=400:=awD (k:=x.1.toNat) (v:=aH l.1 x.1 0-x.2.2.1) m ⟨by omega,by omega⟩ _ (oj (a:=l.1.set x.1.toNat (aH l.1 x.1 0-x.2.2.1)) (k:=x.2.1.toNat) (by rw[ni];omega) 0);rw[dF _ e,aa,af e,aI (n:=aH l.1 x.1 0-x.2.2.1) (by omega) (by omega),aI (n:=aH (l.1.set x.1.toNat (aH l.1 x.1 0-x.2.2.1)) x.2.1 0+x.2.2.1) (by omega) (by omega),abn (by simp only[ni];omega) (by simp only[ni];omega),ai];cases B5 ((l.1.set x.1.toNat (aH l.1 x.1 0-x.2.2.1)).set x.2.1.toNat (aH (l.1.set x.1.toNat (aH l.1 x.1 0-x.2.2.1)) x.2.1 0+x.2.2.1),l.2.set x.1.toNat (x.2.2.2+1)) with
      |false=>rw[af (by simp),eh,ae,ai]
      |true=>rw[ag rfl];rfl
def ayI (l:hl)(x:dH):(ei l x).1.1.length=l.1.length/\(ei l x).1.2.length=l.2.length:=by
 unfold ei;split
 .split
  .exact⟨rfl,rfl⟩
  .split
   .exact⟨rfl,rfl⟩
   .split
    .exact⟨rfl,by simp⟩
    .split
     .exact⟨by simp,by simp⟩
     .exact⟨rfl,rfl⟩
 .exact⟨rfl,rfl⟩
def Sw:hl:=([100,100,100,100],[0,0,0,0])
def abo:ml F0=some (Sw,()):=by
 have st:∀n (k:Nat) (c:List Int),k<4->c.length=k->jG F0 (jU F0) (n+1) (fY (k:Int) [] [] c [0,0,0,0])=jG F0 (jU F0) n (fY ((k+1:Nat):Int) [] [] (c++[100]) [0,0,0,0]):=fun n k c e f=>by rw[BL,show decide ((k:Int)<4)=true from aL (by omega),ae,ar (a:=c.length) (b:=[(100:Nat)].length) (k:=8) (by omega) (by omega) (by simp only[aW,bj];omega),ab,al (by omega)]
 rw[aee,show okM F0 4 4 8=true from aGC (n:=4) (by omega) (by omega) (by omega),ab];refine cu (fun n i c=>jG F0 (jU F0) n (fY i [] [] c [0,0,0,0])) 4 (fun k c=>c=List.replicate k 100) _ (fun n k c e d=>.inr ⟨_,st n k c e (by rw[d];simp),by rw[d,<-List.replicate_succ']⟩) (fun n c d=>?_) F0.n 0 [] (by omega) rfl (by rw[bB];omega);rw[BL,show decide (((4:Nat):Int)<4)=false from rfl,aa,Wo,d];rfl
def LX:j1 F0=some (Sw,()):=by
 have st:∀n (k:Nat) (c:List Int),k<4->c.length=k->jK F0 (j0 F0) (n+1) (gi (k:Int) [] [] c [0,0,0,0])=jK F0 (j0 F0) n (gi ((k+1:Nat):Int) [] [] (c++[100]) [0,0,0,0]):=fun n k c e f=>by rw[BX,show decide ((k:Int)<4)=true from aL (by omega),ae,ar (a:=c.length) (b:=[(100:Nat)].length) (k:=8) (by omega) (by omega) (by simp only[aW,bj];omega),ab,al (by omega)]
 rw[afc,show okM F0 4 4 8=true from aGC (n:=4) (by omega) (by omega) (by omega),ab];refine cu (fun n i c=>jK F0 (j0 F0) n (gi i [] [] c [0,0,0,0])) 4 (fun k c=>c=List.replicate k 100) _ (fun n k c e d=>.inr ⟨_,st n k c e (by rw[d];simp),by rw[d,<-List.replicate_succ']⟩) (fun n c d=>?_) F0.n 0 [] (by omega) rfl (by rw[bB];omega);rw[BX,show decide (((4:Nat):Int)<4)=false from rfl,aa,Xz,d];rfl
def ayJ (c:Int):Ri F0 c=some ((c==0) || (c==4),()):=by rw[aws];cases h:(c==0)<;>rfl
def Vd (l:hl):Prop:=l.1.length=4/\l.2.length=4
def aGX {l:hl}(h:Vd l)(x:dH):Vd (ei l x).1:=⟨(ayI l x).1.trans h.1,(ayI l x).2.trans h.2⟩
def abp {U:Type}{a:List U}{k:Nat}(h:k<a.length)(d:U):aH a (k:Int) d=a[k]:=by rw[ly];simp[List.getD,h]
def aLh (x:dH):(x.1,x.2.1,x.2.2.1,x.2.2.2)=x:=rfl
def ho:hl->List dH->List Int
 |_,[]=>[]|l,x::xs=>(ei l x).2::ho (ei l x).1 xs
def eX:hl->List dH->hl
 |l,[]=>l|l,x::xs=>eX (ei l x).1 xs
def Jp:∀{xs:List dH} {l:hl},Vd l->Vd (eX l xs)
 |[],_,h=>h|x::xs,l,h=>Jp (xs:=xs) (aGX h x)
def Jq:∀(xs:List dH) (l:hl),(ho l xs).length=xs.length
 |[],_=>rfl|x::xs,l=>by simp[ho,Jq xs]
def Sx:∀(a b:List dH) (l:hl),ho l (a++b)=ho l a++ho (eX l a) b
 |[],_,_=>rfl|x::a,b,l=>by simp[ho,eX,Sx a b]
def Oo:∀(a:List dH) (x:dH) (l:hl),eX l (a++[x])=(ei (eX l a) x).1
 |[],_,_=>rfl|y::a,x,l=>by simp[eX,Oo a x]
def afy:∀(xs:List dH) (l:hl) (j:Nat) (h:j<xs.length),(ho l xs)[j]?=some (ei (eX l (xs.take j)) xs[j]).2
 |x::xs,l,0,h=>rfl|x::xs,l,j+1,h=>by simp only[ho,aAv,auL,eX,List.getElem_cons_succ];exact afy xs _ j (by simpa using h)
def ap1 {l:hl}(g:Vd l){list:List dH}(m:list.length<=1048576):w2 F0 l list=some (eX l list,ho l list,()):=by
 rw[aok,acN (by have:=g.1;omega) (by have:=g.2;omega),ai];refine cu (fun n i (z:List Int×hl)=>DI F0 (Gr F0) n (u0 list i z.1 [] [] z.2.1 z.2.2)) list.length (fun k z=>z.1=ho l (list.take k)/\z.2=eX l (list.take k)) _ (fun n k z e f=>.inr ⟨(z.1++[(ei z.2 list[k]).2],(ei z.2 list[k]).1),?_,?_⟩) (fun n z f=>?_) F0.n 0 ([],l) (aR _) ⟨rfl,rfl⟩ (by rw[bB];omega)
 .obtain⟨d,c⟩:=f;have h:Vd z.2:=by rw[c];exact Jp g
  have o:z.1.length<=1048576:=by rw[d,Jq,bz];omega
  rw[KG,aM e,ae,an e,ab,abp e]
  try rw[aLh]
  rw[awE (l:=(z.2.1,z.2.2)) (by have:=h.1;show z.2.1.length<=_;omega) (by have:=h.2;show z.2.2.length<=_;omega),ai];simp only;rw[ar (a:=z.1.length) (b:=[(ei (z.2.1,z.2.2) list[k]).2].length) (k:=8) (by omega) (by omega) (by simp only[aW,bj];omega),ab,al (by omega)]
 .obtain⟨d,c⟩:=f;have j:list.take (k+1)=list.take k++[list[k]]:=by rw[Ml,og e];rfl
  refine⟨?_,?_⟩
  .rw[j,Sx,<-d,<-c];rfl
  .rw[j,Oo,<-c]
 .obtain⟨d,c⟩:=f;rw[ki]at d c;rw[KG,aE,aa,aef,d,c]
def afz:∀{ss:List Rn},(∀s∈ss,awC s)->(ss.flatMap (·.2)).length<=2*ss.length
 |[],_=>by simp
 |s::ss,h=>by
  have b:=(h s pZ).2.2.1;have c:=afz (ss:=ss) fun x a=>h x (jN _ a)
  rw[List.flatMap_cons,aK,aW];omega
def aEZ {l:List UInt8}(f:l.length<=1073741824):wj F0 (tx l)=some ((a6 l).1.flatMap (·.2),()):=by
 rw[ar7,YS f,ai];have hlen:=rA l;have df:=Su l;generalize h:(a6 l).1=ss at hlen df;refine cu (fun n i xs=>Iu F0 (KA F0) n (yU i xs ss)) ss.length (fun k xs=>xs=(ss.take k).flatMap (·.2)) _ (fun n k xs c d=>.inr ⟨_,?_,rfl⟩) (fun n xs d=>?_) F0.n 0 [] (aR _) rfl (by rw[bB];omega)
 .have j:=(df _ (bH c)).2.2.1;have e:=afz (ss:=ss.take k) fun x e=>df x (Vi e)
  rw[<-d,bz]at e;rw[MQ,aM c,ae,an c,ab,abp c,ar (a:=xs.length) (b:=ss[k].2.length) (k:=32) (by omega) (by omega) (by omega),ab,al (by omega),d];have g:(ss.take (k+1)).flatMap (·.2)=(ss.take k).flatMap (·.2)++ss[k].2:=by rw[show ss.take (k+1)=ss.take k++[ss[k]] by rw[Ml,og c];rfl,auM];simp
  rw[g]
 .rw[ki]at d;rw[MQ,aE,aa,ag0,d]
def eM {V:Type}(X:Nat->Int->Option V)(L:Nat)(p:Nat->Bool)(d e:Option V)(g:∀n k,k<L->X (n+1) (k:Int)=if p k=true then X n ((k+1:Nat):Int) else e)(j:∀n,X (n+1) (L:Int)=d)(n:Nat)(o:L<n) :
  X n 0=if (List.range L).all p=true then d else e:=by
 refine cu (fun n i (_:Unit)=>X n i) L (fun k _=>∀a,a<k->p a=true) _ (fun n k _ f h=>?_) (fun n _ h=>?_) n 0 () (aR _) (fun a b=>absurd b (S1 _)) (by omega)
 .try dsimp only
  rw[g n k f];by_cases c:p k=true
  .rw[ag c];refine .inr ⟨(),rfl,fun a b=>?_⟩;by_cases l:a=k
   .exact l▸c
   .exact h a (by omega)
  .rw[af c,af]
   .exact .inl rfl
   .intro m;exact c (eb.1 m k (eU.2 f))
 .try dsimp only
  rw[j,ag];exact eb.2 fun a b=>h a (eU.1 b)
def LY {U:Type}(s:List U)(q:U->Bool)(d:U):(List.range s.length).all (fun k=>q (s.getD k d))=s.all q:=by
 rw[Bool.eq_iff_iff,eb,eb];constructor
 .intro h x b;obtain⟨i,a,rfl⟩:=auJ.1 b;have:=h i (eU.2 a);simpa [List.getD,a]using this
 .intro h k c;exact h _ (oj (eU.1 c) d)
def aKc (s:List Int)(i:Int):(s.all fun x=> !(x==i))= !decide (i∈s):=by rw[Bool.eq_iff_iff,eb];simp only[ai6,bT,axK];exact⟨fun h a=>h i a rfl,fun h x b e=>h (e▸b)⟩
def ite_not (b:Bool){U:Type}(x y:U):(if (!b)=true then x else y)=if b=true then y else x:=by cases b<;>rfl
def aBo {U:Type}(b:Bool)(x y:U):br b x y=if b=true then x else y:=by cases b<;>rfl
def fC {s:List Int}(h:s.length<=1073741824)(i:Int):cX F0 s i=some (decide (i∈s),()):=by
 rw[aon,eM (fun n k=>DN F0 (u6 F0) n (u5 s i k)) s.length (fun k=> !(s.getD k 0==i)) (some (false,())) (some (true,())) (fun n k a=>?_) (fun n=>?_) _ (by rw[bB];omega),
  LY s (fun x=> !(x==i)),aKc,ite_not]
 .by_cases b:i∈s<;>simp[b]
 .rw[KI,aM a,ae,an a,ab,ly,al (by omega),ite_not,aBo,ag7]
 .rw[KI,aE,aa,aei]
def awF {s:List Int}(h:s.length<=1073741824)(i:Int):hS F0 s i=some (decide (i∈s),()):=by
 have key:∃a,k5 F0 s i=some (a,())/\decide (a>=0)=decide (i∈s):=by
  rw[QK];have:=cu (fun n k (_:Unit)=>iV F0 (gH F0) n (gG s i (s.length:Int) k)) s.length (fun k _=>∀a,a<k->s.getD a 0≠i)
   (some ((if i∈s then ((s.idxOf i:Nat):Int) else -1),())) (fun n k _ f g=>?_) (fun n _ g=>?_) F0.n 0 () (aR _) (fun a c=>absurd c (S1 _)) (by rw[bB];omega)
  .refine⟨_,this,?_⟩;by_cases b:i∈s
   .rw[ag b,aL b];exact aL (auP _)
   .rw[af b,aQ b];rfl
  .try dsimp only
   rw[pJ,aM f,ae,an f,ab,ly,al (by omega),Mk];by_cases d:i=s.getD k 0
   .left;have b:i∈s:=d▸oj f 0;rw[bf.2 d,ae,ag b];have m:s.idxOf i=k:=by
     have j:s.idxOf i<s.length:=List.idxOf_lt_length_of_mem b;have l:s.getD (s.idxOf i) 0=i:=by simp[List.getD,j]
     rcases Nat.lt_trichotomy (s.idxOf i) k with hlt|o|q
     .exact absurd l (g _ hlt)
     .exact o
     .have:=List.not_of_lt_findIdx (p:=(·==i)) (xs:=s) q;have r:s[k]'(by omega)=i:=by rw[d];simp[List.getD,f]
      simp[r]at this
    rw[m]
   .right;rw[bT.2 d,aa];refine⟨(),rfl,fun a c=>?_⟩;by_cases t:a=k
    .exact fun e=>d (t▸e.symm)
    .exact g a (by omega)
  .try dsimp only
   have b:i ∉ s:=by intro b;obtain⟨a,c,e⟩:=auJ.1 b;exact g a c (by simp[List.getD,c,e])
   rw[pJ,aE,aa,Lk,af b]
 obtain⟨a,j,l⟩:=key;rw[Ll,j,ai,l]
def eA {s:List Int}(h:s.length<=1073741824)(i:Int):c8 F0 s i=some (decide (i∈s),()):=by rw[api,awF h,ai]
def amu (i:Int):List Int->List Int
 |[]=>[i]|x::l=>if x>=i then i::x::l else x::amu i l
def Ro (s:List Int)(i:Int):List Int:=if i∈s then s else amu i s
def ayK (i:Int):∀s:List Int,(amu i s).length=s.length+1
 |[]=>rfl|x::l=>by
  unfold amu;split
  .rfl
  .simp[ayK i l]
def ap2 (s:List Int)(i:Int):(Ro s i).length<=s.length+1:=by
 unfold Ro;split
 .omega
 .rw[ayK];exact bG _
def amH {i:Int}:∀{s:List Int} {k:Nat},k<=s.length->(∀a (h:a<s.length),a<k->s[a]<i)->(∀h:k<s.length,¬s[k]<i)->amu i s=s.take k++i::s.drop k
 |[],k,_,_,_=>by simp[amu]
 |x::l,0,_,_,h=>by have:=h (by simp);simp only[aAw]at this;unfold amu;rw[ag (by omega)];rfl
 |x::l,k+1,c,b,d=>by have e:=b 0 (by simp) (by omega);simp only[aAw]at e;unfold amu;rw[af (by omega),auL,List.drop_succ_cons,GZ,amH (k:=k) (by simpa using c) (fun a h f=>b (a+1) (by simp only[aW];omega) (by omega)) (fun h=>d (by simp only[aW];omega))]
def YT {l h n:Nat}(a:l<=h)(b:h<=n):RZ (l:Int) (h:Int) (n:Int)=true:=by simp[RZ];omega
def acO {s:List Int}(h:s.length<=1048576)(i:Int):w3 F0 s i=some (Ro s i,()):=by
 rw[aoo,fC (by omega),ai];unfold Ro;by_cases c:i∈s
 .rw[aL c,ae,ag c,ar (by omega) (by omega) (by omega),ab];rfl
 .rw[aQ c,aa,af c];have fin:∀k:Nat,k<=s.length->(∀a (h:a<s.length),a<k->s[a]<i)->(∀h:k<s.length,¬s[k]<i)->u9 F0 (.exit 0) (r0 s i (k:Int))=some (amu i s,()):=by
   intro k b g j;rw[aej,show RZ 0 (k:Int) (s.length:Int)=true from YT (l:=0) (aR _) b,ab,gr,gr,show(0:Int).toNat=0 from rfl,ZO,BH,ki,
    ar (by omega) (by omega) (by rw[bz];omega),ab,ar (by omega) (by omega) (by rw[bz];simp only[aW,bj];omega),ab,YT b (bG _),ab,
    ar (by omega) (by omega) (by rw[aK,bz,bc];simp only[aW,bj];omega),ab,amH b g j]
   simp
  refine cu (fun n k (_:Unit)=>DQ F0 (u9 F0) n (u7 s i k)) s.length (fun k _=>∀a (h:a<s.length),a<k->s[a]<i) _ (fun n k _ b d=>?_) (fun n _ d=>?_) F0.n 0 () (aR _) (fun a _ f=>absurd f (S1 _)) (by rw[bB];omega)
  .try dsimp only
   rw[KK,aM b,ae,an b,ab,abp b,al (by omega)];by_cases hlt:s[k]<i
   .right;rw[aL hlt,ae];refine⟨(),rfl,fun a f m=>?_⟩;by_cases e:a=k
    .subst e;exact hlt
    .exact d a f (by omega)
   .left;rw[aQ hlt,aa];exact fin k (by omega) d (fun _=>hlt)
  .try dsimp only
   rw[KK,aE,aa];exact fin s.length (bG _) d (fun h=>absurd h (Vo _))
def oa {l:List Int}(h:l.length<=1073741824):dZ F0 l=some (l,()):=by rw[CH,ar (by omega) (by omega) (by omega),ab];rfl
def aiq {U:Type}(p:U->Bool):∀(l:List U) (j:Nat),(p1 p l (j:Int)=-1/\∀x∈l,p x=false)\/∃k,∃h:k<l.length,p1 p l (j:Int)=((j+k:Nat):Int)/\p l[k]=true/\∀i (hi:i<l.length),i<k->p l[i]=false
 |[],j=>.inl ⟨rfl,by simp⟩
 |x::l,j=>by
  unfold p1;cases a:p x with
  |true=>exact .inr ⟨0,by simp,by simp,by simpa using a,fun i _ hi=>absurd hi (S1 _)⟩
  |false =>
   have e:(j:Int)+1=((j+1:Nat):Int):=by omega
   dsimp only;rw[e];rcases aiq p l (j+1) with ⟨b,c⟩|⟨k,f,b,c,g⟩
   .refine .inl ⟨b,fun y d=>?_⟩;rcases cT.1 d with rfl|d
    .exact a
    .exact c y d
   .refine .inr ⟨k+1,by simpa using f,by rw[b];omega,by simpa using c,fun i hi m=>?_⟩;cases i with
    |zero=>simpa using a|succ i=>simpa using g i (by simpa using hi) (by omega)
def JM {k a b:Nat}(c:k<=a)(d:1<=b)(e:a+b<=1073741824):ajk (k:Int) a b=true:=by unfold ajk;rw[aL (show(0:Int)<=k by omega),aL (show(k:Int)<=a by omega),aL (show(1:Int)<=b by omega),aL (show((a+b:Nat):Int)<=1073741824 by omega)];rfl
def aj4 {s:List Int}(h:s.length<=1048576)(i:Int):FH F0 s i=some (Ro s i,()):=by
 rw[apq,eA (by omega),ai];unfold Ro;by_cases c:i∈s
 .rw[aL c,ae,ag c,oa (by omega),ai]
 .rw[aQ c,aa,af c];rcases aiq (fun e=>geP e i) s 0 with ⟨b,d⟩|⟨k,m,b,d,j⟩
  .have b:p1 (fun e=>geP e i) s 0=-1:=b;rw[b,show decide ((-1:Int)<0)=true from rfl,ae,oa (by omega),ai,JM (bG _) (by simp) (by simp only[aW,bj];omega),ab,gr,
    amH (k:=s.length) (bG _) (fun f g _=>?_) (fun h=>absurd h (Vo _))]
   .simp
   .have:=ags (d s[f] (bH g));omega
  .have b:p1 (fun e=>geP e i) s 0=((0+k:Nat):Int):=b;rw[wO]at b;have d:=ng d;rw[b,show decide (((k:Nat):Int)<0)=false from aQ (by omega),aa,oa (by omega),ai,JM (k:=k) (a:=s.length) (by omega) (by simp) (by simp only[aW,bj];omega),ab,gr,
    amH (k:=k) (by omega) (fun f g l=>?_) (fun _=>by omega)]
   .simp
   .have:=ags (j f g l);omega
def gp (lo hi x:Int):Bool:=decide (lo<=x)&&decide (x<=hi)
def cQ (x lo hi:Int):bN F0 x lo hi=some (gp lo hi x,()):=afw x lo hi
def bR (x lo hi:Int):aZ F0 x lo hi=some (gp lo hi x,()):=Ss x lo hi
def ef {U:Type}{l:List U}{k:Nat}(h:k<l.length):l.take (k+1)=l.take k++[l[k]]:=by rw[Ml,og h];rfl
abbrev bZ:=Int×ByteArray×List Int
def bg (l:List UInt8):Bool:=(a6 l).2
def aD (l:List UInt8):Int:=match (a6 l).1.getLast? with|some s=>s.1|none=>0
def XW {l:List UInt8}(h:(a6 l).2=false):(a6 l).1=[]:=by
 unfold a6 at h ⊢;split
 .rfl
 .rename_i a;rw[af a]at h;split
  .rfl
  .rename_i b;rw[b]at h;dsimp only at h;split
   .rfl
   .rename_i c;rw[af c]at h;split
    .rfl
    .rename_i d;rw[d]at h;cases h
def Sy {l:List UInt8}(h:l.length<=1073741824):eZ F0 (tx l)=some (bg l,()):=by rw[anX,YS h,ai];rfl
def Oq {l:List UInt8}(h:l.length<=1073741824):e5 F0 (tx l)=some (bg l,()):=by rw[ao6,Sv h,ai];rfl
def atQ (ss:List Rn)(f:ss.length<=30)(d:Rn:=(0,[])):br ((ss.length:Int)==0) (some ((0:Int),())) (ck (bE (aj ((ss.length:Int)-1)) (ss.length:Int)) (some ((aH ss (aj ((ss.length:Int)-1)) d).1,())))=some ((match ss.getLast? with|some s=>s.1|none=>0),()):=by
 cases a:ss with
 |nil=>rfl
 |cons s r =>
  rw[<-a];have e:ss.length≠0:=by rw[a];simp
  have b:((ss.length:Int)==0)=false:=bT.2 (by omega);have c:aj ((ss.length:Int)-1)=((ss.length-1:Nat):Int):=by rw[aI (by omega) (by omega)];omega
  rw[b,aa,c,an (by omega),ab,abp (by omega),List.getLast?_eq_getElem?,og (by omega)]
def ap3 {l:List UInt8}(h:l.length<=1073741824):du F0 (tx l)=some (aD l,()):=by
 rw[anY,YS h,ai];dsimp only;cases a:(a6 l).2 with
 |true =>
  rw[aN,aa];exact atQ _ (rA l)
 |false =>
  rw[eh,ae];unfold aD;rw[XW a];rfl
def aj5 {l:List UInt8}(h:l.length<=1073741824):er F0 (tx l)=some (aD l,()):=by rw[ao7,Sv h,ai];exact atQ _ (rA l)
def mX (l:List UInt8):0<=aD l/\aD l<=60:=by
 unfold aD;split
 .rename_i s a;have:=Su l s (List.mem_of_getLast? a);exact⟨this.1,this.2.1⟩
 .omega
def bq (c:Int×Int):Bool:=gp 4 7 c.1&&gp 1 6 c.2
def ix (c:Int×Int):dJ F0 c=some (bq c,()):=by rw[anT,cQ,ai,cQ,ai];unfold bq;dsimp only;cases gp 4 7 c.1<;>rfl
def fS (c:Int×Int):ep F0 c=some (bq c,()):=by rw[ao2,bR,ai,bR,ai];unfold bq;dsimp only;cases gp 4 7 c.1<;>rfl
def b3 {c:Int×Int}(h:bq c=true):4<=c.1/\c.1<=7/\1<=c.2/\c.2<=6:=by unfold bq gp at h;simp only[aG,bV]at h;omega
def ayL {n:Int}(a:4<=n)(b:n<=7):1<=Int.tdiv (n-1) 3/\Int.tdiv (n-1) 3<=2:=by
 have:n=4\/n=5\/n=6\/n=7:=by omega
 rcases this with rfl|rfl|rfl|rfl<;>decide
def tG (c:Int×Int):Int:=if bq c=true then Int.tdiv (c.1-1) 3 else 0
def tH (c:Int×Int):Int:=if bq c=true then c.1-Int.tdiv (c.1-1) 3 else 0
def aj6 (c:Int×Int):Fx F0 c=some (tG c,()):=by
 rw[ao8,fS,ai];unfold tG;dsimp only;cases h:bq c with
 |false=>rfl
 |true =>
  have:=b3 h;have a:=ayL this.1 this.2.1;have e:aj (c.1-1)=c.1-1:=aI (by omega) (by omega);rw[aN,aa,e,aI (by omega) (by omega),ag rfl]
def aj7 (c:Int×Int):Fy F0 c=some (tH c,()):=by
 rw[ao9,fS,ai,aj6,ai];unfold tH tG;dsimp only;cases h:bq c with
 |false=>rfl
 |true =>
  have:=b3 h;have a:=ayL this.1 this.2.1;rw[aN,aa,ag rfl,ag rfl,aI (by omega) (by omega)]
def acP (c:Int×Int):wW F0 c=some (tH c,()):=by
 rw[anZ,ix,ai];unfold tH;dsimp only;cases h:bq c with
 |false=>rfl
 |true =>
  have:=b3 h;have a:=ayL this.1 this.2.1;have e:aj (c.1-1)=c.1-1:=aI (by omega) (by omega);rw[aN,aa,e,aI (n:=Int.tdiv (c.1-1) 3) (by omega) (by omega),aI (by omega) (by omega),ag rfl]
def iH (n:Int)(s:List Int):Bool:=(List.range s.length).all fun k=>decide (0<=s.getD k 0)&&(decide (s.getD k 0<n)&&(decide (k=0) || decide (s.getD (k-1) 0<s.getD k 0)))
def Sz {V:Type}{n:Int}{s:List Int}{k:Nat}(g:k<s.length)(x y:Option V) :
  br (decide (s.getD k 0<0)) x (br (decide (s.getD k 0>=n)) x (br (decide ((k:Int)>0)) (br (decide (s.getD (k-1) 0>=s.getD k 0)) x y) y)) =
  if (decide (0<=s.getD k 0)&&(decide (s.getD k 0<n)&&(decide (k=0) || decide (s.getD (k-1) 0<s.getD k 0))))=true then y else x:=by
 generalize s.getD k 0=a;generalize s.getD (k-1) 0=b;by_cases c:a<0
 .rw[aL c,ae,aQ (show ¬0<=a by omega)];rfl
 .rw[aQ c,aa,aL (show 0<=a by omega),eD];by_cases d:a>=n
  .rw[aL d,ae,aQ (show ¬a<n by omega)];rfl
  .rw[aQ d,aa,aL (show a<n by omega),eD];by_cases e:k=0
   .subst e;rfl
   .rw[aL (show(k:Int)>0 by omega),ae,aQ e,JY];by_cases f:b>=a
    .rw[aL f,ae,aQ (show ¬b<a by omega)];rfl
    .rw[aQ f,aa,aL (show b<a by omega)];rfl
def LZ {k:Nat}(a:0<k)(h:k<=9223372036854775807):aj ((k:Int)-1)=((k-1:Nat):Int):=by rw[aI (by omega) (by omega)];omega
def air {s:List Int}(h:s.length<=1073741824)(n:Int):Cj F0 n s=some (iH n s,()):=by
 rw[ar2,eM (fun m k=>yv F0 (yw F0) m (p8 n s k)) s.length (fun k=>decide (0<=s.getD k 0)&&(decide (s.getD k 0<n)&&(decide (k=0) || decide (s.getD (k-1) 0<s.getD k 0)))) (some (true,())) (some (false,())) (fun m k a=>?_) (fun m=>?_) _ (by rw[bB];omega)]
 .show(if iH n s=true then _ else _)=_;cases iH n s<;>rfl
 .rw[My,aM a,ae,an a,ab,ly,akL,ab,al (by omega)];by_cases b:k=0
  .subst b;rw[<-Sz a];rfl
  .rw[LZ (by omega) (by omega),an (show k-1<s.length by omega),ab,ab,ly,<-Sz a]
 .rw[My,aE,aa,agR]
def acQ {s:List Int}(h:s.length<=1073741824)(n:Int):wv F0 n s=some (iH n s,()):=by
 rw[aso,eM (fun m k=>Av F0 (Aw F0) m (q7 n s s (s.length:Int) k)) s.length (fun k=>decide (0<=s.getD k 0)&&(decide (s.getD k 0<n)&&(decide (k=0) || decide (s.getD (k-1) 0<s.getD k 0)))) (some (true,())) (some (false,())) (fun m k a=>?_) (fun m=>?_) _ (by rw[bB];omega)]
 .show(if iH n s=true then _ else _)=_;cases iH n s<;>rfl
 .rw[Nu,aM a,ae,an a,ab,ly,alL,al (by omega)];by_cases b:k=0
  .subst b;rw[<-Sz a];rfl
  .rw[LZ (by omega) (by omega),an (show k-1<s.length by omega),ab,ly,<-Sz a]
 .rw[Nu,aE,aa,ahw]
def ais {a b:List Int}(h:a.length<=1073741824):gV F0 a b=some (decide (a=b),()):=by
 rw[Qz];by_cases d:a.length=b.length
 .have e:((a.length:Int) != (b.length:Int))=false:=by rw[d];exact am2 (b.length:Int)
  rw[e,aa,eM (fun m k=>iR F0 (gF F0) m (gE a b (a.length:Int) k)) a.length (fun k=>a.getD k 0==b.getD k 0) (some (true,())) (some (false,())) (fun m k f=>?_) (fun m=>?_) _ (by rw[bB];omega)]
  .by_cases c:a=b
   .rw[aL c,ag (eb.2 fun k _=>by rw[c];exact ZN (b.getD k 0))]
   .rw[aQ c,af];intro j;refine c (List.ext_getElem d fun k g l=>?_);have:=eb.1 j k (eU.2 g);simpa [List.getD,g,l]using this
  .rw[pG,aM f,ae,an f,ab,an (d▸f),ab,ly,ly,Mj,al (by omega),aBo];by_cases i:a.getD k 0=b.getD k 0
   .simp[i]
   .simp[i]
  .rw[pG,aE,aa,K0]
 .have e:((a.length:Int) != (b.length:Int))=true:=E3.2 (by omega);rw[e,ae,aQ (fun c=>d (by rw[c]))]
def ZK (c:Int×Int)(q:Int×List UInt8×List Int):Bool:=bq c&&(bg q.2.1&&(decide (aD q.2.1=q.1)&&(if q.2.1=[] then decide (q.2.2=[]) else iH c.1 q.2.2&&decide ((q.2.2.length:Int)>=tH c))))
def awG:ak=tx []:=rfl
def ap4 {q:bZ}(h:q.2.2.length<=1073741824):gZ F0 q=some (q,()):=by rw[aph,oa h,ai]
def aBp {v c:Int}{a b:List UInt8}{s t:List Int}(h:s.length<=1073741824):jx F0 (v,tx a,s) (c,tx b,t)=some ((v==c)&&(decide (a=b)&&decide (s=t)),()):=by rw[WU];dsimp only;rw[UN,ais h,ai];cases (v==c)<;>cases decide (a=b)<;>rfl
def ayM {v:Int}{l:List UInt8}{s:List Int}(d:l.length<=1073741824)(e:s.length<=1073741824)(c:Int×Int):ku F0 c (v,tx l,s)=some (ZK c (v,l,s),()):=by
 rw[avP,ix,ai];unfold ZK;dsimp only;rw[Sy d,ai,ap3 d,ai,air e,ai,acP,ai,awG,UN];cases bq c with
 |false=>rfl
 |true =>
  cases bg l with
  |false=>rfl
  |true =>
   by_cases a:aD l=v
   .rw[aL a,show(aD l != v)=false by rw[a];exact am2 v];by_cases b:l=[]
    .rw[aL b,ag b];cases s with
     |nil=>rfl|cons x r=>rfl
    .rw[aQ b,af b];cases iH c.1 s<;>rfl
   .rw[aQ a,show(aD l != v)=true from E3.2 a];rfl
def aE0 {c:UInt8}{l:List UInt8}(h:parts c l=[[]]):l=[]:=by
 cases l with
 |nil=>rfl
 |cons x l =>
  unfold parts at h;split at h
  .exact absurd (tL h).2 (FZ c l)
  .split at h
   .cases (tL h).1
   .cases (tL h).1
def ayN {σ V:Type}{f:σ->List UInt8->Option (σ×V)}{I:σ->Prop}{Q:V->Prop}(e:∀s p a b,I s->f s p=some (a,b)->Q b/\I a):∀{l:List (List UInt8)} {s:σ} {r:List V},I s->tF f s l=some r->∀b∈r,Q b
 |[],s,r,_,h,b,hb=>by cases h;cases hb
 |p::l,s,r,g,h,b,hb=>by
  unfold tF at h;cases c:f s p with
  |none=>rw[c]at h;cases h
  |some x =>
   obtain⟨a,i⟩:=x;rw[c]at h;obtain⟨j,k⟩:=e s p a i g c;dsimp only at h;cases d:tF f a l with
   |none=>rw[d]at h;cases h
   |some m =>
    rw[d]at h;cases h;rcases cT.1 hb with rfl|hb
    .exact j
    .exact ayN e k d b hb
def awH {l:List UInt8}:∀s∈(a6 l).1,1<=s.1:=by
 unfold a6;split
 .simp
 .split
  .simp
  .split
   .simp
   .split
    .simp
    .rename_i d;refine ayN (I:=fun s=>0<=s) (Q:=fun b=>1<=b.1) (fun s p e b f a=>?_) (by omega) d;obtain⟨g,h⟩:=XU a;unfold tn at a;split at a
     .rename_i c;cases a;exact⟨by have:=c.2.2.2.1;show 1<=_;omega,by have:=c.2.2.2.1;omega⟩
     .cases a
def aBq {l:List UInt8}(h:bg l=true)(c:l≠[]):(a6 l).1≠[]:=by
 unfold bg at h;unfold a6 at h ⊢;rw[af c]at h ⊢;cases b:parts 47 l with
 |nil=>rw[b]at h;cases h
 |cons g d =>
  rw[b]at h;dsimp only at h ⊢;split
  .rename_i a;rw[ag a]at h;cases h
  .rename_i a;rw[af a]at h;have i:g=[]:=axJ fun j=>a (.inl j)
   cases e:tF tn 0 d with
   |none=>rw[e]at h;cases h
   |some r =>
    dsimp only;intro k;have f:=Rm e;rw[k]at f;have:d=[]:=ZL f.symm;subst this i;exact c (aE0 b)
def ap5 {l:List UInt8}(h:bg l=true)(b:l≠[]):1<=aD l:=by
 have c:=aBq h b;unfold aD;cases a:(a6 l).1.getLast? with
 |none=>exact absurd (List.getLast?_eq_none_iff.1 a) c|some s=>exact awH s (List.mem_of_getLast? a)
def SA:aD []=0:=rfl
def ap6:bg []=true:=rfl
def aGY (c:Int×Int)(v:Int)(l:List UInt8)(s:List Int) :
  (bq c&&(((v==0)&&(decide (l=[])&&decide (s=[]))) || (decide (v>=1)&&(bg l&&((v==aD l)&&(iH c.1 s&&decide ((s.length:Int)>=tH c)))))))=ZK c (v,l,s):=by
 unfold ZK;dsimp only;cases e:bq c with
 |false=>rfl
 |true =>
  rw[eD,eD];by_cases b:l=[]
  .subst b;rw[SA,ap6,ag rfl,aL rfl,eD,eD,eD];by_cases a:v=0
   .subst a;rw[ZN,aL rfl,aQ (show ¬(0:Int)>=1 by omega),ZP,am7]
   .rw[bT.2 a,aQ (show ¬(0:Int)=v from fun h=>a h.symm)];simp
  .rw[aQ b,ZP,adt,JY,af b];cases d:bg l with
   |false=>rw[ZP,ZP,adt]
   |true =>
    have:=ap5 d b;by_cases a:v=aD l
    .rw[aL (show v>=1 by omega),bf.2 a,aL a.symm];rfl
    .rw[bT.2 a,aQ (show ¬aD l=v from fun h=>a h.symm)];simp
def atS {v:Int}{l:List UInt8}{s:List Int}(a:l.length<=1073741824)(b:s.length<=1073741824)(c:Int×Int):mz F0 c (v,tx l,s)=some (ZK c (v,l,s),()):=by rw[<-aGY,av7,fS,ai,T5,ai];dsimp only;rw[awG,aBp b,ai,Oq a,ai,aj5 a,ai,acQ b,ai,aj7,ai];dsimp only;generalize bg l=d;generalize aD l=e;generalize iH c.1 s=f;generalize decide ((s.length:Int)>=tH c)=g;generalize decide (v>=1)=h;generalize ((v==0)&&(decide (l=[])&&decide (s=[])))=i;generalize (v==e)=j;cases bq c<;>cases d<;>cases f<;>cases g<;>cases h<;>cases i<;>cases j<;>rfl
def XX (c:Int×Int)(p:Int×List UInt8×List Int):Option (Int×List UInt8×List Int):=if p.2.1≠[]/\ZK c p=true then some p else none
def aDT (o:Option (Int×List UInt8×List Int)):bZ×Bool:=match o with
 |some q=>((q.1,tx q.2.1,q.2.2),true)|none=>((0,tx [],[]),false)
def aBr {v:Int}{l:List UInt8}{s:List Int}(b:l.length<=1073741824)(d:s.length<=1073741824)(c:Int×Int):Fp F0 c (v,tx l,s)=some ((aDT (XX c (v,l,s))).1,(aDT (XX c (v,l,s))).2,()):=by
 rw[aot];dsimp only;rw[ar (by omega) (by omega) (by omega),ab,awG,UN,BH,ayM b d,ai];unfold XX;dsimp only;by_cases a:l=[]
 .rw[aL a,ae,af (fun h=>h.1 a)];rfl
 .rw[aQ a,aa];cases e:ZK c (v,l,s) with
  |true=>rw[ag ⟨a,rfl⟩];rfl|false=>rw[af (fun h=>by cases h.2)];rfl
def aE1 {c:Int×Int}{v:Int}{l:List UInt8}{s:List Int}(h:ZK c (v,l,s)=true):(v==0)=decide (l=[]):=by
 unfold ZK at h;simp only[aG,bV]at h;obtain⟨_,b,d,_⟩:=h;by_cases a:l=[]
 .subst a;rw[<-d];rfl
 .have:=ap5 b a;rw[aQ a];exact bT.2 (by omega)
def ayO {v:Int}{l:List UInt8}{s:List Int}(d:l.length<=1073741824)(b:s.length<=1073741824)(c:Int×Int):FK F0 c (v,tx l,s)=some ((aDT (XX c (v,l,s))).1,(aDT (XX c (v,l,s))).2,()):=by
 rw[aps,ap4 (q:=(v,tx l,s)) b,ai];dsimp only;rw[atS d b,ai];unfold XX;dsimp only;cases e:ZK c (v,l,s) with
 |false=>rw[af (fun h=>by cases h.2)];rfl
 |true =>
  rw[aN,aa,aE1 e];by_cases a:l=[]
  .rw[aL a,ae,af (fun h=>h.1 a)];rfl
  .rw[aQ a,aa,ag ⟨a,rfl⟩];rfl
def b4 (c:Int×Int)(view:Int):Int:=if bq c=true/\0<=view then view%c.1 else -1
def XY (c:Int×Int)(view s:Int):Int:=if bq c=true/\0<=view/\0<=s/\s<=c.1-1 then (view%c.1+s)%c.1 else -1
def bM (c:Int×Int)(view i:Int):Int:=if bq c=true/\0<=view/\0<=i/\i<=c.1-1 then (i+c.1-view%c.1)%c.1 else -1
def Rp (c:Int×Int)(view i:Int):Int:=if bM c view i<=0 then -1 else XY c view ((bM c view i-1)/c.2)
def uk {a b:Int}(h:0<=a):Int.tmod a b=a%b:=amV h
def ne0 {n:Int}(h:4<=n):(!(n==0))=true:=by rw[bT.2 (show n≠0 by omega)];rfl
def amI {lo hi x:Int}:gp lo hi x=decide (lo<=x/\x<=hi):=by unfold gp;by_cases a:lo<=x<;>by_cases b:x<=hi<;>simp[a,b]
def awI {n:Int}(a:4<=n)(view:Int):0<=view%n/\view%n<n:=⟨Vn _ (by omega),amY _ (by omega)⟩
def L0 (c:Int×Int)(view:Int):mj F0 c view=some (b4 c view,()):=by
 rw[avR,ix,ai];unfold b4;cases b:bq c with
 |false=>rfl
 |true =>
  have d:=b3 b;by_cases a:view<0
  .rw[aL a,af (fun h=>by omega)];rfl
  .rw[aQ a,aN,aa,aa,ne0 d.1,ab,ag ⟨rfl,by omega⟩,uk (by omega)]
def JN (c:Int×Int)(view:Int):sQ F0 c view=some (b4 c view,()):=by
 rw[awh,fS,ai];unfold b4;cases b:bq c with
 |false=>rfl
 |true =>
  have d:=b3 b;by_cases a:view<0
  .rw[aL a,af (fun h=>by omega)];rfl
  .rw[aQ a,aN,aa,aa,ne0 d.1,ab,ag ⟨rfl,by omega⟩,uk (by omega)]
def XZ {n:Int}(a:4<=n)(b:n<=7):aj (n-1)=n-1:=aI (by omega) (by omega)
def aGZ (c:Int×Int)(view s:Int):YE F0 c view s=some (XY c view s,()):=by
 rw[avV,ix,ai];unfold XY;cases f:bq c with
 |false=>rfl
 |true =>
  have d:=b3 f;have g:=awI d.1 view;by_cases e:view<0
  .rw[aL e,af (fun h=>by omega)];rfl
  .rw[aQ e,aN,aa,aa,cQ,ai,XZ d.1 d.2.1,amI];by_cases b:0<=s/\s<=c.1-1
   .rw[aL b,aN,aa,ne0 d.1,ab,ab,ag ⟨rfl,by omega,b.1,b.2⟩,uk (a:=view) (by omega),aI (by omega) (by omega),uk (by omega)]
   .rw[aQ b,af (fun h=>b ⟨h.2.2.1,h.2.2.2⟩)];rfl
def aE2 (c:Int×Int)(view s:Int):YM F0 c view s=some (XY c view s,()):=by
 rw[awk,fS,ai];unfold XY;cases f:bq c with
 |false=>rfl
 |true =>
  have d:=b3 f;have g:=awI d.1 view;by_cases e:view<0
  .rw[aL e,af (fun h=>by omega)];rfl
  .rw[aQ e,aN,aa,aa,bR,ai,XZ d.1 d.2.1,amI];by_cases b:0<=s/\s<=c.1-1
   .rw[aL b,aN,aa,ne0 d.1,ab,ab,ag ⟨rfl,by omega,b.1,b.2⟩,uk (a:=view) (by omega),aI (by omega) (by omega),uk (by omega)]
   .rw[aQ b,af (fun h=>b ⟨h.2.2.1,h.2.2.2⟩)];rfl
def X0 (c:Int×Int)(view i:Int):JI F0 c view i=some (bM c view i,()):=by
 rw[avU,ix,ai];unfold bM;cases f:bq c with
 |false=>rfl
 |true =>
  have d:=b3 f;have g:=awI d.1 view;by_cases e:view<0
  .rw[aL e,af (fun h=>by omega)];rfl
  .rw[aQ e,aN,aa,aa,cQ,ai,XZ d.1 d.2.1,amI];by_cases b:0<=i/\i<=c.1-1
   .rw[aL b,aN,aa,ne0 d.1,ab,ab,ag ⟨rfl,by omega,b.1,b.2⟩,uk (a:=view) (by omega),aI (n:=i+c.1) (by omega) (by omega),aI (by omega) (by omega),uk (by omega)]
   .rw[aQ b,af (fun h=>b ⟨h.2.2.1,h.2.2.2⟩)];rfl
def JO (c:Int×Int)(view i:Int):JJ F0 c view i=some (bM c view i,()):=by
 rw[awj,fS,ai];unfold bM;cases f:bq c with
 |false=>rfl
 |true =>
  have d:=b3 f;have g:=awI d.1 view;by_cases e:view<0
  .rw[aL e,af (fun h=>by omega)];rfl
  .rw[aQ e,aN,aa,aa,bR,ai,XZ d.1 d.2.1,amI];by_cases b:0<=i/\i<=c.1-1
   .rw[aL b,aN,aa,ne0 d.1,ab,ab,ag ⟨rfl,by omega,b.1,b.2⟩,uk (a:=view) (by omega),aI (n:=i-view%c.1) (by omega) (by omega),aI (by omega) (by omega),uk (by omega),
     show i-view%c.1+c.1=i+c.1-view%c.1 by omega]
   .rw[aQ b,af (fun h=>b ⟨h.2.2.1,h.2.2.2⟩)];rfl
def YU (c:Int×Int)(view i:Int):-1<=bM c view i/\bM c view i<=6:=by
 unfold bM;split
 .rename_i h;have a:=b3 h.1;have b:=Vn (i+c.1-view%c.1) (show c.1≠0 by omega);have d:=amY (i+c.1-view%c.1) (show 0<c.1 by omega);omega
 .omega
def aj8 {c:Int×Int}{view i:Int}(h:0<=bM c view i):bq c=true:=by
 unfold bM at h;split at h
 .rename_i a;exact a.1
 .omega
def aG0 {a b:Int}(c:0<=a)(d:a<=6)(e:1<=b):0<=a/b/\a/b<=6:=⟨Int.ediv_nonneg c (by omega),agv (Int.ediv_le_self b c) d⟩
def aG1 (c:Int×Int)(view i:Int):YF F0 c view i=some (Rp c view i,()):=by
 rw[aBg,X0,ai];unfold Rp;have f:=YU c view i;by_cases d:bM c view i<=0
 .rw[aL (show(bM c view i,()).1<=0 from d),ae,ag d]
 .have e:=b3 (aj8 (c:=c) (view:=view) (i:=i) (by omega));have g:=aG0 (a:=bM c view i-1) (b:=c.2) (by omega) (by omega) e.2.2.1;rw[aQ (show ¬(bM c view i,()).1<=0 from d),aa,af d,show(!(c.2==0))=true by rw[bT.2 (show c.2≠0 by omega)];rfl,ab];dsimp only;rw[aI (n:=bM c view i-1) (by omega) (by omega),amW (show 0<=bM c view i-1 by omega),aI (by omega) (by omega),aGZ,ai]
def aDU (c:Int×Int)(view i:Int):YN F0 c view i=some (Rp c view i,()):=by
 rw[aBh,JO,ai];unfold Rp;have f:=YU c view i;by_cases d:bM c view i<=0
 .rw[aL (show(bM c view i,()).1<1 by show bM c view i<1;omega),ae,ag d]
 .have e:=b3 (aj8 (c:=c) (view:=view) (i:=i) (by omega));have g:=aG0 (a:=bM c view i-1) (b:=c.2) (by omega) (by omega) e.2.2.1;rw[aQ (show ¬(bM c view i,()).1<1 by show ¬bM c view i<1;omega),aa,af d,show(!(c.2==0))=true by rw[bT.2 (show c.2≠0 by omega)];rfl,ab];dsimp only;rw[aI (n:=bM c view i-1) (by omega) (by omega),amW (show 0<=bM c view i-1 by omega),aI (by omega) (by omega),aE2,ai]
def afA (a b:List Int):List Int:=b.foldl Ro (a.foldl Ro [])
def mY:∀(l a:List Int),(l.foldl Ro a).length<=a.length+l.length
 |[],a=>by simp
 |x::l,a=>by have b:=mY l (Ro a x);have c:=ap2 a x;rw[auU,aW];omega
def aE3 (a b:List Int):(afA a b).length<=a.length+b.length:=by unfold afA;have d:=mY b (a.foldl Ro []);have c:=mY a [];rw[bj]at c;omega
def YV {γ:Type}(X:Nat->Int->List Int->Option γ)(l a:List Int)(R:Option γ)(f:a.length+l.length<=1048576)(c:∀n k xs (h:k<l.length),xs.length<=1048575->X (n+1) (k:Int) xs=X n ((k+1:Nat):Int) (Ro xs l[k]))
  (d:∀n,X (n+1) (l.length:Int) (l.foldl Ro a)=R) (n:Nat) (e:l.length<n):X n 0 a=R:=by
 refine cu X l.length (fun k xs=>xs=(l.take k).foldl Ro a) R (fun n k xs b h=>.inr ⟨Ro xs l[k],c n k xs b ?_,?_⟩) (fun n xs h=>?_) n 0 a (aR _) rfl (by omega)
 .have:=mY (l.take k) a;rw[h];rw[bz]at this;omega
 .rw[ef b,List.foldl_append,<-h];rfl
 .rw[ki]at h;rw[h];exact d n
def ayP {a b:List Int}(h:a.length+b.length<=1048576):IC F0 a b=some (afA a b,()):=by
 rw[alm];have d:=mY a [];rw[bj]at d;refine YV (fun n i xs=>za F0 (CB F0) n (r8 a b i xs)) a [] _ (by rw[bj];omega) (fun n k xs c e=>?_) (fun n=>?_) _ (by rw[bB];omega)
 .rw[Hj,aM c,ae,an c,ab,aT c,acO (by omega),ai,al (by omega)]
 .rw[Hj,aE,aa,ace];refine YV (fun n i xs=>y9 F0 (CA F0) n (r7 b i xs)) b (a.foldl Ro []) _ (by omega) (fun n k xs c e=>?_) (fun n=>?_) _ (by rw[bB];omega)
  .rw[Hi,aM c,ae,an c,ab,aT c,acO (by omega),ai,al (by omega)]
  .rw[Hi,aE,aa,acd];rfl
def awJ {a b:List Int}(h:a.length+b.length<=1048576):I7 F0 a b=some (afA a b,()):=by
 rw[amc];have d:=mY a [];rw[bj]at d;refine YV (fun n i xs=>A3 F0 (C0 F0) n (sO b a (a.length:Int) i xs)) a [] _ (by rw[bj];omega) (fun n k xs c e=>?_) (fun n=>?_) _ (by rw[bB];omega)
 .rw[HI,aM c,ae,an c,ab,aT c,aj4 (by omega),ai,al (by omega)]
 .rw[HI,aE,aa,acA];refine YV (fun n i xs=>A2 F0 (CZ F0) n (sN b (b.length:Int) i xs)) b (a.foldl Ro []) _ (by omega) (fun n k xs c e=>?_) (fun n=>?_) _ (by rw[bB];omega)
  .rw[HH,aM c,ae,an c,ab,aT c,aj4 (by omega),ai,al (by omega)]
  .rw[HH,aE,aa,acz];rfl
def iW {i n:Int}(a:0<=i)(h:i<n):bE i n=true:=by simp[bE];omega
end Go.Am.Tryz
