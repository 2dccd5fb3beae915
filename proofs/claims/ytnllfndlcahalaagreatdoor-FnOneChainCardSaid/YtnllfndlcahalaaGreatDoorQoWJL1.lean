/- No condition. -/
import Derived.Test.YtnllfndlcahalaaGreatDoorQoWJG7
import Derived.Lib.MinMaxS
import Derived.Lib.CutLaws
import Derived.Lib.PathFns
import Derived.Lib.SplitLaws
import Derived.Test.YtnllfndlcahalaaGreatDoorQoAmData
set_option linter.all false
namespace Go.Am.Tryz
open Go.Am
def I64 (n:Int):Prop:=-9223372036854775808<=n/\n<=9223372036854775807
def CS {n:Int}(h:I64 n):kI F0 n=some (tx (Lib.itoa n),()):=by
 rw[anY];by_cases a:n=0
 .subst a;simp only[Vk,ae]
  congr 2
  simp[tx,Lib.itoa,Lib.decDigits]
 .rw[show(n==0)=false from bU.2 a,aa];have r:(Lib.decDigits n.natAbs).length<=20:=by rw[Lib.decDigits_length];exact Lib.nDigits_le20 _ (by obtain⟨f,g⟩:=h;omega)
  refine aC9 (fun m (x:Int×List UInt8)=>tC F0 (Gb F0) m (oc x.1 (decide (n<0)) (tx x.2))) _ (fun x=>I64 x.1/\aEI x.1.natAbs++x.2=Lib.decDigits n.natAbs) (fun x=>x.1.natAbs) (fun m x p=>?_) _ (n,[]) ⟨h,?_⟩ ?_
  .obtain⟨x,l⟩:=x;obtain⟨⟨f,g⟩,b⟩:=p;simp only at f g b ⊢;have s:l.length<=20:=by have:=n7 List.length b;rw[aJ]at this;omega
   by_cases k:x=0
   .left;subst k;rw[Ke];simp only[am6,aa,adZ];rw[show aEI (Int.natAbs 0)=[] from rfl,BA]at b;subst b;by_cases c:n<0
    .rw[aL c,ae,hZ (by rw[bD];have:(ByteArray.mk #[45]).size=1:=rfl;omega),ab,show ByteArray.mk #[45]=tx [45] from rfl,fW];unfold Lib.itoa;rw[ag c];rfl
    .rw[aQ c,aa];unfold Lib.itoa;rw[af c,show n.natAbs=n.toNat by omega]
   .right;have o:x.natAbs%10<10:=abE _ (by omega);have aLc:(Int.tdiv x 10).natAbs=x.natAbs/10:=by rw[Int.natAbs_tdiv];rfl
    have i:I64 (Int.tdiv x 10):=⟨by omega,by omega⟩;have q:=aGp (u:=x.natAbs) (by omega);have j:aj (Int.tdiv x 10)=Int.tdiv x 10:=aG i.1 i.2;refine⟨(Int.tdiv x 10,UInt8.ofNat (48+x.natAbs%10)::l),?_,⟨i,?_⟩,?_⟩
    .rw[Ke,show(x != 0)=true from EZ.2 k,ae];have key:tx [UInt8.ofNat (48+x.natAbs%10)]++tx l=tx (UInt8.ofNat (48+x.natAbs%10)::l):=by rw[fW];rfl
     have d:UW F0 (tx [UInt8.ofNat (48+x.natAbs%10)]).size (tx l).size=true:=hZ (by rw[bD,bD];simp only[aW,bm];omega);by_cases t:x<0
     .have e:Int.tmod x 10=-((x.natAbs%10:Nat):Int):=by obtain⟨u,rfl⟩:∃u:Nat,x=-(u:Int):=⟨x.natAbs,by omega⟩;rw[Int.neg_tmod,Int.natAbs_neg,Int.natAbs_natCast];rfl
      by_cases a:x.natAbs%10=0
      .rw[e,a,show decide (-((0:Nat):Int)<0)=false from rfl,aa,show(48+-((0:Nat):Int))=48+((0:Nat):Int) from rfl,dig (by omega)];rw[a]at d key;rw[d,ab,key,j]
      .rw[e,aL (by omega),ae,aG (n:=0 - -((x.natAbs%10:Nat):Int)) (by omega) (by omega),show(0:Int) - -((x.natAbs%10:Nat):Int)=((x.natAbs%10:Nat):Int) by omega,dig o,d,ab,key,j]
     .have e:Int.tmod x 10=((x.natAbs%10:Nat):Int):=by obtain⟨u,rfl⟩:∃u:Nat,x=(u:Int):=⟨x.natAbs,by omega⟩;rfl
      rw[e,aQ (by omega),aa,dig o,d,ab,key,j]
    .simp only;rw[aLc,<-b,q];simp
    .simp only;rw[aLc];omega
  .simp only[fi];unfold aEI;rw[af (by omega)]
  .simp only;rw[bz];obtain⟨f,g⟩:=h;omega
def Rj {n:Int}(h:I64 n):kT F0 n=some (tx (Lib.itoa n),()):=by rw[ao7];unfold strconv_Itoa;rw[aL h.1,aL h.2];rfl
def Sq {n:Int}(h:I64 n):(Lib.itoa n).length<=21:=Lib.itoa_length_le n h.1 h.2
def aim {xs:List ByteArray}{l:List (List UInt8)}{s:List UInt8}(h:(xs.map fun b=>b.data.toList)=l)(d:xs.length<=67108864)(e:(Lib.join l s).length<=67108864):strings_Join F0 xs (tx s)=some (tx (Lib.join l s),()):=by have a:decide ((xs.length:Int)<=F0.mem)=true:=aL (show((xs.length:Nat):Int)<=140737488355328 by omega);have c:decide (((Lib.join l s).length:Int)<=F0.mem)=true:=aL (show(((Lib.join l s).length:Nat):Int)<=140737488355328 by omega);unfold strings_Join anR;rw[h,fl,a,c];rfl
def UO (a b:List UInt8):((tx a).toList==(tx b).toList)=decide (a=b):=by
 rw[Lib.toList_data,Lib.toList_data,fl,fl];by_cases h:a=b
 .simp[h]
 .simp[h]
def YO (l:List UInt8)(k:Nat):jI (tx l) (k:Int)=((l.getD k 0).toNat:Int):=by unfold jI;rw[fl];rfl
def awD (c:UInt8):c.toNat<256:=UInt8.toNat_lt c
def isD (c:UInt8):Bool:=decide (48<=c.toNat)&&decide (c.toNat<=57)
def val:List UInt8->Nat->Nat
 |[],n=>n|c::l,n=>val l (10*n+(c.toNat-48))
def fx (l:List UInt8):Int×Bool :=
 if l.length<1\/6<l.length then (0,false)
 else if l.all isD then (if Lib.itoa (val l 0:Int)=l then ((val l 0:Int),true) else (0,false)) else (0,false)
def apU (a b:List UInt8)(n:Nat):val (a++b) n=val b (val a n):=by
 induction a generalizing n with
 |nil=>rfl|cons c l d=>exact d _
def aJ5 {l:List UInt8}(h:∀c∈l,isD c=true)(n:Nat):val l n<(n+1)*10 ^ l.length:=by
 induction l generalizing n with
 |nil=>simp[val]
 |cons c l a =>
  have b:=a (fun d e=>h d (jH _ e)) (10*n+(c.toNat-48));have f:=h c pT;simp only[isD,aF,bW]at f;refine EX b ?_;rw[aW,Nat.pow_succ];have g:10*n+(c.toNat-48)+1<=(n+1)*10:=by omega
  calc (10*n+(c.toNat-48)+1)*10 ^ l.length<=((n+1)*10)*10 ^ l.length:=GU _ g
   _=(n+1)*(10 ^ l.length*10):=by rw[Nat.mul_assoc,Nat.mul_comm 10]
def aGD {l:List UInt8}{k:Nat}(h:k<l.length):val (l.take (k+1)) 0=10*val (l.take k) 0+((l.getD k 0).toNat-48):=by rw[Mg,aI h 0,apU];rfl
def ain {l:List UInt8}(a:l.length<=6)(h:∀c∈l,isD c=true):val l 0<=999999:=by have b:=aJ5 h 0;have d:10 ^ l.length<=10 ^ 6:=Nat.pow_le_pow_right (by omega) a;omega
def apV (l:List UInt8):0<=(fx l).1/\(fx l).1<=999999:=by
 unfold fx;split
 .simp
 .split
  .rename_i d a;have:=ain (l:=l) (by omega) (fun c b=>ea.1 a c b);split
   .simp only;omega
   .simp
  .simp
def ayK {l:List UInt8}(t:1<=l.length)(o:l.length<=6){X:Nat->Int->Int->Option (Int×(Bool×Unit))}{D:Int->Option (ByteArray×Unit)}(p:∀n,I64 n->D n=some (tx (Lib.itoa n),()))
  (q:∀n k (m:Nat),k<l.length->m<=999999->X (n+1) m k=br (decide (((l.getD k 0).toNat:Int)<48)) (some (0,false,())) (br (decide (((l.getD k 0).toNat:Int)>57)) (some (0,false,())) (X n (aj (aj (10*m)+aj ((l.getD k 0).toNat-48))) ((k+1:Nat):Int))))
  (s:∀n (m:Nat),X (n+1) m l.length=(D m).bind fun r=>br (!(r.1.toList==(tx l).toList)) (some (0,false,())) (some ((m:Int),true,()))) (n:Nat) (u:6<n):X n 0 0=some ((fx l).1,(fx l).2,()):=by
 refine cu (fun n i (m:Nat)=>X n m i) l.length (fun k m=>m=val (l.take k) 0/\∀c∈l.take k,isD c=true) _ (fun n k m d f=>?_) (fun n m f=>?_) n 0 0 (aR _) ⟨rfl,by simp⟩ (by omega)
 .obtain⟨rfl,b⟩:=f;have g:=ain (l:=l.take k) (by rw[bB];omega) b;have j:=n9 d (0:UInt8);have v:=awD (l.getD k 0);rw[q n k _ d g];by_cases w:(l.getD k 0).toNat<48
  .left;rw[aL (by omega),ae];have:l.all isD=false:=by rw[agv];exact⟨_,j,fun h=>by simp only[isD,aF,bW]at h;omega⟩
   unfold fx;rw[af (by omega),this];rfl
  .by_cases x:(l.getD k 0).toNat>57
   .left;rw[aQ (by omega),aa,aL (by omega),ae];have:l.all isD=false:=by rw[agv];exact⟨_,j,fun h=>by simp only[isD,aF,bW]at h;omega⟩
    unfold fx;rw[af (by omega),this];rfl
   .right;refine⟨val (l.take (k+1)) 0,?_,rfl,?_⟩
    .rw[aQ (by omega),aa,aQ (by omega),aa,aGD d,aG (n:=10*_) (by omega) (by omega),aG (n:=((l.getD k 0).toNat:Int)-48) (by omega) (by omega),aG (by omega) (by omega)]
     congr 1
     omega
    .intro c a;rw[Mg,aI d 0]at a;rcases gF.1 a with a|a
     .exact b c a
     .simp only[am5,fM]at a;subst a;simp only[isD,aF,bW];omega
 .obtain⟨rfl,b⟩:=f;rw[kc]at b ⊢;have g:=ain o b;rw[s,p _ ⟨by omega,by omega⟩,ai,UO];unfold fx;rw[af (by omega),ag (ea.2 b)];by_cases e:Lib.itoa (val l 0:Int)=l
  .rw[aL e,ag e];rfl
  .rw[aQ e,af e];rfl
def CT (l:List UInt8):mY F0 (tx l)=some ((fx l).1,(fx l).2,()):=by
 rw[anZ,bD];by_cases b:l.length<1
 .rw[aL (by omega),ae];unfold fx;rw[ag (.inl b)]
 .rw[aQ (by omega),aa];by_cases c:6<l.length
  .rw[aL (by omega),ae];unfold fx;rw[ag (.inr c)]
  .rw[aQ (by omega),aa];refine ayK (X:=fun n m k=>Dj F0 (ui F0) n (uh (tx l) m k)) (by omega) (by omega) (fun n d=>CS d) (fun n k m a e=>?_) (fun n m=>?_) _ (by rw[bz];omega)
   .have f:=awD (l.getD k 0);rw[Kg];simp only[bD,YO,agQ,aM a,an a,ae,ab,al (show k+1<=9223372036854775807 by omega)]
    congr 2
    congr 2
    rw[aG (n:=10*(m:Int)) (by omega) (by omega),aG (n:=((l.getD k 0).toNat:Int)) (by omega) (by omega),aG (n:=10*(m:Int)+((l.getD k 0).toNat:Int)) (by omega) (by omega),aG (n:=((l.getD k 0).toNat:Int)-48) (by omega) (by omega)]
    congr 1
    omega
   .rw[Kg];simp only[bD,aB,aa,ad0]
def FU (l:List UInt8):nd F0 (tx l)=some ((fx l).1,(fx l).2,()):=by
 rw[ao8,bD];by_cases b:l.length<1
 .rw[aL (by omega),ae];unfold fx;rw[ag (.inl b)]
 .rw[aQ (by omega),aa];by_cases c:6<l.length
  .rw[aL (by omega),ae];unfold fx;rw[ag (.inr c)]
  .rw[aQ (by omega),aa];refine ayK (X:=fun n m k=>Eb F0 (vh F0) n (vg (tx l) m k)) (by omega) (by omega) (fun n d=>Rj d) (fun n k m a e=>?_) (fun n m=>?_) _ (by rw[bz];omega)
   .have f:=awD (l.getD k 0);rw[KY];simp only[bD,YO,ahv,aM a,an a,ae,ab,al (show k+1<=9223372036854775807 by omega)];by_cases g:(l.getD k 0).toNat<48
    .rw[aL (by omega),ae,ae]
    .rw[IntWalk.u8_in _ (by omega)]
   .rw[KY];simp only[bD,aB,aa,aeF]
def apW (l:List UInt8)(k:Nat):(tx l).extract 0 k=tx (l.take k):=by rw[J8 ((tx l).extract 0 k),Lib.Pa.extract_upto_list,fl]
def extract_from (l:List UInt8)(k:Nat):(tx l).extract k (tx l).size=tx (l.drop k):=by rw[J8 ((tx l).extract k (tx l).size),Lib.extract_to_end,fl]
def apX {a b:List UInt8}{c:UInt8}(h:c ∉ a):(a++c::b).takeWhile (· != c)=a/\(a++c::b).dropWhile (· != c)=c::b:=by
 induction a with
 |nil=>simp
 |cons x a d =>
  have e:(x != c)=true:=by simp;rintro rfl;simp at h
  have:=d fun f=>h (jH _ f)
  rw[GV,List.takeWhile_cons,List.dropWhile_cons,e];exact⟨by simp[this.1],by simp[this.2]⟩
def aJR {a:List UInt8}{c:UInt8}(h:c ∉ a):a.takeWhile (· != c)=a/\a.dropWhile (· != c)=[]:=by
 induction a with
 |nil=>simp
 |cons x a b =>
  have d:(x != c)=true:=by simp;rintro rfl;simp at h
  have:=b fun e=>h (jH _ e)
  rw[List.takeWhile_cons,List.dropWhile_cons,d];exact⟨by simp[this.1],by simp[this.2]⟩
def ayL {l:List UInt8}{k:Nat}(h:k<l.length):l=l.take k++l.getD k 0::l.drop (k+1):=by
 have:l.getD k 0=l[k]:=by simp[List.getD,h]
 rw[this,List.getElem_cons_drop,ZK]
def atV {l:List UInt8}(c:UInt8)(s:l.length<=4294967296) :
  h7 F0 (tx l) (c.toNat:Int)=some (if c∈l then (tx (l.takeWhile (· != c)),tx ((l.dropWhile (· != c)).drop 1),true,()) else (tx [],tx [],false,())):=by
 rw[ar4];refine cu (fun n i (_:Unit)=>H6 F0 (yf F0) n (ye (tx l) (c.toNat:Int) i)) l.length (fun k _=>c ∉ l.take k) _ (fun n k _ d a=>?_) (fun n _ a=>?_) F0.n 0 () (aR _) (by simp) (by rw[bz];omega)
 .rw[Mr,bD,aM d,ae,an d,ab,YO];by_cases e:l.getD k 0=c
  .left;have f:=ayL d;rw[e]at f;have j:=apX (b:=l.drop (k+1)) a;have g:((((l.getD k 0).toNat:Int))==(c.toNat:Int))=true:=by rw[e];simp
   have m:S5 0 (k:Int) (l.length:Int)=true:=by simp[S5];omega
   have o:S5 ((k+1:Nat):Int) (l.length:Int) (l.length:Int)=true:=by simp only[S5,aF,bW];omega
   rw[g,ae,m,ab,al (by omega),o,ab,akM];simp only[ho,show(0:Int).toNat=0 from rfl];have p:c∈l:=by rw[f];simp
   rw[ag p,apW,show((tx l).extract (k+1) l.length)=tx (l.drop (k+1)) by rw[<-extract_from,bD]];have q:l.takeWhile (· != c)=l.take k:=by
    have:=j.1
    rwa [<-f]at this
   have r:(l.dropWhile (· != c)).drop 1=l.drop (k+1):=by have:=j.2;rw[<-f]at this;rw[this];rfl
   rw[q,r]
  .right;have g:((((l.getD k 0).toNat:Int))==(c.toNat:Int))=false:=by refine bU.2 fun h=>e (UInt8.toNat_inj.1 (by omega))
   refine⟨(),by rw[g,aa,al (by omega)],?_⟩;rw[Mg,aI d 0];simp only[am5,gF,fM];rintro(h|h)
   .exact a h
   .exact e h.symm
 .rw[kc]at a;rw[Mr,bD,aB,aa,agP,af a];rfl
def afw {a b:List UInt8}{c:UInt8}(h:c ∉ a):Lib.indexByte (a++c::b) c=a.length:=by
 induction a with
 |nil=>simp[Lib.indexByte]
 |cons x a d =>
  have e:(x==c)=false:=by simp;rintro rfl;simp at h
  have:=d fun f=>h (jH _ f)
  rw[GV];unfold Lib.indexByte;rw[e,this];simp
def afx {a:List UInt8}{c:UInt8}(h:c ∉ a):Lib.indexByte a c=-1:=by
 induction a with
 |nil=>rfl
 |cons x a b =>
  have d:(x==c)=false:=by simp;rintro rfl;simp at h
  have:=b fun e=>h (jH _ e)
  unfold Lib.indexByte;rw[d,this];rfl
def afy {l:List UInt8}{c:UInt8}(h:c∈l):∃a b,l=a++c::b/\c ∉ a:=by
 induction l with
 |nil=>cases h
 |cons x l g =>
  by_cases d:x=c
  .exact⟨[],l,by rw[d];rfl,by simp⟩
  .rcases cS.1 h with e|e
   .exact absurd e.symm d
   .obtain⟨a,b,i,j⟩:=g e;exact⟨x::a,b,by rw[i];rfl,fun k=>by
     rcases cS.1 k with f|f
     .exact d f.symm
     .exact j f⟩
def aIB (l:List UInt8)(c:UInt8):Lib.cut l [c]=(l.takeWhile (· != c),(l.dropWhile (· != c)).drop 1,decide (c∈l)):=by
 unfold Lib.cut;rw[Lib.index_one];by_cases h:c∈l
 .obtain⟨a,b,rfl,d⟩:=afy h;rw[afw d,ag (by omega),(apX d).1,(apX d).2];simp[auY,List.drop_append]
 .rw[afx h,af (by omega),(aJR h).1,(aJR h).2];simp[h]
def vT {l:List UInt8}(c:UInt8)(a:l.length<4294967281):strings_Cut F0 (tx l) (tx [c])=some (tx (l.takeWhile (· != c)),tx ((l.dropWhile (· != c)).drop 1),decide (c∈l),()):=by
 have h:Nat.blt (tx l).size 4294967281=true:=by rw[bD];simpa using a
 unfold strings_Cut;rw[h,ab,fl,fl,aIB];rfl
abbrev dG:=Int×(Int×(Int×Int))
def afz (x lo hi:Int):bM F0 x lo hi=some (decide (lo<=x)&&decide (x<=hi),()):=by
 rw[avQ];by_cases h:lo<=x
 .rw[aL (show x>=lo from h),ae,en]
 .rw[aQ (show ¬x>=lo from h),aa,ZN]
def Sr (x lo hi:Int):aZ F0 x lo hi=some (decide (lo<=x)&&decide (x<=hi),()):=by
 rw[ao5];by_cases h:lo<=x
 .rw[aL (show x>=lo from h),ae,en]
 .rw[aQ (show ¬x>=lo from h),aa,ZN]
def inB (x lo hi:Int):Bool:=decide (lo<=x)&&decide (x<=hi)
def gm (x:dG):Bool:=inB x.1 0 3&&inB x.2.1 0 3&&inB x.2.2.1 0 1000&&inB x.2.2.2 0 99
def aBl (a b:Bool):br a (some (b,())) (some (false,()))=some (a&&b,()):=by cases a<;>rfl
def Rk (x:dG):rI F0 x=some (gm x,()):=by rw[avR];simp only[afz,ai,aBl];simp only[gm,inB,Bool.and_assoc]
def CU (x:dG):oT F0 x=some (gm x,()):=by rw[av9];simp only[Sr,ai,aBl];simp only[gm,inB,Bool.and_assoc]
def mR {x:dG}(h:gm x=true):(0<=x.1/\x.1<=3)/\(0<=x.2.1/\x.2.1<=3)/\(0<=x.2.2.1/\x.2.2.1<=1000)/\(0<=x.2.2.2/\x.2.2.2<=99):=by simp only[gm,inB,aF,bW]at h;exact⟨h.1.1.1,h.1.1.2,h.1.2,h.2⟩
def txL (x:dG):List UInt8:=Lib.itoa x.1++62::(Lib.itoa x.2.1++58::(Lib.itoa x.2.2.1++35::Lib.itoa x.2.2.2))
def apY {x:dG}(h:gm x=true):(txL x).length<=90:=by obtain⟨a,b,c,d⟩:=mR h;have e:=Sq (n:=x.1) ⟨by omega,by omega⟩;have f:=Sq (n:=x.2.1) ⟨by omega,by omega⟩;have g:=Sq (n:=x.2.2.1) ⟨by omega,by omega⟩;have i:=Sq (n:=x.2.2.2) ⟨by omega,by omega⟩;simp only[txL,aJ,aW];omega
def acM (x:dG):List UInt8:=if gm x=true then txL x else []
def apZ (x:dG):wN F0 x=some (tx (acM x),()):=by
 rw[an0,Rk,ai];unfold acM;cases h:gm x with
 |false=>rfl
 |true =>
  obtain⟨f,g,i,j⟩:=mR h;have a:=CS (n:=x.1) ⟨by omega,by omega⟩;have b:=CS (n:=x.2.1) ⟨by omega,by omega⟩;have c:=CS (n:=x.2.2.1) ⟨by omega,by omega⟩;have d:=CS (n:=x.2.2.2) ⟨by omega,by omega⟩;have e:=apY h;simp only[txL,aJ,aW]at e;simp only[aN,aa,a,b,c,d,ai,show ByteArray.mk #[62]=tx [62] from rfl,show ByteArray.mk #[58]=tx [58] from rfl,show ByteArray.mk #[35]=tx [35] from rfl,fW,bD];rw[hZ (by simp only[aJ,aW,bm];omega),ab,hZ (by simp only[aJ,aW,bm];omega),ab,hZ (by simp only[aJ,aW,bm];omega),ab,hZ (by simp only[aJ,aW,bm];omega),ab,hZ (by simp only[aJ,aW,bm];omega),ab,hZ (by simp only[aJ,aW,bm];omega),ab];simp[txL]
def aj5 (x:dG):Fs F0 x=some (tx (acM x),()):=by
 rw[ao9,CU,ai];unfold acM;cases h:gm x with
 |false=>rfl
 |true =>
  obtain⟨f,g,i,j⟩:=mR h;have a:=Rj (n:=x.1) ⟨by omega,by omega⟩;have b:=Rj (n:=x.2.1) ⟨by omega,by omega⟩;have c:=Rj (n:=x.2.2.1) ⟨by omega,by omega⟩;have d:=Rj (n:=x.2.2.2) ⟨by omega,by omega⟩;have e:=apY h;simp only[txL,aJ,aW]at e;simp only[aN,aa,a,b,c,d,ai,show ByteArray.mk #[62]=tx [62] from rfl,show ByteArray.mk #[58]=tx [58] from rfl,show ByteArray.mk #[35]=tx [35] from rfl,fW,bD];rw[hZ (by simp only[aJ,aW,bm];omega),ab,hZ (by simp only[aJ,aW,bm];omega),ab,hZ (by simp only[aJ,aW,bm];omega),ab,hZ (by simp only[aJ,aW,bm];omega),ab,hZ (by simp only[aJ,aW,bm];omega),ab,hZ (by simp only[aJ,aW,bm];omega),ab];simp[txL]
def aDO (u:Nat):∀c∈Lib.decDigits u,isD c=true:=by
 induction u using Nat.strongRecOn with
 |ind u d =>
  intro c a;rw[Lib.decDigits]at a;have key:∀v:Nat,v<10->isD (UInt8.ofNat (48+v))=true:=fun v e=>by
   have:(UInt8.ofNat (48+v)).toNat=48+v:=by rw[UInt8.toNat_ofNat'];omega
   simp only[isD,this,aF,bW];omega
  by_cases b:u<10
  .rw[dif_pos b,fM]at a;rw[a];exact key u b
  .rw[dif_neg b]at a;rcases gF.1 a with a|a
   .exact d (u/10) (by omega) c a
   .rw[fM]at a;rw[a];exact key _ (abE _ (by omega))
def aIC (u:Nat):val (Lib.decDigits u) 0=u:=by
 induction u using Nat.strongRecOn with
 |ind u b =>
  have key:∀v:Nat,v<10->(UInt8.ofNat (48+v)).toNat=48+v:=fun v c=>by rw[UInt8.toNat_ofNat'];omega
  rw[Lib.decDigits];by_cases a:u<10
  .rw[dif_pos a];simp only[val,key u a];omega
  .rw[dif_neg a,apU,b (u/10) (by omega)];simp only[val,key (u%10) (abE _ (by omega))];omega
def aID {k:Nat}:∀{u:Nat},u<10 ^ (k+1)->1<=(Lib.decDigits u).length/\(Lib.decDigits u).length<=k+1:=by
 induction k with
 |zero =>
  intro u a;rw[Lib.decDigits,dif_pos (by omega)];simp
 |succ k c =>
  intro u a;rw[Lib.decDigits];by_cases b:u<10
  .rw[dif_pos b];simp
  .rw[dif_neg b];have:=c (u:=u/10) (by rw[Nat.pow_succ]at a;omega);rw[aJ,cR];omega
def ap0 (u:Nat):Lib.itoa (u:Int)=Lib.decDigits u:=Lib.itoa_nonneg u
def w6 {n:Int}(a:0<=n)(b:n<=999999):fx (Lib.itoa n)=(n,true):=by obtain⟨u,rfl⟩:∃u:Nat,n=u:=⟨n.toNat,by omega⟩;rw[ap0];have c:=aID (k:=5) (u:=u) (by omega);unfold fx;rw[af (by omega),ag (ea.2 (aDO u)),aIC,ap0,ag rfl]
def aip {n:Int}(b:0<=n){c:UInt8}(a:isD c=false):c ∉ Lib.itoa n:=by obtain⟨u,rfl⟩:∃u:Nat,n=u:=⟨n.toNat,by omega⟩;rw[ap0];intro h;rw[aDO u c h]at a;cases a
def Bo (l:List UInt8)(c:UInt8):List UInt8×List UInt8:=if c∈l then (l.takeWhile (· != c),(l.dropWhile (· != c)).drop 1) else ([],[])
def eL (l:List UInt8)(c:UInt8):List UInt8×List UInt8:=(l.takeWhile (· != c),(l.dropWhile (· != c)).drop 1)
def aiq (l:List UInt8):dG:=((fx (Bo l 62).1).1,(fx (Bo (Bo l 62).2 58).1).1,(fx (Bo (Bo (Bo l 62).2 58).2 35).1).1,(fx (Bo (Bo (Bo l 62).2 58).2 35).2).1)
def aBm (l:List UInt8):dG:=((fx (eL l 62).1).1,(fx (eL (eL l 62).2 58).1).1,(fx (eL (eL (eL l 62).2 58).2 35).1).1,(fx (eL (eL (eL l 62).2 58).2 35).2).1)
def awE {a b:List UInt8}{c:UInt8}(h:c ∉ a):Bo (a++c::b) c=(a,b):=by unfold Bo;rw[ag (by simp),(apX h).1,(apX h).2];rfl
def awF {a b:List UInt8}{c:UInt8}(h:c ∉ a):eL (a++c::b) c=(a,b):=by unfold eL;rw[(apX h).1,(apX h).2];rfl
def aGE {x:dG}(h:gm x=true):aiq (txL x)=x:=by obtain⟨a,b,c,d⟩:=mR h;unfold aiq txL;rw[awE (aip a.1 (by decide)),awE (aip b.1 (by decide)),awE (aip c.1 (by decide))];simp only[w6 a.1 (by omega),w6 b.1 (by omega),w6 c.1 (by omega),w6 d.1 (by omega)]
def ayM {x:dG}(h:gm x=true):aBm (txL x)=x:=by obtain⟨a,b,c,d⟩:=mR h;unfold aBm txL;rw[awF (aip a.1 (by decide)),awF (aip b.1 (by decide)),awF (aip c.1 (by decide))];simp only[w6 a.1 (by omega),w6 b.1 (by omega),w6 c.1 (by omega),w6 d.1 (by omega)]
def ZH (l:List UInt8):dG×Bool:=if gm (aiq l)=true/\txL (aiq l)=l then (aiq l,true) else ((0,0,0,0),false)
def ayN (l:List UInt8)(c:UInt8):((l.dropWhile (· != c)).drop 1).length<=l.length:=by rw[bc];have:=(List.dropWhile_sublist (l:=l) (· != c)).length_le;omega
def awG (l:List UInt8)(c:UInt8):(Bo l c).2.length<=l.length:=by
 unfold Bo;split
 .exact ayN l c
 .simp
def amL (l:List UInt8)(c:UInt8):(eL l c).2.length<=l.length:=ayN l c
def ap1 {l:List UInt8}(c:UInt8)(a:l.length<=4294967296):∃b,h7 F0 (tx l) (c.toNat:Int)=some (tx (Bo l c).1,tx (Bo l c).2,b,()):=by
 rw[atV c a];unfold Bo;split
 .exact⟨_,rfl⟩
 .exact⟨_,rfl⟩
def aGF {l:List UInt8}(g:l.length<=4294967280):YA F0 (tx l)=some ((ZH l).1,(ZH l).2,()):=by
 obtain⟨i,c⟩:=ap1 (l:=l) 62 (by omega);obtain⟨j,d⟩:=ap1 (l:=(Bo l 62).2) 58 (by have:=awG l 62;omega);obtain⟨k,e⟩:=ap1 (l:=(Bo (Bo l 62).2 58).2) 35 (by have:=awG l 62;have:=awG (Bo l 62).2 58;omega);rw[avS];rw[show h7 F0 (tx l) 62=_ from c,ai,show h7 F0 _ 58=_ from d,ai,show h7 F0 _ 35=_ from e,ai,CT,ai,CT,ai,CT,ai,CT,ai,show ak=tx [] from rfl,UO];have f:((fx (Bo l 62).1).1,(fx (Bo (Bo l 62).2 58).1).1,(fx (Bo (Bo (Bo l 62).2 58).2 35).1).1,(fx (Bo (Bo (Bo l 62).2 58).2 35).2).1)=aiq l:=rfl;simp only[f,apZ,ai,UO];unfold ZH acM;by_cases dd:gm (aiq l)=true
 .rw[ag dd];by_cases a:txL (aiq l)=l
  .have b:¬l=[]:=by rw[<-a];simp[txL]
   rw[ag ⟨dd,a⟩,aQ b,aa,aL a];rfl
  .rw[af (fun h=>a h.2),aQ a];cases decide (l=[])<;>rfl
 .rw[af dd,af (fun h=>dd h.1)];by_cases b:l=[]
  .rw[aL b];rfl
  .rw[aQ b,aa,aQ (fun h=>b h.symm)];rfl
def aEO {l:List UInt8}(h:l.length<4294967281):YF F0 (tx l)=some ((ZH l).1,(ZH l).2,()):=by
 have i:=vT (l:=l) 62 h;have t:=amL l 62;have u:=amL (eL l 62).2 58;have j:=vT (l:=(eL l 62).2) 58 (by omega);have k:=vT (l:=(eL (eL l 62).2 58).2) 35 (by omega);rw[awa];rw[show ByteArray.mk #[62]=tx [62] from rfl,i,ai,show ByteArray.mk #[58]=tx [58] from rfl];rw[show strings_Cut F0 (tx ((l.dropWhile (· != 62)).drop 1)) (tx [58])=_ from j,ai,show ByteArray.mk #[35]=tx [35] from rfl];rw[show strings_Cut F0 (tx (((eL l 62).2.dropWhile (· != 58)).drop 1)) (tx [35])=_ from k,ai];have m:=fun (a b c d:ByteArray)=>(show aK [a,b,c,d] 0 ByteArray.empty=a from rfl)
 have n:=fun (a b c d:ByteArray)=>(show aK [a,b,c,d] 1 ByteArray.empty=b from rfl)
 have o:=fun (a b c d:ByteArray)=>(show aK [a,b,c,d] 2 ByteArray.empty=c from rfl)
 have p:=fun (a b c d:ByteArray)=>(show aK [a,b,c,d] 3 ByteArray.empty=d from rfl)
 rw[show bG 0 4=true from rfl,ab,m,FU,ai,show bG 1 4=true from rfl,ab,n,FU,ai,show bG 2 4=true from rfl,ab,o,FU,ai,show bG 3 4=true from rfl,ab,p,FU,ai];have q:((fx (l.takeWhile (· != 62))).1,(fx ((eL l 62).2.takeWhile (· != 58))).1,(fx ((eL (eL l 62).2 58).2.takeWhile (· != 35))).1,(fx (((eL (eL l 62).2 58).2.dropWhile (· != 35)).drop 1)).1)=aBm l:=rfl;simp only[q,CU,aj5,ai,UO];unfold ZH acM;by_cases dd:gm (aBm l)=true
 .rw[ag dd,dd];by_cases e:txL (aBm l)=l
  .have r:aiq l=aBm l:=by have:=aGE dd;rw[e]at this;exact this
   rw[r,ag ⟨dd,e⟩,aL e];rfl
  .have:¬(gm (aiq l)=true/\txL (aiq l)=l):=by rintro⟨f,g⟩;have:=ayM f;rw[g]at this;rw[this]at e;exact e g
   rw[af this,aQ e];rfl
 .have:¬(gm (aiq l)=true/\txL (aiq l)=l):=by rintro⟨f,g⟩;have:=ayM f;rw[g]at this;rw[this]at dd;exact dd f
  rw[af this];have s:gm (aBm l)=false:=by simpa using dd
  rw[s];rfl
def aGG (l:List UInt8):gm (ZH l).1=true:=by
 unfold ZH;split
 .rename_i a;exact a.1
 .rfl
def parts (c:UInt8):List UInt8->List (List UInt8)
 |[]=>[[]]|x::l=>if x=c then []::parts c l else match parts c l with
  |p::a=>(x::p)::a|[]=>[[x]]
def FV (c:UInt8)(l:List UInt8):parts c l≠[]:=by
 cases l with
 |nil=>simp[parts]
 |cons x l =>
  unfold parts;split
  .simp
  .split<;>simp
def ap2 {c:UInt8}{a:List UInt8}(h:c ∉ a):parts c a=[a]:=by
 induction a with
 |nil=>rfl
 |cons x a b =>
  have d:¬x=c:=by rintro rfl;simp at h
  unfold parts;rw[af d,b fun e=>h (jH _ e)]
def ayO {c:UInt8}{a b:List UInt8}(h:c ∉ a):parts c (a++c::b)=a::parts c b:=by
 induction a with
 |nil =>
  rw[BA]
  conv=>lhs;unfold parts
  rw[ag rfl]
 |cons x a d =>
  have e:¬x=c:=by rintro rfl;simp at h
  rw[GV]
  conv=>lhs;unfold parts
  rw[af e,d fun f=>h (jH _ f)]
def JG (c:UInt8)(l:List UInt8):(parts c l).length<=l.length+1:=by
 induction l with
 |nil=>simp[parts]
 |cons x l a =>
  unfold parts;split
  .simp only[aW];omega
  .split
   .rename_i p b h;rw[h]at a;simp only[aW]at a ⊢;omega
   .simp
def CW {c:UInt8}:∀{l p:List UInt8},p∈parts c l->p.length<=l.length
 |[],p,h=>by simp only[parts,fM]at h;rw[h];simp
 |x::l,p,h=>by
  unfold parts at h;split at h
  .rcases cS.1 h with rfl|h
   .simp
   .have:=CW h;simp only[aW];omega
  .split at h
   .rename_i q b a;rcases cS.1 h with rfl|h
    .have:=CW (c:=c) (l:=l) (p:=q) (by rw[a];simp);simp only[aW];omega
    .have:=CW (c:=c) (l:=l) (p:=p) (by rw[a];simp[h]);simp only[aW];omega
   .rw[fM]at h;rw[h];simp
def Om (l:List UInt8)(a b:Nat):(tx l).extract a b=tx ((l.drop a).take (b-a)):=by rw[J8 ((tx l).extract a b),Lib.extract_data,fl]
def atW {l:List UInt8}(c:UInt8)(w:l.length<=4294967296):vX F0 (tx l) (c.toNat:Int)=some ((parts c l).map tx,()):=by
 have x:=JG c l;rw[ar3];refine cu (fun n i (z:Nat×List ByteArray)=>rH F0 (Kb F0) n (lX (tx l) (c.toNat:Int) (z.1:Int) i z.2)) (l.length+1)
  (fun k z=>if k<=l.length then ∃done:List (List UInt8),z.2=done.map tx/\parts c l=done++parts c (l.drop z.1)/\z.1<=k/\c ∉ (l.drop z.1).take (k-z.1) else z.2=(parts c l).map tx) _ (fun n k z y d=>.inr ?_) (fun n z d=>?_) F0.n 0 (0,[]) (aR _) ?_ (by rw[bz];omega)
 .obtain⟨a,xs⟩:=z;rw[ag (by omega)]at d;obtain⟨done,rfl,e,p,f⟩:=d;simp only at e p f;have A:done.length+1<=l.length+1:=by have g:=n7 List.length e;have B:0<(parts c (l.drop a)).length:=List.length_pos_iff.2 (FV c _);rw[aJ]at g;omega
  have q:decide ((k:Int)<=(l.length:Int))=true:=aL (by omega);rw[Mq,bD,q,ae];have r:S5 (a:Int) (k:Int) (l.length:Int)=true:=by simp only[S5,aF,bW];omega
  have s:∀b:ByteArray,ei F0 (done.map tx).length [b].length 16=true:=fun b=>ar (by omega) (by omega) (by rw[o8];simp only[aW,bm];omega)
  simp only[ho,Om,r,s,ab,al (show k+1<=9223372036854775807 by omega)];by_cases t:k=l.length
  .subst t;rw[Vk,ae];refine⟨(l.length+1,(parts c l).map tx),?_,by rw[af (by omega)]⟩;have u:(l.drop a).take (l.length-a)=l.drop a:=am1 (by rw[bc];omega);rw[u]at f ⊢;rw[e,ap2 f];simp
  .have hlt:k<l.length:=by omega
   have v:(((k:Nat):Int)==(l.length:Int))=false:=bU.2 (by omega);rw[v,aa,an hlt,ab,YO];have m:l.drop a=(l.drop a).take (k-a)++l.getD k 0::l.drop (k+1):=by
    have:=ayL (l:=l.drop a) (k:=k-a) (by rw[bc];omega);have o:(l.drop a).getD (k-a) 0=l.getD k 0:=by simp only[EW,ai5];rw[show a+(k-a)=k by omega]
    rw[o,am9,show a+(k-a+1)=k+1 by omega]at this;exact this
   by_cases j:l.getD k 0=c
   .have g:((((l.getD k 0).toNat:Int))==(c.toNat:Int))=true:=by rw[j];simp
    rw[g,ae];refine⟨(k+1,done.map tx++[tx ((l.drop a).take (k-a))]),rfl,?_⟩;rw[ag (by omega)];refine⟨done++[(l.drop a).take (k-a)],by simp,?_,bF _,by simp⟩;rw[j]at m;rw[e,m,ayO f,<-m];simp
   .have g:((((l.getD k 0).toNat:Int))==(c.toNat:Int))=false:=bU.2 fun h=>j (UInt8.toNat_inj.1 (by omega))
    rw[g,aa];refine⟨(a,done.map tx),rfl,?_⟩;rw[ag (by omega)];refine⟨done,rfl,e,by show a<=k+1;omega,?_⟩;have o:(l.drop a).take (k+1-a)=(l.drop a).take (k-a)++[l.getD k 0]:=by
     rw[show k+1-a=(k-a)+1 by omega,Mg]
     congr 1
     have:(l.drop a)[k-a]?=some (l.getD k 0):=by rw[ai5,show a+(k-a)=k by omega];exact aI hlt 0
     rw[this];rfl
    show c ∉ (l.drop a).take (k+1-a);rw[o,gF,fM];rintro(h|h)
    .exact f h
    .exact j h.symm
 .rw[af (by omega)]at d;rw[Mq,bD,aQ (by omega),aa,agO,d]
 .rw[ag (by omega)];exact⟨[],rfl,rfl,bF _,by simp⟩
def awH (c:UInt8):∀(n:Nat) (l:List UInt8),l.length<=n->∀k,k=Lib.countB (tx l) (tx [c])->Lib.splitB (tx [c]) 0 k (tx l)=(parts c l).map tx:=by
 intro n
 induction n with
 |zero =>
  intro l f k m;obtain rfl:l=[]:=ZJ (by omega);have d:Lib.indexB (tx []) (tx [c])=-1:=by show Lib.index (tx []).data.toList (tx [c]).data.toList=-1;rw[fl,fl,Lib.index_one];rfl
  rw[Lib.splitB_miss _ _ _ _ d];rfl
 |succ n o =>
  intro l f k m;by_cases h:c∈l
  .obtain⟨a,b,rfl,g⟩:=afy h;have d:Lib.indexB (tx (a++c::b)) (tx [c])=(a.length:Int):=by show Lib.index (tx (a++c::b)).data.toList (tx [c]).data.toList=_;rw[fl,fl,Lib.index_one,afw g]
   have i:(tx [c]).size=1:=bD [c];have j:(tx (a++c::b)).extract (a.length+(tx [c]).size) (tx (a++c::b)).size=tx b:=by
    rw[extract_from,i]
    congr 1
    simp[List.drop_append]
   have p:=Lib.countB_hit (tx (a++c::b)) (tx [c]) a.length (by rw[i];omega) d;rw[j]at p;obtain⟨e,rfl⟩:∃e,k=e+1:=⟨Lib.countB (tx b) (tx [c]),by omega⟩;rw[Lib.splitB_hit _ _ _ _ _ d,j,o b (by simp only[aJ,aW]at f;omega) e (by omega),ayO g,RF,apW];simp[auY]
  .have d:Lib.indexB (tx l) (tx [c])=-1:=by show Lib.index (tx l).data.toList (tx [c]).data.toList=-1;rw[fl,fl,Lib.index_one,afx h]
   rw[Lib.splitB_miss _ _ _ _ d,ap2 h];rfl
def ap3 {l:List UInt8}(c:UInt8)(a:l.length<4294967281):we F0 (tx l) (c.toNat:Int)=some ((parts c l).map tx,()):=by
 have b:strOf [(c.toNat:Int)]=tx [c]:=by
  simp only[strOf,tx,sZ,List.map_nil]
  congr 2
  simp
 have h:Nat.blt (tx l).size 4294967281=true:=by rw[bD];simpa using a
 have d:Nat.ble 1 (tx [c]).size=true:=by rw[bD];rfl
 rw[asq,b];unfold strings_Split;rw[h,d,Bool.and_self,ab,ai,awH c l.length l (bF _) _ rfl]
def tr {σ V:Type}(f:σ->List UInt8->Option (σ×V)):σ->List (List UInt8)->Option (List V)
 |_,[]=>some []|s,p::a=>match f s p with
  |none=>none|some (c,b)=>match tr f c a with
   |none=>none|some r=>some (b::r)
def Rl {σ V γ:Type}(f:σ->List UInt8->Option (σ×V))(I:σ->Prop)(P:List (List UInt8))(X:Nat->σ->Int->List V->Option γ)(c:Option γ)(d:List V->Option γ)
  (g:∀n k s xs p,k<P.length->P[k]?=some p->I s->xs.length=k->X (n+1) s (k:Int) xs=match f s p with|none=>c|some (a,b)=>X n a ((k+1:Nat):Int) (xs++[b]))
  (i:∀n s xs,xs.length=P.length->X (n+1) s (P.length:Int) xs=d xs) (j:∀s p a b,I s->f s p=some (a,b)->I a) :
  ∀(n k:Nat) (s:σ) (xs:List V),k<=P.length->P.length-k<n->I s->xs.length=k->X n s (k:Int) xs=match tr f s (P.drop k) with|none=>c|some l=>d (xs++l)
 |0,_,_,_,_,h,_,_=>absurd h (S0 _)|n+1,k,s,xs,u,v,m,e=>by
  rcases S1 k P.length with hlt|w
  .have o:P[k]?=some P[k]:=n6 hlt;rw[g n k s xs P[k] hlt o m e,Vi hlt];simp only[tr];cases t:f s P[k]with
   |none=>rfl
   |some q =>
    obtain⟨a,b⟩:=q;simp only;rw[Rl f I P X c d g i j n (k+1) a (xs++[b]) hlt (by omega) (j _ _ _ _ m t) (by simp[e])];cases tr f a (P.drop (k+1)) with
    |none=>rfl|some r=>simp
  .obtain rfl:k=P.length:=by omega
   rw[i n s xs e,Vl];simp[tr]
def Rm {σ V:Type}{f:σ->List UInt8->Option (σ×V)}:∀{P:List (List UInt8)} {s:σ} {r:List V},tr f s P=some r->r.length=P.length
 |[],_,r,h=>by cases h;rfl
 |p::b,s,r,h=>by
  simp only[tr]at h;split at h
  .cases h
  .split at h
   .cases h
   .rename_i a;cases h;simp[Rm a]
def ap4 {σ V:Type}{f:σ->List UInt8->Option (σ×V)}{Q:V->Prop}(a:∀s p c b,f s p=some (c,b)->Q b):∀{P:List (List UInt8)} {s:σ} {r:List V},tr f s P=some r->∀b∈r,Q b
 |[],_,r,h=>by cases h;simp
 |p::g,s,r,h=>by
  simp only[tr]at h;split at h
  .cases h
  .rename_i d;split at h
   .cases h
   .rename_i e;cases h;intro b hb;rcases cS.1 hb with rfl|hb
    .exact a _ _ _ _ d
    .exact ap4 a e b hb
def txF (_:Unit)(p:List UInt8):Option (Unit×dG):=if (ZH p).2=true then some ((),(ZH p).1) else none
def lH (l:List UInt8):List dG×Bool:=if l=[] then ([],true) else match tr txF () (parts 44 l) with|none=>([],false)|some r=>(r,true)
def atX (l:List UInt8):(lH l).1.length<=l.length+1:=by
 unfold lH;split
 .simp
 .split
  .simp
  .rename_i r a;have:=Rm a;have:=JG 44 l;simp only;omega
def aGI (l:List UInt8):∀x∈(lH l).1,gm x=true:=by
 unfold lH;split
 .simp
 .split
  .simp
  .rename_i r a;refine ap4 (Q:=fun x=>gm x=true) (fun s p c b h=>?_) a;unfold txF at h;split at h
   .cases h;exact aGG p
   .cases h
def air (l:List UInt8):((tx l).toList==ak.toList)=decide (l=[]):=UO l []
def awI (P:List (List UInt8))(k:Nat){p:List UInt8}(h:P[k]?=some p):aK (P.map tx) (k:Int) ByteArray.empty=tx p:=by show(P.map tx).getD k ByteArray.empty=_;simp[EW,h]
def atY {l:List UInt8}(f:l.length<=1073741824):Cb F0 (tx l)=some ((lH l).1,(lH l).2,()):=by
 have g:=JG 44 l;rw[ar5,air];unfold lH;by_cases a:l=[]
 .rw[aL a,ag a];rfl
 .rw[aQ a,aa,af a,show vX F0 (tx l) 44=_ from atW 44 (by omega),ai];have:=Rl txF (fun _=>True) (parts 44 l) (fun n _ i xs=>H9 F0 (yh F0) n (yg i xs ((parts 44 l).map tx))) (some ([],false,())) (fun xs=>some (xs,true,())) (fun n k s xs p c d _ e=>?_) (fun n s xs e=>?_) (fun _ _ _ _ _ _=>trivial) F0.n 0 () [] (aR _) (by rw[bz];omega) trivial rfl
  .simp only[adt,BA]at this;rw[show((0:Nat):Int)=0 from rfl]at this;rw[this];cases tr txF () (parts 44 l)<;>rfl
  .have h:=CW (atd d);rw[Ms,o8,aM c,ae,an c,ab,awI _ _ d,aGF (by omega),ai];unfold txF;cases dd:(ZH p).2 with
   |false=>simp only[ek,ae,akN];rfl
   |true =>
    simp only[aN,aa];rw[ar (b:=[(ZH p).1].length) (k:=32) (by omega) (by omega) (by simp only[aW,bm];omega),ab,al (by omega)];rfl
  .rw[Ms,o8,aB,aa,agR]
def aBn {l:List UInt8}(f:l.length<=1073741824):KZ F0 (tx l)=some ((lH l).1,(lH l).2,()):=by
 have g:=JG 44 l;rw[asr,air];unfold lH;by_cases a:l=[]
 .rw[aL a,ag a];rfl
 .rw[aQ a,aa,af a,show we F0 (tx l) 44=_ from ap3 44 (by omega),ai];have:=Rl txF (fun _=>True) (parts 44 l) (fun n _ i xs=>IL F0 (Ag F0) n (Af ((parts 44 l).map tx) (((parts 44 l).map tx).length:Int) i xs)) (some ([],false,())) (fun xs=>some (xs,true,())) (fun n k s xs p c d _ e=>?_) (fun n s xs e=>?_) (fun _ _ _ _ _ _=>trivial) F0.n 0 () [] (aR _) (by rw[bz];omega) trivial rfl
  .simp only[adt,BA]at this;rw[show((0:Nat):Int)=0 from rfl]at this;rw[this];cases tr txF () (parts 44 l)<;>rfl
  .have h:=CW (atd d);rw[Np,o8,aM c,ae,an c,ab,awI _ _ d,aEO (by omega),ai];unfold txF;cases dd:(ZH p).2 with
   |false=>simp only[ek,ae,alM];rfl
   |true =>
    simp only[aN,aa];rw[ar (b:=[(ZH p).1].length) (k:=32) (by omega) (by omega) (by simp only[aW,bm];omega),ab,al (by omega)];rfl
  .rw[Np,o8,aB,aa,ahw]
abbrev Rn:=Int×List dG
def ta (a:Int)(p:List UInt8):Option (Int×Rn) :=
 if 124∈p/\(fx (eL p 124).1).2=true/\(lH (eL p 124).2).2=true/\a<(fx (eL p 124).1).1/\(fx (eL p 124).1).1<=60/\(lH (eL p 124).2).1.length<=2
 then some ((fx (eL p 124).1).1,(fx (eL p 124).1).1,(lH (eL p 124).2).1) else none
def a7 (l:List UInt8):List Rn×Bool:=if l=[] then ([],true) else match parts 47 l with
 |[]=>([],false)|b::a=>if ¬b=[]\/30<a.length then ([],false) else match tr ta 0 a with
  |none=>([],false)|some r=>(r,true)
def awJ (s:Rn):Prop:=0<=s.1/\s.1<=60/\s.2.length<=2/\∀x∈s.2,gm x=true
def XR {d:Int}{p:List UInt8}{a:Int}{b:Rn}(h:ta d p=some (a,b)):awJ b/\a=b.1:=by
 unfold ta at h;split at h
 .rename_i c;cases h;exact⟨⟨(apV _).1,c.2.2.2.2.1,c.2.2.2.2.2,aGI _⟩,rfl⟩
 .cases h
def Ss (l:List UInt8):∀s∈(a7 l).1,awJ s:=by
 unfold a7;split
 .simp
 .split
  .simp
  .split
   .simp
   .split
    .simp
    .rename_i a;exact ap4 (Q:=awJ) (fun s p c b h=>(XR h).1) a
def rn (l:List UInt8):(a7 l).1.length<=30:=by
 unfold a7;split
 .simp
 .split
  .simp
  .split
   .simp
   .split
    .simp
    .rename_i a;have:=Rm a;simp only;omega
def br6 {U:Type}(a b c d e f:Bool)(x y:U):br (!a) x (br (!b) x (br (!c) x (br d x (br e x (br f x y)))))=if a=true/\b=true/\c=true/\d=false/\e=false/\f=false then y else x:=by cases a<;>cases b<;>cases c<;>cases d<;>cases e<;>cases f<;>rfl
def br5 {U:Type}(a b c d f:Bool)(x y:U):br (!a) x (br (!b) x (br (!c) x (br (!d) x (br f x y))))=if a=true/\b=true/\c=true/\d=true/\f=false then y else x:=by cases a<;>cases b<;>cases c<;>cases d<;>cases f<;>rfl
def YP {l:List UInt8}(G:l.length<=1073741824):pZ F0 (tx l)=some ((a7 l).1,(a7 l).2,()):=by
 have q:=JG 47 l;have r:=fun p (h:p∈parts 47 l)=>CW h
 rw[ar7,air];unfold a7;by_cases f:l=[]
 .rw[aL f,ag f];rfl
 .rw[aQ f,aa,af f,show vX F0 (tx l) 47=_ from atW 47 (by omega),ai];cases t:parts 47 l with
  |nil=>exact absurd t (FV 47 l)
  |cons c a =>
   rw[t]at q r;simp only[aW]at q;have x:aK ((c::a).map tx) 0 ByteArray.empty=tx c:=rfl;have y:bG 0 (((c::a).map tx).length:Int)=true:=an (k:=0) (by simp);simp only[y,ab,x,air];by_cases d:c=[]
   .by_cases z:30<a.length
    .rw[aL d,aN,aa,aL (by rw[o8,aW];omega),ae,ag (.inr z)]
    .rw[aL d,aN,aa,aQ (by rw[o8,aW];omega),aa,af (by simp[d];omega)];have:=Rl ta (fun s=>0<=s/\s<=60) a (fun n s i xs=>Ic F0 (yj F0) n (yi s (i+1) [] xs ((c::a).map tx))) (some ([],false,())) (fun xs=>some (xs,true,())) (fun n k s xs p H u A B=>?_) (fun n s xs B=>?_) (fun s p I b A C=>?_) F0.n 0 0 [] (aR _) (by rw[bz];omega) ⟨by omega,by omega⟩ rfl
     .simp only[adt,BA]at this;rw[show((0:Nat):Int)+1=1 from rfl]at this;rw[this];cases tr ta 0 a<;>rfl
     .have K:=r p (jH _ (atd u));have v:k+1<((c::a).map tx).length:=by simp;omega
      have D:aK ((c::a).map tx) (((k+1:Nat)):Int) ByteArray.empty=tx p:=awI _ _ (by simpa using u);rw[show((k:Int)+1)=((k+1:Nat):Int) by omega,Mt,aM v,ae,an v,ab,D,show h7 F0 (tx p) 124=_ from atV 124 (by omega),ai];have L:=amL p 124;have M:=apV (eL p 124).1;have N:=atX (eL p 124).2;by_cases g:(124:UInt8)∈p
      .rw[ag g];simp only[CT,ai];rw[show Cb F0 (tx ((p.dropWhile (· != 124)).drop 1))=some ((lH (eL p 124).2).1,(lH (eL p 124).2).2,()) from atY (by show(eL p 124).2.length<=_;omega),ai];simp only[Td];rw[br6];unfold ta;have E:(fx (p.takeWhile (· != 124)))=fx (eL p 124).1:=rfl;rw[E];by_cases e:124∈p/\(fx (eL p 124).1).2=true/\(lH (eL p 124).2).2=true/\s<(fx (eL p 124).1).1/\(fx (eL p 124).1).1<=60/\(lH (eL p 124).2).1.length<=2
       .have j:decide ((fx (eL p 124).1).1<=s)=false:=aQ (by omega);have m:decide ((fx (eL p 124).1).1>60)=false:=aQ (by omega);have o:decide (((lH (eL p 124).2).1.length:Int)>2)=false:=aQ (by omega);rw[ag e,ag ⟨rfl,e.2.1,e.2.2.1,j,m,o⟩];simp only;rw[ar (b:=[((fx (eL p 124).1).1,(lH (eL p 124).2).1)].length) (k:=32) (by omega) (by omega) (by simp only[aW,bm];omega),ab,al (by omega)];rfl
       .rw[af e,af (fun h=>e ?_)];have j:decide ((fx (eL p 124).1).1<=s)=false:=h.2.2.2.1;have m:decide ((fx (eL p 124).1).1>60)=false:=h.2.2.2.2.1;have o:decide (((lH (eL p 124).2).1.length:Int)>2)=false:=h.2.2.2.2.2;have O:=agu j;have P:=agu m;have Q:=agu o;exact⟨g,h.2.1,h.2.2.1,by omega,by omega,by omega⟩
      .rw[af g];unfold ta;rw[af (fun h=>g h.1),CT,ai,show Cb F0 (tx [])=_ from atY (by simp),ai];simp only[ek,ae,Td]
     .rw[show((a.length:Int)+1)=(((c::a).map tx).length:Int) by simp,Mt,aB,aa,agS]
     .obtain⟨w,F⟩:=XR C;rw[F];exact⟨w.1,w.2.1⟩
   .rw[aQ d,ek,ae,ag (.inl d)]
def Su {l:List UInt8}(E:l.length<=1073741824):qU F0 (tx l)=some ((a7 l).1,(a7 l).2,()):=by
 have g:=JG 47 l;have j:=fun p (h:p∈parts 47 l)=>CW h
 rw[ast,air];unfold a7;by_cases f:l=[]
 .rw[aL f,ag f];rfl
 .rw[aQ f,aa,af f,show we F0 (tx l) 47=_ from ap3 47 (by omega),ai];cases m:parts 47 l with
  |nil=>exact absurd m (FV 47 l)
  |cons c a =>
   rw[m]at g j;simp only[aW]at g;have t:aK ((c::a).map tx) 0 ByteArray.empty=tx c:=rfl;have u:bG 0 (((c::a).map tx).length:Int)=true:=an (k:=0) (by simp);have hlen:((c::a).map tx).length=a.length+1:=by simp
   have v:S5 1 (((c::a).map tx).length:Int) (((c::a).map tx).length:Int)=true:=by rw[hlen];simp only[S5,aF,bW];omega
   have w:((((c::a).map tx).take (((c::a).map tx).length:Int).toNat).drop (1:Int).toNat)=a.map tx:=by rw[ho,kc];rfl
   simp only[u,ab,t,air,v,w];rw[hlen,aG (by omega) (by omega)];by_cases e:c=[]
   .by_cases x:30<a.length
    .rw[aL e,aN,aa,aL (by omega),ae,ag (.inr x)]
    .rw[aL e,aN,aa,aQ (by omega),aa,af (by simp[e];omega)];have:=Rl ta (fun s=>0<=s/\s<=60) a (fun n s i xs=>IP F0 (Ai F0) n (Ah s (a.map tx) ((a.map tx).length:Int) i xs)) (some ([],false,())) (fun xs=>some (xs,true,())) (fun n k s xs p o q y z=>?_) (fun n s xs z=>?_) (fun s p F b y A=>?_) F0.n 0 0 [] (aR _) (by rw[bz];omega) ⟨by omega,by omega⟩ rfl
     .simp only[adt,BA]at this;rw[show((0:Nat):Int)=0 from rfl]at this;rw[this];cases tr ta 0 a<;>rfl
     .have G:=j p (jH _ (atd q));have H:=amL p 124;have I:=apV (eL p 124).1;have K:=atX (eL p 124).2;rw[Nq,o8,aM o,ae,an o,ab,awI _ _ q,show ByteArray.mk #[124]=tx [124] from rfl,vT 124 (by omega),ai];simp only[FU,ai];rw[show KZ F0 (tx ((p.dropWhile (· != 124)).drop 1))=some ((lH (eL p 124).2).1,(lH (eL p 124).2).2,()) from aBn (by show(eL p 124).2.length<=_;omega),ai];simp only[alN,Sr,ai];rw[br5];unfold ta;have B:(fx (p.takeWhile (· != 124)))=fx (eL p 124).1:=rfl;rw[B,aG (n:=s+1) (by omega) (by omega)];by_cases d:124∈p/\(fx (eL p 124).1).2=true/\(lH (eL p 124).2).2=true/\s<(fx (eL p 124).1).1/\(fx (eL p 124).1).1<=60/\(lH (eL p 124).2).1.length<=2
      .have C:(decide (s+1<=(fx (eL p 124).1).1)&&decide ((fx (eL p 124).1).1<=60))=true:=by rw[aL (by omega),aL (by omega)];rfl
       rw[ag d,ag ⟨aL d.1,d.2.1,d.2.2.1,C,aQ (by omega)⟩];simp only;rw[ar (b:=[((fx (eL p 124).1).1,(lH (eL p 124).2).1)].length) (k:=32) (by omega) (by omega) (by simp only[aW,bm];omega),ab,al (by omega)]
      .rw[af d,af (fun h=>d ⟨lE h.1,h.2.1,h.2.2.1,by have:=h.2.2.2.1;rw[aF]at this;have:=lE this.1;omega,by have:=h.2.2.2.1;rw[aF]at this;have:=lE this.2;omega,by have:=agu h.2.2.2.2;omega⟩)]
     .rw[Nq,o8,aB,aa,ahx]
     .obtain⟨r,D⟩:=XR A;rw[D];exact⟨r.1,r.2.1⟩
   .rw[aQ e,ek,ae,ag (.inl e)]
abbrev gX:=List Int×List Int
def BX (l:gX):Bool:=decide (l.1.length=4)&&(decide (l.2.length=4)&&(l.1.all (fun n=>inB n 0 400)&&l.2.all (fun n=>inB n 0 100)))
def abk {a:List Int}(lo hi:Int)(h:a.length<=1048576):rh F0 a lo hi=some (a.all (fun n=>inB n lo hi),()):=by
 rw[aff];refine cu (fun n i (_:Unit)=>sQ F0 (nV F0) n (nU lo hi a (a.length:Int) i)) a.length (fun k _=>∀x∈a.take k,inB x lo hi=true) _ (fun n k _ c d=>?_) (fun n _ d=>?_) F0.n 0 () (aR _) (by simp) (by rw[bz];omega)
 .rw[BQ,aM c,ae,an c,ab,ln,Sr,ai];show(br (!inB (a.getD k 0) lo hi) _ _=_)\/∃f:Unit,br (!inB (a.getD k 0) lo hi) _ _=_/\_;cases e:inB (a.getD k 0) lo hi with
  |false =>
   left;rw[ek,ae,Zw];have:a.all (fun n=>inB n lo hi)=false:=agv.2 ⟨_,n9 c 0,by rw[e];simp⟩;rw[this]
  |true =>
   right;refine⟨(),by rw[aN,aa,al (by omega)],?_⟩;intro x b;rw[Mg,aI c 0]at b;rcases gF.1 b with b|b
   .exact d x b
   .simp only[am5,fM]at b;rw[b];exact e
 .rw[kc]at d;rw[BQ,aB,aa,Xz,ea.2 d]
def abl {l:gX}(a:l.1.length<=1048576)(b:l.2.length<=1048576):tX F0 l=some (BX l,()):=by
 rw[ah1,abk 0 400 a,abk 0 100 b];have e:∀n:Nat,((n:Int)==4)=decide (n=4):=fun n=>by
  by_cases h:n=4
  .subst h;rfl
  .rw[aQ h];exact bU.2 (by omega)
 simp only[ai,e,aBl];rfl
def afA {l:gX}:tH F0 l=some (BX l,()):=by
 rw[ag3];have e:∀n:Nat,((n:Int) != 4)= !decide (n=4):=fun n=>by
  by_cases h:n=4
  .subst h;rfl
  .rw[aQ h];exact EZ.2 (by omega)
 rw[e,e];unfold BX;by_cases c:l.1.length=4
 .by_cases g:l.2.length=4
  .rw[aL c,aL g,aN,aa,aa,en,en];refine cu (fun n i (_:Unit)=>uO F0 (pj F0) n (ph i l.1 l.2)) 4 (fun k _=>(∀x∈l.1.take k,inB x 0 400=true)/\∀x∈l.2.take k,inB x 0 100=true) _ (fun n k _ o b=>?_) (fun n _ b=>?_) F0.n 0 () (by omega) (by simp) (by rw[bz];omega)
   .have d:k<l.1.length:=by omega
    have f:k<l.2.length:=by omega
    rw[Ff,show decide ((k:Int)<4)=true from aL (by omega),ae,an d,ab,ln,afz,ai,an f,ab,ln,afz,ai];show(br (!inB (l.1.getD k 0) 0 400) _ (br (!inB (l.2.getD k 0) 0 100) _ _)=_)\/∃p:Unit,br (!inB (l.1.getD k 0) 0 400) _ (br (!inB (l.2.getD k 0) 0 100) _ _)=_/\_;cases j:inB (l.1.getD k 0) 0 400 with
    |false =>
     left;rw[ek,ae,Kz];have:l.1.all (fun n=>inB n 0 400)=false:=agv.2 ⟨_,n9 d 0,by rw[j];simp⟩;rw[this];rfl
    |true =>
     cases m:inB (l.2.getD k 0) 0 100 with
     |false =>
      left;rw[aN,aa,ek,ae,Kz];have:l.2.all (fun n=>inB n 0 100)=false:=agv.2 ⟨_,n9 f 0,by rw[m];simp⟩;rw[this,adu]
     |true =>
      right;refine⟨(),by rw[aN,aa,aa,al (by omega)],?_,?_⟩
      .intro x a;rw[Mg,aI d 0]at a;rcases gF.1 a with a|a
       .exact b.1 x a
       .simp only[am5,fM]at a;rw[a];exact j
      .intro x a;rw[Mg,aI f 0]at a;rcases gF.1 a with a|a
       .exact b.2 x a
       .simp only[am5,fM]at a;rw[a];exact m
   .rw[am1 (by omega),am1 (by omega)]at b;rw[Ff,show decide (((4:Nat):Int)<4)=false from rfl,aa,Zj,ea.2 b.1,ea.2 b.2];rfl
  .rw[aL c,aQ g];rfl
 .rw[aQ c];rfl
def ef (l:gX)(x:dG):gX×Int :=
 if BX l=true/\gm x=true then
  if x.2.2.2<aK l.2 x.1 0 then (l,2)
  else if x.2.2.2>aK l.2 x.1 0 then (l,3)
  else if x.2.2.1>aK l.1 x.1 0 then ((l.1,l.2.set x.1.toNat (x.2.2.2+1)),4)
  else if BX ((l.1.set x.1.toNat (aK l.1 x.1 0-x.2.2.1)).set x.2.1.toNat (aK (l.1.set x.1.toNat (aK l.1 x.1 0-x.2.2.1)) x.2.1 0+x.2.2.1),l.2.set x.1.toNat (x.2.2.2+1))=true
   then (((l.1.set x.1.toNat (aK l.1 x.1 0-x.2.2.1)).set x.2.1.toNat (aK (l.1.set x.1.toNat (aK l.1 x.1 0-x.2.2.1)) x.2.1 0+x.2.2.1),l.2.set x.1.toNat (x.2.2.2+1)),0)
   else (l,1)
 else (l,1)
def acN {l:gX}(h:BX l=true):l.1.length=4/\l.2.length=4/\(∀x∈l.1,0<=x/\x<=400)/\∀x∈l.2,0<=x/\x<=100:=by simp only[BX,aF,bW,ea,inB]at h;exact⟨h.1,h.2.1,fun x a=>⟨(h.2.2.1 x a).1,(h.2.2.1 x a).2⟩,fun x a=>⟨(h.2.2.2 x a).1,(h.2.2.2 x a).2⟩⟩
def acO {l:gX}(a:l.1.length<=1048576)(b:l.2.length<=1048576):p7 F0 l=some (l,()):=by rw[aom,ar (by omega) (by omega) (by omega),ab,ar (by omega) (by omega) (by omega),ab];simp
def XS {l:gX}(a:l.1.length<=1048576)(b:l.2.length<=1048576):kx F0 l=some (l,()):=by rw[acB,CA,CA,ar (by omega) (by omega) (by omega),ab,ai,ar (by omega) (by omega) (by omega),ab,ai];simp
def dT {p:Prop}(i:Decidable p)(h:p): @decide p i=true:=aL h
def dF {p:Prop}(i:Decidable p)(h:¬p): @decide p i=false:=aQ h
def awK {a:List Int}{k:Nat}{v:Int}{lo hi:Int}(b:∀x∈a,lo<=x/\x<=hi)(c:lo<=v/\v<=hi):∀x∈a.set k v,lo<=x/\x<=hi:=fun x d=>by
 rcases aAu d with h|h
 .exact b x h
 .rw[h];exact c
def awL {l:gX}(g:l.1.length<=1048576)(i:l.2.length<=1048576)(x:dG):KA F0 l x=some ((ef l x).1,(ef l x).2,()):=by
 rw[ayy,acO g i,ai,afA,ai];unfold ef;cases p:BX l with
 |false=>rw[af (by simp)];rfl
 |true =>
  rw[aN,aa,Rk,ai];cases q:gm x with
  |false=>rw[af (by simp)];rfl
  |true =>
   rw[aN,aa,ag ⟨rfl,rfl⟩];obtain⟨j,r,m,s⟩:=acN p;obtain⟨b,o,B,C⟩:=mR q;have f:∀(y:Int) (n:Nat),n=4->0<=y->y<=3->bG y (n:Int)=true:=fun y n h g i=>by obtain⟨u,rfl⟩:∃u:Nat,y=u:=⟨y.toNat,by omega⟩;exact an (by omega)
   have t:=f x.1 _ j b.1 b.2;have z:=f x.1 _ r b.1 b.2;have A:∀w,bG x.2.1 ((l.1.set x.1.toNat w).length:Int)=true:=fun w=>f x.2.1 _ (by rw[tw];exact j) o.1 o.2
   simp only[t,z,A,ab];have D:0<=aK l.1 x.1 0/\aK l.1 x.1 0<=400:=m _ (n9 (a:=l.1) (k:=x.1.toNat) (by omega) 0);have E:0<=aK l.2 x.1 0/\aK l.2 x.1 0<=100:=s _ (n9 (a:=l.2) (k:=x.1.toNat) (by omega) 0);by_cases c:x.2.2.2<aK l.2 x.1 0
   .rw[dT _ c,ae,ag c]
   .rw[dF _ c,aa,af c];by_cases d:x.2.2.2>aK l.2 x.1 0
    .rw[dT _ d,ae,ag d]
    .rw[dF _ d,aa,af d,aG (n:=x.2.2.2+1) (by omega) (by omega)];by_cases e:x.2.2.1>aK l.1 x.1 0
     .rw[dT _ e,ae,ag e]
     .have F:0<=aK (l.1.set x.1.toNat (aK l.1 x.1 0-x.2.2.1)) x.2.1 0/\aK (l.1.set x.1.toNat (aK l.1 x.1 0-x.2.2.1)) x.2.1 0<=400:=awK (k:=x.1.toNat) (v:=aK l.1 x.1 0-x.2.2.1) m ⟨by omega,by omega⟩ _ (n9 (a:=l.1.set x.1.toNat (aK l.1 x.1 0-x.2.2.1)) (k:=x.2.1.toNat) (by rw[tw];omega) 0);rw[dF _ e,aa,af e,aG (n:=aK l.1 x.1 0-x.2.2.1) (by omega) (by omega),aG (n:=aK (l.1.set x.1.toNat (aK l.1 x.1 0-x.2.2.1)) x.2.1 0+x.2.2.1) (by omega) (by omega),afA,ai];cases BX ((l.1.set x.1.toNat (aK l.1 x.1 0-x.2.2.1)).set x.2.1.toNat (aK (l.1.set x.1.toNat (aK l.1 x.1 0-x.2.2.1)) x.2.1 0+x.2.2.1),l.2.set x.1.toNat (x.2.2.2+1)) with
      |false=>rw[af (by simp),ek,ae,ai]
      |true=>rw[ag rfl];rfl
def ap5 {l:gX}(f:l.1.length<=1048576)(g:l.2.length<=1048576)(x:dG):Lw F0 l x=some ((ef l x).1,(ef l x).2,()):=by
 rw[ayH,XS f g,ai,abl f g,ai];unfold ef;cases p:BX l with
 |false=>rw[af (by simp)];rfl
 |true =>
  rw[aN,aa,CU,ai];cases q:gm x with
  |false=>rw[af (by simp)];rfl
  |true =>
   rw[aN,aa,ag ⟨rfl,rfl⟩];obtain⟨j,r,m,s⟩:=acN p;obtain⟨b,o,C,D⟩:=mR q;have i:∀(y:Int) (n:Nat),n=4->0<=y->y<=3->bG y (n:Int)=true:=fun y n h f g=>by obtain⟨u,rfl⟩:∃u:Nat,y=u:=⟨y.toNat,by omega⟩;exact an (by omega)
   have t:=i x.1 _ j b.1 b.2;have z:=i x.1 _ r b.1 b.2;have A:∀w,bG x.2.1 ((l.1.set x.1.toNat w).length:Int)=true:=fun w=>i x.2.1 _ (by rw[tw];exact j) o.1 o.2
   simp only[t,z,A,ab];have E:0<=aK l.1 x.1 0/\aK l.1 x.1 0<=400:=m _ (n9 (a:=l.1) (k:=x.1.toNat) (by omega) 0);have F:0<=aK l.2 x.1 0/\aK l.2 x.1 0<=100:=s _ (n9 (a:=l.2) (k:=x.1.toNat) (by omega) 0);by_cases c:x.2.2.2<aK l.2 x.1 0
   .rw[dT _ c,ae,ag c]
   .rw[dF _ c,aa,af c];by_cases d:x.2.2.2>aK l.2 x.1 0
    .rw[dT _ d,ae,ag d]
    .have B:aK l.2 x.1 0=x.2.2.2:=by omega
     rw[dF _ d,aa,af d,B,aG (n:=x.2.2.2+1) (by omega) (by omega)];by_cases e:x.2.2.1>aK l.1 x.1 0
     .rw[dT _ e,ae,ag e]
     .have G:0<=aK (l.1.set x.1.toNat (aK l.1 x.1 0-x.2.2.1)) x.2.1 0/\aK (l.1.set x.1.toNat (aK l.1 x.1 0-x.2.2.1)) x.2.1 0<=400:=awK (k:=x.1.toNat) (v:=aK l.1 x.1 0-x.2.2.1) m ⟨by omega,by omega⟩ _ (n9 (a:=l.1.set x.1.toNat (aK l.1 x.1 0-x.2.2.1)) (k:=x.2.1.toNat) (by rw[tw];omega) 0);rw[dF _ e,aa,af e,aG (n:=aK l.1 x.1 0-x.2.2.1) (by omega) (by omega),aG (n:=aK (l.1.set x.1.toNat (aK l.1 x.1 0-x.2.2.1)) x.2.1 0+x.2.2.1) (by omega) (by omega),abl (by simp only[tw];omega) (by simp only[tw];omega),ai];cases BX ((l.1.set x.1.toNat (aK l.1 x.1 0-x.2.2.1)).set x.2.1.toNat (aK (l.1.set x.1.toNat (aK l.1 x.1 0-x.2.2.1)) x.2.1 0+x.2.2.1),l.2.set x.1.toNat (x.2.2.2+1)) with
      |false=>rw[af (by simp),ek,ae,ai]
      |true=>rw[ag rfl];rfl
def ayP (l:gX)(x:dG):(ef l x).1.1.length=l.1.length/\(ef l x).1.2.length=l.2.length:=by
 unfold ef;split
 .split
  .exact⟨rfl,rfl⟩
  .split
   .exact⟨rfl,rfl⟩
   .split
    .exact⟨rfl,by simp⟩
    .split
     .exact⟨by simp,by simp⟩
     .exact⟨rfl,rfl⟩
 .exact⟨rfl,rfl⟩
def Sv:gX:=([100,100,100,100],[0,0,0,0])
def abm:mf F0=some (Sv,()):=by
 have st:∀n (k:Nat) (c:List Int),k<4->c.length=k->jA F0 (jO F0) (n+1) (fX (k:Int) [] [] c [0,0,0,0])=jA F0 (jO F0) n (fX ((k+1:Nat):Int) [] [] (c++[100]) [0,0,0,0]):=fun n k c e f=>by rw[BE,show decide ((k:Int)<4)=true from aL (by omega),ae,ar (a:=c.length) (b:=[(100:Nat)].length) (k:=8) (by omega) (by omega) (by simp only[aW,bm];omega),ab,al (by omega)]
 rw[aeg,show okM F0 4 4 8=true from aGo (n:=4) (by omega) (by omega) (by omega),ab];refine cu (fun n i c=>jA F0 (jO F0) n (fX i [] [] c [0,0,0,0])) 4 (fun k c=>c=List.replicate k 100) _ (fun n k c e d=>.inr ⟨_,st n k c e (by rw[d];simp),by rw[d,<-List.replicate_succ']⟩) (fun n c d=>?_) F0.n 0 [] (by omega) rfl (by rw[bz];omega);rw[BE,show decide (((4:Nat):Int)<4)=false from rfl,aa,Wn,d];rfl
def LR:jW F0=some (Sv,()):=by
 have st:∀n (k:Nat) (c:List Int),k<4->c.length=k->jE F0 (jV F0) (n+1) (gh (k:Int) [] [] c [0,0,0,0])=jE F0 (jV F0) n (gh ((k+1:Nat):Int) [] [] (c++[100]) [0,0,0,0]):=fun n k c e f=>by rw[BP,show decide ((k:Int)<4)=true from aL (by omega),ae,ar (a:=c.length) (b:=[(100:Nat)].length) (k:=8) (by omega) (by omega) (by simp only[aW,bm];omega),ab,al (by omega)]
 rw[afe,show okM F0 4 4 8=true from aGo (n:=4) (by omega) (by omega) (by omega),ab];refine cu (fun n i c=>jE F0 (jV F0) n (gh i [] [] c [0,0,0,0])) 4 (fun k c=>c=List.replicate k 100) _ (fun n k c e d=>.inr ⟨_,st n k c e (by rw[d];simp),by rw[d,<-List.replicate_succ']⟩) (fun n c d=>?_) F0.n 0 [] (by omega) rfl (by rw[bz];omega);rw[BP,show decide (((4:Nat):Int)<4)=false from rfl,aa,Xy,d];rfl
def ayQ (c:Int):Rh F0 c=some ((c==0) || (c==4),()):=by rw[awx];cases h:(c==0)<;>rfl
def Ve (l:gX):Prop:=l.1.length=4/\l.2.length=4
def aGJ {l:gX}(h:Ve l)(x:dG):Ve (ef l x).1:=⟨(ayP l x).1.trans h.1,(ayP l x).2.trans h.2⟩
def abn {U:Type}{a:List U}{k:Nat}(h:k<a.length)(d:U):aK a (k:Int) d=a[k]:=by rw[ln];simp[List.getD,h]
def aLd (x:dG):(x.1,x.2.1,x.2.2.1,x.2.2.2)=x:=rfl
def gY:gX->List dG->List Int
 |_,[]=>[]|l,x::xs=>(ef l x).2::gY (ef l x).1 xs
def eV:gX->List dG->gX
 |l,[]=>l|l,x::xs=>eV (ef l x).1 xs
def Jk:∀{xs:List dG} {l:gX},Ve l->Ve (eV l xs)
 |[],_,h=>h|x::xs,l,h=>Jk (xs:=xs) (aGJ h x)
def Jl:∀(xs:List dG) (l:gX),(gY l xs).length=xs.length
 |[],_=>rfl|x::xs,l=>by simp[gY,Jl xs]
def Sw:∀(a b:List dG) (l:gX),gY l (a++b)=gY l a++gY (eV l a) b
 |[],_,_=>rfl|x::a,b,l=>by simp[gY,eV,Sw a b]
def On:∀(a:List dG) (x:dG) (l:gX),eV l (a++[x])=(ef (eV l a) x).1
 |[],_,_=>rfl|y::a,x,l=>by simp[eV,On a x]
def afB:∀(xs:List dG) (l:gX) (j:Nat) (h:j<xs.length),(gY l xs)[j]?=some (ef (eV l (xs.take j)) xs[j]).2
 |x::xs,l,0,h=>rfl|x::xs,l,j+1,h=>by simp only[gY,aAx,auS,eV,List.getElem_cons_succ];exact afB xs _ j (by simpa using h)
def ap6 {l:gX}(g:Ve l){list:List dG}(m:list.length<=1048576):wS F0 l list=some (eV l list,gY l list,()):=by
 rw[aoo,acO (by have:=g.1;omega) (by have:=g.2;omega),ai];refine cu (fun n i (z:List Int×gX)=>Dz F0 (Gn F0) n (uP list i z.1 [] [] z.2.1 z.2.2)) list.length (fun k z=>z.1=gY l (list.take k)/\z.2=eV l (list.take k)) _ (fun n k z e f=>.inr ⟨(z.1++[(ef z.2 list[k]).2],(ef z.2 list[k]).1),?_,?_⟩) (fun n z f=>?_) F0.n 0 ([],l) (aR _) ⟨rfl,rfl⟩ (by rw[bz];omega)
 .obtain⟨d,c⟩:=f;have h:Ve z.2:=by rw[c];exact Jk g
  have o:z.1.length<=1048576:=by rw[d,Jl,bB];omega
  rw[KB,aM e,ae,an e,ab,abn e]
  try rw[aLd]
  rw[awL (l:=(z.2.1,z.2.2)) (by have:=h.1;show z.2.1.length<=_;omega) (by have:=h.2;show z.2.2.length<=_;omega),ai];simp only;rw[ar (a:=z.1.length) (b:=[(ef (z.2.1,z.2.2) list[k]).2].length) (k:=8) (by omega) (by omega) (by simp only[aW,bm];omega),ab,al (by omega)]
 .obtain⟨d,c⟩:=f;have j:list.take (k+1)=list.take k++[list[k]]:=by rw[Mg,n6 e];rfl
  refine⟨?_,?_⟩
  .rw[j,Sw,<-d,<-c];rfl
  .rw[j,On,<-c]
 .obtain⟨d,c⟩:=f;rw[kc]at d c;rw[KB,aB,aa,aeh,d,c]
def afC:∀{ss:List Rn},(∀s∈ss,awJ s)->(ss.flatMap (·.2)).length<=2*ss.length
 |[],_=>by simp
 |s::ss,h=>by
  have b:=(h s pT).2.2.1;have c:=afC (ss:=ss) fun x a=>h x (jH _ a)
  rw[List.flatMap_cons,aJ,aW];omega
def aEP {l:List UInt8}(f:l.length<=1073741824):v8 F0 (tx l)=some ((a7 l).1.flatMap (·.2),()):=by
 rw[asd,YP f,ai];have hlen:=rn l;have dd:=Ss l;generalize h:(a7 l).1=ss at hlen dd;refine cu (fun n i xs=>Iq F0 (Kv F0) n (yL i xs ss)) ss.length (fun k xs=>xs=(ss.take k).flatMap (·.2)) _ (fun n k xs c d=>.inr ⟨_,?_,rfl⟩) (fun n xs d=>?_) F0.n 0 [] (aR _) rfl (by rw[bz];omega)
 .have j:=(dd _ (bP c)).2.2.1;have e:=afC (ss:=ss.take k) fun x e=>dd x (ZL e)
  rw[<-d,bB]at e;rw[MN,aM c,ae,an c,ab,abn c,ar (a:=xs.length) (b:=ss[k].2.length) (k:=32) (by omega) (by omega) (by omega),ab,al (by omega),d];have g:(ss.take (k+1)).flatMap (·.2)=(ss.take k).flatMap (·.2)++ss[k].2:=by rw[show ss.take (k+1)=ss.take k++[ss[k]] by rw[Mg,n6 c];rfl,auT];simp
  rw[g]
 .rw[kc]at d;rw[MN,aB,aa,ag2,d]
def ej {V:Type}(X:Nat->Int->Option V)(L:Nat)(p:Nat->Bool)(d e:Option V)(g:∀n k,k<L->X (n+1) (k:Int)=if p k=true then X n ((k+1:Nat):Int) else e)(j:∀n,X (n+1) (L:Int)=d)(n:Nat)(o:L<n) :
  X n 0=if (List.range L).all p=true then d else e:=by
 refine cu (fun n i (_:Unit)=>X n i) L (fun k _=>∀a,a<k->p a=true) _ (fun n k _ f h=>?_) (fun n _ h=>?_) n 0 () (aR _) (fun a b=>absurd b (S0 _)) (by omega)
 .try dsimp only
  rw[g n k f];by_cases c:p k=true
  .rw[ag c];refine .inr ⟨(),rfl,fun a b=>?_⟩;by_cases l:a=k
   .exact l▸c
   .exact h a (by omega)
  .rw[af c,af]
   .exact .inl rfl
   .intro m;exact c (ea.1 m k (eS.2 f))
 .try dsimp only
  rw[j,ag];exact ea.2 fun a b=>h a (eS.1 b)
def LS {U:Type}(s:List U)(q:U->Bool)(d:U):(List.range s.length).all (fun k=>q (s.getD k d))=s.all q:=by
 rw[Bool.eq_iff_iff,ea,ea];constructor
 .intro h x b;obtain⟨i,a,rfl⟩:=auQ.1 b;have:=h i (eS.2 a);simpa [List.getD,a]using this
 .intro h k c;exact h _ (n9 (eS.1 c) d)
def aJ6 (s:List Int)(i:Int):(s.all fun x=> !(x==i))= !decide (i∈s):=by rw[Bool.eq_iff_iff,ea];simp only[ai6,bU,axR];exact⟨fun h a=>h i a rfl,fun h x b e=>h (e▸b)⟩
def ite_not (b:Bool){U:Type}(x y:U):(if (!b)=true then x else y)=if b=true then y else x:=by cases b<;>rfl
def aBo {U:Type}(b:Bool)(x y:U):br b x y=if b=true then x else y:=by cases b<;>rfl
def fy {s:List Int}(h:s.length<=1073741824)(i:Int):cW F0 s i=some (decide (i∈s),()):=by
 rw[aor,ej (fun n k=>DE F0 (uV F0) n (uU s i k)) s.length (fun k=> !(s.getD k 0==i)) (some (false,())) (some (true,())) (fun n k a=>?_) (fun n=>?_) _ (by rw[bz];omega),
  LS s (fun x=> !(x==i)),aJ6,ite_not]
 .by_cases b:i∈s<;>simp[b]
 .rw[KD,aM a,ae,an a,ab,ln,al (by omega),ite_not,aBo,ag9]
 .rw[KD,aB,aa,aek]
def awM {s:List Int}(h:s.length<=1073741824)(i:Int):hK F0 s i=some (decide (i∈s),()):=by
 have key:∃a,k1 F0 s i=some (a,())/\decide (a>=0)=decide (i∈s):=by
  rw[QH];have:=cu (fun n k (_:Unit)=>iR F0 (gD F0) n (gC s i (s.length:Int) k)) s.length (fun k _=>∀a,a<k->s.getD a 0≠i)
   (some ((if i∈s then ((s.idxOf i:Nat):Int) else -1),())) (fun n k _ f g=>?_) (fun n _ g=>?_) F0.n 0 () (aR _) (fun a c=>absurd c (S0 _)) (by rw[bz];omega)
  .refine⟨_,this,?_⟩;by_cases b:i∈s
   .rw[ag b,aL b];exact aL (Int.natCast_nonneg _)
   .rw[af b,aQ b];rfl
  .try dsimp only
   rw[pE,aM f,ae,an f,ab,ln,al (by omega),Mf];by_cases d:i=s.getD k 0
   .left;have b:i∈s:=d▸n9 f 0;rw[bf.2 d,ae,ag b];have m:s.idxOf i=k:=by
     have j:s.idxOf i<s.length:=List.idxOf_lt_length_of_mem b;have l:s.getD (s.idxOf i) 0=i:=by simp[List.getD,j]
     rcases Nat.lt_trichotomy (s.idxOf i) k with hlt|o|q
     .exact absurd l (g _ hlt)
     .exact o
     .have:=List.not_of_lt_findIdx (p:=(·==i)) (xs:=s) q;have r:s[k]'(by omega)=i:=by rw[d];simp[List.getD,f]
      simp[r]at this
    rw[m]
   .right;rw[bU.2 d,aa];refine⟨(),rfl,fun a c=>?_⟩;by_cases t:a=k
    .exact fun e=>d (t▸e.symm)
    .exact g a (by omega)
  .try dsimp only
   have b:i ∉ s:=by intro b;obtain⟨a,c,e⟩:=auQ.1 b;exact g a c (by simp[List.getD,c,e])
   rw[pE,aB,aa,Lf,af b]
 obtain⟨a,j,l⟩:=key;rw[Lg,j,ai,l]
def eA {s:List Int}(h:s.length<=1073741824)(i:Int):c7 F0 s i=some (decide (i∈s),()):=by rw[apm,awM h,ai]
def amv (i:Int):List Int->List Int
 |[]=>[i]|x::l=>if x>=i then i::x::l else x::amv i l
def Ro (s:List Int)(i:Int):List Int:=if i∈s then s else amv i s
def ayR (i:Int):∀s:List Int,(amv i s).length=s.length+1
 |[]=>rfl|x::l=>by
  unfold amv;split
  .rfl
  .simp[ayR i l]
def ap7 (s:List Int)(i:Int):(Ro s i).length<=s.length+1:=by
 unfold Ro;split
 .omega
 .rw[ayR];exact bF _
def amM {i:Int}:∀{s:List Int} {k:Nat},k<=s.length->(∀a (h:a<s.length),a<k->s[a]<i)->(∀h:k<s.length,¬s[k]<i)->amv i s=s.take k++i::s.drop k
 |[],k,_,_,_=>by simp[amv]
 |x::l,0,_,_,h=>by have:=h (by simp);simp only[aAy]at this;unfold amv;rw[ag (by omega)];rfl
 |x::l,k+1,c,b,d=>by have e:=b 0 (by simp) (by omega);simp only[aAy]at e;unfold amv;rw[af (by omega),auS,List.drop_succ_cons,GV,amM (k:=k) (by simpa using c) (fun a h f=>b (a+1) (by simp only[aW];omega) (by omega)) (fun h=>d (by simp only[aW];omega))]
def YQ {l h n:Nat}(a:l<=h)(b:h<=n):S5 (l:Int) (h:Int) (n:Int)=true:=by simp[S5];omega
def acP {s:List Int}(h:s.length<=1048576)(i:Int):wT F0 s i=some (Ro s i,()):=by
 rw[aos,fy (by omega),ai];unfold Ro;by_cases c:i∈s
 .rw[aL c,ae,ag c,ar (by omega) (by omega) (by omega),ab];rfl
 .rw[aQ c,aa,af c];have fin:∀k:Nat,k<=s.length->(∀a (h:a<s.length),a<k->s[a]<i)->(∀h:k<s.length,¬s[k]<i)->uX F0 (.exit 0) (rS s i (k:Int))=some (amv i s,()):=by
   intro k b g j;rw[ael,show S5 0 (k:Int) (s.length:Int)=true from YQ (l:=0) (aR _) b,ab,ho,ho,show(0:Int).toNat=0 from rfl,adt,BA,kc,
    ar (by omega) (by omega) (by rw[bB];omega),ab,ar (by omega) (by omega) (by rw[bB];simp only[aW,bm];omega),ab,YQ b (bF _),ab,
    ar (by omega) (by omega) (by rw[aJ,bB,bc];simp only[aW,bm];omega),ab,amM b g j]
   simp
  refine cu (fun n k (_:Unit)=>DH F0 (uX F0) n (uW s i k)) s.length (fun k _=>∀a (h:a<s.length),a<k->s[a]<i) _ (fun n k _ b d=>?_) (fun n _ d=>?_) F0.n 0 () (aR _) (fun a _ f=>absurd f (S0 _)) (by rw[bz];omega)
  .try dsimp only
   rw[KF,aM b,ae,an b,ab,abn b,al (by omega)];by_cases hlt:s[k]<i
   .right;rw[aL hlt,ae];refine⟨(),rfl,fun a f m=>?_⟩;by_cases e:a=k
    .subst e;exact hlt
    .exact d a f (by omega)
   .left;rw[aQ hlt,aa];exact fin k (by omega) d (fun _=>hlt)
  .try dsimp only
   rw[KF,aB,aa];exact fin s.length (bF _) d (fun h=>absurd h (Vo _))
def n1 {l:List Int}(h:l.length<=1073741824):dY F0 l=some (l,()):=by rw[CA,ar (by omega) (by omega) (by omega),ab];rfl
def ais {U:Type}(p:U->Bool):∀(l:List U) (j:Nat),(pU p l (j:Int)=-1/\∀x∈l,p x=false)\/∃k,∃h:k<l.length,pU p l (j:Int)=((j+k:Nat):Int)/\p l[k]=true/\∀i (hi:i<l.length),i<k->p l[i]=false
 |[],j=>.inl ⟨rfl,by simp⟩
 |x::l,j=>by
  unfold pU;cases a:p x with
  |true=>exact .inr ⟨0,by simp,by simp,by simpa using a,fun i _ hi=>absurd hi (S0 _)⟩
  |false =>
   have e:(j:Int)+1=((j+1:Nat):Int):=by omega
   dsimp only;rw[e];rcases ais p l (j+1) with ⟨b,c⟩|⟨k,f,b,c,g⟩
   .refine .inl ⟨b,fun y d=>?_⟩;rcases cS.1 d with rfl|d
    .exact a
    .exact c y d
   .refine .inr ⟨k+1,by simpa using f,by rw[b];omega,by simpa using c,fun i hi m=>?_⟩;cases i with
    |zero=>simpa using a|succ i=>simpa using g i (by simpa using hi) (by omega)
def JH {k a b:Nat}(c:k<=a)(d:1<=b)(e:a+b<=1073741824):ajl (k:Int) a b=true:=by unfold ajl;rw[aL (show(0:Int)<=k by omega),aL (show(k:Int)<=a by omega),aL (show(1:Int)<=b by omega),aL (show((a+b:Nat):Int)<=1073741824 by omega)];rfl
def aj6 {s:List Int}(h:s.length<=1048576)(i:Int):FD F0 s i=some (Ro s i,()):=by
 rw[apu,eA (by omega),ai];unfold Ro;by_cases c:i∈s
 .rw[aL c,ae,ag c,n1 (by omega),ai]
 .rw[aQ c,aa,af c];rcases ais (fun e=>geP e i) s 0 with ⟨b,d⟩|⟨k,m,b,d,j⟩
  .have b:pU (fun e=>geP e i) s 0=-1:=b;rw[b,show decide ((-1:Int)<0)=true from rfl,ae,n1 (by omega),ai,JH (bF _) (by simp) (by simp only[aW,bm];omega),ab,ho,
    amM (k:=s.length) (bF _) (fun f g _=>?_) (fun h=>absurd h (Vo _))]
   .simp
   .have:=agu (d s[f] (bP g));omega
  .have b:pU (fun e=>geP e i) s 0=((0+k:Nat):Int):=b;rw[wG]at b;have d:=lE d;rw[b,show decide (((k:Nat):Int)<0)=false from aQ (by omega),aa,n1 (by omega),ai,JH (k:=k) (a:=s.length) (by omega) (by simp) (by simp only[aW,bm];omega),ab,ho,
    amM (k:=k) (by omega) (fun f g l=>?_) (fun _=>by omega)]
   .simp
   .have:=agu (j f g l);omega
def gE (lo hi x:Int):Bool:=decide (lo<=x)&&decide (x<=hi)
def cP (x lo hi:Int):bM F0 x lo hi=some (gE lo hi x,()):=afz x lo hi
def bR (x lo hi:Int):aZ F0 x lo hi=some (gE lo hi x,()):=Sr x lo hi
def ee {U:Type}{l:List U}{k:Nat}(h:k<l.length):l.take (k+1)=l.take k++[l[k]]:=by rw[Mg,n6 h];rfl
abbrev bZ:=Int×ByteArray×List Int
def bg (l:List UInt8):Bool:=(a7 l).2
def aC (l:List UInt8):Int:=match (a7 l).1.getLast? with|some s=>s.1|none=>0
def XT {l:List UInt8}(h:(a7 l).2=false):(a7 l).1=[]:=by
 unfold a7 at h ⊢;split
 .rfl
 .rename_i a;rw[af a]at h;split
  .rfl
  .rename_i b;rw[b]at h;dsimp only at h;split
   .rfl
   .rename_i c;rw[af c]at h;split
    .rfl
    .rename_i d;rw[d]at h;cases h
def Sx {l:List UInt8}(h:l.length<=1073741824):eY F0 (tx l)=some (bg l,()):=by rw[an1,YP h,ai];rfl
def Oo {l:List UInt8}(h:l.length<=1073741824):eZ F0 (tx l)=some (bg l,()):=by rw[apa,Su h,ai];rfl
def atZ (ss:List Rn)(f:ss.length<=30)(d:Rn:=(0,[])):br ((ss.length:Int)==0) (some ((0:Int),())) (ck (bG (aj ((ss.length:Int)-1)) (ss.length:Int)) (some ((aK ss (aj ((ss.length:Int)-1)) d).1,())))=some ((match ss.getLast? with|some s=>s.1|none=>0),()):=by
 cases a:ss with
 |nil=>rfl
 |cons s r =>
  rw[<-a];have e:ss.length≠0:=by rw[a];simp
  have b:((ss.length:Int)==0)=false:=bU.2 (by omega);have c:aj ((ss.length:Int)-1)=((ss.length-1:Nat):Int):=by rw[aG (by omega) (by omega)];omega
  rw[b,aa,c,an (by omega),ab,abn (by omega),List.getLast?_eq_getElem?,n6 (by omega)]
def ap8 {l:List UInt8}(h:l.length<=1073741824):du F0 (tx l)=some (aC l,()):=by
 rw[an2,YP h,ai];dsimp only;cases a:(a7 l).2 with
 |true =>
  rw[aN,aa];exact atZ _ (rn l)
 |false =>
  rw[ek,ae];unfold aC;rw[XT a];rfl
def aj7 {l:List UInt8}(h:l.length<=1073741824):er F0 (tx l)=some (aC l,()):=by rw[apb,Su h,ai];exact atZ _ (rn l)
def mS (l:List UInt8):0<=aC l/\aC l<=60:=by
 unfold aC;split
 .rename_i s a;have:=Ss l s (List.mem_of_getLast? a);exact⟨this.1,this.2.1⟩
 .omega
def bw (c:Int×Int):Bool:=gE 4 7 c.1&&gE 1 6 c.2
def ir (c:Int×Int):dI F0 c=some (bw c,()):=by rw[anX,cP,ai,cP,ai];unfold bw;dsimp only;cases gE 4 7 c.1<;>rfl
def fQ (c:Int×Int):ep F0 c=some (bw c,()):=by rw[ao6,bR,ai,bR,ai];unfold bw;dsimp only;cases gE 4 7 c.1<;>rfl
def b5 {c:Int×Int}(h:bw c=true):4<=c.1/\c.1<=7/\1<=c.2/\c.2<=6:=by unfold bw gE at h;simp only[aF,bW]at h;omega
def ayS {n:Int}(a:4<=n)(b:n<=7):1<=Int.tdiv (n-1) 3/\Int.tdiv (n-1) 3<=2:=by
 have:n=4\/n=5\/n=6\/n=7:=by omega
 rcases this with rfl|rfl|rfl|rfl<;>decide
def wC (c:Int×Int):Int:=if bw c=true then Int.tdiv (c.1-1) 3 else 0
def Bp (c:Int×Int):Int:=if bw c=true then c.1-Int.tdiv (c.1-1) 3 else 0
def aj8 (c:Int×Int):Ft F0 c=some (wC c,()):=by
 rw[apc,fQ,ai];unfold wC;dsimp only;cases h:bw c with
 |false=>rfl
 |true =>
  have:=b5 h;have a:=ayS this.1 this.2.1;have e:aj (c.1-1)=c.1-1:=aG (by omega) (by omega);rw[aN,aa,e,aG (by omega) (by omega),ag rfl]
def aj9 (c:Int×Int):Fu F0 c=some (Bp c,()):=by
 rw[apd,fQ,ai,aj8,ai];unfold Bp wC;dsimp only;cases h:bw c with
 |false=>rfl
 |true =>
  have:=b5 h;have a:=ayS this.1 this.2.1;rw[aN,aa,ag rfl,ag rfl,aG (by omega) (by omega)]
def acQ (c:Int×Int):wO F0 c=some (Bp c,()):=by
 rw[an3,ir,ai];unfold Bp;dsimp only;cases h:bw c with
 |false=>rfl
 |true =>
  have:=b5 h;have a:=ayS this.1 this.2.1;have e:aj (c.1-1)=c.1-1:=aG (by omega) (by omega);rw[aN,aa,e,aG (n:=Int.tdiv (c.1-1) 3) (by omega) (by omega),aG (by omega) (by omega),ag rfl]
def kf (n:Int)(s:List Int):Bool:=(List.range s.length).all fun k=>decide (0<=s.getD k 0)&&(decide (s.getD k 0<n)&&(decide (k=0) || decide (s.getD (k-1) 0<s.getD k 0)))
def Sy {V:Type}{n:Int}{s:List Int}{k:Nat}(g:k<s.length)(x y:Option V) :
  br (decide (s.getD k 0<0)) x (br (decide (s.getD k 0>=n)) x (br (decide ((k:Int)>0)) (br (decide (s.getD (k-1) 0>=s.getD k 0)) x y) y)) =
  if (decide (0<=s.getD k 0)&&(decide (s.getD k 0<n)&&(decide (k=0) || decide (s.getD (k-1) 0<s.getD k 0))))=true then y else x:=by
 generalize s.getD k 0=a;generalize s.getD (k-1) 0=b;by_cases c:a<0
 .rw[aL c,ae,aQ (show ¬0<=a by omega)];rfl
 .rw[aQ c,aa,aL (show 0<=a by omega),en];by_cases d:a>=n
  .rw[aL d,ae,aQ (show ¬a<n by omega)];rfl
  .rw[aQ d,aa,aL (show a<n by omega),en];by_cases e:k=0
   .subst e;rfl
   .rw[aL (show(k:Int)>0 by omega),ae,aQ e,JT];by_cases f:b>=a
    .rw[aL f,ae,aQ (show ¬b<a by omega)];rfl
    .rw[aQ f,aa,aL (show b<a by omega)];rfl
def LU {k:Nat}(a:0<k)(h:k<=9223372036854775807):aj ((k:Int)-1)=((k-1:Nat):Int):=by rw[aG (by omega) (by omega)];omega
def ait {s:List Int}(h:s.length<=1073741824)(n:Int):Cc F0 n s=some (kf n s,()):=by
 rw[ar8,ej (fun m k=>yl F0 (ym F0) m (p1 n s k)) s.length (fun k=>decide (0<=s.getD k 0)&&(decide (s.getD k 0<n)&&(decide (k=0) || decide (s.getD (k-1) 0<s.getD k 0)))) (some (true,())) (some (false,())) (fun m k a=>?_) (fun m=>?_) _ (by rw[bz];omega)]
 .show(if kf n s=true then _ else _)=_;cases kf n s<;>rfl
 .rw[Mu,aM a,ae,an a,ab,ln,akO,ab,al (by omega)];by_cases b:k=0
  .subst b;rw[<-Sy a];rfl
  .rw[LU (by omega) (by omega),an (show k-1<s.length by omega),ab,ab,ln,<-Sy a]
 .rw[Mu,aB,aa,agT]
def acR {s:List Int}(h:s.length<=1073741824)(n:Int):wg F0 n s=some (kf n s,()):=by
 rw[asu,ej (fun m k=>Ak F0 (Al F0) m (q0 n s s (s.length:Int) k)) s.length (fun k=>decide (0<=s.getD k 0)&&(decide (s.getD k 0<n)&&(decide (k=0) || decide (s.getD (k-1) 0<s.getD k 0)))) (some (true,())) (some (false,())) (fun m k a=>?_) (fun m=>?_) _ (by rw[bz];omega)]
 .show(if kf n s=true then _ else _)=_;cases kf n s<;>rfl
 .rw[Nr,aM a,ae,an a,ab,ln,alO,al (by omega)];by_cases b:k=0
  .subst b;rw[<-Sy a];rfl
  .rw[LU (by omega) (by omega),an (show k-1<s.length by omega),ab,ln,<-Sy a]
 .rw[Nr,aB,aa,ahy]
def aiu {a b:List Int}(h:a.length<=1073741824):gQ F0 a b=some (decide (a=b),()):=by
 rw[Qw];by_cases d:a.length=b.length
 .have e:((a.length:Int) != (b.length:Int))=false:=by rw[d];exact am6 (b.length:Int)
  rw[e,aa,ej (fun m k=>iN F0 (gB F0) m (gA a b (a.length:Int) k)) a.length (fun k=>a.getD k 0==b.getD k 0) (some (true,())) (some (false,())) (fun m k f=>?_) (fun m=>?_) _ (by rw[bz];omega)]
  .by_cases c:a=b
   .rw[aL c,ag (ea.2 fun k _=>by rw[c];exact Vk (b.getD k 0))]
   .rw[aQ c,af];intro j;refine c (List.ext_getElem d fun k g l=>?_);have:=ea.1 j k (eS.2 g);simpa [List.getD,g,l]using this
  .rw[pB,aM f,ae,an f,ab,an (d▸f),ab,ln,ln,Me,al (by omega),aBo];by_cases i:a.getD k 0=b.getD k 0
   .simp[i]
   .simp[i]
  .rw[pB,aB,aa,KV]
 .have e:((a.length:Int) != (b.length:Int))=true:=EZ.2 (by omega);rw[e,ae,aQ (fun c=>d (by rw[c]))]
def ZI (c:Int×Int)(q:Int×List UInt8×List Int):Bool:=bw c&&(bg q.2.1&&(decide (aC q.2.1=q.1)&&(if q.2.1=[] then decide (q.2.2=[]) else kf c.1 q.2.2&&decide ((q.2.2.length:Int)>=Bp c))))
def awN:ak=tx []:=rfl
def ap9 {q:bZ}(h:q.2.2.length<=1073741824):gU F0 q=some (q,()):=by rw[apl,n1 h,ai]
def aBp {v c:Int}{a b:List UInt8}{s t:List Int}(h:s.length<=1073741824):jj F0 (v,tx a,s) (c,tx b,t)=some ((v==c)&&(decide (a=b)&&decide (s=t)),()):=by rw[WT];dsimp only;rw[UO,aiu h,ai];cases (v==c)<;>cases decide (a=b)<;>rfl
def ayT {v:Int}{l:List UInt8}{s:List Int}(d:l.length<=1073741824)(e:s.length<=1073741824)(c:Int×Int):kp F0 c (v,tx l,s)=some (ZI c (v,l,s),()):=by
 rw[avU,ir,ai];unfold ZI;dsimp only;rw[Sx d,ai,ap8 d,ai,ait e,ai,acQ,ai,awN,UO];cases bw c with
 |false=>rfl
 |true =>
  cases bg l with
  |false=>rfl
  |true =>
   by_cases a:aC l=v
   .rw[aL a,show(aC l != v)=false by rw[a];exact am6 v];by_cases b:l=[]
    .rw[aL b,ag b];cases s with
     |nil=>rfl|cons x r=>rfl
    .rw[aQ b,af b];cases kf c.1 s<;>rfl
   .rw[aQ a,show(aC l != v)=true from EZ.2 a];rfl
def aEQ {c:UInt8}{l:List UInt8}(h:parts c l=[[]]):l=[]:=by
 cases l with
 |nil=>rfl
 |cons x l =>
  unfold parts at h;split at h
  .exact absurd (tz h).2 (FV c l)
  .split at h
   .cases (tz h).1
   .cases (tz h).1
def ayU {σ V:Type}{f:σ->List UInt8->Option (σ×V)}{I:σ->Prop}{Q:V->Prop}(e:∀s p a b,I s->f s p=some (a,b)->Q b/\I a):∀{l:List (List UInt8)} {s:σ} {r:List V},I s->tr f s l=some r->∀b∈r,Q b
 |[],s,r,_,h,b,hb=>by cases h;cases hb
 |p::l,s,r,g,h,b,hb=>by
  unfold tr at h;cases c:f s p with
  |none=>rw[c]at h;cases h
  |some x =>
   obtain⟨a,i⟩:=x;rw[c]at h;obtain⟨j,k⟩:=e s p a i g c;dsimp only at h;cases d:tr f a l with
   |none=>rw[d]at h;cases h
   |some m =>
    rw[d]at h;cases h;rcases cS.1 hb with rfl|hb
    .exact j
    .exact ayU e k d b hb
def awO {l:List UInt8}:∀s∈(a7 l).1,1<=s.1:=by
 unfold a7;split
 .simp
 .split
  .simp
  .split
   .simp
   .split
    .simp
    .rename_i d;refine ayU (I:=fun s=>0<=s) (Q:=fun b=>1<=b.1) (fun s p e b f a=>?_) (by omega) d;obtain⟨g,h⟩:=XR a;unfold ta at a;split at a
     .rename_i c;cases a;exact⟨by have:=c.2.2.2.1;show 1<=_;omega,by have:=c.2.2.2.1;omega⟩
     .cases a
def aBq {l:List UInt8}(h:bg l=true)(c:l≠[]):(a7 l).1≠[]:=by
 unfold bg at h;unfold a7 at h ⊢;rw[af c]at h ⊢;cases b:parts 47 l with
 |nil=>rw[b]at h;cases h
 |cons g d =>
  rw[b]at h;dsimp only at h ⊢;split
  .rename_i a;rw[ag a]at h;cases h
  .rename_i a;rw[af a]at h;have i:g=[]:=axQ fun j=>a (.inl j)
   cases e:tr ta 0 d with
   |none=>rw[e]at h;cases h
   |some r =>
    dsimp only;intro k;have f:=Rm e;rw[k]at f;have:d=[]:=ZJ f.symm;subst this i;exact c (aEQ b)
def aqa {l:List UInt8}(h:bg l=true)(b:l≠[]):1<=aC l:=by
 have c:=aBq h b;unfold aC;cases a:(a7 l).1.getLast? with
 |none=>exact absurd (List.getLast?_eq_none_iff.1 a) c|some s=>exact awO s (List.mem_of_getLast? a)
def Sz:aC []=0:=rfl
def aqb:bg []=true:=rfl
def aGK (c:Int×Int)(v:Int)(l:List UInt8)(s:List Int) :
  (bw c&&(((v==0)&&(decide (l=[])&&decide (s=[]))) || (decide (v>=1)&&(bg l&&((v==aC l)&&(kf c.1 s&&decide ((s.length:Int)>=Bp c)))))))=ZI c (v,l,s):=by
 unfold ZI;dsimp only;cases e:bw c with
 |false=>rfl
 |true =>
  rw[en,en];by_cases b:l=[]
  .subst b;rw[Sz,aqb,ag rfl,aL rfl,en,en,en];by_cases a:v=0
   .subst a;rw[Vk,aL rfl,aQ (show ¬(0:Int)>=1 by omega),ZN,anb]
   .rw[bU.2 a,aQ (show ¬(0:Int)=v from fun h=>a h.symm)];simp
  .rw[aQ b,ZN,adu,JT,af b];cases d:bg l with
   |false=>rw[ZN,ZN,adu]
   |true =>
    have:=aqa d b;by_cases a:v=aC l
    .rw[aL (show v>=1 by omega),bf.2 a,aL a.symm];rfl
    .rw[bU.2 a,aQ (show ¬aC l=v from fun h=>a h.symm)];simp
def at0 {v:Int}{l:List UInt8}{s:List Int}(a:l.length<=1073741824)(b:s.length<=1073741824)(c:Int×Int):mu F0 c (v,tx l,s)=some (ZI c (v,l,s),()):=by rw[<-aGK,awc,fQ,ai,T4,ai];dsimp only;rw[awN,aBp b,ai,Oo a,ai,aj7 a,ai,acR b,ai,aj9,ai];dsimp only;generalize bg l=d;generalize aC l=e;generalize kf c.1 s=f;generalize decide ((s.length:Int)>=Bp c)=g;generalize decide (v>=1)=h;generalize ((v==0)&&(decide (l=[])&&decide (s=[])))=i;generalize (v==e)=j;cases bw c<;>cases d<;>cases f<;>cases g<;>cases h<;>cases i<;>cases j<;>rfl
def XU (c:Int×Int)(p:Int×List UInt8×List Int):Option (Int×List UInt8×List Int):=if p.2.1≠[]/\ZI c p=true then some p else none
def aDP (o:Option (Int×List UInt8×List Int)):bZ×Bool:=match o with
 |some q=>((q.1,tx q.2.1,q.2.2),true)|none=>((0,tx [],[]),false)
def aBr {v:Int}{l:List UInt8}{s:List Int}(b:l.length<=1073741824)(d:s.length<=1073741824)(c:Int×Int):Fk F0 c (v,tx l,s)=some ((aDP (XU c (v,l,s))).1,(aDP (XU c (v,l,s))).2,()):=by
 rw[aox];dsimp only;rw[ar (by omega) (by omega) (by omega),ab,awN,UO,BA,ayT b d,ai];unfold XU;dsimp only;by_cases a:l=[]
 .rw[aL a,ae,af (fun h=>h.1 a)];rfl
 .rw[aQ a,aa];cases e:ZI c (v,l,s) with
  |true=>rw[ag ⟨a,rfl⟩];rfl|false=>rw[af (fun h=>by cases h.2)];rfl
def aER {c:Int×Int}{v:Int}{l:List UInt8}{s:List Int}(h:ZI c (v,l,s)=true):(v==0)=decide (l=[]):=by
 unfold ZI at h;simp only[aF,bW]at h;obtain⟨_,b,d,_⟩:=h;by_cases a:l=[]
 .subst a;rw[<-d];rfl
 .have:=aqa b a;rw[aQ a];exact bU.2 (by omega)
def ayV {v:Int}{l:List UInt8}{s:List Int}(d:l.length<=1073741824)(b:s.length<=1073741824)(c:Int×Int):FG F0 c (v,tx l,s)=some ((aDP (XU c (v,l,s))).1,(aDP (XU c (v,l,s))).2,()):=by
 rw[apw,ap9 (q:=(v,tx l,s)) b,ai];dsimp only;rw[at0 d b,ai];unfold XU;dsimp only;cases e:ZI c (v,l,s) with
 |false=>rw[af (fun h=>by cases h.2)];rfl
 |true =>
  rw[aN,aa,aER e];by_cases a:l=[]
  .rw[aL a,ae,af (fun h=>h.1 a)];rfl
  .rw[aQ a,aa,ag ⟨a,rfl⟩];rfl
def b2 (c:Int×Int)(view:Int):Int:=if bw c=true/\0<=view then view%c.1 else -1
def XV (c:Int×Int)(view s:Int):Int:=if bw c=true/\0<=view/\0<=s/\s<=c.1-1 then (view%c.1+s)%c.1 else -1
def bL (c:Int×Int)(view i:Int):Int:=if bw c=true/\0<=view/\0<=i/\i<=c.1-1 then (i+c.1-view%c.1)%c.1 else -1
def Rp (c:Int×Int)(view i:Int):Int:=if bL c view i<=0 then -1 else XV c view ((bL c view i-1)/c.2)
def ub {a b:Int}(h:0<=a):Int.tmod a b=a%b:=amZ h
def ne0 {n:Int}(h:4<=n):(!(n==0))=true:=by rw[bU.2 (show n≠0 by omega)];rfl
def amN {lo hi x:Int}:gE lo hi x=decide (lo<=x/\x<=hi):=by unfold gE;by_cases a:lo<=x<;>by_cases b:x<=hi<;>simp[a,b]
def awP {n:Int}(a:4<=n)(view:Int):0<=view%n/\view%n<n:=⟨Vn _ (by omega),am2 _ (by omega)⟩
def LV (c:Int×Int)(view:Int):me F0 c view=some (b2 c view,()):=by
 rw[avW,ir,ai];unfold b2;cases b:bw c with
 |false=>rfl
 |true =>
  have d:=b5 b;by_cases a:view<0
  .rw[aL a,af (fun h=>by omega)];rfl
  .rw[aQ a,aN,aa,aa,ne0 d.1,ab,ag ⟨rfl,by omega⟩,ub (by omega)]
def JI (c:Int×Int)(view:Int):sI F0 c view=some (b2 c view,()):=by
 rw[awm,fQ,ai];unfold b2;cases b:bw c with
 |false=>rfl
 |true =>
  have d:=b5 b;by_cases a:view<0
  .rw[aL a,af (fun h=>by omega)];rfl
  .rw[aQ a,aN,aa,aa,ne0 d.1,ab,ag ⟨rfl,by omega⟩,ub (by omega)]
def XW {n:Int}(a:4<=n)(b:n<=7):aj (n-1)=n-1:=aG (by omega) (by omega)
def aGL (c:Int×Int)(view s:Int):YB F0 c view s=some (XV c view s,()):=by
 rw[av0,ir,ai];unfold XV;cases f:bw c with
 |false=>rfl
 |true =>
  have d:=b5 f;have g:=awP d.1 view;by_cases e:view<0
  .rw[aL e,af (fun h=>by omega)];rfl
  .rw[aQ e,aN,aa,aa,cP,ai,XW d.1 d.2.1,amN];by_cases b:0<=s/\s<=c.1-1
   .rw[aL b,aN,aa,ne0 d.1,ab,ab,ag ⟨rfl,by omega,b.1,b.2⟩,ub (a:=view) (by omega),aG (by omega) (by omega),ub (by omega)]
   .rw[aQ b,af (fun h=>b ⟨h.2.2.1,h.2.2.2⟩)];rfl
def aES (c:Int×Int)(view s:Int):YJ F0 c view s=some (XV c view s,()):=by
 rw[awp,fQ,ai];unfold XV;cases f:bw c with
 |false=>rfl
 |true =>
  have d:=b5 f;have g:=awP d.1 view;by_cases e:view<0
  .rw[aL e,af (fun h=>by omega)];rfl
  .rw[aQ e,aN,aa,aa,bR,ai,XW d.1 d.2.1,amN];by_cases b:0<=s/\s<=c.1-1
   .rw[aL b,aN,aa,ne0 d.1,ab,ab,ag ⟨rfl,by omega,b.1,b.2⟩,ub (a:=view) (by omega),aG (by omega) (by omega),ub (by omega)]
   .rw[aQ b,af (fun h=>b ⟨h.2.2.1,h.2.2.2⟩)];rfl
def XX (c:Int×Int)(view i:Int):JD F0 c view i=some (bL c view i,()):=by
 rw[avZ,ir,ai];unfold bL;cases f:bw c with
 |false=>rfl
 |true =>
  have d:=b5 f;have g:=awP d.1 view;by_cases e:view<0
  .rw[aL e,af (fun h=>by omega)];rfl
  .rw[aQ e,aN,aa,aa,cP,ai,XW d.1 d.2.1,amN];by_cases b:0<=i/\i<=c.1-1
   .rw[aL b,aN,aa,ne0 d.1,ab,ab,ag ⟨rfl,by omega,b.1,b.2⟩,ub (a:=view) (by omega),aG (n:=i+c.1) (by omega) (by omega),aG (by omega) (by omega),ub (by omega)]
   .rw[aQ b,af (fun h=>b ⟨h.2.2.1,h.2.2.2⟩)];rfl
def JJ (c:Int×Int)(view i:Int):JE F0 c view i=some (bL c view i,()):=by
 rw[awo,fQ,ai];unfold bL;cases f:bw c with
 |false=>rfl
 |true =>
  have d:=b5 f;have g:=awP d.1 view;by_cases e:view<0
  .rw[aL e,af (fun h=>by omega)];rfl
  .rw[aQ e,aN,aa,aa,bR,ai,XW d.1 d.2.1,amN];by_cases b:0<=i/\i<=c.1-1
   .rw[aL b,aN,aa,ne0 d.1,ab,ab,ag ⟨rfl,by omega,b.1,b.2⟩,ub (a:=view) (by omega),aG (n:=i-view%c.1) (by omega) (by omega),aG (by omega) (by omega),ub (by omega),
     show i-view%c.1+c.1=i+c.1-view%c.1 by omega]
   .rw[aQ b,af (fun h=>b ⟨h.2.2.1,h.2.2.2⟩)];rfl
def YR (c:Int×Int)(view i:Int):-1<=bL c view i/\bL c view i<=6:=by
 unfold bL;split
 .rename_i h;have a:=b5 h.1;have b:=Vn (i+c.1-view%c.1) (show c.1≠0 by omega);have d:=am2 (i+c.1-view%c.1) (show 0<c.1 by omega);omega
 .omega
def aka {c:Int×Int}{view i:Int}(h:0<=bL c view i):bw c=true:=by
 unfold bL at h;split at h
 .rename_i a;exact a.1
 .omega
def aGM {a b:Int}(c:0<=a)(d:a<=6)(e:1<=b):0<=a/b/\a/b<=6:=⟨Int.ediv_nonneg c (by omega),Int.le_trans (Int.ediv_le_self b c) d⟩
def aGN (c:Int×Int)(view i:Int):YC F0 c view i=some (Rp c view i,()):=by
 rw[aBh,XX,ai];unfold Rp;have f:=YR c view i;by_cases d:bL c view i<=0
 .rw[aL (show(bL c view i,()).1<=0 from d),ae,ag d]
 .have e:=b5 (aka (c:=c) (view:=view) (i:=i) (by omega));have g:=aGM (a:=bL c view i-1) (b:=c.2) (by omega) (by omega) e.2.2.1;rw[aQ (show ¬(bL c view i,()).1<=0 from d),aa,af d,show(!(c.2==0))=true by rw[bU.2 (show c.2≠0 by omega)];rfl,ab];dsimp only;rw[aG (n:=bL c view i-1) (by omega) (by omega),am0 (show 0<=bL c view i-1 by omega),aG (by omega) (by omega),aGL,ai]
def aDQ (c:Int×Int)(view i:Int):YK F0 c view i=some (Rp c view i,()):=by
 rw[aBi,JJ,ai];unfold Rp;have f:=YR c view i;by_cases d:bL c view i<=0
 .rw[aL (show(bL c view i,()).1<1 by show bL c view i<1;omega),ae,ag d]
 .have e:=b5 (aka (c:=c) (view:=view) (i:=i) (by omega));have g:=aGM (a:=bL c view i-1) (b:=c.2) (by omega) (by omega) e.2.2.1;rw[aQ (show ¬(bL c view i,()).1<1 by show ¬bL c view i<1;omega),aa,af d,show(!(c.2==0))=true by rw[bU.2 (show c.2≠0 by omega)];rfl,ab];dsimp only;rw[aG (n:=bL c view i-1) (by omega) (by omega),am0 (show 0<=bL c view i-1 by omega),aG (by omega) (by omega),aES,ai]
def afD (a b:List Int):List Int:=b.foldl Ro (a.foldl Ro [])
def mT:∀(l a:List Int),(l.foldl Ro a).length<=a.length+l.length
 |[],a=>by simp
 |x::l,a=>by have b:=mT l (Ro a x);have c:=ap7 a x;rw[auZ,aW];omega
def aET (a b:List Int):(afD a b).length<=a.length+b.length:=by unfold afD;have d:=mT b (a.foldl Ro []);have c:=mT a [];rw[bm]at c;omega
def YS {γ:Type}(X:Nat->Int->List Int->Option γ)(l a:List Int)(R:Option γ)(f:a.length+l.length<=1048576)(c:∀n k xs (h:k<l.length),xs.length<=1048575->X (n+1) (k:Int) xs=X n ((k+1:Nat):Int) (Ro xs l[k]))
  (d:∀n,X (n+1) (l.length:Int) (l.foldl Ro a)=R) (n:Nat) (e:l.length<n):X n 0 a=R:=by
 refine cu X l.length (fun k xs=>xs=(l.take k).foldl Ro a) R (fun n k xs b h=>.inr ⟨Ro xs l[k],c n k xs b ?_,?_⟩) (fun n xs h=>?_) n 0 a (aR _) rfl (by omega)
 .have:=mT (l.take k) a;rw[h];rw[bB]at this;omega
 .rw[ee b,List.foldl_append,<-h];rfl
 .rw[kc]at h;rw[h];exact d n
def ayW {a b:List Int}(h:a.length+b.length<=1048576):Iy F0 a b=some (afD a b,()):=by
 rw[alp];have d:=mT a [];rw[bm]at d;refine YS (fun n i xs=>y0 F0 (Cu F0) n (rY a b i xs)) a [] _ (by rw[bm];omega) (fun n k xs c e=>?_) (fun n=>?_) _ (by rw[bz];omega)
 .rw[He,aM c,ae,an c,ab,aV c,acP (by omega),ai,al (by omega)]
 .rw[He,aB,aa,acd];refine YS (fun n i xs=>yZ F0 (Ct F0) n (rX b i xs)) b (a.foldl Ro []) _ (by omega) (fun n k xs c e=>?_) (fun n=>?_) _ (by rw[bz];omega)
  .rw[Hd,aM c,ae,an c,ab,aV c,acP (by omega),ai,al (by omega)]
  .rw[Hd,aB,aa,acb];rfl
def awQ {a b:List Int}(h:a.length+b.length<=1048576):I3 F0 a b=some (afD a b,()):=by
 rw[amf];have d:=mT a [];rw[bm]at d;refine YS (fun n i xs=>AT F0 (CR F0) n (sG b a (a.length:Int) i xs)) a [] _ (by rw[bm];omega) (fun n k xs c e=>?_) (fun n=>?_) _ (by rw[bz];omega)
 .rw[HD,aM c,ae,an c,ab,aV c,aj6 (by omega),ai,al (by omega)]
 .rw[HD,aB,aa,acz];refine YS (fun n i xs=>AS F0 (CQ F0) n (sF b (b.length:Int) i xs)) b (a.foldl Ro []) _ (by omega) (fun n k xs c e=>?_) (fun n=>?_) _ (by rw[bz];omega)
  .rw[HC,aM c,ae,an c,ab,aV c,aj6 (by omega),ai,al (by omega)]
  .rw[HC,aB,aa,acy];rfl
def lQ {i n:Int}(a:0<=i)(h:i<n):bG i n=true:=by simp[bG];omega
end Go.Am.Tryz
