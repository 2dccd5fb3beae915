/- No condition. -/
import Derived.Test.YtpkabclplaibaaaGreatDoorQjYJG8
import Derived.Lib.MinMaxS
import Derived.Lib.CutLaws
import Derived.Lib.PathFns
import Derived.Lib.SplitLaws
import Derived.Test.YtpkabclplaibaaaGreatDoorQjAmData
set_option linter.all false
namespace Go.Am.Tryz
open Go.Am
def Hx (n:Int):Prop:=-9223372036854775808<=n/\n<=9223372036854775807
def uL {n:Int}(h:Hx n):hK F0 n=some (tx (Lib.itoa n),()):=by
 rw[ahC];by_cases a:n=0
 .subst a;simp only[C3,ae]
  congr 2
  simp[tx,Lib.itoa,Lib.decDigits]
 .rw[show(n==0)=false from bX.2 a,aa];have r:(Lib.decDigits n.natAbs).length<=20:=by rw[Lib.decDigits_length];exact Lib.nDigits_le20 _ (by obtain⟨f,g⟩:=h;omega)
  refine avf (fun m (x:Int×List UInt8)=>r9 F0 (Ek F0) m (mW x.1 (decide (n<0)) (tx x.2))) _ (fun x=>Hx x.1/\awy x.1.natAbs++x.2=Lib.decDigits n.natAbs) (fun x=>x.1.natAbs) (fun m x p=>?_) _ (n,[]) ⟨h,?_⟩ ?_
  .obtain⟨x,l⟩:=x;obtain⟨⟨f,g⟩,b⟩:=p;simp only at f g b ⊢;have s:l.length<=20:=by have:=Au List.length b;rw[aW]at this;omega
   by_cases k:x=0
   .left;subst k;rw[HX];simp only[agF,aa,Zw];rw[show awy (Int.natAbs 0)=[] from rfl,vr]at b;subst b;by_cases c:n<0
    .rw[aS c,ae,fQ (by rw[bc];have:(ByteArray.mk #[45]).size=1:=rfl;omega),ad,show ByteArray.mk #[45]=tx [45] from rfl,gj];unfold Lib.itoa;rw[an c];rfl
    .rw[aT c,aa];unfold Lib.itoa;rw[ah c,show n.natAbs=n.toNat by omega]
   .right;have o:x.natAbs%10<10:=abt _ (by omega);have aDi:(Int.tdiv x 10).natAbs=x.natAbs/10:=by rw[Int.natAbs_tdiv];rfl
    have i:Hx (Int.tdiv x 10):=⟨by omega,by omega⟩;have q:=ayo (u:=x.natAbs) (by omega);have j:ak (Int.tdiv x 10)=Int.tdiv x 10:=aB i.1 i.2;refine⟨(Int.tdiv x 10,UInt8.ofNat (48+x.natAbs%10)::l),?_,⟨i,?_⟩,?_⟩
    .rw[HX,show(x != 0)=true from C4.2 k,ae];have key:tx [UInt8.ofNat (48+x.natAbs%10)]++tx l=tx (UInt8.ofNat (48+x.natAbs%10)::l):=by rw[gj];rfl
     have d:JH F0 (tx [UInt8.ofNat (48+x.natAbs%10)]).size (tx l).size=true:=fQ (by rw[bc,bc];simp only[bG,bd];omega);by_cases t:x<0
     .have e:Int.tmod x 10=-((x.natAbs%10:Nat):Int):=by obtain⟨u,rfl⟩:∃u:Nat,x=-(u:Int):=⟨x.natAbs,by omega⟩;rw[Int.neg_tmod,Int.natAbs_neg,Int.natAbs_natCast];rfl
      by_cases a:x.natAbs%10=0
      .rw[e,a,show decide (-((0:Nat):Int)<0)=false from rfl,aa,show(48+-((0:Nat):Int))=48+((0:Nat):Int) from rfl,dig (by omega)];rw[a]at d key;rw[d,ad,key,j]
      .rw[e,aS (by omega),ae,aB (n:=0 - -((x.natAbs%10:Nat):Int)) (by omega) (by omega),show(0:Int) - -((x.natAbs%10:Nat):Int)=((x.natAbs%10:Nat):Int) by omega,dig o,d,ad,key,j]
     .have e:Int.tmod x 10=((x.natAbs%10:Nat):Int):=by obtain⟨u,rfl⟩:∃u:Nat,x=(u:Int):=⟨x.natAbs,by omega⟩;rfl
      rw[e,aT (by omega),aa,dig o,d,ad,key,j]
    .simp only;rw[aDi,<-b,q];simp
    .simp only;rw[aDi];omega
  .simp only[gO];unfold awy;rw[ah (by omega)]
  .simp only;rw[bj];obtain⟨f,g⟩:=h;omega
def TK {n:Int}(h:Hx n):lU F0 n=some (tx (Lib.itoa n),()):=by rw[aiS];unfold strconv_Itoa;rw[aS h.1,aS h.2];rfl
def OU {n:Int}(h:Hx n):(Lib.itoa n).length<=21:=Lib.itoa_length_le n h.1 h.2
def TL (a b:List UInt8):((tx a).toList==(tx b).toList)=decide (a=b):=by
 rw[Lib.toList_data,Lib.toList_data,hx,hx];by_cases h:a=b
 .simp[h]
 .simp[h]
def UD (l:List UInt8)(k:Nat):kc (tx l) (k:Int)=((l.getD k 0).toNat:Int):=by unfold kc;rw[hx];rfl
def aoS (c:UInt8):c.toNat<256:=UInt8.toNat_lt c
def isD (c:UInt8):Bool:=decide (48<=c.toNat)&&decide (c.toNat<=57)
def val:List UInt8->Nat->Nat
 |[],n=>n|c::l,n=>val l (10*n+(c.toNat-48))
def eS (l:List UInt8):Int×Bool :=
 if l.length<1\/6<l.length then (0,false)
 else if l.all isD then (if Lib.itoa (val l 0:Int)=l then ((val l 0:Int),true) else (0,false)) else (0,false)
def ajm (a b:List UInt8)(n:Nat):val (a++b) n=val b (val a n):=by
 induction a generalizing n with
 |nil=>rfl|cons c l d=>exact d _
def aCb {l:List UInt8}(h:∀c∈l,isD c=true)(n:Nat):val l n<(n+1)*10 ^ l.length:=by
 induction l generalizing n with
 |nil=>simp[val]
 |cons c l a =>
  have b:=a (fun d e=>h d (rH _ e)) (10*n+(c.toNat-48));have f:=h c JL;simp only[isD,aD,bJ]at f;refine C1 b ?_;rw[bG,Nat.pow_succ];have g:10*n+(c.toNat-48)+1<=(n+1)*10:=by omega
  calc (10*n+(c.toNat-48)+1)*10 ^ l.length<=((n+1)*10)*10 ^ l.length:=y6 _ g
   _=(n+1)*(10 ^ l.length*10):=by rw[Nat.mul_assoc,Nat.mul_comm 10]
def ayv {l:List UInt8}{k:Nat}(h:k<l.length):val (l.take (k+1)) 0=10*val (l.take k) 0+((l.getD k 0).toNat-48):=by rw[JM,aL h 0,ajm];rfl
def acV {l:List UInt8}(a:l.length<=6)(h:∀c∈l,isD c=true):val l 0<=999999:=by have b:=aCb h 0;have d:10 ^ l.length<=10 ^ 6:=Nat.pow_le_pow_right (by omega) a;omega
def ajn (l:List UInt8):0<=(eS l).1/\(eS l).1<=999999:=by
 unfold eS;split
 .simp
 .split
  .rename_i d a;have:=acV (l:=l) (by omega) (fun c b=>fL.1 a c b);split
   .simp only;omega
   .simp
  .simp
def aqC {l:List UInt8}(t:1<=l.length)(o:l.length<=6){X:Nat->Int->Int->Option (Int×(Bool×Unit))}{D:Int->Option (ByteArray×Unit)}(p:∀n,Hx n->D n=some (tx (Lib.itoa n),()))
  (q:∀n k (m:Nat),k<l.length->m<=999999->X (n+1) m k=br (decide (((l.getD k 0).toNat:Int)<48)) (some (0,false,())) (br (decide (((l.getD k 0).toNat:Int)>57)) (some (0,false,())) (X n (ak (ak (10*m)+ak ((l.getD k 0).toNat-48))) ((k+1:Nat):Int))))
  (s:∀n (m:Nat),X (n+1) m l.length=(D m).bind fun r=>br (!(r.1.toList==(tx l).toList)) (some (0,false,())) (some ((m:Int),true,()))) (n:Nat) (u:6<n):X n 0 0=some ((eS l).1,(eS l).2,()):=by
 refine ca (fun n i (m:Nat)=>X n m i) l.length (fun k m=>m=val (l.take k) 0/\∀c∈l.take k,isD c=true) _ (fun n k m d f=>?_) (fun n m f=>?_) n 0 0 (aX _) ⟨rfl,by simp⟩ (by omega)
 .obtain⟨rfl,b⟩:=f;have g:=acV (l:=l.take k) (by rw[cp];omega) b;have j:=mT d (0:UInt8);have v:=aoS (l.getD k 0);rw[q n k _ d g];by_cases w:(l.getD k 0).toNat<48
  .left;rw[aS (by omega),ae];have:l.all isD=false:=by rw[al4];exact⟨_,j,fun h=>by simp only[isD,aD,bJ]at h;omega⟩
   unfold eS;rw[ah (by omega),this];rfl
  .by_cases x:(l.getD k 0).toNat>57
   .left;rw[aT (by omega),aa,aS (by omega),ae];have:l.all isD=false:=by rw[al4];exact⟨_,j,fun h=>by simp only[isD,aD,bJ]at h;omega⟩
    unfold eS;rw[ah (by omega),this];rfl
   .right;refine⟨val (l.take (k+1)) 0,?_,rfl,?_⟩
    .rw[aT (by omega),aa,aT (by omega),aa,ayv d,aB (n:=10*_) (by omega) (by omega),aB (n:=((l.getD k 0).toNat:Int)-48) (by omega) (by omega),aB (by omega) (by omega)]
     congr 1
     omega
    .intro c a;rw[JM,aL d 0]at a;rcases fM.1 a with a|a
     .exact b c a
     .simp only[agE,h7]at a;subst a;simp only[isD,aD,bJ];omega
 .obtain⟨rfl,b⟩:=f;rw[jr]at b ⊢;have g:=acV o b;rw[s,p _ ⟨by omega,by omega⟩,ao,TL];unfold eS;rw[ah (by omega),an (fL.2 b)];by_cases e:Lib.itoa (val l 0:Int)=l
  .rw[aS e,an e];rfl
  .rw[aT e,ah e];rfl
def Br (l:List UInt8):lR F0 (tx l)=some ((eS l).1,(eS l).2,()):=by
 rw[ahE,bc];by_cases b:l.length<1
 .rw[aS (by omega),ae];unfold eS;rw[an (.inl b)]
 .rw[aT (by omega),aa];by_cases c:6<l.length
  .rw[aS (by omega),ae];unfold eS;rw[an (.inr c)]
  .rw[aT (by omega),aa];refine aqC (X:=fun n m k=>BM F0 (sP F0) n (sO (tx l) m k)) (by omega) (by omega) (fun n d=>uL d) (fun n k m a e=>?_) (fun n m=>?_) _ (by rw[bj];omega)
   .have f:=aoS (l.getD k 0);rw[H2];simp only[bc,UD,abK,aK a,al a,ae,ad,ag (show k+1<=9223372036854775807 by omega)]
    congr 2
    congr 2
    rw[aB (n:=10*(m:Int)) (by omega) (by omega),aB (n:=((l.getD k 0).toNat:Int)) (by omega) (by omega),aB (n:=10*(m:Int)+((l.getD k 0).toNat:Int)) (by omega) (by omega),aB (n:=((l.getD k 0).toNat:Int)-48) (by omega) (by omega)]
    congr 1
    omega
   .rw[H2];simp only[bc,az,aa,Zy]
def DU (l:List UInt8):lV F0 (tx l)=some ((eS l).1,(eS l).2,()):=by
 rw[aiT,bc];by_cases b:l.length<1
 .rw[aS (by omega),ae];unfold eS;rw[an (.inl b)]
 .rw[aT (by omega),aa];by_cases c:6<l.length
  .rw[aS (by omega),ae];unfold eS;rw[an (.inr c)]
  .rw[aT (by omega),aa];refine aqC (X:=fun n m k=>Cs F0 (tU F0) n (tT (tx l) m k)) (by omega) (by omega) (fun n d=>TK d) (fun n k m a e=>?_) (fun n m=>?_) _ (by rw[bj];omega)
   .have f:=aoS (l.getD k 0);rw[IL];simp only[bc,UD,aco,aK a,al a,ae,ad,ag (show k+1<=9223372036854775807 by omega)];by_cases g:(l.getD k 0).toNat<48
    .rw[aS (by omega),ae,ae]
    .rw[IntWalk.u8_in _ (by omega)]
   .rw[IL];simp only[bc,az,aa,aae]
def ajo (l:List UInt8)(k:Nat):(tx l).extract 0 k=tx (l.take k):=by rw[adT ((tx l).extract 0 k),Lib.Pa.extract_upto_list,hx]
def extract_from (l:List UInt8)(k:Nat):(tx l).extract k (tx l).size=tx (l.drop k):=by rw[adT ((tx l).extract k (tx l).size),Lib.extract_to_end,hx]
def ajp {a b:List UInt8}{c:UInt8}(h:c ∉ a):(a++c::b).takeWhile (· != c)=a/\(a++c::b).dropWhile (· != c)=c::b:=by
 induction a with
 |nil=>simp
 |cons x a d =>
  have e:(x != c)=true:=by simp;rintro rfl;simp at h
  have:=d fun f=>h (rH _ f)
  rw[EX,List.takeWhile_cons,List.dropWhile_cons,e];exact⟨by simp[this.1],by simp[this.2]⟩
def aBQ {a:List UInt8}{c:UInt8}(h:c ∉ a):a.takeWhile (· != c)=a/\a.dropWhile (· != c)=[]:=by
 induction a with
 |nil=>simp
 |cons x a b =>
  have d:(x != c)=true:=by simp;rintro rfl;simp at h
  have:=b fun e=>h (rH _ e)
  rw[List.takeWhile_cons,List.dropWhile_cons,d];exact⟨by simp[this.1],by simp[this.2]⟩
def aqD {l:List UInt8}{k:Nat}(h:k<l.length):l=l.take k++l.getD k 0::l.drop (k+1):=by
 have:l.getD k 0=l[k]:=by simp[List.getD,h]
 rw[this,List.getElem_cons_drop,ank]
def amF {l:List UInt8}(c:UInt8)(s:l.length<=4294967296) :
  gy F0 (tx l) (c.toNat:Int)=some (if c∈l then (tx (l.takeWhile (· != c)),tx ((l.dropWhile (· != c)).drop 1),true,()) else (tx [],tx [],false,())):=by
 rw[akY];refine ca (fun n i (_:Unit)=>Ge F0 (vM F0) n (vL (tx l) (c.toNat:Int) i)) l.length (fun k _=>c ∉ l.take k) _ (fun n k _ d a=>?_) (fun n _ a=>?_) F0.n 0 () (aX _) (by simp) (by rw[bj];omega)
 .rw[JX,bc,aK d,ae,al d,ad,UD];by_cases e:l.getD k 0=c
  .left;have f:=aqD d;rw[e]at f;have j:=ajp (b:=l.drop (k+1)) a;have g:((((l.getD k 0).toNat:Int))==(c.toNat:Int))=true:=by rw[e];simp
   have m:Oy 0 (k:Int) (l.length:Int)=true:=by simp[Oy];omega
   have o:Oy ((k+1:Nat):Int) (l.length:Int) (l.length:Int)=true:=by simp only[Oy,aD,bJ];omega
   rw[g,ae,m,ad,ag (by omega),o,ad,aeM];simp only[oR,show(0:Int).toNat=0 from rfl];have p:c∈l:=by rw[f];simp
   rw[an p,ajo,show((tx l).extract (k+1) l.length)=tx (l.drop (k+1)) by rw[<-extract_from,bc]];have q:l.takeWhile (· != c)=l.take k:=by
    have:=j.1
    rwa [<-f]at this
   have r:(l.dropWhile (· != c)).drop 1=l.drop (k+1):=by have:=j.2;rw[<-f]at this;rw[this];rfl
   rw[q,r]
  .right;have g:((((l.getD k 0).toNat:Int))==(c.toNat:Int))=false:=by refine bX.2 fun h=>e (UInt8.toNat_inj.1 (by omega))
   refine⟨(),by rw[g,aa,ag (by omega)],?_⟩;rw[JM,aL d 0];simp only[agE,fM,h7];rintro(h|h)
   .exact a h
   .exact e h.symm
 .rw[jr]at a;rw[JX,bc,az,aa,abJ,ah a];rfl
def aaL {a b:List UInt8}{c:UInt8}(h:c ∉ a):Lib.indexByte (a++c::b) c=a.length:=by
 induction a with
 |nil=>simp[Lib.indexByte]
 |cons x a d =>
  have e:(x==c)=false:=by simp;rintro rfl;simp at h
  have:=d fun f=>h (rH _ f)
  rw[EX];unfold Lib.indexByte;rw[e,this];simp
def aaM {a:List UInt8}{c:UInt8}(h:c ∉ a):Lib.indexByte a c=-1:=by
 induction a with
 |nil=>rfl
 |cons x a b =>
  have d:(x==c)=false:=by simp;rintro rfl;simp at h
  have:=b fun e=>h (rH _ e)
  unfold Lib.indexByte;rw[d,this];rfl
def aaN {l:List UInt8}{c:UInt8}(h:c∈l):∃a b,l=a++c::b/\c ∉ a:=by
 induction l with
 |nil=>cases h
 |cons x l g =>
  by_cases d:x=c
  .exact⟨[],l,by rw[d];rfl,by simp⟩
  .rcases dK.1 h with e|e
   .exact absurd e.symm d
   .obtain⟨a,b,i,j⟩:=g e;exact⟨x::a,b,by rw[i];rfl,fun k=>by
     rcases dK.1 k with f|f
     .exact d f.symm
     .exact j f⟩
def aAw (l:List UInt8)(c:UInt8):Lib.cut l [c]=(l.takeWhile (· != c),(l.dropWhile (· != c)).drop 1,decide (c∈l)):=by
 unfold Lib.cut;rw[Lib.index_one];by_cases h:c∈l
 .obtain⟨a,b,rfl,d⟩:=aaN h;rw[aaL d,an (by omega),(ajp d).1,(ajp d).2];simp[List.take_append,List.drop_append]
 .rw[aaM h,ah (by omega),(aBQ h).1,(aBQ h).2];simp[h]
def uo {l:List UInt8}(c:UInt8)(a:l.length<4294967281):strings_Cut F0 (tx l) (tx [c])=some (tx (l.takeWhile (· != c)),tx ((l.dropWhile (· != c)).drop 1),decide (c∈l),()):=by
 have h:Nat.blt (tx l).size 4294967281=true:=by rw[bc];simpa using a
 unfold strings_Cut;rw[h,ad,hx,hx,aAw];rfl
abbrev ez:=Int×(Int×(Int×Int))
def aaO (x lo a:Int):bD F0 x lo a=some (decide (lo<=x)&&decide (x<=a),()):=by
 rw[aok];by_cases h:lo<=x
 .rw[aS (show x>=lo from h),ae,kO]
 .rw[aT (show ¬x>=lo from h),aa,YW]
def OV (x lo a:Int):bz F0 x lo a=some (decide (lo<=x)&&decide (x<=a),()):=by
 rw[aiU];by_cases h:lo<=x
 .rw[aS (show x>=lo from h),ae,kO]
 .rw[aT (show ¬x>=lo from h),aa,YW]
def inB (x lo a:Int):Bool:=decide (lo<=x)&&decide (x<=a)
def gf (x:ez):Bool:=inB x.1 0 3&&inB x.2.1 0 3&&inB x.2.2.1 0 1000&&inB x.2.2.2 0 99
def ate (a b:Bool):br a (some (b,())) (some (false,()))=some (a&&b,()):=by cases a<;>rfl
def N3 (x:ez):pT F0 x=some (gf x,()):=by rw[aol];simp only[aaO,ao,ate];simp only[gf,inB,Bool.and_assoc]
def N4 (x:ez):vd F0 x=some (gf x,()):=by rw[aoC];simp only[OV,ao,ate];simp only[gf,inB,Bool.and_assoc]
def rz {x:ez}(h:gf x=true):(0<=x.1/\x.1<=3)/\(0<=x.2.1/\x.2.1<=3)/\(0<=x.2.2.1/\x.2.2.1<=1000)/\(0<=x.2.2.2/\x.2.2.2<=99):=by simp only[gf,inB,aD,bJ]at h;exact⟨h.1.1.1,h.1.1.2,h.1.2,h.2⟩
def txL (x:ez):List UInt8:=Lib.itoa x.1++62::(Lib.itoa x.2.1++58::(Lib.itoa x.2.2.1++35::Lib.itoa x.2.2.2))
def ajr {x:ez}(h:gf x=true):(txL x).length<=90:=by obtain⟨a,b,c,d⟩:=rz h;have e:=OU (n:=x.1) ⟨by omega,by omega⟩;have f:=OU (n:=x.2.1) ⟨by omega,by omega⟩;have g:=OU (n:=x.2.2.1) ⟨by omega,by omega⟩;have i:=OU (n:=x.2.2.2) ⟨by omega,by omega⟩;simp only[txL,aW,bG];omega
def Yn (x:ez):List UInt8:=if gf x=true then txL x else []
def ajs (x:ez):uW F0 x=some (tx (Yn x),()):=by
 rw[ahD,N3,ao];unfold Yn;cases h:gf x with
 |false=>rfl
 |true =>
  obtain⟨f,g,i,j⟩:=rz h;have a:=uL (n:=x.1) ⟨by omega,by omega⟩;have b:=uL (n:=x.2.1) ⟨by omega,by omega⟩;have c:=uL (n:=x.2.2.1) ⟨by omega,by omega⟩;have d:=uL (n:=x.2.2.2) ⟨by omega,by omega⟩;have e:=ajr h;simp only[txL,aW,bG]at e;simp only[aZ,aa,a,b,c,d,ao,show ByteArray.mk #[62]=tx [62] from rfl,show ByteArray.mk #[58]=tx [58] from rfl,show ByteArray.mk #[35]=tx [35] from rfl,gj,bc];rw[fQ (by simp only[aW,bG,bd];omega),ad,fQ (by simp only[aW,bG,bd];omega),ad,fQ (by simp only[aW,bG,bd];omega),ad,fQ (by simp only[aW,bG,bd];omega),ad,fQ (by simp only[aW,bG,bd];omega),ad,fQ (by simp only[aW,bG,bd];omega),ad];simp[txL]
def aqE (x:ez):KW F0 x=some (tx (Yn x),()):=by
 rw[aiV,N4,ao];unfold Yn;cases h:gf x with
 |false=>rfl
 |true =>
  obtain⟨f,g,i,j⟩:=rz h;have a:=TK (n:=x.1) ⟨by omega,by omega⟩;have b:=TK (n:=x.2.1) ⟨by omega,by omega⟩;have c:=TK (n:=x.2.2.1) ⟨by omega,by omega⟩;have d:=TK (n:=x.2.2.2) ⟨by omega,by omega⟩;have e:=ajr h;simp only[txL,aW,bG]at e;simp only[aZ,aa,a,b,c,d,ao,show ByteArray.mk #[62]=tx [62] from rfl,show ByteArray.mk #[58]=tx [58] from rfl,show ByteArray.mk #[35]=tx [35] from rfl,gj,bc];rw[fQ (by simp only[aW,bG,bd];omega),ad,fQ (by simp only[aW,bG,bd];omega),ad,fQ (by simp only[aW,bG,bd];omega),ad,fQ (by simp only[aW,bG,bd];omega),ad,fQ (by simp only[aW,bG,bd];omega),ad,fQ (by simp only[aW,bG,bd];omega),ad];simp[txL]
def avD (u:Nat):∀c∈Lib.decDigits u,isD c=true:=by
 induction u using Nat.strongRecOn with
 |ind u d =>
  intro c a;rw[Lib.decDigits]at a;have key:∀v:Nat,v<10->isD (UInt8.ofNat (48+v))=true:=fun v e=>by
   have:(UInt8.ofNat (48+v)).toNat=48+v:=by rw[UInt8.toNat_ofNat'];omega
   simp only[isD,this,aD,bJ];omega
  by_cases b:u<10
  .rw[dif_pos b,h7]at a;rw[a];exact key u b
  .rw[dif_neg b]at a;rcases fM.1 a with a|a
   .exact d (u/10) (by omega) c a
   .rw[h7]at a;rw[a];exact key _ (abt _ (by omega))
def aAx (u:Nat):val (Lib.decDigits u) 0=u:=by
 induction u using Nat.strongRecOn with
 |ind u b =>
  have key:∀v:Nat,v<10->(UInt8.ofNat (48+v)).toNat=48+v:=fun v c=>by rw[UInt8.toNat_ofNat'];omega
  rw[Lib.decDigits];by_cases a:u<10
  .rw[dif_pos a];simp only[val,key u a];omega
  .rw[dif_neg a,ajm,b (u/10) (by omega)];simp only[val,key (u%10) (abt _ (by omega))];omega
def aAy {k:Nat}:∀{u:Nat},u<10 ^ (k+1)->1<=(Lib.decDigits u).length/\(Lib.decDigits u).length<=k+1:=by
 induction k with
 |zero =>
  intro u a;rw[Lib.decDigits,dif_pos (by omega)];simp
 |succ k c =>
  intro u a;rw[Lib.decDigits];by_cases b:u<10
  .rw[dif_pos b];simp
  .rw[dif_neg b];have:=c (u:=u/10) (by rw[Nat.pow_succ]at a;omega);rw[aW,ej];omega
def ajt (u:Nat):Lib.itoa (u:Int)=Lib.decDigits u:=Lib.itoa_nonneg u
def vj {n:Int}(a:0<=n)(b:n<=999999):eS (Lib.itoa n)=(n,true):=by obtain⟨u,rfl⟩:∃u:Nat,n=u:=⟨n.toNat,by omega⟩;rw[ajt];have c:=aAy (k:=5) (u:=u) (by omega);unfold eS;rw[ah (by omega),an (fL.2 (avD u)),aAx,ajt,an rfl]
def acX {n:Int}(b:0<=n){c:UInt8}(a:isD c=false):c ∉ Lib.itoa n:=by obtain⟨u,rfl⟩:∃u:Nat,n=u:=⟨n.toNat,by omega⟩;rw[ajt];intro h;rw[avD u c h]at a;cases a
def yU (l:List UInt8)(c:UInt8):List UInt8×List UInt8:=if c∈l then (l.takeWhile (· != c),(l.dropWhile (· != c)).drop 1) else ([],[])
def dX (l:List UInt8)(c:UInt8):List UInt8×List UInt8:=(l.takeWhile (· != c),(l.dropWhile (· != c)).drop 1)
def acY (l:List UInt8):ez:=((eS (yU l 62).1).1,(eS (yU (yU l 62).2 58).1).1,(eS (yU (yU (yU l 62).2 58).2 35).1).1,(eS (yU (yU (yU l 62).2 58).2 35).2).1)
def atf (l:List UInt8):ez:=((eS (dX l 62).1).1,(eS (dX (dX l 62).2 58).1).1,(eS (dX (dX (dX l 62).2 58).2 35).1).1,(eS (dX (dX (dX l 62).2 58).2 35).2).1)
def aoT {a b:List UInt8}{c:UInt8}(h:c ∉ a):yU (a++c::b) c=(a,b):=by unfold yU;rw[an (by simp),(ajp h).1,(ajp h).2];rfl
def aoU {a b:List UInt8}{c:UInt8}(h:c ∉ a):dX (a++c::b) c=(a,b):=by unfold dX;rw[(ajp h).1,(ajp h).2];rfl
def ayw {x:ez}(h:gf x=true):acY (txL x)=x:=by obtain⟨a,b,c,d⟩:=rz h;unfold acY txL;rw[aoT (acX a.1 (by decide)),aoT (acX b.1 (by decide)),aoT (acX c.1 (by decide))];simp only[vj a.1 (by omega),vj b.1 (by omega),vj c.1 (by omega),vj d.1 (by omega)]
def aqF {x:ez}(h:gf x=true):atf (txL x)=x:=by obtain⟨a,b,c,d⟩:=rz h;unfold atf txL;rw[aoU (acX a.1 (by decide)),aoU (acX b.1 (by decide)),aoU (acX c.1 (by decide))];simp only[vj a.1 (by omega),vj b.1 (by omega),vj c.1 (by omega),vj d.1 (by omega)]
def Vy (l:List UInt8):ez×Bool:=if gf (acY l)=true/\txL (acY l)=l then (acY l,true) else ((0,0,0,0),false)
def aqG (l:List UInt8)(c:UInt8):((l.dropWhile (· != c)).drop 1).length<=l.length:=by rw[b7];have:=(List.dropWhile_sublist (l:=l) (· != c)).length_le;omega
def aoV (l:List UInt8)(c:UInt8):(yU l c).2.length<=l.length:=by
 unfold yU;split
 .exact aqG l c
 .simp
def agm (l:List UInt8)(c:UInt8):(dX l c).2.length<=l.length:=aqG l c
def aju {l:List UInt8}(c:UInt8)(a:l.length<=4294967296):∃b,gy F0 (tx l) (c.toNat:Int)=some (tx (yU l c).1,tx (yU l c).2,b,()):=by
 rw[amF c a];unfold yU;split
 .exact⟨_,rfl⟩
 .exact⟨_,rfl⟩
def ayx {l:List UInt8}(g:l.length<=4294967280):Ut F0 (tx l)=some ((Vy l).1,(Vy l).2,()):=by
 obtain⟨i,c⟩:=aju (l:=l) 62 (by omega);obtain⟨j,d⟩:=aju (l:=(yU l 62).2) 58 (by have:=aoV l 62;omega);obtain⟨k,e⟩:=aju (l:=(yU (yU l 62).2 58).2) 35 (by have:=aoV l 62;have:=aoV (yU l 62).2 58;omega);rw[aom];rw[show gy F0 (tx l) 62=_ from c,ao,show gy F0 _ 58=_ from d,ao,show gy F0 _ 35=_ from e,ao,Br,ao,Br,ao,Br,ao,Br,ao,show ai=tx [] from rfl,TL];have f:((eS (yU l 62).1).1,(eS (yU (yU l 62).2 58).1).1,(eS (yU (yU (yU l 62).2 58).2 35).1).1,(eS (yU (yU (yU l 62).2 58).2 35).2).1)=acY l:=rfl;simp only[f,ajs,ao,TL];unfold Vy Yn;by_cases cX:gf (acY l)=true
 .rw[an cX];by_cases a:txL (acY l)=l
  .have b:¬l=[]:=by rw[<-a];simp[txL]
   rw[an ⟨cX,a⟩,aT b,aa,aS a];rfl
  .rw[ah (fun h=>a h.2),aT a];cases decide (l=[])<;>rfl
 .rw[ah cX,ah (fun h=>cX h.1)];by_cases b:l=[]
  .rw[aS b];rfl
  .rw[aT b,aa,aT (fun h=>b h.symm)];rfl
def awC {l:List UInt8}(h:l.length<4294967281):Uy F0 (tx l)=some ((Vy l).1,(Vy l).2,()):=by
 have i:=uo (l:=l) 62 h;have t:=agm l 62;have u:=agm (dX l 62).2 58;have j:=uo (l:=(dX l 62).2) 58 (by omega);have k:=uo (l:=(dX (dX l 62).2 58).2) 35 (by omega);rw[aoD];rw[show ByteArray.mk #[62]=tx [62] from rfl,i,ao,show ByteArray.mk #[58]=tx [58] from rfl];rw[show strings_Cut F0 (tx ((l.dropWhile (· != 62)).drop 1)) (tx [58])=_ from j,ao,show ByteArray.mk #[35]=tx [35] from rfl];rw[show strings_Cut F0 (tx (((dX l 62).2.dropWhile (· != 58)).drop 1)) (tx [35])=_ from k,ao];have m:=fun (a b c d:ByteArray)=>(show aJ [a,b,c,d] 0 ByteArray.empty=a from rfl)
 have n:=fun (a b c d:ByteArray)=>(show aJ [a,b,c,d] 1 ByteArray.empty=b from rfl)
 have o:=fun (a b c d:ByteArray)=>(show aJ [a,b,c,d] 2 ByteArray.empty=c from rfl)
 have p:=fun (a b c d:ByteArray)=>(show aJ [a,b,c,d] 3 ByteArray.empty=d from rfl)
 rw[show bh 0 4=true from rfl,ad,m,DU,ao,show bh 1 4=true from rfl,ad,n,DU,ao,show bh 2 4=true from rfl,ad,o,DU,ao,show bh 3 4=true from rfl,ad,p,DU,ao];have q:((eS (l.takeWhile (· != 62))).1,(eS ((dX l 62).2.takeWhile (· != 58))).1,(eS ((dX (dX l 62).2 58).2.takeWhile (· != 35))).1,(eS (((dX (dX l 62).2 58).2.dropWhile (· != 35)).drop 1)).1)=atf l:=rfl;simp only[q,N4,aqE,ao,TL];unfold Vy Yn;by_cases cX:gf (atf l)=true
 .rw[an cX,cX];by_cases e:txL (atf l)=l
  .have r:acY l=atf l:=by have:=ayw cX;rw[e]at this;exact this
   rw[r,an ⟨cX,e⟩,aS e];rfl
  .have:¬(gf (acY l)=true/\txL (acY l)=l):=by rintro⟨f,g⟩;have:=aqF f;rw[g]at this;rw[this]at e;exact e g
   rw[ah this,aT e];rfl
 .have:¬(gf (acY l)=true/\txL (acY l)=l):=by rintro⟨f,g⟩;have:=aqF f;rw[g]at this;rw[this]at cX;exact cX f
  rw[ah this];have s:gf (atf l)=false:=by simpa using cX
  rw[s];rfl
def ayy (l:List UInt8):gf (Vy l).1=true:=by
 unfold Vy;split
 .rename_i a;exact a.1
 .rfl
def parts (c:UInt8):List UInt8->List (List UInt8)
 |[]=>[[]]|x::l=>if x=c then []::parts c l else match parts c l with
  |p::a=>(x::p)::a|[]=>[[x]]
def DV (c:UInt8)(l:List UInt8):parts c l≠[]:=by
 cases l with
 |nil=>simp[parts]
 |cons x l =>
  unfold parts;split
  .simp
  .split<;>simp
def ajv {c:UInt8}{a:List UInt8}(h:c ∉ a):parts c a=[a]:=by
 induction a with
 |nil=>rfl
 |cons x a b =>
  have d:¬x=c:=by rintro rfl;simp at h
  unfold parts;rw[ah d,b fun e=>h (rH _ e)]
def aqH {c:UInt8}{a b:List UInt8}(h:c ∉ a):parts c (a++c::b)=a::parts c b:=by
 induction a with
 |nil =>
  rw[vr]
  conv=>lhs;unfold parts
  rw[an rfl]
 |cons x a d =>
  have e:¬x=c:=by rintro rfl;simp at h
  rw[EX]
  conv=>lhs;unfold parts
  rw[ah e,d fun f=>h (rH _ f)]
def Hy (c:UInt8)(l:List UInt8):(parts c l).length<=l.length+1:=by
 induction l with
 |nil=>simp[parts]
 |cons x l a =>
  unfold parts;split
  .simp only[bG];omega
  .split
   .rename_i p b h;rw[h]at a;simp only[bG]at a ⊢;omega
   .simp
def Bs {c:UInt8}:∀{l p:List UInt8},p∈parts c l->p.length<=l.length
 |[],p,h=>by simp only[parts,h7]at h;rw[h];simp
 |x::l,p,h=>by
  unfold parts at h;split at h
  .rcases dK.1 h with rfl|h
   .simp
   .have:=Bs h;simp only[bG];omega
  .split at h
   .rename_i q b a;rcases dK.1 h with rfl|h
    .have:=Bs (c:=c) (l:=l) (p:=q) (by rw[a];simp);simp only[bG];omega
    .have:=Bs (c:=c) (l:=l) (p:=p) (by rw[a];simp[h]);simp only[bG];omega
   .rw[h7]at h;rw[h];simp
def LL (l:List UInt8)(a b:Nat):(tx l).extract a b=tx ((l.drop a).take (b-a)):=by rw[adT ((tx l).extract a b),Lib.extract_data,hx]
def amG {l:List UInt8}(c:UInt8)(w:l.length<=4294967296):uw F0 (tx l) (c.toNat:Int)=some ((parts c l).map tx,()):=by
 have x:=Hy c l;rw[akX];refine ca (fun n i (z:Nat×List ByteArray)=>pW F0 (HY F0) n (kV (tx l) (c.toNat:Int) (z.1:Int) i z.2)) (l.length+1)
  (fun k z=>if k<=l.length then ∃done:List (List UInt8),z.2=done.map tx/\parts c l=done++parts c (l.drop z.1)/\z.1<=k/\c ∉ (l.drop z.1).take (k-z.1) else z.2=(parts c l).map tx) _ (fun n k z y d=>.inr ?_) (fun n z d=>?_) F0.n 0 (0,[]) (aX _) ?_ (by rw[bj];omega)
 .obtain⟨a,xs⟩:=z;rw[an (by omega)]at d;obtain⟨done,rfl,e,p,f⟩:=d;simp only at e p f;have A:done.length+1<=l.length+1:=by have g:=Au List.length e;have B:0<(parts c (l.drop a)).length:=List.length_pos_iff.2 (DV c _);rw[aW]at g;omega
  have q:decide ((k:Int)<=(l.length:Int))=true:=aS (by omega);rw[JW,bc,q,ae];have r:Oy (a:Int) (k:Int) (l.length:Int)=true:=by simp only[Oy,aD,bJ];omega
  have s:∀b:ByteArray,fA F0 (done.map tx).length [b].length 16=true:=fun b=>aE (by omega) (by omega) (by rw[n1];simp only[bG,bd];omega)
  simp only[oR,LL,r,s,ad,ag (show k+1<=9223372036854775807 by omega)];by_cases t:k=l.length
  .subst t;rw[C3,ae];refine⟨(l.length+1,(parts c l).map tx),?_,by rw[ah (by omega)]⟩;have u:(l.drop a).take (l.length-a)=l.drop a:=apN (by rw[b7];omega);rw[u]at f ⊢;rw[e,ajv f];simp
  .have hlt:k<l.length:=by omega
   have v:(((k:Nat):Int)==(l.length:Int))=false:=bX.2 (by omega);rw[v,aa,al hlt,ad,UD];have m:l.drop a=(l.drop a).take (k-a)++l.getD k 0::l.drop (k+1):=by
    have:=aqD (l:=l.drop a) (k:=k-a) (by rw[b7];omega);have o:(l.drop a).getD (k-a) 0=l.getD k 0:=by simp only[VA,ady];rw[show a+(k-a)=k by omega]
    rw[o,List.drop_drop,show a+(k-a+1)=k+1 by omega]at this;exact this
   by_cases j:l.getD k 0=c
   .have g:((((l.getD k 0).toNat:Int))==(c.toNat:Int))=true:=by rw[j];simp
    rw[g,ae];refine⟨(k+1,done.map tx++[tx ((l.drop a).take (k-a))]),rfl,?_⟩;rw[an (by omega)];refine⟨done++[(l.drop a).take (k-a)],by simp,?_,bu _,by simp⟩;rw[j]at m;rw[e,m,aqH f,<-m];simp
   .have g:((((l.getD k 0).toNat:Int))==(c.toNat:Int))=false:=bX.2 fun h=>j (UInt8.toNat_inj.1 (by omega))
    rw[g,aa];refine⟨(a,done.map tx),rfl,?_⟩;rw[an (by omega)];refine⟨done,rfl,e,by show a<=k+1;omega,?_⟩;have o:(l.drop a).take (k+1-a)=(l.drop a).take (k-a)++[l.getD k 0]:=by
     rw[show k+1-a=(k-a)+1 by omega,JM]
     congr 1
     have:(l.drop a)[k-a]?=some (l.getD k 0):=by rw[ady,show a+(k-a)=k by omega];exact aL hlt 0
     rw[this];rfl
    show c ∉ (l.drop a).take (k+1-a);rw[o,fM,h7];rintro(h|h)
    .exact f h
    .exact j h.symm
 .rw[ah (by omega)]at d;rw[JW,bc,aT (by omega),aa,abI,d]
 .rw[an (by omega)];exact⟨[],rfl,rfl,bu _,by simp⟩
def aoW (c:UInt8):∀(n:Nat) (l:List UInt8),l.length<=n->∀k,k=Lib.countB (tx l) (tx [c])->Lib.splitB (tx [c]) 0 k (tx l)=(parts c l).map tx:=by
 intro n
 induction n with
 |zero =>
  intro l f k m;obtain rfl:l=[]:=Vz (by omega);have d:Lib.indexB (tx []) (tx [c])=-1:=by show Lib.index (tx []).data.toList (tx [c]).data.toList=-1;rw[hx,hx,Lib.index_one];rfl
  rw[Lib.splitB_miss _ _ _ _ d];rfl
 |succ n o =>
  intro l f k m;by_cases h:c∈l
  .obtain⟨a,b,rfl,g⟩:=aaN h;have d:Lib.indexB (tx (a++c::b)) (tx [c])=(a.length:Int):=by show Lib.index (tx (a++c::b)).data.toList (tx [c]).data.toList=_;rw[hx,hx,Lib.index_one,aaL g]
   have i:(tx [c]).size=1:=bc [c];have j:(tx (a++c::b)).extract (a.length+(tx [c]).size) (tx (a++c::b)).size=tx b:=by
    rw[extract_from,i]
    congr 1
    simp[List.drop_append]
   have p:=Lib.countB_hit (tx (a++c::b)) (tx [c]) a.length (by rw[i];omega) d;rw[j]at p;obtain⟨e,rfl⟩:∃e,k=e+1:=⟨Lib.countB (tx b) (tx [c]),by omega⟩;rw[Lib.splitB_hit _ _ _ _ _ d,j,o b (by simp only[aW,bG]at f;omega) e (by omega),aqH g,VD,ajo];simp[List.take_append]
  .have d:Lib.indexB (tx l) (tx [c])=-1:=by show Lib.index (tx l).data.toList (tx [c]).data.toList=-1;rw[hx,hx,Lib.index_one,aaM h]
   rw[Lib.splitB_miss _ _ _ _ d,ajv h];rfl
def ajw {l:List UInt8}(c:UInt8)(a:l.length<4294967281):uD F0 (tx l) (c.toNat:Int)=some ((parts c l).map tx,()):=by
 have b:strOf [(c.toNat:Int)]=tx [c]:=by
  simp only[strOf,tx,rI,List.map_nil]
  congr 2
  simp
 have h:Nat.blt (tx l).size 4294967281=true:=by rw[bc];simpa using a
 have d:Nat.ble 1 (tx [c]).size=true:=by rw[bc];rfl
 rw[alj,b];unfold strings_Split;rw[h,d,Bool.and_self,ad,ao,aoW c l.length l (bu _) _ rfl]
def yV {σ V:Type}(f:σ->List UInt8->Option (σ×V)):σ->List (List UInt8)->Option (List V)
 |_,[]=>some []|s,p::a=>match f s p with
  |none=>none|some (c,b)=>match yV f c a with
   |none=>none|some r=>some (b::r)
def N5 {σ V γ:Type}(f:σ->List UInt8->Option (σ×V))(I:σ->Prop)(P:List (List UInt8))(X:Nat->σ->Int->List V->Option γ)(c:Option γ)(d:List V->Option γ)
  (g:∀n k s xs p,k<P.length->P[k]?=some p->I s->xs.length=k->X (n+1) s (k:Int) xs=match f s p with|none=>c|some (a,b)=>X n a ((k+1:Nat):Int) (xs++[b]))
  (i:∀n s xs,xs.length=P.length->X (n+1) s (P.length:Int) xs=d xs) (j:∀s p a b,I s->f s p=some (a,b)->I a) :
  ∀(n k:Nat) (s:σ) (xs:List V),k<=P.length->P.length-k<n->I s->xs.length=k->X n s (k:Int) xs=match yV f s (P.drop k) with|none=>c|some l=>d (xs++l)
 |0,_,_,_,_,h,_,_=>absurd h (YU _)|n+1,k,s,xs,u,v,m,e=>by
  rcases VE k P.length with hlt|w
  .have o:P[k]?=some P[k]:=mO hlt;rw[g n k s xs P[k] hlt o m e,adx hlt];simp only[yV];cases t:f s P[k]with
   |none=>rfl
   |some q =>
    obtain⟨a,b⟩:=q;simp only;rw[N5 f I P X c d g i j n (k+1) a (xs++[b]) hlt (by omega) (j _ _ _ _ m t) (by simp[e])];cases yV f a (P.drop (k+1)) with
    |none=>rfl|some r=>simp
  .obtain rfl:k=P.length:=by omega
   rw[i n s xs e,abo];simp[yV]
def N6 {σ V:Type}{f:σ->List UInt8->Option (σ×V)}:∀{P:List (List UInt8)} {s:σ} {r:List V},yV f s P=some r->r.length=P.length
 |[],_,r,h=>by cases h;rfl
 |p::b,s,r,h=>by
  simp only[yV]at h;split at h
  .cases h
  .split at h
   .cases h
   .rename_i a;cases h;simp[N6 a]
def ajx {σ V:Type}{f:σ->List UInt8->Option (σ×V)}{Q:V->Prop}(a:∀s p c b,f s p=some (c,b)->Q b):∀{P:List (List UInt8)} {s:σ} {r:List V},yV f s P=some r->∀b∈r,Q b
 |[],_,r,h=>by cases h;simp
 |p::g,s,r,h=>by
  simp only[yV]at h;split at h
  .cases h
  .rename_i d;split at h
   .cases h
   .rename_i e;cases h;intro b hb;rcases dK.1 hb with rfl|hb
    .exact a _ _ _ _ d
    .exact ajx a e b hb
def txF (_:Unit)(p:List UInt8):Option (Unit×ez):=if (Vy p).2=true then some ((),(Vy p).1) else none
def kq (l:List UInt8):List ez×Bool:=if l=[] then ([],true) else match yV txF () (parts 44 l) with|none=>([],false)|some r=>(r,true)
def amH (l:List UInt8):(kq l).1.length<=l.length+1:=by
 unfold kq;split
 .simp
 .split
  .simp
  .rename_i r a;have:=N6 a;have:=Hy 44 l;simp only;omega
def ayA (l:List UInt8):∀x∈(kq l).1,gf x=true:=by
 unfold kq;split
 .simp
 .split
  .simp
  .rename_i r a;refine ajx (Q:=fun x=>gf x=true) (fun s p c b h=>?_) a;unfold txF at h;split at h
   .cases h;exact ayy p
   .cases h
def acZ (l:List UInt8):((tx l).toList==ai.toList)=decide (l=[]):=TL l []
def aoX (P:List (List UInt8))(k:Nat){p:List UInt8}(h:P[k]?=some p):aJ (P.map tx) (k:Int) ByteArray.empty=tx p:=by show(P.map tx).getD k ByteArray.empty=_;simp[VA,h]
def amI {l:List UInt8}(f:l.length<=1073741824):AI F0 (tx l)=some ((kq l).1,(kq l).2,()):=by
 have g:=Hy 44 l;rw[akZ,acZ];unfold kq;by_cases a:l=[]
 .rw[aS a,an a];rfl
 .rw[aT a,aa,ah a,show uw F0 (tx l) 44=_ from amG 44 (by omega),ao];have:=N5 txF (fun _=>True) (parts 44 l) (fun n _ i xs=>Gi F0 (vO F0) n (vN i xs ((parts 44 l).map tx))) (some ([],false,())) (fun xs=>some (xs,true,())) (fun n k s xs p c d _ e=>?_) (fun n s xs e=>?_) (fun _ _ _ _ _ _=>trivial) F0.n 0 () [] (aX _) (by rw[bj];omega) trivial rfl
  .simp only[YV,vr]at this;rw[show((0:Nat):Int)=0 from rfl]at this;rw[this];cases yV txF () (parts 44 l)<;>rfl
  .have h:=Bs (ano d);rw[JY,n1,aK c,ae,al c,ad,aoX _ _ d,ayx (by omega),ao];unfold txF;cases cX:(Vy p).2 with
   |false=>simp only[gQ,ae,aeN];rfl
   |true =>
    simp only[aZ,aa];rw[aE (b:=[(Vy p).1].length) (k:=32) (by omega) (by omega) (by simp only[bG,bd];omega),ad,ag (by omega)];rfl
  .rw[JY,n1,az,aa,abL]
def atg {l:List UInt8}(f:l.length<=1073741824):IM F0 (tx l)=some ((kq l).1,(kq l).2,()):=by
 have g:=Hy 44 l;rw[alk,acZ];unfold kq;by_cases a:l=[]
 .rw[aS a,an a];rfl
 .rw[aT a,aa,ah a,show uD F0 (tx l) 44=_ from ajw 44 (by omega),ao];have:=N5 txF (fun _=>True) (parts 44 l) (fun n _ i xs=>GX F0 (ye F0) n (yd ((parts 44 l).map tx) (((parts 44 l).map tx).length:Int) i xs)) (some ([],false,())) (fun xs=>some (xs,true,())) (fun n k s xs p c d _ e=>?_) (fun n s xs e=>?_) (fun _ _ _ _ _ _=>trivial) F0.n 0 () [] (aX _) (by rw[bj];omega) trivial rfl
  .simp only[YV,vr]at this;rw[show((0:Nat):Int)=0 from rfl]at this;rw[this];cases yV txF () (parts 44 l)<;>rfl
  .have h:=Bs (ano d);rw[KX,n1,aK c,ae,al c,ad,aoX _ _ d,awC (by omega),ao];unfold txF;cases cX:(Vy p).2 with
   |false=>simp only[gQ,ae,afN];rfl
   |true =>
    simp only[aZ,aa];rw[aE (b:=[(Vy p).1].length) (k:=32) (by omega) (by omega) (by simp only[bG,bd];omega),ad,ag (by omega)];rfl
  .rw[KX,n1,az,aa,acp]
abbrev W3:=Int×List ez
def DW (a:Int)(p:List UInt8):Option (Int×W3) :=
 if 124∈p/\(eS (dX p 124).1).2=true/\(kq (dX p 124).2).2=true/\a<(eS (dX p 124).1).1/\(eS (dX p 124).1).1<=60/\(kq (dX p 124).2).1.length<=2
 then some ((eS (dX p 124).1).1,(eS (dX p 124).1).1,(kq (dX p 124).2).1) else none
def bS (l:List UInt8):List W3×Bool:=if l=[] then ([],true) else match parts 47 l with
 |[]=>([],false)|b::a=>if ¬b=[]\/30<a.length then ([],false) else match yV DW 0 a with
  |none=>([],false)|some r=>(r,true)
def aoY (s:W3):Prop:=0<=s.1/\s.1<=60/\s.2.length<=2/\∀x∈s.2,gf x=true
def aaP {d:Int}{p:List UInt8}{a:Int}{b:W3}(h:DW d p=some (a,b)):aoY b/\a=b.1:=by
 unfold DW at h;split at h
 .rename_i c;cases h;exact⟨⟨(ajn _).1,c.2.2.2.2.1,c.2.2.2.2.2,ayA _⟩,rfl⟩
 .cases h
def OW (l:List UInt8):∀s∈(bS l).1,aoY s:=by
 unfold bS;split
 .simp
 .split
  .simp
  .split
   .simp
   .split
    .simp
    .rename_i a;exact ajx (Q:=aoY) (fun s p c b h=>(aaP h).1) a
def vk (l:List UInt8):(bS l).1.length<=30:=by
 unfold bS;split
 .simp
 .split
  .simp
  .split
   .simp
   .split
    .simp
    .rename_i a;have:=N6 a;simp only;omega
def br6 {U:Type}(a b c d e f:Bool)(x y:U):br (!a) x (br (!b) x (br (!c) x (br d x (br e x (br f x y)))))=if a=true/\b=true/\c=true/\d=false/\e=false/\f=false then y else x:=by cases a<;>cases b<;>cases c<;>cases d<;>cases e<;>cases f<;>rfl
def br5 {U:Type}(a b c d f:Bool)(x y:U):br (!a) x (br (!b) x (br (!c) x (br (!d) x (br f x y))))=if a=true/\b=true/\c=true/\d=true/\f=false then y else x:=by cases a<;>cases b<;>cases c<;>cases d<;>cases f<;>rfl
def UE {l:List UInt8}(G:l.length<=1073741824):oX F0 (tx l)=some ((bS l).1,(bS l).2,()):=by
 have q:=Hy 47 l;have r:=fun p (h:p∈parts 47 l)=>Bs h
 rw[ak1,acZ];unfold bS;by_cases f:l=[]
 .rw[aS f,an f];rfl
 .rw[aT f,aa,ah f,show uw F0 (tx l) 47=_ from amG 47 (by omega),ao];cases t:parts 47 l with
  |nil=>exact absurd t (DV 47 l)
  |cons c a =>
   rw[t]at q r;simp only[bG]at q;have x:aJ ((c::a).map tx) 0 ByteArray.empty=tx c:=rfl;have y:bh 0 (((c::a).map tx).length:Int)=true:=al (k:=0) (by simp);simp only[y,ad,x,acZ];by_cases d:c=[]
   .by_cases z:30<a.length
    .rw[aS d,aZ,aa,aS (by rw[n1,bG];omega),ae,an (.inr z)]
    .rw[aS d,aZ,aa,aT (by rw[n1,bG];omega),aa,ah (by simp[d];omega)];have:=N5 DW (fun s=>0<=s/\s<=60) a (fun n s i xs=>Gl F0 (vQ F0) n (vP s (i+1) [] xs ((c::a).map tx))) (some ([],false,())) (fun xs=>some (xs,true,())) (fun n k s xs p H u A B=>?_) (fun n s xs B=>?_) (fun s p I b A C=>?_) F0.n 0 0 [] (aX _) (by rw[bj];omega) ⟨by omega,by omega⟩ rfl
     .simp only[YV,vr]at this;rw[show((0:Nat):Int)+1=1 from rfl]at this;rw[this];cases yV DW 0 a<;>rfl
     .have K:=r p (rH _ (ano u));have v:k+1<((c::a).map tx).length:=by simp;omega
      have D:aJ ((c::a).map tx) (((k+1:Nat)):Int) ByteArray.empty=tx p:=aoX _ _ (by simpa using u);rw[show((k:Int)+1)=((k+1:Nat):Int) by omega,JZ,aK v,ae,al v,ad,D,show gy F0 (tx p) 124=_ from amF 124 (by omega),ao];have L:=agm p 124;have M:=ajn (dX p 124).1;have N:=amH (dX p 124).2;by_cases g:(124:UInt8)∈p
      .rw[an g];simp only[Br,ao];rw[show AI F0 (tx ((p.dropWhile (· != 124)).drop 1))=some ((kq (dX p 124).2).1,(kq (dX p 124).2).2,()) from amI (by show(dX p 124).2.length<=_;omega),ao];simp only[PC];rw[br6];unfold DW;have E:(eS (p.takeWhile (· != 124)))=eS (dX p 124).1:=rfl;rw[E];by_cases e:124∈p/\(eS (dX p 124).1).2=true/\(kq (dX p 124).2).2=true/\s<(eS (dX p 124).1).1/\(eS (dX p 124).1).1<=60/\(kq (dX p 124).2).1.length<=2
       .have j:decide ((eS (dX p 124).1).1<=s)=false:=aT (by omega);have m:decide ((eS (dX p 124).1).1>60)=false:=aT (by omega);have o:decide (((kq (dX p 124).2).1.length:Int)>2)=false:=aT (by omega);rw[an e,an ⟨rfl,e.2.1,e.2.2.1,j,m,o⟩];simp only;rw[aE (b:=[((eS (dX p 124).1).1,(kq (dX p 124).2).1)].length) (k:=32) (by omega) (by omega) (by simp only[bG,bd];omega),ad,ag (by omega)];rfl
       .rw[ah e,ah (fun h=>e ?_)];have j:decide ((eS (dX p 124).1).1<=s)=false:=h.2.2.2.1;have m:decide ((eS (dX p 124).1).1>60)=false:=h.2.2.2.2.1;have o:decide (((kq (dX p 124).2).1.length:Int)>2)=false:=h.2.2.2.2.2;have O:=anq j;have P:=anq m;have Q:=anq o;exact⟨g,h.2.1,h.2.2.1,by omega,by omega,by omega⟩
      .rw[ah g];unfold DW;rw[ah (fun h=>g h.1),Br,ao,show AI F0 (tx [])=_ from amI (by simp),ao];simp only[gQ,ae,PC]
     .rw[show((a.length:Int)+1)=(((c::a).map tx).length:Int) by simp,JZ,az,aa,abM]
     .obtain⟨w,F⟩:=aaP C;rw[F];exact⟨w.1,w.2.1⟩
   .rw[aT d,gQ,ae,an (.inl d)]
def Yo {l:List UInt8}(E:l.length<=1073741824):Bf F0 (tx l)=some ((bS l).1,(bS l).2,()):=by
 have g:=Hy 47 l;have j:=fun p (h:p∈parts 47 l)=>Bs h
 rw[aln,acZ];unfold bS;by_cases f:l=[]
 .rw[aS f,an f];rfl
 .rw[aT f,aa,ah f,show uD F0 (tx l) 47=_ from ajw 47 (by omega),ao];cases m:parts 47 l with
  |nil=>exact absurd m (DV 47 l)
  |cons c a =>
   rw[m]at g j;simp only[bG]at g;have t:aJ ((c::a).map tx) 0 ByteArray.empty=tx c:=rfl;have u:bh 0 (((c::a).map tx).length:Int)=true:=al (k:=0) (by simp);have hlen:((c::a).map tx).length=a.length+1:=by simp
   have v:Oy 1 (((c::a).map tx).length:Int) (((c::a).map tx).length:Int)=true:=by rw[hlen];simp only[Oy,aD,bJ];omega
   have w:((((c::a).map tx).take (((c::a).map tx).length:Int).toNat).drop (1:Int).toNat)=a.map tx:=by rw[oR,jr];rfl
   simp only[u,ad,t,acZ,v,w];rw[hlen,aB (by omega) (by omega)];by_cases e:c=[]
   .by_cases x:30<a.length
    .rw[aS e,aZ,aa,aS (by omega),ae,an (.inr x)]
    .rw[aS e,aZ,aa,aT (by omega),aa,ah (by simp[e];omega)];have:=N5 DW (fun s=>0<=s/\s<=60) a (fun n s i xs=>G0 F0 (yg F0) n (yf s (a.map tx) ((a.map tx).length:Int) i xs)) (some ([],false,())) (fun xs=>some (xs,true,())) (fun n k s xs p o q y z=>?_) (fun n s xs z=>?_) (fun s p F b y A=>?_) F0.n 0 0 [] (aX _) (by rw[bj];omega) ⟨by omega,by omega⟩ rfl
     .simp only[YV,vr]at this;rw[show((0:Nat):Int)=0 from rfl]at this;rw[this];cases yV DW 0 a<;>rfl
     .have G:=j p (rH _ (ano q));have H:=agm p 124;have I:=ajn (dX p 124).1;have K:=amH (dX p 124).2;rw[KY,n1,aK o,ae,al o,ad,aoX _ _ q,show ByteArray.mk #[124]=tx [124] from rfl,uo 124 (by omega),ao];simp only[DU,ao];rw[show IM F0 (tx ((p.dropWhile (· != 124)).drop 1))=some ((kq (dX p 124).2).1,(kq (dX p 124).2).2,()) from atg (by show(dX p 124).2.length<=_;omega),ao];simp only[afO,OV,ao];rw[br5];unfold DW;have B:(eS (p.takeWhile (· != 124)))=eS (dX p 124).1:=rfl;rw[B,aB (n:=s+1) (by omega) (by omega)];by_cases d:124∈p/\(eS (dX p 124).1).2=true/\(kq (dX p 124).2).2=true/\s<(eS (dX p 124).1).1/\(eS (dX p 124).1).1<=60/\(kq (dX p 124).2).1.length<=2
      .have C:(decide (s+1<=(eS (dX p 124).1).1)&&decide ((eS (dX p 124).1).1<=60))=true:=by rw[aS (by omega),aS (by omega)];rfl
       rw[an d,an ⟨aS d.1,d.2.1,d.2.2.1,C,aT (by omega)⟩];simp only;rw[aE (b:=[((eS (dX p 124).1).1,(kq (dX p 124).2).1)].length) (k:=32) (by omega) (by omega) (by simp only[bG,bd];omega),ad,ag (by omega)]
      .rw[ah d,ah (fun h=>d ⟨C2 h.1,h.2.1,h.2.2.1,by have:=h.2.2.2.1;rw[aD]at this;have:=C2 this.1;omega,by have:=h.2.2.2.1;rw[aD]at this;have:=C2 this.2;omega,by have:=anq h.2.2.2.2;omega⟩)]
     .rw[KY,n1,az,aa,acq]
     .obtain⟨r,D⟩:=aaP A;rw[D];exact⟨r.1,r.2.1⟩
   .rw[aT e,gQ,ae,an (.inl e)]
abbrev n0:=List Int×List Int
def TM (l:n0):Bool:=decide (l.1.length=4)&&(decide (l.2.length=4)&&(l.1.all (fun n=>inB n 0 400)&&l.2.all (fun n=>inB n 0 100)))
def W4 {a:List Int}(lo b:Int)(h:a.length<=1048576):pz F0 a lo b=some (a.all (fun n=>inB n lo b),()):=by
 rw[aat];refine ca (fun n i (_:Unit)=>rq F0 (mA F0) n (mz lo b a (a.length:Int) i)) a.length (fun k _=>∀x∈a.take k,inB x lo b=true) _ (fun n k _ d e=>?_) (fun n _ e=>?_) F0.n 0 () (aX _) (by simp) (by rw[bj];omega)
 .rw[Ah,aK d,ae,al d,ad,kS,OV,ao];show(br (!inB (a.getD k 0) lo b) _ _=_)\/∃g:Unit,br (!inB (a.getD k 0) lo b) _ _=_/\_;cases f:inB (a.getD k 0) lo b with
  |false =>
   left;rw[gQ,ae,Vl];have:a.all (fun n=>inB n lo b)=false:=al4.2 ⟨_,mT d 0,by rw[f];simp⟩;rw[this]
  |true =>
   right;refine⟨(),by rw[aZ,aa,ag (by omega)],?_⟩;intro x c;rw[JM,aL d 0]at c;rcases fM.1 c with c|c
   .exact e x c
   .simp only[agE,h7]at c;rw[c];exact f
 .rw[jr]at e;rw[Ah,az,aa,Tq,fL.2 e]
def W5 {l:n0}(a:l.1.length<=1048576)(b:l.2.length<=1048576):sA F0 l=some (TM l,()):=by
 rw[acD,W4 0 400 a,W4 0 100 b];have e:∀n:Nat,((n:Int)==4)=decide (n=4):=fun n=>by
  by_cases h:n=4
  .subst h;rfl
  .rw[aT h];exact bX.2 (by omega)
 simp only[ao,e,ate];rfl
def aaQ {l:n0}:sc F0 l=some (TM l,()):=by
 rw[abP];have e:∀n:Nat,((n:Int) != 4)= !decide (n=4):=fun n=>by
  by_cases h:n=4
  .subst h;rfl
  .rw[aT h];exact C4.2 (by omega)
 rw[e,e];unfold TM;by_cases c:l.1.length=4
 .by_cases g:l.2.length=4
  .rw[aS c,aS g,aZ,aa,aa,kO,kO];refine ca (fun n i (_:Unit)=>s0 F0 (n7 F0) n (n6 i l.1 l.2)) 4 (fun k _=>(∀x∈l.1.take k,inB x 0 400=true)/\∀x∈l.2.take k,inB x 0 100=true) _ (fun n k _ o b=>?_) (fun n _ b=>?_) F0.n 0 () (by omega) (by simp) (by rw[bj];omega)
   .have d:k<l.1.length:=by omega
    have f:k<l.2.length:=by omega
    rw[Da,show decide ((k:Int)<4)=true from aS (by omega),ae,al d,ad,kS,aaO,ao,al f,ad,kS,aaO,ao];show(br (!inB (l.1.getD k 0) 0 400) _ (br (!inB (l.2.getD k 0) 0 100) _ _)=_)\/∃p:Unit,br (!inB (l.1.getD k 0) 0 400) _ (br (!inB (l.2.getD k 0) 0 100) _ _)=_/\_;cases j:inB (l.1.getD k 0) 0 400 with
    |false =>
     left;rw[gQ,ae,H8];have:l.1.all (fun n=>inB n 0 400)=false:=al4.2 ⟨_,mT d 0,by rw[j];simp⟩;rw[this];rfl
    |true =>
     cases m:inB (l.2.getD k 0) 0 100 with
     |false =>
      left;rw[aZ,aa,gQ,ae,H8];have:l.2.all (fun n=>inB n 0 100)=false:=al4.2 ⟨_,mT f 0,by rw[m];simp⟩;rw[this,YX]
     |true =>
      right;refine⟨(),by rw[aZ,aa,aa,ag (by omega)],?_,?_⟩
      .intro x a;rw[JM,aL d 0]at a;rcases fM.1 a with a|a
       .exact b.1 x a
       .simp only[agE,h7]at a;rw[a];exact j
      .intro x a;rw[JM,aL f 0]at a;rcases fM.1 a with a|a
       .exact b.2 x a
       .simp only[agE,h7]at a;rw[a];exact m
   .rw[apN (by omega),apN (by omega)]at b;rw[Da,show decide (((4:Nat):Int)<4)=false from rfl,aa,U3,fL.2 b.1,fL.2 b.2];rfl
  .rw[aS c,aT g];rfl
 .rw[aT c];rfl
def r3 (l:n0)(x:ez):n0×Int :=
 if TM l=true/\gf x=true then
  if x.2.2.2<aJ l.2 x.1 0 then (l,2)
  else if x.2.2.2>aJ l.2 x.1 0 then (l,3)
  else if x.2.2.1>aJ l.1 x.1 0 then ((l.1,l.2.set x.1.toNat (x.2.2.2+1)),4)
  else if TM ((l.1.set x.1.toNat (aJ l.1 x.1 0-x.2.2.1)).set x.2.1.toNat (aJ (l.1.set x.1.toNat (aJ l.1 x.1 0-x.2.2.1)) x.2.1 0+x.2.2.1),l.2.set x.1.toNat (x.2.2.2+1))=true
   then (((l.1.set x.1.toNat (aJ l.1 x.1 0-x.2.2.1)).set x.2.1.toNat (aJ (l.1.set x.1.toNat (aJ l.1 x.1 0-x.2.2.1)) x.2.1 0+x.2.2.1),l.2.set x.1.toNat (x.2.2.2+1)),0)
   else (l,1)
 else (l,1)
def ajy {l:n0}(h:TM l=true):l.1.length=4/\l.2.length=4/\(∀x∈l.1,0<=x/\x<=400)/\∀x∈l.2,0<=x/\x<=100:=by simp only[TM,aD,bJ,fL,inB]at h;exact⟨h.1,h.2.1,fun x a=>⟨(h.2.2.1 x a).1,(h.2.2.1 x a).2⟩,fun x a=>⟨(h.2.2.2 x a).1,(h.2.2.2 x a).2⟩⟩
def Yp {l:n0}(a:l.1.length<=1048576)(b:l.2.length<=1048576):o1 F0 l=some (l,()):=by rw[ahP,aE (by omega) (by omega) (by omega),ad,aE (by omega) (by omega) (by omega),ad];simp
def TN {l:n0}(a:l.1.length<=1048576)(b:l.2.length<=1048576):jh F0 l=some (l,()):=by rw[Ye,NV,NV,aE (by omega) (by omega) (by omega),ad,ao,aE (by omega) (by omega) (by omega),ad,ao];simp
def dT {p:Prop}(i:Decidable p)(h:p): @decide p i=true:=aS h
def dF {p:Prop}(i:Decidable p)(h:¬p): @decide p i=false:=aT h
def avE {a:List Int}{k:Nat}{v:Int}{lo b:Int}(c:∀x∈a,lo<=x/\x<=b)(d:lo<=v/\v<=b):∀x∈a.set k v,lo<=x/\x<=b:=fun x e=>by
 rcases asu e with h|h
 .exact c x h
 .rw[h];exact d
def aoZ {l:n0}(g:l.1.length<=1048576)(i:l.2.length<=1048576)(x:ez):H9 F0 l x=some ((r3 l x).1,(r3 l x).2,()):=by
 rw[aqt,Yp g i,ao,aaQ,ao];unfold r3;cases p:TM l with
 |false=>rw[ah (by simp)];rfl
 |true =>
  rw[aZ,aa,N3,ao];cases q:gf x with
  |false=>rw[ah (by simp)];rfl
  |true =>
   rw[aZ,aa,an ⟨rfl,rfl⟩];obtain⟨j,r,m,s⟩:=ajy p;obtain⟨b,o,B,C⟩:=rz q;have f:∀(y:Int) (n:Nat),n=4->0<=y->y<=3->bh y (n:Int)=true:=fun y n h g i=>by obtain⟨u,rfl⟩:∃u:Nat,y=u:=⟨y.toNat,by omega⟩;exact al (by omega)
   have t:=f x.1 _ j b.1 b.2;have z:=f x.1 _ r b.1 b.2;have A:∀w,bh x.2.1 ((l.1.set x.1.toNat w).length:Int)=true:=fun w=>f x.2.1 _ (by rw[Rk];exact j) o.1 o.2
   simp only[t,z,A,ad];have D:0<=aJ l.1 x.1 0/\aJ l.1 x.1 0<=400:=m _ (mT (a:=l.1) (k:=x.1.toNat) (by omega) 0);have E:0<=aJ l.2 x.1 0/\aJ l.2 x.1 0<=100:=s _ (mT (a:=l.2) (k:=x.1.toNat) (by omega) 0);by_cases c:x.2.2.2<aJ l.2 x.1 0
   .rw[dT _ c,ae,an c]
   .rw[dF _ c,aa,ah c];by_cases d:x.2.2.2>aJ l.2 x.1 0
    .rw[dT _ d,ae,an d]
    .rw[dF _ d,aa,ah d,aB (n:=x.2.2.2+1) (by omega) (by omega)];by_cases e:x.2.2.1>aJ l.1 x.1 0
     .rw[dT _ e,ae,an e]
     .have F:0<=aJ (l.1.set x.1.toNat (aJ l.1 x.1 0-x.2.2.1)) x.2.1 0/\aJ (l.1.set x.1.toNat (aJ l.1 x.1 0-x.2.2.1)) x.2.1 0<=400:=avE (k:=x.1.toNat) (v:=aJ l.1 x.1 0-x.2.2.1) m ⟨by omega,by omega⟩ _ (mT (a:=l.1.set x.1.toNat (aJ l.1 x.1 0-x.2.2.1)) (k:=x.2.1.toNat) (by rw[Rk];omega) 0);rw[dF _ e,aa,ah e,aB (n:=aJ l.1 x.1 0-x.2.2.1) (by omega) (by omega),aB (n:=aJ (l.1.set x.1.toNat (aJ l.1 x.1 0-x.2.2.1)) x.2.1 0+x.2.2.1) (by omega) (by omega),aaQ,ao];cases TM ((l.1.set x.1.toNat (aJ l.1 x.1 0-x.2.2.1)).set x.2.1.toNat (aJ (l.1.set x.1.toNat (aJ l.1 x.1 0-x.2.2.1)) x.2.1 0+x.2.2.1),l.2.set x.1.toNat (x.2.2.2+1)) with
      |false=>rw[ah (by simp),gQ,ae,ao]
      |true=>rw[an rfl];rfl
def ayB {l:n0}(f:l.1.length<=1048576)(g:l.2.length<=1048576)(x:ez):aav F0 l x=some ((r3 l x).1,(r3 l x).2,()):=by
 rw[aqA,TN f g,ao,W5 f g,ao];unfold r3;cases p:TM l with
 |false=>rw[ah (by simp)];rfl
 |true =>
  rw[aZ,aa,N4,ao];cases q:gf x with
  |false=>rw[ah (by simp)];rfl
  |true =>
   rw[aZ,aa,an ⟨rfl,rfl⟩];obtain⟨j,r,m,s⟩:=ajy p;obtain⟨b,o,C,D⟩:=rz q;have i:∀(y:Int) (n:Nat),n=4->0<=y->y<=3->bh y (n:Int)=true:=fun y n h f g=>by obtain⟨u,rfl⟩:∃u:Nat,y=u:=⟨y.toNat,by omega⟩;exact al (by omega)
   have t:=i x.1 _ j b.1 b.2;have z:=i x.1 _ r b.1 b.2;have A:∀w,bh x.2.1 ((l.1.set x.1.toNat w).length:Int)=true:=fun w=>i x.2.1 _ (by rw[Rk];exact j) o.1 o.2
   simp only[t,z,A,ad];have E:0<=aJ l.1 x.1 0/\aJ l.1 x.1 0<=400:=m _ (mT (a:=l.1) (k:=x.1.toNat) (by omega) 0);have F:0<=aJ l.2 x.1 0/\aJ l.2 x.1 0<=100:=s _ (mT (a:=l.2) (k:=x.1.toNat) (by omega) 0);by_cases c:x.2.2.2<aJ l.2 x.1 0
   .rw[dT _ c,ae,an c]
   .rw[dF _ c,aa,ah c];by_cases d:x.2.2.2>aJ l.2 x.1 0
    .rw[dT _ d,ae,an d]
    .have B:aJ l.2 x.1 0=x.2.2.2:=by omega
     rw[dF _ d,aa,ah d,B,aB (n:=x.2.2.2+1) (by omega) (by omega)];by_cases e:x.2.2.1>aJ l.1 x.1 0
     .rw[dT _ e,ae,an e]
     .have G:0<=aJ (l.1.set x.1.toNat (aJ l.1 x.1 0-x.2.2.1)) x.2.1 0/\aJ (l.1.set x.1.toNat (aJ l.1 x.1 0-x.2.2.1)) x.2.1 0<=400:=avE (k:=x.1.toNat) (v:=aJ l.1 x.1 0-x.2.2.1) m ⟨by omega,by omega⟩ _ (mT (a:=l.1.set x.1.toNat (aJ l.1 x.1 0-x.2.2.1)) (k:=x.2.1.toNat) (by rw[Rk];omega) 0);rw[dF _ e,aa,ah e,aB (n:=aJ l.1 x.1 0-x.2.2.1) (by omega) (by omega),aB (n:=aJ (l.1.set x.1.toNat (aJ l.1 x.1 0-x.2.2.1)) x.2.1 0+x.2.2.1) (by omega) (by omega),W5 (by simp only[Rk];omega) (by simp only[Rk];omega),ao];cases TM ((l.1.set x.1.toNat (aJ l.1 x.1 0-x.2.2.1)).set x.2.1.toNat (aJ (l.1.set x.1.toNat (aJ l.1 x.1 0-x.2.2.1)) x.2.1 0+x.2.2.1),l.2.set x.1.toNat (x.2.2.2+1)) with
      |false=>rw[ah (by simp),gQ,ae,ao]
      |true=>rw[an rfl];rfl
def aqI (l:n0)(x:ez):(r3 l x).1.1.length=l.1.length/\(r3 l x).1.2.length=l.2.length:=by
 unfold r3;split
 .split
  .exact⟨rfl,rfl⟩
  .split
   .exact⟨rfl,rfl⟩
   .split
    .exact⟨rfl,by simp⟩
    .split
     .exact⟨by simp,by simp⟩
     .exact⟨rfl,rfl⟩
 .exact⟨rfl,rfl⟩
def ajz:n0:=([100,100,100,100],[0,0,0,0])
def Ml:ic F0=some (ajz,()):=by
 have st:∀n (k:Nat) (c:List Int),k<4->c.length=k->hS F0 (ib F0) (n+1) (fi (k:Int) [] [] c [0,0,0,0])=hS F0 (ib F0) n (fi ((k+1:Nat):Int) [] [] (c++[100]) [0,0,0,0]):=fun n k c e f=>by rw[zv,show decide ((k:Int)<4)=true from aS (by omega),ae,aE (a:=c.length) (b:=[(100:Nat)].length) (k:=8) (by omega) (by omega) (by simp only[bG,bd];omega),ad,ag (by omega)]
 rw[ZB,show okM F0 4 4 8=true from atb (n:=4) (by omega) (by omega) (by omega),ad];refine ca (fun n i c=>hS F0 (ib F0) n (fi i [] [] c [0,0,0,0])) 4 (fun k c=>c=List.replicate k 100) _ (fun n k c e d=>.inr ⟨_,st n k c e (by rw[d];simp),by rw[d,<-List.replicate_succ']⟩) (fun n c d=>?_) F0.n 0 [] (by omega) rfl (by rw[bj];omega);rw[zv,show decide (((4:Nat):Int)<4)=false from rfl,aa,R5,d];rfl
def TO:py F0=some (ajz,()):=by
 have st:∀n (k:Nat) (c:List Int),k<4->c.length=k->hV F0 (iu F0) (n+1) (fo (k:Int) [] [] c [0,0,0,0])=hV F0 (iu F0) n (fo ((k+1:Nat):Int) [] [] (c++[100]) [0,0,0,0]):=fun n k c e f=>by rw[Ag,show decide ((k:Int)<4)=true from aS (by omega),ae,aE (a:=c.length) (b:=[(100:Nat)].length) (k:=8) (by omega) (by omega) (by simp only[bG,bd];omega),ad,ag (by omega)]
 rw[aas,show okM F0 4 4 8=true from atb (n:=4) (by omega) (by omega) (by omega),ad];refine ca (fun n i c=>hV F0 (iu F0) n (fo i [] [] c [0,0,0,0])) 4 (fun k c=>c=List.replicate k 100) _ (fun n k c e d=>.inr ⟨_,st n k c e (by rw[d];simp),by rw[d,<-List.replicate_succ']⟩) (fun n c d=>?_) F0.n 0 [] (by omega) rfl (by rw[bj];omega);rw[Ag,show decide (((4:Nat):Int)<4)=false from rfl,aa,Tp,d];rfl
def aqJ (c:Int):NX F0 c=some ((c==0) || (c==4),()):=by rw[aoM];cases h:(c==0)<;>rfl
def af7 (l:n0):Prop:=l.1.length=4/\l.2.length=4
def aDj {l:n0}(h:af7 l)(x:ez):af7 (r3 l x).1:=⟨(aqI l x).1.trans h.1,(aqI l x).2.trans h.2⟩
def aeg {U:Type}{a:List U}{k:Nat}(h:k<a.length)(d:U):aJ a (k:Int) d=a[k]:=by rw[kS];simp[List.getD,h]
def aDk (x:ez):(x.1,x.2.1,x.2.2.1,x.2.2.2)=x:=rfl
def iE:n0->List ez->List Int
 |_,[]=>[]|l,x::xs=>(r3 l x).2::iE (r3 l x).1 xs
def uM:n0->List ez->n0
 |l,[]=>l|l,x::xs=>uM (r3 l x).1 xs
def UF:∀{xs:List ez} {l:n0},af7 l->af7 (uM l xs)
 |[],_,h=>h|x::xs,l,h=>UF (xs:=xs) (aDj h x)
def yW:∀(xs:List ez) (l:n0),(iE l xs).length=xs.length
 |[],_=>rfl|x::xs,l=>by simp[iE,yW xs]
def OX:∀(a b:List ez) (l:n0),iE l (a++b)=iE l a++iE (uM l a) b
 |[],_,_=>rfl|x::a,b,l=>by simp[iE,uM,OX a b]
def TP:∀(a:List ez) (x:ez) (l:n0),uM l (a++[x])=(r3 (uM l a) x).1
 |[],_,_=>rfl|y::a,x,l=>by simp[uM,TP a x]
def Yq {l:n0}(g:af7 l){list:List ez}(m:list.length<=1048576):o9 F0 l list=some (uM l list,iE l list,()):=by
 rw[ah6,Yp (by have:=g.1;omega) (by have:=g.2;omega),ao];refine ca (fun n i (z:List Int×n0)=>B7 F0 (Ew F0) n (tj list i z.1 [] [] z.2.1 z.2.2)) list.length (fun k z=>z.1=iE l (list.take k)/\z.2=uM l (list.take k)) _ (fun n k z e f=>.inr ⟨(z.1++[(r3 z.2 list[k]).2],(r3 z.2 list[k]).1),?_,?_⟩) (fun n z f=>?_) F0.n 0 ([],l) (aX _) ⟨rfl,rfl⟩ (by rw[bj];omega)
 .obtain⟨d,c⟩:=f;have h:af7 z.2:=by rw[c];exact UF g
  have o:z.1.length<=1048576:=by rw[d,yW,cp];omega
  rw[Io,aK e,ae,al e,ad,aeg e]
  try rw[aDk]
  rw[aoZ (l:=(z.2.1,z.2.2)) (by have:=h.1;show z.2.1.length<=_;omega) (by have:=h.2;show z.2.2.length<=_;omega),ao];simp only;rw[aE (a:=z.1.length) (b:=[(r3 (z.2.1,z.2.2) list[k]).2].length) (k:=8) (by omega) (by omega) (by simp only[bG,bd];omega),ad,ag (by omega)]
 .obtain⟨d,c⟩:=f;have j:list.take (k+1)=list.take k++[list[k]]:=by rw[JM,mO e];rfl
  refine⟨?_,?_⟩
  .rw[j,OX,<-d,<-c];rfl
  .rw[j,TP,<-c]
 .obtain⟨d,c⟩:=f;rw[jr]at d c;rw[Io,az,aa,ZR,d,c]
def aaR:∀{ss:List W3},(∀s∈ss,aoY s)->(ss.flatMap (·.2)).length<=2*ss.length
 |[],_=>by simp
 |s::ss,h=>by
  have b:=(h s JL).2.2.1;have c:=aaR (ss:=ss) fun x a=>h x (rH _ a)
  rw[List.flatMap_cons,aW,bG];omega
def awD {l:List UInt8}(f:l.length<=1073741824):o8 F0 (tx l)=some ((bS l).1.flatMap (·.2),()):=by
 rw[ak7,UE f,ao];have hlen:=vk l;have cX:=OW l;generalize h:(bS l).1=ss at hlen cX;refine ca (fun n i xs=>Gz F0 (Im F0) n (wy i xs ss)) ss.length (fun k xs=>xs=(ss.take k).flatMap (·.2)) _ (fun n k xs c d=>.inr ⟨_,?_,rfl⟩) (fun n xs d=>?_) F0.n 0 [] (aX _) rfl (by rw[bj];omega)
 .have j:=(cX _ (cB c)).2.2.1;have e:=aaR (ss:=ss.take k) fun x e=>cX x (VC e)
  rw[<-d,cp]at e;rw[Kj,aK c,ae,al c,ad,aeg c,aE (a:=xs.length) (b:=ss[k].2.length) (k:=32) (by omega) (by omega) (by omega),ad,ag (by omega),d];have g:(ss.take (k+1)).flatMap (·.2)=(ss.take k).flatMap (·.2)++ss[k].2:=by rw[show ss.take (k+1)=ss.take k++[ss[k]] by rw[JM,mO c];rfl,List.flatMap_append];simp
  rw[g]
 .rw[jr]at d;rw[Kj,az,aa,abZ,d]
def cu {V:Type}(X:Nat->Int->Option V)(L:Nat)(p:Nat->Bool)(d e:Option V)(g:∀n k,k<L->X (n+1) (k:Int)=if p k=true then X n ((k+1:Nat):Int) else e)(j:∀n,X (n+1) (L:Int)=d)(n:Nat)(o:L<n) :
  X n 0=if (List.range L).all p=true then d else e:=by
 refine ca (fun n i (_:Unit)=>X n i) L (fun k _=>∀a,a<k->p a=true) _ (fun n k _ f h=>?_) (fun n _ h=>?_) n 0 () (aX _) (fun a b=>absurd b (YU _)) (by omega)
 .try dsimp only
  rw[g n k f];by_cases c:p k=true
  .rw[an c];refine .inr ⟨(),rfl,fun a b=>?_⟩;by_cases l:a=k
   .exact l▸c
   .exact h a (by omega)
  .rw[ah c,ah]
   .exact .inl rfl
   .intro m;exact c (fL.1 m k (gP.2 f))
 .try dsimp only
  rw[j,an];exact fL.2 fun a b=>h a (gP.1 b)
def aaS {U:Type}(s:List U)(q:U->Bool)(d:U):(List.range s.length).all (fun k=>q (s.getD k d))=s.all q:=by
 rw[Bool.eq_iff_iff,fL,fL];constructor
 .intro h x b;obtain⟨i,a,rfl⟩:=ann.1 b;have:=h i (gP.2 a);simpa [List.getD,a]using this
 .intro h k c;exact h _ (mT (gP.1 c) d)
def aCc (s:List Int)(i:Int):(s.all fun x=> !(x==i))= !decide (i∈s):=by rw[Bool.eq_iff_iff,fL];simp only[agx,bX,asv];exact⟨fun h a=>h i a rfl,fun h x b e=>h (e▸b)⟩
def ite_not (b:Bool){U:Type}(x y:U):(if (!b)=true then x else y)=if b=true then y else x:=by cases b<;>rfl
def ath {U:Type}(b:Bool)(x y:U):br b x y=if b=true then x else y:=by cases b<;>rfl
def eg {s:List Int}(h:s.length<=1073741824)(i:Int):cv F0 s i=some (decide (i∈s),()):=by
 rw[ahz,cu (fun n k=>BF F0 (sK F0) n (sJ s i k)) s.length (fun k=> !(s.getD k 0==i)) (some (false,())) (some (true,())) (fun n k a=>?_) (fun n=>?_) _ (by rw[bj];omega),
  aaS s (fun x=> !(x==i)),aCc,ite_not]
 .by_cases b:i∈s<;>simp[b]
 .rw[HU,aK a,ae,al a,ad,kS,ag (by omega),ite_not,ath,abH]
 .rw[HU,az,aa,Zs]
def ao0 {s:List Int}(h:s.length<=1073741824)(i:Int):gp F0 s i=some (decide (i∈s),()):=by
 have key:∃a,jS F0 s i=some (a,())/\decide (a>=0)=decide (i∈s):=by
  rw[NQ];have:=ca (fun n k (_:Unit)=>hF F0 (fJ F0) n (fI s i (s.length:Int) k)) s.length (fun k _=>∀a,a<k->s.getD a 0≠i)
   (some ((if i∈s then ((s.idxOf i:Nat):Int) else -1),())) (fun n k _ f g=>?_) (fun n _ g=>?_) F0.n 0 () (aX _) (fun a c=>absurd c (YU _)) (by rw[bj];omega)
  .refine⟨_,this,?_⟩;by_cases b:i∈s
   .rw[an b,aS b];exact aS (Int.natCast_nonneg _)
   .rw[ah b,aT b];rfl
  .try dsimp only
   rw[oF,aK f,ae,al f,ad,kS,ag (by omega),JJ];by_cases d:i=s.getD k 0
   .left;have b:i∈s:=d▸mT f 0;rw[cH.2 d,ae,an b];have m:s.idxOf i=k:=by
     have j:s.idxOf i<s.length:=List.idxOf_lt_length_of_mem b;have l:s.getD (s.idxOf i) 0=i:=by simp[List.getD,j]
     rcases Nat.lt_trichotomy (s.idxOf i) k with hlt|o|q
     .exact absurd l (g _ hlt)
     .exact o
     .have:=List.not_of_lt_findIdx (p:=(·==i)) (xs:=s) q;have r:s[k]'(by omega)=i:=by rw[d];simp[List.getD,f]
      simp[r]at this
    rw[m]
   .right;rw[bX.2 d,aa];refine⟨(),rfl,fun a c=>?_⟩;by_cases t:a=k
    .exact fun e=>d (t▸e.symm)
    .exact g a (by omega)
  .try dsimp only
   have b:i ∉ s:=by intro b;obtain⟨a,c,e⟩:=ann.1 b;exact g a c (by simp[List.getD,c,e])
   rw[oF,az,aa,IZ,ah b]
 obtain⟨a,j,l⟩:=key;rw[I0,j,ao,l]
def aeh {s:List Int}(h:s.length<=1073741824)(i:Int):DC F0 s i=some (decide (i∈s),()):=by rw[ajc,ao0 h,ao]
def af8 (i:Int):List Int->List Int
 |[]=>[i]|x::l=>if x>=i then i::x::l else x::af8 i l
def Rf (s:List Int)(i:Int):List Int:=if i∈s then s else af8 i s
def aqK (i:Int):∀s:List Int,(af8 i s).length=s.length+1
 |[]=>rfl|x::l=>by
  unfold af8;split
  .rfl
  .simp[aqK i l]
def TQ (s:List Int)(i:Int):(Rf s i).length<=s.length+1:=by
 unfold Rf;split
 .omega
 .rw[aqK];exact bu _
def avF {i:Int}:∀{s:List Int} {k:Nat},k<=s.length->(∀a (h:a<s.length),a<k->s[a]<i)->(∀h:k<s.length,¬s[k]<i)->af8 i s=s.take k++i::s.drop k
 |[],k,_,_,_=>by simp[af8]
 |x::l,0,_,_,h=>by have:=h (by simp);simp only[List.getElem_cons_zero]at this;unfold af8;rw[an (by omega)];rfl
 |x::l,k+1,c,b,d=>by have e:=b 0 (by simp) (by omega);simp only[List.getElem_cons_zero]at e;unfold af8;rw[ah (by omega),List.take_succ_cons,List.drop_succ_cons,EX,avF (k:=k) (by simpa using c) (fun a h f=>b (a+1) (by simp only[bG];omega) (by omega)) (fun h=>d (by simp only[bG];omega))]
def UG {l h n:Nat}(a:l<=h)(b:h<=n):Oy (l:Int) (h:Int) (n:Int)=true:=by simp[Oy];omega
def Jr {s:List Int}(h:s.length<=1048576)(i:Int):lQ F0 s i=some (Rf s i,()):=by
 rw[ahA,eg (by omega),ao];unfold Rf;by_cases c:i∈s
 .rw[aS c,ae,an c,aE (by omega) (by omega) (by omega),ad];rfl
 .rw[aT c,aa,ah c];have Rw:∀k:Nat,k<=s.length->(∀a (h:a<s.length),a<k->s[a]<i)->(∀h:k<s.length,¬s[k]<i)->sM F0 (.exit 0) (pO s i (k:Int))=some (af8 i s,()):=by
   intro k b g j;rw[Zt,show Oy 0 (k:Int) (s.length:Int)=true from UG (l:=0) (aX _) b,ad,oR,oR,show(0:Int).toNat=0 from rfl,YV,vr,jr,
    aE (by omega) (by omega) (by rw[cp];omega),ad,aE (by omega) (by omega) (by rw[cp];simp only[bG,bd];omega),ad,UG b (bu _),ad,
    aE (by omega) (by omega) (by rw[aW,cp,b7];simp only[bG,bd];omega),ad,avF b g j]
   simp
  refine ca (fun n k (_:Unit)=>BI F0 (sM F0) n (sL s i k)) s.length (fun k _=>∀a (h:a<s.length),a<k->s[a]<i) _ (fun n k _ b d=>?_) (fun n _ d=>?_) F0.n 0 () (aX _) (fun a _ f=>absurd f (YU _)) (by rw[bj];omega)
  .try dsimp only
   rw[HV,aK b,ae,al b,ad,aeg b,ag (by omega)];by_cases hlt:s[k]<i
   .right;rw[aS hlt,ae];refine⟨(),rfl,fun a f m=>?_⟩;by_cases e:a=k
    .subst e;exact hlt
    .exact d a f (by omega)
   .left;rw[aT hlt,aa];exact Rw k (by omega) d (fun _=>hlt)
  .try dsimp only
   rw[HV,az,aa];exact Rw s.length (bu _) d (fun h=>absurd h (adC _))
def ga (lo a x:Int):Bool:=decide (lo<=x)&&decide (x<=a)
def cE (x lo a:Int):bD F0 x lo a=some (ga lo a x,()):=aaO x lo a
def c7 (x lo a:Int):bz F0 x lo a=some (ga lo a x,()):=OV x lo a
def de {U:Type}{l:List U}{k:Nat}(h:k<l.length):l.take (k+1)=l.take k++[l[k]]:=by rw[JM,mO h];rfl
abbrev b0:=Int×ByteArray×List Int
def bF (l:List UInt8):Bool:=(bS l).2
def bm (l:List UInt8):Int:=match (bS l).1.getLast? with|some s=>s.1|none=>0
def TR {l:List UInt8}(h:(bS l).2=false):(bS l).1=[]:=by
 unfold bS at h ⊢;split
 .rfl
 .rename_i a;rw[ah a]at h;split
  .rfl
  .rename_i b;rw[b]at h;dsimp only at h;split
   .rfl
   .rename_i c;rw[ah c]at h;split
    .rfl
    .rename_i d;rw[d]at h;cases h
def OY {l:List UInt8}(h:l.length<=1073741824):ep F0 (tx l)=some (bF l,()):=by rw[ahF,UE h,ao];rfl
def TS {l:List UInt8}(h:l.length<=1073741824):e3 F0 (tx l)=some (bF l,()):=by rw[aiZ,Yo h,ao];rfl
def amJ (ss:List W3)(f:ss.length<=30)(d:W3:=(0,[])):br ((ss.length:Int)==0) (some ((0:Int),())) (ck (bh (ak ((ss.length:Int)-1)) (ss.length:Int)) (some ((aJ ss (ak ((ss.length:Int)-1)) d).1,())))=some ((match ss.getLast? with|some s=>s.1|none=>0),()):=by
 cases a:ss with
 |nil=>rfl
 |cons s r =>
  rw[<-a];have e:ss.length≠0:=by rw[a];simp
  have b:((ss.length:Int)==0)=false:=bX.2 (by omega);have c:ak ((ss.length:Int)-1)=((ss.length-1:Nat):Int):=by rw[aB (by omega) (by omega)];omega
  rw[b,aa,c,al (by omega),ad,aeg (by omega),List.getLast?_eq_getElem?,mO (by omega)]
def ajA {l:List UInt8}(h:l.length<=1073741824):cc F0 (tx l)=some (bm l,()):=by
 rw[ahH,UE h,ao];dsimp only;cases a:(bS l).2 with
 |true =>
  rw[aZ,aa];exact amJ _ (vk l)
 |false =>
  rw[gQ,ae];unfold bm;rw[TR a];rfl
def aei {l:List UInt8}(h:l.length<=1073741824):pj F0 (tx l)=some (bm l,()):=by rw[ai0,Yo h,ao];exact amJ _ (vk l)
def rA (l:List UInt8):0<=bm l/\bm l<=60:=by
 unfold bm;split
 .rename_i s a;have:=OW l s (List.mem_of_getLast? a);exact⟨this.1,this.2.1⟩
 .omega
def bq (c:Int×Int):Bool:=ga 4 7 c.1&&ga 1 6 c.2
def gK (c:Int×Int):dr F0 c=some (bq c,()):=by rw[ahR,cE,ao,cE,ao];unfold bq;dsimp only;cases ga 4 7 c.1<;>rfl
def pD (c:Int×Int):hR F0 c=some (bq c,()):=by rw[aiX,c7,ao,c7,ao];unfold bq;dsimp only;cases ga 4 7 c.1<;>rfl
def ch {c:Int×Int}(h:bq c=true):4<=c.1/\c.1<=7/\1<=c.2/\c.2<=6:=by unfold bq ga at h;simp only[aD,bJ]at h;omega
def aqL {n:Int}(a:4<=n)(b:n<=7):1<=Int.tdiv (n-1) 3/\Int.tdiv (n-1) 3<=2:=by
 have:n=4\/n=5\/n=6\/n=7:=by omega
 rcases this with rfl|rfl|rfl|rfl<;>decide
def EU (c:Int×Int):Int:=if bq c=true then Int.tdiv (c.1-1) 3 else 0
def Js (c:Int×Int):Int:=if bq c=true then c.1-Int.tdiv (c.1-1) 3 else 0
def aej (c:Int×Int):Dy F0 c=some (EU c,()):=by
 rw[aiY,pD,ao];unfold EU;dsimp only;cases h:bq c with
 |false=>rfl
 |true =>
  have:=ch h;have a:=aqL this.1 this.2.1;have e:ak (c.1-1)=c.1-1:=aB (by omega) (by omega);rw[aZ,aa,e,aB (by omega) (by omega),an rfl]
def aqM (c:Int×Int):K0 F0 c=some (Js c,()):=by
 rw[ai1,pD,ao,aej,ao];unfold Js EU;dsimp only;cases h:bq c with
 |false=>rfl
 |true =>
  have:=ch h;have a:=aqL this.1 this.2.1;rw[aZ,aa,an rfl,an rfl,aB (by omega) (by omega)]
def Yr (c:Int×Int):u1 F0 c=some (Js c,()):=by
 rw[ahS,gK,ao];unfold Js;dsimp only;cases h:bq c with
 |false=>rfl
 |true =>
  have:=ch h;have a:=aqL this.1 this.2.1;have e:ak (c.1-1)=c.1-1:=aB (by omega) (by omega);rw[aZ,aa,e,aB (n:=Int.tdiv (c.1-1) 3) (by omega) (by omega),aB (by omega) (by omega),an rfl]
def j6 (n:Int)(s:List Int):Bool:=(List.range s.length).all fun k=>decide (0<=s.getD k 0)&&(decide (s.getD k 0<n)&&(decide (k=0) || decide (s.getD (k-1) 0<s.getD k 0)))
def OZ {V:Type}{n:Int}{s:List Int}{k:Nat}(g:k<s.length)(x y:Option V) :
  br (decide (s.getD k 0<0)) x (br (decide (s.getD k 0>=n)) x (br (decide ((k:Int)>0)) (br (decide (s.getD (k-1) 0>=s.getD k 0)) x y) y)) =
  if (decide (0<=s.getD k 0)&&(decide (s.getD k 0<n)&&(decide (k=0) || decide (s.getD (k-1) 0<s.getD k 0))))=true then y else x:=by
 generalize s.getD k 0=a;generalize s.getD (k-1) 0=b;by_cases c:a<0
 .rw[aS c,ae,aT (show ¬0<=a by omega)];rfl
 .rw[aT c,aa,aS (show 0<=a by omega),kO];by_cases d:a>=n
  .rw[aS d,ae,aT (show ¬a<n by omega)];rfl
  .rw[aT d,aa,aS (show a<n by omega),kO];by_cases e:k=0
   .subst e;rfl
   .rw[aS (show(k:Int)>0 by omega),ae,aT e,y7];by_cases f:b>=a
    .rw[aS f,ae,aT (show ¬b<a by omega)];rfl
    .rw[aT f,aa,aS (show b<a by omega)];rfl
def Jt {k:Nat}(a:0<k)(h:k<=9223372036854775807):ak ((k:Int)-1)=((k-1:Nat):Int):=by rw[aB (by omega) (by omega)];omega
def ac0 {s:List Int}(h:s.length<=1073741824)(n:Int):AL F0 n s=some (j6 n s,()):=by
 rw[ak2,cu (fun m k=>vY F0 (vZ F0) m (o2 n s k)) s.length (fun k=>decide (0<=s.getD k 0)&&(decide (s.getD k 0<n)&&(decide (k=0) || decide (s.getD (k-1) 0<s.getD k 0)))) (some (true,())) (some (false,())) (fun m k a=>?_) (fun m=>?_) _ (by rw[bj];omega)]
 .show(if j6 n s=true then _ else _)=_;cases j6 n s<;>rfl
 .rw[J5,aK a,ae,al a,ad,kS,aeP,ad,ag (by omega)];by_cases b:k=0
  .subst b;rw[<-OZ a];rfl
  .rw[Jt (by omega) (by omega),al (show k-1<s.length by omega),ad,ad,kS,<-OZ a]
 .rw[J5,az,aa,abR]
def Ys {s:List Int}(h:s.length<=1073741824)(n:Int):uE F0 n s=some (j6 n s,()):=by
 rw[alo,cu (fun m k=>yj F0 (yk F0) m (ph n s s (s.length:Int) k)) s.length (fun k=>decide (0<=s.getD k 0)&&(decide (s.getD k 0<n)&&(decide (k=0) || decide (s.getD (k-1) 0<s.getD k 0)))) (some (true,())) (some (false,())) (fun m k a=>?_) (fun m=>?_) _ (by rw[bj];omega)]
 .show(if j6 n s=true then _ else _)=_;cases j6 n s<;>rfl
 .rw[KZ,aK a,ae,al a,ad,kS,afP,ag (by omega)];by_cases b:k=0
  .subst b;rw[<-OZ a];rfl
  .rw[Jt (by omega) (by omega),al (show k-1<s.length by omega),ad,kS,<-OZ a]
 .rw[KZ,az,aa,acr]
def ac1 {a b:List Int}(h:a.length<=1073741824):fX F0 a b=some (decide (a=b),()):=by
 rw[NF];by_cases d:a.length=b.length
 .have e:((a.length:Int) != (b.length:Int))=false:=by rw[d];exact agF (b.length:Int)
  rw[e,aa,cu (fun m k=>hA F0 (fH F0) m (fG a b (a.length:Int) k)) a.length (fun k=>a.getD k 0==b.getD k 0) (some (true,())) (some (false,())) (fun m k f=>?_) (fun m=>?_) _ (by rw[bj];omega)]
  .by_cases c:a=b
   .rw[aS c,an (fL.2 fun k _=>by rw[c];exact C3 (b.getD k 0))]
   .rw[aT c,ah];intro j;refine c (List.ext_getElem d fun k g l=>?_);have:=fL.1 j k (gP.2 g);simpa [List.getD,g,l]using this
  .rw[oD,aK f,ae,al f,ad,al (d▸f),ad,kS,kS,JI,ag (by omega),ath];by_cases i:a.getD k 0=b.getD k 0
   .simp[i]
   .simp[i]
  .rw[oD,az,aa,IN]
 .have e:((a.length:Int) != (b.length:Int))=true:=C4.2 (by omega);rw[e,ae,aT (fun c=>d (by rw[c]))]
def af9 (c:Int×Int)(q:Int×List UInt8×List Int):Bool:=bq c&&(bF q.2.1&&(decide (bm q.2.1=q.1)&&(if q.2.1=[] then decide (q.2.2=[]) else j6 c.1 q.2.2&&decide ((q.2.2.length:Int)>=Js c))))
def ao1:ai=tx []:=rfl
def ati {v c:Int}{a b:List UInt8}{s t:List Int}(h:s.length<=1073741824):lW F0 (v,tx a,s) (c,tx b,t)=some ((v==c)&&(decide (a=b)&&decide (s=t)),()):=by rw[S6];dsimp only;rw[TL,ac1 h,ao];cases (v==c)<;>cases decide (a=b)<;>rfl
def aqN {v:Int}{l:List UInt8}{s:List Int}(d:l.length<=1073741824)(e:s.length<=1073741824)(c:Int×Int):iV F0 c (v,tx l,s)=some (af9 c (v,l,s),()):=by
 rw[aoo,gK,ao];unfold af9;dsimp only;rw[OY d,ao,ajA d,ao,ac0 e,ao,Yr,ao,ao1,TL];cases bq c with
 |false=>rfl
 |true =>
  cases bF l with
  |false=>rfl
  |true =>
   by_cases a:bm l=v
   .rw[aS a,show(bm l != v)=false by rw[a];exact agF v];by_cases b:l=[]
    .rw[aS b,an b];cases s with
     |nil=>rfl|cons x r=>rfl
    .rw[aT b,ah b];cases j6 c.1 s<;>rfl
   .rw[aT a,show(bm l != v)=true from C4.2 a];rfl
def awE {c:UInt8}{l:List UInt8}(h:parts c l=[[]]):l=[]:=by
 cases l with
 |nil=>rfl
 |cons x l =>
  unfold parts at h;split at h
  .exact absurd (uO h).2 (DV c l)
  .split at h
   .cases (uO h).1
   .cases (uO h).1
def aqO {σ V:Type}{f:σ->List UInt8->Option (σ×V)}{I:σ->Prop}{Q:V->Prop}(e:∀s p a b,I s->f s p=some (a,b)->Q b/\I a):∀{l:List (List UInt8)} {s:σ} {r:List V},I s->yV f s l=some r->∀b∈r,Q b
 |[],s,r,_,h,b,hb=>by cases h;cases hb
 |p::l,s,r,g,h,b,hb=>by
  unfold yV at h;cases c:f s p with
  |none=>rw[c]at h;cases h
  |some x =>
   obtain⟨a,i⟩:=x;rw[c]at h;obtain⟨j,k⟩:=e s p a i g c;dsimp only at h;cases d:yV f a l with
   |none=>rw[d]at h;cases h
   |some m =>
    rw[d]at h;cases h;rcases dK.1 hb with rfl|hb
    .exact j
    .exact aqO e k d b hb
def ao2 {l:List UInt8}:∀s∈(bS l).1,1<=s.1:=by
 unfold bS;split
 .simp
 .split
  .simp
  .split
   .simp
   .split
    .simp
    .rename_i d;refine aqO (I:=fun s=>0<=s) (Q:=fun b=>1<=b.1) (fun s p e b f a=>?_) (by omega) d;obtain⟨g,h⟩:=aaP a;unfold DW at a;split at a
     .rename_i c;cases a;exact⟨by have:=c.2.2.2.1;show 1<=_;omega,by have:=c.2.2.2.1;omega⟩
     .cases a
def atj {l:List UInt8}(h:bF l=true)(c:l≠[]):(bS l).1≠[]:=by
 unfold bF at h;unfold bS at h ⊢;rw[ah c]at h ⊢;cases b:parts 47 l with
 |nil=>rw[b]at h;cases h
 |cons g d =>
  rw[b]at h;dsimp only at h ⊢;split
  .rename_i a;rw[an a]at h;cases h
  .rename_i a;rw[ah a]at h;have i:g=[]:=al1 fun j=>a (.inl j)
   cases e:yV DW 0 d with
   |none=>rw[e]at h;cases h
   |some r =>
    dsimp only;intro k;have f:=N6 e;rw[k]at f;have:d=[]:=Vz f.symm;subst this i;exact c (awE b)
def atk {l:List UInt8}(h:bF l=true)(b:l≠[]):1<=bm l:=by
 have c:=atj h b;unfold bm;cases a:(bS l).1.getLast? with
 |none=>exact absurd (List.getLast?_eq_none_iff.1 a) c|some s=>exact ao2 s (List.mem_of_getLast? a)
def atl:bm []=0:=rfl
def O0:bF []=true:=rfl
def ayC (c:Int×Int)(v:Int)(l:List UInt8)(s:List Int) :
  (bq c&&(((v==0)&&(decide (l=[])&&decide (s=[]))) || (decide (v>=1)&&(bF l&&((v==bm l)&&(j6 c.1 s&&decide ((s.length:Int)>=Js c)))))))=af9 c (v,l,s):=by
 unfold af9;dsimp only;cases e:bq c with
 |false=>rfl
 |true =>
  rw[kO,kO];by_cases b:l=[]
  .subst b;rw[atl,O0,an rfl,aS rfl,kO,kO,kO];by_cases a:v=0
   .subst a;rw[C3,aS rfl,aT (show ¬(0:Int)>=1 by omega),YW,Bool.or_false]
   .rw[bX.2 a,aT (show ¬(0:Int)=v from fun h=>a h.symm)];simp
  .rw[aT b,YW,YX,y7,ah b];cases d:bF l with
   |false=>rw[YW,YW,YX]
   |true =>
    have:=atk d b;by_cases a:v=bm l
    .rw[aS (show v>=1 by omega),cH.2 a,aS a.symm];rfl
    .rw[bX.2 a,aT (show ¬bm l=v from fun h=>a h.symm)];simp
def awF {v:Int}{l:List UInt8}{s:List Int}(a:l.length<=1073741824)(b:s.length<=1073741824)(c:Int×Int):Bg F0 c (v,tx l,s)=some (af9 c (v,l,s),()):=by rw[<-ayC,aoJ,pD,ao,afQ,ao];dsimp only;rw[ao1,ati b,ao,TS a,ao,aei a,ao,Ys b,ao,aqM,ao];dsimp only;generalize bF l=d;generalize bm l=e;generalize j6 c.1 s=f;generalize decide ((s.length:Int)>=Js c)=g;generalize decide (v>=1)=h;generalize ((v==0)&&(decide (l=[])&&decide (s=[])))=i;generalize (v==e)=j;cases bq c<;>cases d<;>cases f<;>cases g<;>cases h<;>cases i<;>cases j<;>rfl
def ao3 (c:Int×Int)(p:Int×List UInt8×List Int):Option (Int×List UInt8×List Int):=if p.2.1≠[]/\af9 c p=true then some p else none
def aBR (o:Option (Int×List UInt8×List Int)):b0×Bool:=match o with
 |some q=>((q.1,tx q.2.1,q.2.2),true)|none=>((0,tx [],[]),false)
def atm {v:Int}{l:List UInt8}{s:List Int}(b:l.length<=1073741824)(d:s.length<=1073741824)(c:Int×Int):Dn F0 c (v,tx l,s)=some ((aBR (ao3 c (v,l,s))).1,(aBR (ao3 c (v,l,s))).2,()):=by
 rw[aih];dsimp only;rw[aE (by omega) (by omega) (by omega),ad,ao1,TL,vr,aqN b d,ao];unfold ao3;dsimp only;by_cases a:l=[]
 .rw[aS a,ae,ah (fun h=>h.1 a)];rfl
 .rw[aT a,aa];cases e:af9 c (v,l,s) with
  |true=>rw[an ⟨a,rfl⟩];rfl|false=>rw[ah (fun h=>by cases h.2)];rfl
def eD (c:Int×Int)(view:Int):Int:=if bq c=true/\0<=view then view%c.1 else -1
def ac2 (c:Int×Int)(view s:Int):Int:=if bq c=true/\0<=view/\0<=s/\s<=c.1-1 then (view%c.1+s)%c.1 else -1
def cJ (c:Int×Int)(view i:Int):Int:=if bq c=true/\0<=view/\0<=i/\i<=c.1-1 then (i+c.1-view%c.1)%c.1 else -1
def ac3 (c:Int×Int)(view i:Int):Int:=if cJ c view i<=0 then -1 else ac2 c view ((cJ c view i-1)/c.2)
def TT {a b:Int}(h:0<=a):Int.tmod a b=a%b:=al0 h
def ne0 {n:Int}(h:4<=n):(!(n==0))=true:=by rw[bX.2 (show n≠0 by omega)];rfl
def avG {lo a x:Int}:ga lo a x=decide (lo<=x/\x<=a):=by unfold ga;by_cases b:lo<=x<;>by_cases c:x<=a<;>simp[b,c]
def ayD {n:Int}(a:4<=n)(view:Int):0<=view%n/\view%n<n:=⟨agA _ (by omega),agw _ (by omega)⟩
def Ju (c:Int×Int)(view:Int):k6 F0 c view=some (eD c view,()):=by
 rw[aoq,gK,ao];unfold eD;cases b:bq c with
 |false=>rfl
 |true =>
  have d:=ch b;by_cases a:view<0
  .rw[aS a,ah (fun h=>by omega)];rfl
  .rw[aT a,aZ,aa,aa,ne0 d.1,ad,an ⟨rfl,by omega⟩,TT (by omega)]
def ac4 {n:Int}(a:4<=n)(b:n<=7):ak (n-1)=n-1:=aB (by omega) (by omega)
def ayE (c:Int×Int)(view s:Int):Uu F0 c view s=some (ac2 c view s,()):=by
 rw[aot,gK,ao];unfold ac2;cases f:bq c with
 |false=>rfl
 |true =>
  have d:=ch f;have g:=ayD d.1 view;by_cases e:view<0
  .rw[aS e,ah (fun h=>by omega)];rfl
  .rw[aT e,aZ,aa,aa,cE,ao,ac4 d.1 d.2.1,avG];by_cases b:0<=s/\s<=c.1-1
   .rw[aS b,aZ,aa,ne0 d.1,ad,ad,an ⟨rfl,by omega,b.1,b.2⟩,TT (a:=view) (by omega),aB (by omega) (by omega),TT (by omega)]
   .rw[aT b,ah (fun h=>b ⟨h.2.2.1,h.2.2.2⟩)];rfl
def TU (c:Int×Int)(view i:Int):Hw F0 c view i=some (cJ c view i,()):=by
 rw[aos,gK,ao];unfold cJ;cases f:bq c with
 |false=>rfl
 |true =>
  have d:=ch f;have g:=ayD d.1 view;by_cases e:view<0
  .rw[aS e,ah (fun h=>by omega)];rfl
  .rw[aT e,aZ,aa,aa,cE,ao,ac4 d.1 d.2.1,avG];by_cases b:0<=i/\i<=c.1-1
   .rw[aS b,aZ,aa,ne0 d.1,ad,ad,an ⟨rfl,by omega,b.1,b.2⟩,TT (a:=view) (by omega),aB (n:=i+c.1) (by omega) (by omega),aB (by omega) (by omega),TT (by omega)]
   .rw[aT b,ah (fun h=>b ⟨h.2.2.1,h.2.2.2⟩)];rfl
def amK (c:Int×Int)(view i:Int):-1<=cJ c view i/\cJ c view i<=6:=by
 unfold cJ;split
 .rename_i h;have a:=ch h.1;have b:=agA (i+c.1-view%c.1) (show c.1≠0 by omega);have d:=agw (i+c.1-view%c.1) (show 0<c.1 by omega);omega
 .omega
def aqP {c:Int×Int}{view i:Int}(h:0<=cJ c view i):bq c=true:=by
 unfold cJ at h;split at h
 .rename_i a;exact a.1
 .omega
def aCd {a b:Int}(c:0<=a)(d:a<=6)(e:1<=b):0<=a/b/\a/b<=6:=⟨Int.ediv_nonneg c (by omega),Int.le_trans (Int.ediv_le_self b c) d⟩
def ayF (c:Int×Int)(view i:Int):Uv F0 c view i=some (ac3 c view i,()):=by
 rw[atd,TU,ao];unfold ac3;have f:=amK c view i;by_cases d:cJ c view i<=0
 .rw[aS (show(cJ c view i,()).1<=0 from d),ae,an d]
 .have e:=ch (aqP (c:=c) (view:=view) (i:=i) (by omega));have g:=aCd (a:=cJ c view i-1) (b:=c.2) (by omega) (by omega) e.2.2.1;rw[aT (show ¬(cJ c view i,()).1<=0 from d),aa,ah d,show(!(c.2==0))=true by rw[bX.2 (show c.2≠0 by omega)];rfl,ad];dsimp only;rw[aB (n:=cJ c view i-1) (by omega) (by omega),apM (show 0<=cJ c view i-1 by omega),aB (by omega) (by omega),ayE,ao]
end Go.Am.Tryz
