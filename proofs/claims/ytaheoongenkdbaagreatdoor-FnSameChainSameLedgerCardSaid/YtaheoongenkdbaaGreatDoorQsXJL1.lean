/- No condition. -/
import Derived.Test.YtaheoongenkdbaaGreatDoorQsXJG7
import Derived.Lib.MinMaxS
import Derived.Lib.CutLaws
import Derived.Lib.PathFns
import Derived.Lib.SplitLaws
import Derived.Test.YtaheoongenkdbaaGreatDoorQsAmData
set_option linter.all false
namespace Go.Am.Tryz
open Go.Am
def I64 (n:Int):Prop:=-9223372036854775808<=n/\n<=9223372036854775807
def BC {n:Int}(h:I64 n):jB F0 n=some (tx (Lib.itoa n),()):=by
 rw[akp];by_cases a:n=0
 .subst a;simp only[aal,ae]
  congr 2
  simp[tx,Lib.itoa,Lib.decDigits]
 .rw[show(n==0)=false from bR.2 a,aa];have r:(Lib.decDigits n.natAbs).length<=20:=by rw[Lib.decDigits_length];exact Lib.nDigits_le20 _ (by obtain⟨f,g⟩:=h;omega)
  refine aye (fun m (x:Int×List UInt8)=>sd F0 (Ew F0) m (mL x.1 (decide (n<0)) (tx x.2))) _ (fun x=>I64 x.1/\azE x.1.natAbs++x.2=Lib.decDigits n.natAbs) (fun x=>x.1.natAbs) (fun m x p=>?_) _ (n,[]) ⟨h,?_⟩ ?_
  .obtain⟨x,l⟩:=x;obtain⟨⟨f,g⟩,b⟩:=p;simp only at f g b ⊢;have s:l.length<=20:=by have:=ve List.length b;rw[aL]at this;omega
   by_cases k:x=0
   .left;subst k;rw[Il];simp only[ajw,aa,aaR];rw[show azE (Int.natAbs 0)=[] from rfl,Fc]at b;subst b;by_cases c:n<0
    .rw[aH c,ae,gz (by rw[bs];have:(ByteArray.mk #[45]).size=1:=rfl;omega),ad,show ByteArray.mk #[45]=tx [45] from rfl,fs];unfold Lib.itoa;rw[ah c];rfl
    .rw[aK c,aa];unfold Lib.itoa;rw[af c,show n.natAbs=n.toNat by omega]
   .right;have o:x.natAbs%10<10:=YN _ (by omega);have aFr:(Int.tdiv x 10).natAbs=x.natAbs/10:=by rw[Int.natAbs_tdiv];rfl
    have i:I64 (Int.tdiv x 10):=⟨by omega,by omega⟩;have q:=aBg (u:=x.natAbs) (by omega);have j:ai (Int.tdiv x 10)=Int.tdiv x 10:=aF i.1 i.2;refine⟨(Int.tdiv x 10,UInt8.ofNat (48+x.natAbs%10)::l),?_,⟨i,?_⟩,?_⟩
    .rw[Il,show(x != 0)=true from Dk.2 k,ae];have key:tx [UInt8.ofNat (48+x.natAbs%10)]++tx l=tx (UInt8.ofNat (48+x.natAbs%10)::l):=by rw[fs];rfl
     have d:okC F0 (tx [UInt8.ofNat (48+x.natAbs%10)]).size (tx l).size=true:=gz (by rw[bs,bs];simp only[aV,ba];omega);by_cases t:x<0
     .have e:Int.tmod x 10=-((x.natAbs%10:Nat):Int):=by obtain⟨u,rfl⟩:∃u:Nat,x=-(u:Int):=⟨x.natAbs,by omega⟩;rw[Int.neg_tmod,Int.natAbs_neg,Int.natAbs_natCast];rfl
      by_cases a:x.natAbs%10=0
      .rw[e,a,show decide (-((0:Nat):Int)<0)=false from rfl,aa,show(48+-((0:Nat):Int))=48+((0:Nat):Int) from rfl,dig (by omega)];rw[a]at d key;rw[d,ad,key,j]
      .rw[e,aH (by omega),ae,aF (n:=0 - -((x.natAbs%10:Nat):Int)) (by omega) (by omega),show(0:Int) - -((x.natAbs%10:Nat):Int)=((x.natAbs%10:Nat):Int) by omega,dig o,d,ad,key,j]
     .have e:Int.tmod x 10=((x.natAbs%10:Nat):Int):=by obtain⟨u,rfl⟩:∃u:Nat,x=(u:Int):=⟨x.natAbs,by omega⟩;rfl
      rw[e,aK (by omega),aa,dig o,d,ad,key,j]
    .simp only;rw[aFr,<-b,q];simp
    .simp only;rw[aFr];omega
  .simp only[fS];unfold azE;rw[af (by omega)]
  .simp only;rw[bH];obtain⟨f,g⟩:=h;omega
def Pb {n:Int}(h:I64 n):jM F0 n=some (tx (Lib.itoa n),()):=by rw[alA];unfold strconv_Itoa;rw[aH h.1,aH h.2];rfl
def Qd {n:Int}(h:I64 n):(Lib.itoa n).length<=21:=Lib.itoa_length_le n h.1 h.2
def ae2 {xs:List ByteArray}{l:List (List UInt8)}{s:List UInt8}(h:(xs.map fun b=>b.data.toList)=l)(d:xs.length<=67108864)(e:(Lib.join l s).length<=67108864):strings_Join F0 xs (tx s)=some (tx (Lib.join l s),()):=by have a:decide ((xs.length:Int)<=F0.mem)=true:=aH (show((xs.length:Nat):Int)<=140737488355328 by omega);have c:decide (((Lib.join l s).length:Int)<=F0.mem)=true:=aH (show(((Lib.join l s).length:Nat):Int)<=140737488355328 by omega);unfold strings_Join aki;rw[h,gn,a,c];rfl
def Pc (a b:List UInt8):((tx a).toList==(tx b).toList)=decide (a=b):=by
 rw[Lib.toList_data,Lib.toList_data,gn,gn];by_cases h:a=b
 .simp[h]
 .simp[h]
def VX (l:List UInt8)(k:Nat):iq (tx l) (k:Int)=((l.getD k 0).toNat:Int):=by unfold iq;rw[gn];rfl
def asj (c:UInt8):c.toNat<256:=UInt8.toNat_lt c
def isD (c:UInt8):Bool:=decide (48<=c.toNat)&&decide (c.toNat<=57)
def val:List UInt8->Nat->Nat
 |[],n=>n|c::l,n=>val l (10*n+(c.toNat-48))
def eZ (l:List UInt8):Int×Bool :=
 if l.length<1\/6<l.length then (0,false)
 else if l.all isD then (if Lib.itoa (val l 0:Int)=l then ((val l 0:Int),true) else (0,false)) else (0,false)
def amk (a b:List UInt8)(n:Nat):val (a++b) n=val b (val a n):=by
 induction a generalizing n with
 |nil=>rfl|cons c l d=>exact d _
def aEn {l:List UInt8}(h:∀c∈l,isD c=true)(n:Nat):val l n<(n+1)*10 ^ l.length:=by
 induction l generalizing n with
 |nil=>simp[val]
 |cons c l a =>
  have b:=a (fun d e=>h d (rL _ e)) (10*n+(c.toNat-48));have f:=h c J5;simp only[isD,aD,bV]at f;refine Dj b ?_;rw[aV,Nat.pow_succ];have g:10*n+(c.toNat-48)+1<=(n+1)*10:=by omega
  calc (10*n+(c.toNat-48)+1)*10 ^ l.length<=((n+1)*10)*10 ^ l.length:=Fa _ g
   _=(n+1)*(10 ^ l.length*10):=by rw[Nat.mul_assoc,Nat.mul_comm 10]
def aBu {l:List UInt8}{k:Nat}(h:k<l.length):val (l.take (k+1)) 0=10*val (l.take k) 0+((l.getD k 0).toNat-48):=by rw[J6,aY h 0,amk];rfl
def ae3 {l:List UInt8}(a:l.length<=6)(h:∀c∈l,isD c=true):val l 0<=999999:=by have b:=aEn h 0;have d:10 ^ l.length<=10 ^ 6:=Nat.pow_le_pow_right (by omega) a;omega
def aml (l:List UInt8):0<=(eZ l).1/\(eZ l).1<=999999:=by
 unfold eZ;split
 .simp
 .split
  .rename_i d a;have:=ae3 (l:=l) (by omega) (fun c b=>hD.1 a c b);split
   .simp only;omega
   .simp
  .simp
def aud {l:List UInt8}(t:1<=l.length)(o:l.length<=6){X:Nat->Int->Int->Option (Int×(Bool×Unit))}{D:Int->Option (ByteArray×Unit)}(p:∀n,I64 n->D n=some (tx (Lib.itoa n),()))
  (q:∀n k (m:Nat),k<l.length->m<=999999->X (n+1) m k=br (decide (((l.getD k 0).toNat:Int)<48)) (some (0,false,())) (br (decide (((l.getD k 0).toNat:Int)>57)) (some (0,false,())) (X n (ai (ai (10*m)+ai ((l.getD k 0).toNat-48))) ((k+1:Nat):Int))))
  (s:∀n (m:Nat),X (n+1) m l.length=(D m).bind fun r=>br (!(r.1.toList==(tx l).toList)) (some (0,false,())) (some ((m:Int),true,()))) (n:Nat) (u:6<n):X n 0 0=some ((eZ l).1,(eZ l).2,()):=by
 refine cp (fun n i (m:Nat)=>X n m i) l.length (fun k m=>m=val (l.take k) 0/\∀c∈l.take k,isD c=true) _ (fun n k m d f=>?_) (fun n m f=>?_) n 0 0 (aQ _) ⟨rfl,by simp⟩ (by omega)
 .obtain⟨rfl,b⟩:=f;have g:=ae3 (l:=l.take k) (by rw[bz];omega) b;have j:=mJ d (0:UInt8);have v:=asj (l.getD k 0);rw[q n k _ d g];by_cases w:(l.getD k 0).toNat<48
  .left;rw[aH (by omega),ae];have:l.all isD=false:=by rw[ade];exact⟨_,j,fun h=>by simp only[isD,aD,bV]at h;omega⟩
   unfold eZ;rw[af (by omega),this];rfl
  .by_cases x:(l.getD k 0).toNat>57
   .left;rw[aK (by omega),aa,aH (by omega),ae];have:l.all isD=false:=by rw[ade];exact⟨_,j,fun h=>by simp only[isD,aD,bV]at h;omega⟩
    unfold eZ;rw[af (by omega),this];rfl
   .right;refine⟨val (l.take (k+1)) 0,?_,rfl,?_⟩
    .rw[aK (by omega),aa,aK (by omega),aa,aBu d,aF (n:=10*_) (by omega) (by omega),aF (n:=((l.getD k 0).toNat:Int)-48) (by omega) (by omega),aF (by omega) (by omega)]
     congr 1
     omega
    .intro c a;rw[J6,aY d 0]at a;rcases kj.1 a with a|a
     .exact b c a
     .simp only[ajv,ki]at a;subst a;simp only[isD,aD,bV];omega
 .obtain⟨rfl,b⟩:=f;rw[mH]at b ⊢;have g:=ae3 o b;rw[s,p _ ⟨by omega,by omega⟩,ag,Pc];unfold eZ;rw[af (by omega),ah (hD.2 b)];by_cases e:Lib.itoa (val l 0:Int)=l
  .rw[aH e,ah e];rfl
  .rw[aK e,af e];rfl
def BD (l:List UInt8):lV F0 (tx l)=some ((eZ l).1,(eZ l).2,()):=by
 rw[akq,bs];by_cases b:l.length<1
 .rw[aH (by omega),ae];unfold eZ;rw[ah (.inl b)]
 .rw[aK (by omega),aa];by_cases c:6<l.length
  .rw[aH (by omega),ae];unfold eZ;rw[ah (.inr c)]
  .rw[aK (by omega),aa];refine aud (X:=fun n m k=>BW F0 (sP F0) n (sO (tx l) m k)) (by omega) (by omega) (fun n d=>BC d) (fun n k m a e=>?_) (fun n m=>?_) _ (by rw[bH];omega)
   .have f:=asj (l.getD k 0);rw[Io];simp only[bs,VX,adz,aO a,ao a,ae,ad,al (show k+1<=9223372036854775807 by omega)]
    congr 2
    congr 2
    rw[aF (n:=10*(m:Int)) (by omega) (by omega),aF (n:=((l.getD k 0).toNat:Int)) (by omega) (by omega),aF (n:=10*(m:Int)+((l.getD k 0).toNat:Int)) (by omega) (by omega),aF (n:=((l.getD k 0).toNat:Int)-48) (by omega) (by omega)]
    congr 1
    omega
   .rw[Io];simp only[bs,aE,aa,aaS]
def Ed (l:List UInt8):lY F0 (tx l)=some ((eZ l).1,(eZ l).2,()):=by
 rw[alB,bs];by_cases b:l.length<1
 .rw[aH (by omega),ae];unfold eZ;rw[ah (.inl b)]
 .rw[aK (by omega),aa];by_cases c:6<l.length
  .rw[aH (by omega),ae];unfold eZ;rw[ah (.inr c)]
  .rw[aK (by omega),aa];refine aud (X:=fun n m k=>CF F0 (tR F0) n (tQ (tx l) m k)) (by omega) (by omega) (fun n d=>Pb d) (fun n k m a e=>?_) (fun n m=>?_) _ (by rw[bH];omega)
   .have f:=asj (l.getD k 0);rw[I8];simp only[bs,VX,aee,aO a,ao a,ae,ad,al (show k+1<=9223372036854775807 by omega)];by_cases g:(l.getD k 0).toNat<48
    .rw[aH (by omega),ae,ae]
    .rw[IntWalk.u8_in _ (by omega)]
   .rw[I8];simp only[bs,aE,aa,abz]
def amm (l:List UInt8)(k:Nat):(tx l).extract 0 k=tx (l.take k):=by rw[QO ((tx l).extract 0 k),Lib.Pa.extract_upto_list,gn]
def extract_from (l:List UInt8)(k:Nat):(tx l).extract k (tx l).size=tx (l.drop k):=by rw[QO ((tx l).extract k (tx l).size),Lib.extract_to_end,gn]
def amn {a b:List UInt8}{c:UInt8}(h:c ∉ a):(a++c::b).takeWhile (· != c)=a/\(a++c::b).dropWhile (· != c)=c::b:=by
 induction a with
 |nil=>simp
 |cons x a d =>
  have e:(x != c)=true:=by simp;rintro rfl;simp at h
  have:=d fun f=>h (rL _ f)
  rw[Fb,List.takeWhile_cons,List.dropWhile_cons,e];exact⟨by simp[this.1],by simp[this.2]⟩
def aD3 {a:List UInt8}{c:UInt8}(h:c ∉ a):a.takeWhile (· != c)=a/\a.dropWhile (· != c)=[]:=by
 induction a with
 |nil=>simp
 |cons x a b =>
  have d:(x != c)=true:=by simp;rintro rfl;simp at h
  have:=b fun e=>h (rL _ e)
  rw[List.takeWhile_cons,List.dropWhile_cons,d];exact⟨by simp[this.1],by simp[this.2]⟩
def aue {l:List UInt8}{k:Nat}(h:k<l.length):l=l.take k++l.getD k 0::l.drop (k+1):=by
 have:l.getD k 0=l[k]:=by simp[List.getD,h]
 rw[this,List.getElem_cons_drop,ao8]
def apU {l:List UInt8}(c:UInt8)(s:l.length<=4294967296) :
  gA F0 (tx l) (c.toNat:Int)=some (if c∈l then (tx (l.takeWhile (· != c)),tx ((l.dropWhile (· != c)).drop 1),true,()) else (tx [],tx [],false,())):=by
 rw[an4];refine cp (fun n i (_:Unit)=>Gg F0 (wm F0) n (wj (tx l) (c.toNat:Int) i)) l.length (fun k _=>c ∉ l.take k) _ (fun n k _ d a=>?_) (fun n _ a=>?_) F0.n 0 () (aQ _) (by simp) (by rw[bH];omega)
 .rw[Kh,bs,aO d,ae,ao d,ad,VX];by_cases e:l.getD k 0=c
  .left;have f:=aue d;rw[e]at f;have j:=amn (b:=l.drop (k+1)) a;have g:((((l.getD k 0).toNat:Int))==(c.toNat:Int))=true:=by rw[e];simp
   have m:QN 0 (k:Int) (l.length:Int)=true:=by simp[QN];omega
   have o:QN ((k+1:Nat):Int) (l.length:Int) (l.length:Int)=true:=by simp only[QN,aD,bV];omega
   rw[g,ae,m,ad,al (by omega),o,ad,ahg];simp only[kC,show(0:Int).toNat=0 from rfl];have p:c∈l:=by rw[f];simp
   rw[ah p,amm,show((tx l).extract (k+1) l.length)=tx (l.drop (k+1)) by rw[<-extract_from,bs]];have q:l.takeWhile (· != c)=l.take k:=by
    have:=j.1
    rwa [<-f]at this
   have r:(l.dropWhile (· != c)).drop 1=l.drop (k+1):=by have:=j.2;rw[<-f]at this;rw[this];rfl
   rw[q,r]
  .right;have g:((((l.getD k 0).toNat:Int))==(c.toNat:Int))=false:=by refine bR.2 fun h=>e (aqG.1 (by omega))
   refine⟨(),by rw[g,aa,al (by omega)],?_⟩;rw[J6,aY d 0];simp only[ajv,kj,ki];rintro(h|h)
   .exact a h
   .exact e h.symm
 .rw[mH]at a;rw[Kh,bs,aE,aa,ady,af a];rfl
def acn {a b:List UInt8}{c:UInt8}(h:c ∉ a):Lib.indexByte (a++c::b) c=a.length:=by
 induction a with
 |nil=>simp[Lib.indexByte]
 |cons x a d =>
  have e:(x==c)=false:=by simp;rintro rfl;simp at h
  have:=d fun f=>h (rL _ f)
  rw[Fb];unfold Lib.indexByte;rw[e,this];simp
def aco {a:List UInt8}{c:UInt8}(h:c ∉ a):Lib.indexByte a c=-1:=by
 induction a with
 |nil=>rfl
 |cons x a b =>
  have d:(x==c)=false:=by simp;rintro rfl;simp at h
  have:=b fun e=>h (rL _ e)
  unfold Lib.indexByte;rw[d,this];rfl
def acp {l:List UInt8}{c:UInt8}(h:c∈l):∃a b,l=a++c::b/\c ∉ a:=by
 induction l with
 |nil=>cases h
 |cons x l g =>
  by_cases d:x=c
  .exact⟨[],l,by rw[d];rfl,by simp⟩
  .rcases fe.1 h with e|e
   .exact absurd e.symm d
   .obtain⟨a,b,i,j⟩:=g e;exact⟨x::a,b,by rw[i];rfl,fun k=>by
     rcases fe.1 k with f|f
     .exact d f.symm
     .exact j f⟩
def aC5 (l:List UInt8)(c:UInt8):Lib.cut l [c]=(l.takeWhile (· != c),(l.dropWhile (· != c)).drop 1,decide (c∈l)):=by
 unfold Lib.cut;rw[Lib.index_one];by_cases h:c∈l
 .obtain⟨a,b,rfl,d⟩:=acp h;rw[acn d,ah (by omega),(amn d).1,(amn d).2];simp[List.take_append,List.drop_append]
 .rw[aco h,af (by omega),(aD3 h).1,(aD3 h).2];simp[h]
def uE {l:List UInt8}(c:UInt8)(a:l.length<4294967281):strings_Cut F0 (tx l) (tx [c])=some (tx (l.takeWhile (· != c)),tx ((l.dropWhile (· != c)).drop 1),decide (c∈l),()):=by
 have h:Nat.blt (tx l).size 4294967281=true:=by rw[bs];simpa using a
 unfold strings_Cut;rw[h,ad,gn,gn,aC5];rfl
abbrev dU:=Int×(Int×(Int×Int))
def acq (x lo hi:Int):bI F0 x lo hi=some (decide (lo<=x)&&decide (x<=hi),()):=by
 rw[arC];by_cases h:lo<=x
 .rw[aH (show x>=lo from h),ae,hH]
 .rw[aK (show ¬x>=lo from h),aa,WV]
def Qe (x lo hi:Int):aU F0 x lo hi=some (decide (lo<=x)&&decide (x<=hi),()):=by
 rw[aly];by_cases h:lo<=x
 .rw[aH (show x>=lo from h),ae,hH]
 .rw[aK (show ¬x>=lo from h),aa,WV]
def inB (x lo hi:Int):Bool:=decide (lo<=x)&&decide (x<=hi)
def fB (x:dU):Bool:=inB x.1 0 3&&inB x.2.1 0 3&&inB x.2.2.1 0 1000&&inB x.2.2.2 0 99
def awA (a b:Bool):br a (some (b,())) (some (false,()))=some (a&&b,()):=by cases a<;>rfl
def Pd (x:dU):pI F0 x=some (fB x,()):=by rw[arD];simp only[acq,ag,awA];simp only[fB,inB,Bool.and_assoc]
def BE (x:dU):nG F0 x=some (fB x,()):=by rw[arV];simp only[Qe,ag,awA];simp only[fB,inB,Bool.and_assoc]
def nJ {x:dU}(h:fB x=true):(0<=x.1/\x.1<=3)/\(0<=x.2.1/\x.2.1<=3)/\(0<=x.2.2.1/\x.2.2.1<=1000)/\(0<=x.2.2.2/\x.2.2.2<=99):=by simp only[fB,inB,aD,bV]at h;exact⟨h.1.1.1,h.1.1.2,h.1.2,h.2⟩
def txL (x:dU):List UInt8:=Lib.itoa x.1++62::(Lib.itoa x.2.1++58::(Lib.itoa x.2.2.1++35::Lib.itoa x.2.2.2))
def amo {x:dU}(h:fB x=true):(txL x).length<=90:=by obtain⟨a,b,c,d⟩:=nJ h;have e:=Qd (n:=x.1) ⟨by omega,by omega⟩;have f:=Qd (n:=x.2.1) ⟨by omega,by omega⟩;have g:=Qd (n:=x.2.2.1) ⟨by omega,by omega⟩;have i:=Qd (n:=x.2.2.2) ⟨by omega,by omega⟩;simp only[txL,aL,aV];omega
def ZK (x:dU):List UInt8:=if fB x=true then txL x else []
def amp (x:dU):vo F0 x=some (tx (ZK x),()):=by
 rw[akr,Pd,ag];unfold ZK;cases h:fB x with
 |false=>rfl
 |true =>
  obtain⟨f,g,i,j⟩:=nJ h;have a:=BC (n:=x.1) ⟨by omega,by omega⟩;have b:=BC (n:=x.2.1) ⟨by omega,by omega⟩;have c:=BC (n:=x.2.2.1) ⟨by omega,by omega⟩;have d:=BC (n:=x.2.2.2) ⟨by omega,by omega⟩;have e:=amo h;simp only[txL,aL,aV]at e;simp only[aG,aa,a,b,c,d,ag,show ByteArray.mk #[62]=tx [62] from rfl,show ByteArray.mk #[58]=tx [58] from rfl,show ByteArray.mk #[35]=tx [35] from rfl,fs,bs];rw[gz (by simp only[aL,aV,ba];omega),ad,gz (by simp only[aL,aV,ba];omega),ad,gz (by simp only[aL,aV,ba];omega),ad,gz (by simp only[aL,aV,ba];omega),ad,gz (by simp only[aL,aV,ba];omega),ad,gz (by simp only[aL,aV,ba];omega),ad];simp[txL]
def agF (x:dU):DJ F0 x=some (tx (ZK x),()):=by
 rw[alC,BE,ag];unfold ZK;cases h:fB x with
 |false=>rfl
 |true =>
  obtain⟨f,g,i,j⟩:=nJ h;have a:=Pb (n:=x.1) ⟨by omega,by omega⟩;have b:=Pb (n:=x.2.1) ⟨by omega,by omega⟩;have c:=Pb (n:=x.2.2.1) ⟨by omega,by omega⟩;have d:=Pb (n:=x.2.2.2) ⟨by omega,by omega⟩;have e:=amo h;simp only[txL,aL,aV]at e;simp only[aG,aa,a,b,c,d,ag,show ByteArray.mk #[62]=tx [62] from rfl,show ByteArray.mk #[58]=tx [58] from rfl,show ByteArray.mk #[35]=tx [35] from rfl,fs,bs];rw[gz (by simp only[aL,aV,ba];omega),ad,gz (by simp only[aL,aV,ba];omega),ad,gz (by simp only[aL,aV,ba];omega),ad,gz (by simp only[aL,aV,ba];omega),ad,gz (by simp only[aL,aV,ba];omega),ad,gz (by simp only[aL,aV,ba];omega),ad];simp[txL]
def ayT (u:Nat):∀c∈Lib.decDigits u,isD c=true:=by
 induction u using Nat.strongRecOn with
 |ind u d =>
  intro c a;rw[Lib.decDigits]at a;have key:∀v:Nat,v<10->isD (UInt8.ofNat (48+v))=true:=fun v e=>by
   have:(UInt8.ofNat (48+v)).toNat=48+v:=by rw[UInt8.toNat_ofNat'];omega
   simp only[isD,this,aD,bV];omega
  by_cases b:u<10
  .rw[dif_pos b,ki]at a;rw[a];exact key u b
  .rw[dif_neg b]at a;rcases kj.1 a with a|a
   .exact d (u/10) (by omega) c a
   .rw[ki]at a;rw[a];exact key _ (YN _ (by omega))
def aC6 (u:Nat):val (Lib.decDigits u) 0=u:=by
 induction u using Nat.strongRecOn with
 |ind u b =>
  have key:∀v:Nat,v<10->(UInt8.ofNat (48+v)).toNat=48+v:=fun v c=>by rw[UInt8.toNat_ofNat'];omega
  rw[Lib.decDigits];by_cases a:u<10
  .rw[dif_pos a];simp only[val,key u a];omega
  .rw[dif_neg a,amk,b (u/10) (by omega)];simp only[val,key (u%10) (YN _ (by omega))];omega
def aC7 {k:Nat}:∀{u:Nat},u<10 ^ (k+1)->1<=(Lib.decDigits u).length/\(Lib.decDigits u).length<=k+1:=by
 induction k with
 |zero =>
  intro u a;rw[Lib.decDigits,dif_pos (by omega)];simp
 |succ k c =>
  intro u a;rw[Lib.decDigits];by_cases b:u<10
  .rw[dif_pos b];simp
  .rw[dif_neg b];have:=c (u:=u/10) (by rw[Nat.pow_succ]at a;omega);rw[aL,dr];omega
def amq (u:Nat):Lib.itoa (u:Int)=Lib.decDigits u:=Lib.itoa_nonneg u
def vI {n:Int}(a:0<=n)(b:n<=999999):eZ (Lib.itoa n)=(n,true):=by obtain⟨u,rfl⟩:∃u:Nat,n=u:=⟨n.toNat,by omega⟩;rw[amq];have c:=aC7 (k:=5) (u:=u) (by omega);unfold eZ;rw[af (by omega),ah (hD.2 (ayT u)),aC6,amq,ah rfl]
def ae5 {n:Int}(b:0<=n){c:UInt8}(a:isD c=false):c ∉ Lib.itoa n:=by obtain⟨u,rfl⟩:∃u:Nat,n=u:=⟨n.toNat,by omega⟩;rw[amq];intro h;rw[ayT u c h]at a;cases a
def Ab (l:List UInt8)(c:UInt8):List UInt8×List UInt8:=if c∈l then (l.takeWhile (· != c),(l.dropWhile (· != c)).drop 1) else ([],[])
def er (l:List UInt8)(c:UInt8):List UInt8×List UInt8:=(l.takeWhile (· != c),(l.dropWhile (· != c)).drop 1)
def ae6 (l:List UInt8):dU:=((eZ (Ab l 62).1).1,(eZ (Ab (Ab l 62).2 58).1).1,(eZ (Ab (Ab (Ab l 62).2 58).2 35).1).1,(eZ (Ab (Ab (Ab l 62).2 58).2 35).2).1)
def awB (l:List UInt8):dU:=((eZ (er l 62).1).1,(eZ (er (er l 62).2 58).1).1,(eZ (er (er (er l 62).2 58).2 35).1).1,(eZ (er (er (er l 62).2 58).2 35).2).1)
def asl {a b:List UInt8}{c:UInt8}(h:c ∉ a):Ab (a++c::b) c=(a,b):=by unfold Ab;rw[ah (by simp),(amn h).1,(amn h).2];rfl
def asm {a b:List UInt8}{c:UInt8}(h:c ∉ a):er (a++c::b) c=(a,b):=by unfold er;rw[(amn h).1,(amn h).2];rfl
def aBv {x:dU}(h:fB x=true):ae6 (txL x)=x:=by obtain⟨a,b,c,d⟩:=nJ h;unfold ae6 txL;rw[asl (ae5 a.1 (by decide)),asl (ae5 b.1 (by decide)),asl (ae5 c.1 (by decide))];simp only[vI a.1 (by omega),vI b.1 (by omega),vI c.1 (by omega),vI d.1 (by omega)]
def auf {x:dU}(h:fB x=true):awB (txL x)=x:=by obtain⟨a,b,c,d⟩:=nJ h;unfold awB txL;rw[asm (ae5 a.1 (by decide)),asm (ae5 b.1 (by decide)),asm (ae5 c.1 (by decide))];simp only[vI a.1 (by omega),vI b.1 (by omega),vI c.1 (by omega),vI d.1 (by omega)]
def WO (l:List UInt8):dU×Bool:=if fB (ae6 l)=true/\txL (ae6 l)=l then (ae6 l,true) else ((0,0,0,0),false)
def aug (l:List UInt8)(c:UInt8):((l.dropWhile (· != c)).drop 1).length<=l.length:=by rw[a1];have:=(List.dropWhile_sublist (l:=l) (· != c)).length_le;omega
def asn (l:List UInt8)(c:UInt8):(Ab l c).2.length<=l.length:=by
 unfold Ab;split
 .exact aug l c
 .simp
def ajd (l:List UInt8)(c:UInt8):(er l c).2.length<=l.length:=aug l c
def amr {l:List UInt8}(c:UInt8)(a:l.length<=4294967296):∃b,gA F0 (tx l) (c.toNat:Int)=some (tx (Ab l c).1,tx (Ab l c).2,b,()):=by
 rw[apU c a];unfold Ab;split
 .exact⟨_,rfl⟩
 .exact⟨_,rfl⟩
def aBw {l:List UInt8}(g:l.length<=4294967280):VL F0 (tx l)=some ((WO l).1,(WO l).2,()):=by
 obtain⟨i,c⟩:=amr (l:=l) 62 (by omega);obtain⟨j,d⟩:=amr (l:=(Ab l 62).2) 58 (by have:=asn l 62;omega);obtain⟨k,e⟩:=amr (l:=(Ab (Ab l 62).2 58).2) 35 (by have:=asn l 62;have:=asn (Ab l 62).2 58;omega);rw[arE];rw[show gA F0 (tx l) 62=_ from c,ag,show gA F0 _ 58=_ from d,ag,show gA F0 _ 35=_ from e,ag,BD,ag,BD,ag,BD,ag,BD,ag,show aj=tx [] from rfl,Pc];have f:((eZ (Ab l 62).1).1,(eZ (Ab (Ab l 62).2 58).1).1,(eZ (Ab (Ab (Ab l 62).2 58).2 35).1).1,(eZ (Ab (Ab (Ab l 62).2 58).2 35).2).1)=ae6 l:=rfl;simp only[f,amp,ag,Pc];unfold WO ZK;by_cases cU:fB (ae6 l)=true
 .rw[ah cU];by_cases a:txL (ae6 l)=l
  .have b:¬l=[]:=by rw[<-a];simp[txL]
   rw[ah ⟨cU,a⟩,aK b,aa,aH a];rfl
  .rw[af (fun h=>a h.2),aK a];cases decide (l=[])<;>rfl
 .rw[af cU,af (fun h=>cU h.1)];by_cases b:l=[]
  .rw[aH b];rfl
  .rw[aK b,aa,aK (fun h=>b h.symm)];rfl
def azK {l:List UInt8}(h:l.length<4294967281):VQ F0 (tx l)=some ((WO l).1,(WO l).2,()):=by
 have i:=uE (l:=l) 62 h;have t:=ajd l 62;have u:=ajd (er l 62).2 58;have j:=uE (l:=(er l 62).2) 58 (by omega);have k:=uE (l:=(er (er l 62).2 58).2) 35 (by omega);rw[arW];rw[show ByteArray.mk #[62]=tx [62] from rfl,i,ag,show ByteArray.mk #[58]=tx [58] from rfl];rw[show strings_Cut F0 (tx ((l.dropWhile (· != 62)).drop 1)) (tx [58])=_ from j,ag,show ByteArray.mk #[35]=tx [35] from rfl];rw[show strings_Cut F0 (tx (((er l 62).2.dropWhile (· != 58)).drop 1)) (tx [35])=_ from k,ag];have m:=fun (a b c d:ByteArray)=>(show ay [a,b,c,d] 0 ByteArray.empty=a from rfl)
 have n:=fun (a b c d:ByteArray)=>(show ay [a,b,c,d] 1 ByteArray.empty=b from rfl)
 have o:=fun (a b c d:ByteArray)=>(show ay [a,b,c,d] 2 ByteArray.empty=c from rfl)
 have p:=fun (a b c d:ByteArray)=>(show ay [a,b,c,d] 3 ByteArray.empty=d from rfl)
 rw[show bN 0 4=true from rfl,ad,m,Ed,ag,show bN 1 4=true from rfl,ad,n,Ed,ag,show bN 2 4=true from rfl,ad,o,Ed,ag,show bN 3 4=true from rfl,ad,p,Ed,ag];have q:((eZ (l.takeWhile (· != 62))).1,(eZ ((er l 62).2.takeWhile (· != 58))).1,(eZ ((er (er l 62).2 58).2.takeWhile (· != 35))).1,(eZ (((er (er l 62).2 58).2.dropWhile (· != 35)).drop 1)).1)=awB l:=rfl;simp only[q,BE,agF,ag,Pc];unfold WO ZK;by_cases cU:fB (awB l)=true
 .rw[ah cU,cU];by_cases e:txL (awB l)=l
  .have r:ae6 l=awB l:=by have:=aBv cU;rw[e]at this;exact this
   rw[r,ah ⟨cU,e⟩,aH e];rfl
  .have:¬(fB (ae6 l)=true/\txL (ae6 l)=l):=by rintro⟨f,g⟩;have:=auf f;rw[g]at this;rw[this]at e;exact e g
   rw[af this,aK e];rfl
 .have:¬(fB (ae6 l)=true/\txL (ae6 l)=l):=by rintro⟨f,g⟩;have:=auf f;rw[g]at this;rw[this]at cU;exact cU f
  rw[af this];have s:fB (awB l)=false:=by simpa using cU
  rw[s];rfl
def aBx (l:List UInt8):fB (WO l).1=true:=by
 unfold WO;split
 .rename_i a;exact a.1
 .rfl
def parts (c:UInt8):List UInt8->List (List UInt8)
 |[]=>[[]]|x::l=>if x=c then []::parts c l else match parts c l with
  |p::a=>(x::p)::a|[]=>[[x]]
def Ee (c:UInt8)(l:List UInt8):parts c l≠[]:=by
 cases l with
 |nil=>simp[parts]
 |cons x l =>
  unfold parts;split
  .simp
  .split<;>simp
def ams {c:UInt8}{a:List UInt8}(h:c ∉ a):parts c a=[a]:=by
 induction a with
 |nil=>rfl
 |cons x a b =>
  have d:¬x=c:=by rintro rfl;simp at h
  unfold parts;rw[af d,b fun e=>h (rL _ e)]
def auh {c:UInt8}{a b:List UInt8}(h:c ∉ a):parts c (a++c::b)=a::parts c b:=by
 induction a with
 |nil =>
  rw[Fc]
  conv=>lhs;unfold parts
  rw[ah rfl]
 |cons x a d =>
  have e:¬x=c:=by rintro rfl;simp at h
  rw[Fb]
  conv=>lhs;unfold parts
  rw[af e,d fun f=>h (rL _ f)]
def HP (c:UInt8)(l:List UInt8):(parts c l).length<=l.length+1:=by
 induction l with
 |nil=>simp[parts]
 |cons x l a =>
  unfold parts;split
  .simp only[aV];omega
  .split
   .rename_i p b h;rw[h]at a;simp only[aV]at a ⊢;omega
   .simp
def BF {c:UInt8}:∀{l p:List UInt8},p∈parts c l->p.length<=l.length
 |[],p,h=>by simp only[parts,ki]at h;rw[h];simp
 |x::l,p,h=>by
  unfold parts at h;split at h
  .rcases fe.1 h with rfl|h
   .simp
   .have:=BF h;simp only[aV];omega
  .split at h
   .rename_i q b a;rcases fe.1 h with rfl|h
    .have:=BF (c:=c) (l:=l) (p:=q) (by rw[a];simp);simp only[aV];omega
    .have:=BF (c:=c) (l:=l) (p:=p) (by rw[a];simp[h]);simp only[aV];omega
   .rw[ki]at h;rw[h];simp
def Mi (l:List UInt8)(a b:Nat):(tx l).extract a b=tx ((l.drop a).take (b-a)):=by rw[QO ((tx l).extract a b),Lib.extract_data,gn]
def apV {l:List UInt8}(c:UInt8)(w:l.length<=4294967296):uI F0 (tx l) (c.toNat:Int)=some ((parts c l).map tx,()):=by
 have x:=HP c l;rw[an3];refine cp (fun n i (z:Nat×List ByteArray)=>pH F0 (Ii F0) n (kI (tx l) (c.toNat:Int) (z.1:Int) i z.2)) (l.length+1)
  (fun k z=>if k<=l.length then ∃done:List (List UInt8),z.2=done.map tx/\parts c l=done++parts c (l.drop z.1)/\z.1<=k/\c ∉ (l.drop z.1).take (k-z.1) else z.2=(parts c l).map tx) _ (fun n k z y d=>.inr ?_) (fun n z d=>?_) F0.n 0 (0,[]) (aQ _) ?_ (by rw[bH];omega)
 .obtain⟨a,xs⟩:=z;rw[ah (by omega)]at d;obtain⟨done,rfl,e,p,f⟩:=d;simp only at e p f;have A:done.length+1<=l.length+1:=by have g:=ve List.length e;have B:0<(parts c (l.drop a)).length:=List.length_pos_iff.2 (Ee c _);rw[aL]at g;omega
  have q:decide ((k:Int)<=(l.length:Int))=true:=aH (by omega);rw[Kg,bs,q,ae];have r:QN (a:Int) (k:Int) (l.length:Int)=true:=by simp only[QN,aD,bV];omega
  have s:∀b:ByteArray,ee F0 (done.map tx).length [b].length 16=true:=fun b=>av (by omega) (by omega) (by rw[r7];simp only[aV,ba];omega)
  simp only[kC,Mi,r,s,ad,al (show k+1<=9223372036854775807 by omega)];by_cases t:k=l.length
  .subst t;rw[aal,ae];refine⟨(l.length+1,(parts c l).map tx),?_,by rw[af (by omega)]⟩;have u:(l.drop a).take (l.length-a)=l.drop a:=ajq (by rw[a1];omega);rw[u]at f ⊢;rw[e,ams f];simp
  .have hlt:k<l.length:=by omega
   have v:(((k:Nat):Int)==(l.length:Int))=false:=bR.2 (by omega);rw[v,aa,ao hlt,ad,VX];have m:l.drop a=(l.drop a).take (k-a)++l.getD k 0::l.drop (k+1):=by
    have:=aue (l:=l.drop a) (k:=k-a) (by rw[a1];omega);have o:(l.drop a).getD (k-a) 0=l.getD k 0:=by simp only[SN,afC];rw[show a+(k-a)=k by omega]
    rw[o,List.drop_drop,show a+(k-a+1)=k+1 by omega]at this;exact this
   by_cases j:l.getD k 0=c
   .have g:((((l.getD k 0).toNat:Int))==(c.toNat:Int))=true:=by rw[j];simp
    rw[g,ae];refine⟨(k+1,done.map tx++[tx ((l.drop a).take (k-a))]),rfl,?_⟩;rw[ah (by omega)];refine⟨done++[(l.drop a).take (k-a)],by simp,?_,bP _,by simp⟩;rw[j]at m;rw[e,m,auh f,<-m];simp
   .have g:((((l.getD k 0).toNat:Int))==(c.toNat:Int))=false:=bR.2 fun h=>j (aqG.1 (by omega))
    rw[g,aa];refine⟨(a,done.map tx),rfl,?_⟩;rw[ah (by omega)];refine⟨done,rfl,e,by show a<=k+1;omega,?_⟩;have o:(l.drop a).take (k+1-a)=(l.drop a).take (k-a)++[l.getD k 0]:=by
     rw[show k+1-a=(k-a)+1 by omega,J6]
     congr 1
     have:(l.drop a)[k-a]?=some (l.getD k 0):=by rw[afC,show a+(k-a)=k by omega];exact aY hlt 0
     rw[this];rfl
    show c ∉ (l.drop a).take (k+1-a);rw[o,kj,ki];rintro(h|h)
    .exact f h
    .exact j h.symm
 .rw[af (by omega)]at d;rw[Kg,bs,aK (by omega),aa,adx,d]
 .rw[ah (by omega)];exact⟨[],rfl,rfl,bP _,by simp⟩
def aso (c:UInt8):∀(n:Nat) (l:List UInt8),l.length<=n->∀k,k=Lib.countB (tx l) (tx [c])->Lib.splitB (tx [c]) 0 k (tx l)=(parts c l).map tx:=by
 intro n
 induction n with
 |zero =>
  intro l f k m;obtain rfl:l=[]:=WS (by omega);have d:Lib.indexB (tx []) (tx [c])=-1:=by show Lib.index (tx []).data.toList (tx [c]).data.toList=-1;rw[gn,gn,Lib.index_one];rfl
  rw[Lib.splitB_miss _ _ _ _ d];rfl
 |succ n o =>
  intro l f k m;by_cases h:c∈l
  .obtain⟨a,b,rfl,g⟩:=acp h;have d:Lib.indexB (tx (a++c::b)) (tx [c])=(a.length:Int):=by show Lib.index (tx (a++c::b)).data.toList (tx [c]).data.toList=_;rw[gn,gn,Lib.index_one,acn g]
   have i:(tx [c]).size=1:=bs [c];have j:(tx (a++c::b)).extract (a.length+(tx [c]).size) (tx (a++c::b)).size=tx b:=by
    rw[extract_from,i]
    congr 1
    simp[List.drop_append]
   have p:=Lib.countB_hit (tx (a++c::b)) (tx [c]) a.length (by rw[i];omega) d;rw[j]at p;obtain⟨e,rfl⟩:∃e,k=e+1:=⟨Lib.countB (tx b) (tx [c]),by omega⟩;rw[Lib.splitB_hit _ _ _ _ _ d,j,o b (by simp only[aL,aV]at f;omega) e (by omega),auh g,WW,amm];simp[List.take_append]
  .have d:Lib.indexB (tx l) (tx [c])=-1:=by show Lib.index (tx l).data.toList (tx [c]).data.toList=-1;rw[gn,gn,Lib.index_one,aco h]
   rw[Lib.splitB_miss _ _ _ _ d,ams h];rfl
def amt {l:List UInt8}(c:UInt8)(a:l.length<4294967281):uQ F0 (tx l) (c.toNat:Int)=some ((parts c l).map tx,()):=by
 have b:strOf [(c.toNat:Int)]=tx [c]:=by
  simp only[strOf,tx,r8,List.map_nil]
  congr 2
  simp
 have h:Nat.blt (tx l).size 4294967281=true:=by rw[bs];simpa using a
 have d:Nat.ble 1 (tx [c]).size=true:=by rw[bs];rfl
 rw[aop,b];unfold strings_Split;rw[h,d,Bool.and_self,ad,ag,aso c l.length l (bP _) _ rfl]
def Ac {σ V:Type}(f:σ->List UInt8->Option (σ×V)):σ->List (List UInt8)->Option (List V)
 |_,[]=>some []|s,p::a=>match f s p with
  |none=>none|some (c,b)=>match Ac f c a with
   |none=>none|some r=>some (b::r)
def Pe {σ V γ:Type}(f:σ->List UInt8->Option (σ×V))(I:σ->Prop)(P:List (List UInt8))(X:Nat->σ->Int->List V->Option γ)(c:Option γ)(d:List V->Option γ)
  (g:∀n k s xs p,k<P.length->P[k]?=some p->I s->xs.length=k->X (n+1) s (k:Int) xs=match f s p with|none=>c|some (a,b)=>X n a ((k+1:Nat):Int) (xs++[b]))
  (i:∀n s xs,xs.length=P.length->X (n+1) s (P.length:Int) xs=d xs) (j:∀s p a b,I s->f s p=some (a,b)->I a) :
  ∀(n k:Nat) (s:σ) (xs:List V),k<=P.length->P.length-k<n->I s->xs.length=k->X n s (k:Int) xs=match Ac f s (P.drop k) with|none=>c|some l=>d (xs++l)
 |0,_,_,_,_,h,_,_=>absurd h (QI _)|n+1,k,s,xs,u,v,m,e=>by
  rcases QJ k P.length with hlt|w
  .have o:P[k]?=some P[k]:=lS hlt;rw[g n k s xs P[k] hlt o m e,QG hlt];simp only[Ac];cases t:f s P[k]with
   |none=>rfl
   |some q =>
    obtain⟨a,b⟩:=q;simp only;rw[Pe f I P X c d g i j n (k+1) a (xs++[b]) hlt (by omega) (j _ _ _ _ m t) (by simp[e])];cases Ac f a (P.drop (k+1)) with
    |none=>rfl|some r=>simp
  .obtain rfl:k=P.length:=by omega
   rw[i n s xs e,WU];simp[Ac]
def Pf {σ V:Type}{f:σ->List UInt8->Option (σ×V)}:∀{P:List (List UInt8)} {s:σ} {r:List V},Ac f s P=some r->r.length=P.length
 |[],_,r,h=>by cases h;rfl
 |p::b,s,r,h=>by
  simp only[Ac]at h;split at h
  .cases h
  .split at h
   .cases h
   .rename_i a;cases h;simp[Pf a]
def amu {σ V:Type}{f:σ->List UInt8->Option (σ×V)}{Q:V->Prop}(a:∀s p c b,f s p=some (c,b)->Q b):∀{P:List (List UInt8)} {s:σ} {r:List V},Ac f s P=some r->∀b∈r,Q b
 |[],_,r,h=>by cases h;simp
 |p::g,s,r,h=>by
  simp only[Ac]at h;split at h
  .cases h
  .rename_i d;split at h
   .cases h
   .rename_i e;cases h;intro b hb;rcases fe.1 hb with rfl|hb
    .exact a _ _ _ _ d
    .exact amu a e b hb
def txF (_:Unit)(p:List UInt8):Option (Unit×dU):=if (WO p).2=true then some ((),(WO p).1) else none
def kq (l:List UInt8):List dU×Bool:=if l=[] then ([],true) else match Ac txF () (parts 44 l) with|none=>([],false)|some r=>(r,true)
def apW (l:List UInt8):(kq l).1.length<=l.length+1:=by
 unfold kq;split
 .simp
 .split
  .simp
  .rename_i r a;have:=Pf a;have:=HP 44 l;simp only;omega
def aBz (l:List UInt8):∀x∈(kq l).1,fB x=true:=by
 unfold kq;split
 .simp
 .split
  .simp
  .rename_i r a;refine amu (Q:=fun x=>fB x=true) (fun s p c b h=>?_) a;unfold txF at h;split at h
   .cases h;exact aBx p
   .cases h
def ae7 (l:List UInt8):((tx l).toList==aj.toList)=decide (l=[]):=Pc l []
def asp (P:List (List UInt8))(k:Nat){p:List UInt8}(h:P[k]?=some p):ay (P.map tx) (k:Int) ByteArray.empty=tx p:=by show(P.map tx).getD k ByteArray.empty=_;simp[SN,h]
def apX {l:List UInt8}(f:l.length<=1073741824):AR F0 (tx l)=some ((kq l).1,(kq l).2,()):=by
 have g:=HP 44 l;rw[an5,ae7];unfold kq;by_cases a:l=[]
 .rw[aH a,ah a];rfl
 .rw[aK a,aa,af a,show uI F0 (tx l) 44=_ from apV 44 (by omega),ag];have:=Pe txF (fun _=>True) (parts 44 l) (fun n _ i xs=>Gk F0 (wq F0) n (wo i xs ((parts 44 l).map tx))) (some ([],false,())) (fun xs=>some (xs,true,())) (fun n k s xs p c d _ e=>?_) (fun n s xs e=>?_) (fun _ _ _ _ _ _=>trivial) F0.n 0 () [] (aQ _) (by rw[bH];omega) trivial rfl
  .simp only[aam,Fc]at this;rw[show((0:Nat):Int)=0 from rfl]at this;rw[this];cases Ac txF () (parts 44 l)<;>rfl
  .have h:=BF (ajt d);rw[Ki,r7,aO c,ae,ao c,ad,asp _ _ d,aBw (by omega),ag];unfold txF;cases cU:(WO p).2 with
   |false=>simp only[dW,ae,ahh];rfl
   |true =>
    simp only[aG,aa];rw[av (b:=[(WO p).1].length) (k:=32) (by omega) (by omega) (by simp only[aV,ba];omega),ad,al (by omega)];rfl
  .rw[Ki,r7,aE,aa,adA]
def awC {l:List UInt8}(f:l.length<=1073741824):I9 F0 (tx l)=some ((kq l).1,(kq l).2,()):=by
 have g:=HP 44 l;rw[aoq,ae7];unfold kq;by_cases a:l=[]
 .rw[aH a,ah a];rfl
 .rw[aK a,aa,af a,show uQ F0 (tx l) 44=_ from amt 44 (by omega),ag];have:=Pe txF (fun _=>True) (parts 44 l) (fun n _ i xs=>GW F0 (yp F0) n (yo ((parts 44 l).map tx) (((parts 44 l).map tx).length:Int) i xs)) (some ([],false,())) (fun xs=>some (xs,true,())) (fun n k s xs p c d _ e=>?_) (fun n s xs e=>?_) (fun _ _ _ _ _ _=>trivial) F0.n 0 () [] (aQ _) (by rw[bH];omega) trivial rfl
  .simp only[aam,Fc]at this;rw[show((0:Nat):Int)=0 from rfl]at this;rw[this];cases Ac txF () (parts 44 l)<;>rfl
  .have h:=BF (ajt d);rw[Lk,r7,aO c,ae,ao c,ad,asp _ _ d,azK (by omega),ag];unfold txF;cases cU:(WO p).2 with
   |false=>simp only[dW,ae,aie];rfl
   |true =>
    simp only[aG,aa];rw[av (b:=[(WO p).1].length) (k:=32) (by omega) (by omega) (by simp only[aV,ba];omega),ad,al (by omega)];rfl
  .rw[Lk,r7,aE,aa,aef]
abbrev Yu:=Int×List dU
def Ef (a:Int)(p:List UInt8):Option (Int×Yu) :=
 if 124∈p/\(eZ (er p 124).1).2=true/\(kq (er p 124).2).2=true/\a<(eZ (er p 124).1).1/\(eZ (er p 124).1).1<=60/\(kq (er p 124).2).1.length<=2
 then some ((eZ (er p 124).1).1,(eZ (er p 124).1).1,(kq (er p 124).2).1) else none
def bO (l:List UInt8):List Yu×Bool:=if l=[] then ([],true) else match parts 47 l with
 |[]=>([],false)|b::a=>if ¬b=[]\/30<a.length then ([],false) else match Ac Ef 0 a with
  |none=>([],false)|some r=>(r,true)
def asq (s:Yu):Prop:=0<=s.1/\s.1<=60/\s.2.length<=2/\∀x∈s.2,fB x=true
def acr {d:Int}{p:List UInt8}{a:Int}{b:Yu}(h:Ef d p=some (a,b)):asq b/\a=b.1:=by
 unfold Ef at h;split at h
 .rename_i c;cases h;exact⟨⟨(aml _).1,c.2.2.2.2.1,c.2.2.2.2.2,aBz _⟩,rfl⟩
 .cases h
def Qf (l:List UInt8):∀s∈(bO l).1,asq s:=by
 unfold bO;split
 .simp
 .split
  .simp
  .split
   .simp
   .split
    .simp
    .rename_i a;exact amu (Q:=asq) (fun s p c b h=>(acr h).1) a
def pw (l:List UInt8):(bO l).1.length<=30:=by
 unfold bO;split
 .simp
 .split
  .simp
  .split
   .simp
   .split
    .simp
    .rename_i a;have:=Pf a;simp only;omega
def br6 {U:Type}(a b c d e f:Bool)(x y:U):br (!a) x (br (!b) x (br (!c) x (br d x (br e x (br f x y)))))=if a=true/\b=true/\c=true/\d=false/\e=false/\f=false then y else x:=by cases a<;>cases b<;>cases c<;>cases d<;>cases e<;>cases f<;>rfl
def br5 {U:Type}(a b c d f:Bool)(x y:U):br (!a) x (br (!b) x (br (!c) x (br (!d) x (br f x y))))=if a=true/\b=true/\c=true/\d=true/\f=false then y else x:=by cases a<;>cases b<;>cases c<;>cases d<;>cases f<;>rfl
def VY {l:List UInt8}(G:l.length<=1073741824):oO F0 (tx l)=some ((bO l).1,(bO l).2,()):=by
 have q:=HP 47 l;have r:=fun p (h:p∈parts 47 l)=>BF h
 rw[an7,ae7];unfold bO;by_cases f:l=[]
 .rw[aH f,ah f];rfl
 .rw[aK f,aa,af f,show uI F0 (tx l) 47=_ from apV 47 (by omega),ag];cases t:parts 47 l with
  |nil=>exact absurd t (Ee 47 l)
  |cons c a =>
   rw[t]at q r;simp only[aV]at q;have x:ay ((c::a).map tx) 0 ByteArray.empty=tx c:=rfl;have y:bN 0 (((c::a).map tx).length:Int)=true:=ao (k:=0) (by simp);simp only[y,ad,x,ae7];by_cases d:c=[]
   .by_cases z:30<a.length
    .rw[aH d,aG,aa,aH (by rw[r7,aV];omega),ae,ah (.inr z)]
    .rw[aH d,aG,aa,aK (by rw[r7,aV];omega),aa,af (by simp[d];omega)];have:=Pe Ef (fun s=>0<=s/\s<=60) a (fun n s i xs=>Gn F0 (wv F0) n (wu s (i+1) [] xs ((c::a).map tx))) (some ([],false,())) (fun xs=>some (xs,true,())) (fun n k s xs p H u A B=>?_) (fun n s xs B=>?_) (fun s p I b A C=>?_) F0.n 0 0 [] (aQ _) (by rw[bH];omega) ⟨by omega,by omega⟩ rfl
     .simp only[aam,Fc]at this;rw[show((0:Nat):Int)+1=1 from rfl]at this;rw[this];cases Ac Ef 0 a<;>rfl
     .have K:=r p (rL _ (ajt u));have v:k+1<((c::a).map tx).length:=by simp;omega
      have D:ay ((c::a).map tx) (((k+1:Nat)):Int) ByteArray.empty=tx p:=asp _ _ (by simpa using u);rw[show((k:Int)+1)=((k+1:Nat):Int) by omega,Kj,aO v,ae,ao v,ad,D,show gA F0 (tx p) 124=_ from apU 124 (by omega),ag];have L:=ajd p 124;have M:=aml (er p 124).1;have N:=apW (er p 124).2;by_cases g:(124:UInt8)∈p
      .rw[ah g];simp only[BD,ag];rw[show AR F0 (tx ((p.dropWhile (· != 124)).drop 1))=some ((kq (er p 124).2).1,(kq (er p 124).2).2,()) from apX (by show(er p 124).2.length<=_;omega),ag];simp only[QW];rw[br6];unfold Ef;have E:(eZ (p.takeWhile (· != 124)))=eZ (er p 124).1:=rfl;rw[E];by_cases e:124∈p/\(eZ (er p 124).1).2=true/\(kq (er p 124).2).2=true/\s<(eZ (er p 124).1).1/\(eZ (er p 124).1).1<=60/\(kq (er p 124).2).1.length<=2
       .have j:decide ((eZ (er p 124).1).1<=s)=false:=aK (by omega);have m:decide ((eZ (er p 124).1).1>60)=false:=aK (by omega);have o:decide (((kq (er p 124).2).1.length:Int)>2)=false:=aK (by omega);rw[ah e,ah ⟨rfl,e.2.1,e.2.2.1,j,m,o⟩];simp only;rw[av (b:=[((eZ (er p 124).1).1,(kq (er p 124).2).1)].length) (k:=32) (by omega) (by omega) (by simp only[aV,ba];omega),ad,al (by omega)];rfl
       .rw[af e,af (fun h=>e ?_)];have j:decide ((eZ (er p 124).1).1<=s)=false:=h.2.2.2.1;have m:decide ((eZ (er p 124).1).1>60)=false:=h.2.2.2.2.1;have o:decide (((kq (er p 124).2).1.length:Int)>2)=false:=h.2.2.2.2.2;have O:=apd j;have P:=apd m;have Q:=apd o;exact⟨g,h.2.1,h.2.2.1,by omega,by omega,by omega⟩
      .rw[af g];unfold Ef;rw[af (fun h=>g h.1),BD,ag,show AR F0 (tx [])=_ from apX (by simp),ag];simp only[dW,ae,QW]
     .rw[show((a.length:Int)+1)=(((c::a).map tx).length:Int) by simp,Kj,aE,aa,adB]
     .obtain⟨w,F⟩:=acr C;rw[F];exact⟨w.1,w.2.1⟩
   .rw[aK d,dW,ae,ah (.inl d)]
def Qg {l:List UInt8}(E:l.length<=1073741824):o5 F0 (tx l)=some ((bO l).1,(bO l).2,()):=by
 have g:=HP 47 l;have j:=fun p (h:p∈parts 47 l)=>BF h
 rw[aos,ae7];unfold bO;by_cases f:l=[]
 .rw[aH f,ah f];rfl
 .rw[aK f,aa,af f,show uQ F0 (tx l) 47=_ from amt 47 (by omega),ag];cases m:parts 47 l with
  |nil=>exact absurd m (Ee 47 l)
  |cons c a =>
   rw[m]at g j;simp only[aV]at g;have t:ay ((c::a).map tx) 0 ByteArray.empty=tx c:=rfl;have u:bN 0 (((c::a).map tx).length:Int)=true:=ao (k:=0) (by simp);have hlen:((c::a).map tx).length=a.length+1:=by simp
   have v:QN 1 (((c::a).map tx).length:Int) (((c::a).map tx).length:Int)=true:=by rw[hlen];simp only[QN,aD,bV];omega
   have w:((((c::a).map tx).take (((c::a).map tx).length:Int).toNat).drop (1:Int).toNat)=a.map tx:=by rw[kC,mH];rfl
   simp only[u,ad,t,ae7,v,w];rw[hlen,aF (by omega) (by omega)];by_cases e:c=[]
   .by_cases x:30<a.length
    .rw[aH e,aG,aa,aH (by omega),ae,ah (.inr x)]
    .rw[aH e,aG,aa,aK (by omega),aa,af (by simp[e];omega)];have:=Pe Ef (fun s=>0<=s/\s<=60) a (fun n s i xs=>GZ F0 (yr F0) n (yq s (a.map tx) ((a.map tx).length:Int) i xs)) (some ([],false,())) (fun xs=>some (xs,true,())) (fun n k s xs p o q y z=>?_) (fun n s xs z=>?_) (fun s p F b y A=>?_) F0.n 0 0 [] (aQ _) (by rw[bH];omega) ⟨by omega,by omega⟩ rfl
     .simp only[aam,Fc]at this;rw[show((0:Nat):Int)=0 from rfl]at this;rw[this];cases Ac Ef 0 a<;>rfl
     .have G:=j p (rL _ (ajt q));have H:=ajd p 124;have I:=aml (er p 124).1;have K:=apW (er p 124).2;rw[Ll,r7,aO o,ae,ao o,ad,asp _ _ q,show ByteArray.mk #[124]=tx [124] from rfl,uE 124 (by omega),ag];simp only[Ed,ag];rw[show I9 F0 (tx ((p.dropWhile (· != 124)).drop 1))=some ((kq (er p 124).2).1,(kq (er p 124).2).2,()) from awC (by show(er p 124).2.length<=_;omega),ag];simp only[aif,Qe,ag];rw[br5];unfold Ef;have B:(eZ (p.takeWhile (· != 124)))=eZ (er p 124).1:=rfl;rw[B,aF (n:=s+1) (by omega) (by omega)];by_cases d:124∈p/\(eZ (er p 124).1).2=true/\(kq (er p 124).2).2=true/\s<(eZ (er p 124).1).1/\(eZ (er p 124).1).1<=60/\(kq (er p 124).2).1.length<=2
      .have C:(decide (s+1<=(eZ (er p 124).1).1)&&decide ((eZ (er p 124).1).1<=60))=true:=by rw[aH (by omega),aH (by omega)];rfl
       rw[ah d,ah ⟨aH d.1,d.2.1,d.2.2.1,C,aK (by omega)⟩];simp only;rw[av (b:=[((eZ (er p 124).1).1,(kq (er p 124).2).1)].length) (k:=32) (by omega) (by omega) (by simp only[aV,ba];omega),ad,al (by omega)]
      .rw[af d,af (fun h=>d ⟨lT h.1,h.2.1,h.2.2.1,by have:=h.2.2.2.1;rw[aD]at this;have:=lT this.1;omega,by have:=h.2.2.2.1;rw[aD]at this;have:=lT this.2;omega,by have:=apd h.2.2.2.2;omega⟩)]
     .rw[Ll,r7,aE,aa,aeg]
     .obtain⟨r,D⟩:=acr A;rw[D];exact⟨r.1,r.2.1⟩
   .rw[aK e,dW,ae,ah (.inl e)]
abbrev ie:=List Int×List Int
def Eg (l:ie):Bool:=decide (l.1.length=4)&&(decide (l.2.length=4)&&(l.1.all (fun n=>inB n 0 400)&&l.2.all (fun n=>inB n 0 100)))
def Yv {a:List Int}(lo hi:Int)(h:a.length<=1048576):pq F0 a lo hi=some (a.all (fun n=>inB n lo hi),()):=by
 rw[ab9];refine cp (fun n i (_:Unit)=>rD F0 (mC F0) n (mB lo hi a (a.length:Int) i)) a.length (fun k _=>∀x∈a.take k,inB x lo hi=true) _ (fun n k _ c d=>?_) (fun n _ d=>?_) F0.n 0 () (aQ _) (by simp) (by rw[bH];omega)
 .rw[AF,aO c,ae,ao c,ad,j5,Qe,ag];show(br (!inB (a.getD k 0) lo hi) _ _=_)\/∃f:Unit,br (!inB (a.getD k 0) lo hi) _ _=_/\_;cases e:inB (a.getD k 0) lo hi with
  |false =>
   left;rw[dW,ae,WK];have:a.all (fun n=>inB n lo hi)=false:=ade.2 ⟨_,mJ c 0,by rw[e];simp⟩;rw[this]
  |true =>
   right;refine⟨(),by rw[aG,aa,al (by omega)],?_⟩;intro x b;rw[J6,aY c 0]at b;rcases kj.1 b with b|b
   .exact d x b
   .simp only[ajv,ki]at b;rw[b];exact e
 .rw[mH]at d;rw[AF,aE,aa,UX,hD.2 d]
def Yw {l:ie}(a:l.1.length<=1048576)(b:l.2.length<=1048576):sC F0 l=some (Eg l,()):=by
 rw[aeL,Yv 0 400 a,Yv 0 100 b];have e:∀n:Nat,((n:Int)==4)=decide (n=4):=fun n=>by
  by_cases h:n=4
  .subst h;rfl
  .rw[aK h];exact bR.2 (by omega)
 simp only[ag,e,awA];rfl
def acs {l:ie}:si F0 l=some (Eg l,()):=by
 rw[adM];have e:∀n:Nat,((n:Int) != 4)= !decide (n=4):=fun n=>by
  by_cases h:n=4
  .subst h;rfl
  .rw[aK h];exact Dk.2 (by omega)
 rw[e,e];unfold Eg;by_cases c:l.1.length=4
 .by_cases g:l.2.length=4
  .rw[aH c,aH g,aG,aa,aa,hH,hH];refine cp (fun n i (_:Unit)=>tl F0 (n5 F0) n (n4 i l.1 l.2)) 4 (fun k _=>(∀x∈l.1.take k,inB x 0 400=true)/\∀x∈l.2.take k,inB x 0 100=true) _ (fun n k _ o b=>?_) (fun n _ b=>?_) F0.n 0 () (by omega) (by simp) (by rw[bH];omega)
   .have d:k<l.1.length:=by omega
    have f:k<l.2.length:=by omega
    rw[Dy,show decide ((k:Int)<4)=true from aH (by omega),ae,ao d,ad,j5,acq,ag,ao f,ad,j5,acq,ag];show(br (!inB (l.1.getD k 0) 0 400) _ (br (!inB (l.2.getD k 0) 0 100) _ _)=_)\/∃p:Unit,br (!inB (l.1.getD k 0) 0 400) _ (br (!inB (l.2.getD k 0) 0 100) _ _)=_/\_;cases j:inB (l.1.getD k 0) 0 400 with
    |false =>
     left;rw[dW,ae,IH];have:l.1.all (fun n=>inB n 0 400)=false:=ade.2 ⟨_,mJ d 0,by rw[j];simp⟩;rw[this];rfl
    |true =>
     cases m:inB (l.2.getD k 0) 0 100 with
     |false =>
      left;rw[aG,aa,dW,ae,IH];have:l.2.all (fun n=>inB n 0 100)=false:=ade.2 ⟨_,mJ f 0,by rw[m];simp⟩;rw[this,afF]
     |true =>
      right;refine⟨(),by rw[aG,aa,aa,al (by omega)],?_,?_⟩
      .intro x a;rw[J6,aY d 0]at a;rcases kj.1 a with a|a
       .exact b.1 x a
       .simp only[ajv,ki]at a;rw[a];exact j
      .intro x a;rw[J6,aY f 0]at a;rcases kj.1 a with a|a
       .exact b.2 x a
       .simp only[ajv,ki]at a;rw[a];exact m
   .rw[ajq (by omega),ajq (by omega)]at b;rw[Dy,show decide (((4:Nat):Int)<4)=false from rfl,aa,Ww,hD.2 b.1,hD.2 b.2];rfl
  .rw[aH c,aK g];rfl
 .rw[aK c];rfl
def eE (l:ie)(x:dU):ie×Int :=
 if Eg l=true/\fB x=true then
  if x.2.2.2<ay l.2 x.1 0 then (l,2)
  else if x.2.2.2>ay l.2 x.1 0 then (l,3)
  else if x.2.2.1>ay l.1 x.1 0 then ((l.1,l.2.set x.1.toNat (x.2.2.2+1)),4)
  else if Eg ((l.1.set x.1.toNat (ay l.1 x.1 0-x.2.2.1)).set x.2.1.toNat (ay (l.1.set x.1.toNat (ay l.1 x.1 0-x.2.2.1)) x.2.1 0+x.2.2.1),l.2.set x.1.toNat (x.2.2.2+1))=true
   then (((l.1.set x.1.toNat (ay l.1 x.1 0-x.2.2.1)).set x.2.1.toNat (ay (l.1.set x.1.toNat (ay l.1 x.1 0-x.2.2.1)) x.2.1 0+x.2.2.1),l.2.set x.1.toNat (x.2.2.2+1)),0)
   else (l,1)
 else (l,1)
def ZL {l:ie}(h:Eg l=true):l.1.length=4/\l.2.length=4/\(∀x∈l.1,0<=x/\x<=400)/\∀x∈l.2,0<=x/\x<=100:=by simp only[Eg,aD,bV,hD,inB]at h;exact⟨h.1,h.2.1,fun x a=>⟨(h.2.2.1 x a).1,(h.2.2.1 x a).2⟩,fun x a=>⟨(h.2.2.2 x a).1,(h.2.2.2 x a).2⟩⟩
def ZM {l:ie}(a:l.1.length<=1048576)(b:l.2.length<=1048576):oW F0 l=some (l,()):=by rw[akN,av (by omega) (by omega) (by omega),ad,av (by omega) (by omega) (by omega),ad];simp
def U5 {l:ie}(a:l.1.length<=1048576)(b:l.2.length<=1048576):js F0 l=some (l,()):=by rw[ZF,Bi,Bi,av (by omega) (by omega) (by omega),ad,ag,av (by omega) (by omega) (by omega),ad,ag];simp
def dT {p:Prop}(i:Decidable p)(h:p): @decide p i=true:=aH h
def dF {p:Prop}(i:Decidable p)(h:¬p): @decide p i=false:=aK h
def asr {a:List Int}{k:Nat}{v:Int}{lo hi:Int}(b:∀x∈a,lo<=x/\x<=hi)(c:lo<=v/\v<=hi):∀x∈a.set k v,lo<=x/\x<=hi:=fun x d=>by
 rcases List.mem_or_eq_of_mem_set d with h|h
 .exact b x h
 .rw[h];exact c
def ass {l:ie}(g:l.1.length<=1048576)(i:l.2.length<=1048576)(x:dU):II F0 l x=some ((eE l x).1,(eE l x).2,()):=by
 rw[atZ,ZM g i,ag,acs,ag];unfold eE;cases p:Eg l with
 |false=>rw[af (by simp)];rfl
 |true =>
  rw[aG,aa,Pd,ag];cases q:fB x with
  |false=>rw[af (by simp)];rfl
  |true =>
   rw[aG,aa,ah ⟨rfl,rfl⟩];obtain⟨j,r,m,s⟩:=ZL p;obtain⟨b,o,B,C⟩:=nJ q;have f:∀(y:Int) (n:Nat),n=4->0<=y->y<=3->bN y (n:Int)=true:=fun y n h g i=>by obtain⟨u,rfl⟩:∃u:Nat,y=u:=⟨y.toNat,by omega⟩;exact ao (by omega)
   have t:=f x.1 _ j b.1 b.2;have z:=f x.1 _ r b.1 b.2;have A:∀w,bN x.2.1 ((l.1.set x.1.toNat w).length:Int)=true:=fun w=>f x.2.1 _ (by rw[Nd];exact j) o.1 o.2
   simp only[t,z,A,ad];have D:0<=ay l.1 x.1 0/\ay l.1 x.1 0<=400:=m _ (mJ (a:=l.1) (k:=x.1.toNat) (by omega) 0);have E:0<=ay l.2 x.1 0/\ay l.2 x.1 0<=100:=s _ (mJ (a:=l.2) (k:=x.1.toNat) (by omega) 0);by_cases c:x.2.2.2<ay l.2 x.1 0
   .rw[dT _ c,ae,ah c]
   .rw[dF _ c,aa,af c];by_cases d:x.2.2.2>ay l.2 x.1 0
    .rw[dT _ d,ae,ah d]
    .rw[dF _ d,aa,af d,aF (n:=x.2.2.2+1) (by omega) (by omega)];by_cases e:x.2.2.1>ay l.1 x.1 0
     .rw[dT _ e,ae,ah e]
     .have F:0<=ay (l.1.set x.1.toNat (ay l.1 x.1 0-x.2.2.1)) x.2.1 0/\ay (l.1.set x.1.toNat (ay l.1 x.1 0-x.2.2.1)) x.2.1 0<=400:=asr (k:=x.1.toNat) (v:=ay l.1 x.1 0-x.2.2.1) m ⟨by omega,by omega⟩ _ (mJ (a:=l.1.set x.1.toNat (ay l.1 x.1 0-x.2.2.1)) (k:=x.2.1.toNat) (by rw[Nd];omega) 0);rw[dF _ e,aa,af e,aF (n:=ay l.1 x.1 0-x.2.2.1) (by omega) (by omega),aF (n:=ay (l.1.set x.1.toNat (ay l.1 x.1 0-x.2.2.1)) x.2.1 0+x.2.2.1) (by omega) (by omega),acs,ag];cases Eg ((l.1.set x.1.toNat (ay l.1 x.1 0-x.2.2.1)).set x.2.1.toNat (ay (l.1.set x.1.toNat (ay l.1 x.1 0-x.2.2.1)) x.2.1 0+x.2.2.1),l.2.set x.1.toNat (x.2.2.2+1)) with
      |false=>rw[af (by simp),dW,ae,ag]
      |true=>rw[ah rfl];rfl
def amv {l:ie}(f:l.1.length<=1048576)(g:l.2.length<=1048576)(x:dU):JB F0 l x=some ((eE l x).1,(eE l x).2,()):=by
 rw[aua,U5 f g,ag,Yw f g,ag];unfold eE;cases p:Eg l with
 |false=>rw[af (by simp)];rfl
 |true =>
  rw[aG,aa,BE,ag];cases q:fB x with
  |false=>rw[af (by simp)];rfl
  |true =>
   rw[aG,aa,ah ⟨rfl,rfl⟩];obtain⟨j,r,m,s⟩:=ZL p;obtain⟨b,o,C,D⟩:=nJ q;have i:∀(y:Int) (n:Nat),n=4->0<=y->y<=3->bN y (n:Int)=true:=fun y n h f g=>by obtain⟨u,rfl⟩:∃u:Nat,y=u:=⟨y.toNat,by omega⟩;exact ao (by omega)
   have t:=i x.1 _ j b.1 b.2;have z:=i x.1 _ r b.1 b.2;have A:∀w,bN x.2.1 ((l.1.set x.1.toNat w).length:Int)=true:=fun w=>i x.2.1 _ (by rw[Nd];exact j) o.1 o.2
   simp only[t,z,A,ad];have E:0<=ay l.1 x.1 0/\ay l.1 x.1 0<=400:=m _ (mJ (a:=l.1) (k:=x.1.toNat) (by omega) 0);have F:0<=ay l.2 x.1 0/\ay l.2 x.1 0<=100:=s _ (mJ (a:=l.2) (k:=x.1.toNat) (by omega) 0);by_cases c:x.2.2.2<ay l.2 x.1 0
   .rw[dT _ c,ae,ah c]
   .rw[dF _ c,aa,af c];by_cases d:x.2.2.2>ay l.2 x.1 0
    .rw[dT _ d,ae,ah d]
    .have B:ay l.2 x.1 0=x.2.2.2:=by omega
     rw[dF _ d,aa,af d,B,aF (n:=x.2.2.2+1) (by omega) (by omega)];by_cases e:x.2.2.1>ay l.1 x.1 0
     .rw[dT _ e,ae,ah e]
     .have G:0<=ay (l.1.set x.1.toNat (ay l.1 x.1 0-x.2.2.1)) x.2.1 0/\ay (l.1.set x.1.toNat (ay l.1 x.1 0-x.2.2.1)) x.2.1 0<=400:=asr (k:=x.1.toNat) (v:=ay l.1 x.1 0-x.2.2.1) m ⟨by omega,by omega⟩ _ (mJ (a:=l.1.set x.1.toNat (ay l.1 x.1 0-x.2.2.1)) (k:=x.2.1.toNat) (by rw[Nd];omega) 0);rw[dF _ e,aa,af e,aF (n:=ay l.1 x.1 0-x.2.2.1) (by omega) (by omega),aF (n:=ay (l.1.set x.1.toNat (ay l.1 x.1 0-x.2.2.1)) x.2.1 0+x.2.2.1) (by omega) (by omega),Yw (by simp only[Nd];omega) (by simp only[Nd];omega),ag];cases Eg ((l.1.set x.1.toNat (ay l.1 x.1 0-x.2.2.1)).set x.2.1.toNat (ay (l.1.set x.1.toNat (ay l.1 x.1 0-x.2.2.1)) x.2.1 0+x.2.2.1),l.2.set x.1.toNat (x.2.2.2+1)) with
      |false=>rw[af (by simp),dW,ae,ag]
      |true=>rw[ah rfl];rfl
def aui (l:ie)(x:dU):(eE l x).1.1.length=l.1.length/\(eE l x).1.2.length=l.2.length:=by
 unfold eE;split
 .split
  .exact⟨rfl,rfl⟩
  .split
   .exact⟨rfl,rfl⟩
   .split
    .exact⟨rfl,by simp⟩
    .split
     .exact⟨by simp,by simp⟩
     .exact⟨rfl,rfl⟩
 .exact⟨rfl,rfl⟩
def aiY:ie:=([100,100,100,100],[0,0,0,0])
def Yx:kZ F0=some (aiY,()):=by
 have st:∀n (k:Nat) (c:List Int),k<4->c.length=k->h8 F0 (iz F0) (n+1) (ft (k:Int) [] [] c [0,0,0,0])=h8 F0 (iz F0) n (ft ((k+1:Nat):Int) [] [] (c++[100]) [0,0,0,0]):=fun n k c e f=>by rw[Ar,show decide ((k:Int)<4)=true from aH (by omega),ae,av (a:=c.length) (b:=[(100:Nat)].length) (k:=8) (by omega) (by omega) (by simp only[aV,ba];omega),ad,al (by omega)]
 rw[aa9,show okM F0 4 4 8=true from aBf (n:=4) (by omega) (by omega) (by omega),ad];refine cp (fun n i c=>h8 F0 (iz F0) n (ft i [] [] c [0,0,0,0])) 4 (fun k c=>c=List.replicate k 100) _ (fun n k c e d=>.inr ⟨_,st n k c e (by rw[d];simp),by rw[d,<-List.replicate_succ']⟩) (fun n c d=>?_) F0.n 0 [] (by omega) rfl (by rw[bH];omega);rw[Ar,show decide (((4:Nat):Int)<4)=false from rfl,aa,TP,d];rfl
def U6:lG F0=some (aiY,()):=by
 have st:∀n (k:Nat) (c:List Int),k<4->c.length=k->ic F0 (iF F0) (n+1) (fA (k:Int) [] [] c [0,0,0,0])=ic F0 (iF F0) n (fA ((k+1:Nat):Int) [] [] (c++[100]) [0,0,0,0]):=fun n k c e f=>by rw[AE,show decide ((k:Int)<4)=true from aH (by omega),ae,av (a:=c.length) (b:=[(100:Nat)].length) (k:=8) (by omega) (by omega) (by simp only[aV,ba];omega),ad,al (by omega)]
 rw[ab8,show okM F0 4 4 8=true from aBf (n:=4) (by omega) (by omega) (by omega),ad];refine cp (fun n i c=>ic F0 (iF F0) n (fA i [] [] c [0,0,0,0])) 4 (fun k c=>c=List.replicate k 100) _ (fun n k c e d=>.inr ⟨_,st n k c e (by rw[d];simp),by rw[d,<-List.replicate_succ']⟩) (fun n c d=>?_) F0.n 0 [] (by omega) rfl (by rw[bH];omega);rw[AE,show decide (((4:Nat):Int)<4)=false from rfl,aa,UW,d];rfl
def M4 (l:ie):Prop:=l.1.length=4/\l.2.length=4
def aBA {l:ie}(h:M4 l)(x:dU):M4 (eE l x).1:=⟨(aui l x).1.trans h.1,(aui l x).2.trans h.2⟩
def Yy {U:Type}{a:List U}{k:Nat}(h:k<a.length)(d:U):ay a (k:Int) d=a[k]:=by rw[j5];simp[List.getD,h]
def aFs (x:dU):(x.1,x.2.1,x.2.2.1,x.2.2.2)=x:=rfl
def px:ie->List dU->List Int
 |_,[]=>[]|l,x::xs=>(eE l x).2::px (eE l x).1 xs
def ho:ie->List dU->ie
 |l,[]=>l|l,x::xs=>ho (eE l x).1 xs
def Hs:∀{xs:List dU} {l:ie},M4 l->M4 (ho l xs)
 |[],_,h=>h|x::xs,l,h=>Hs (xs:=xs) (aBA h x)
def Qh:∀(xs:List dU) (l:ie),(px l xs).length=xs.length
 |[],_=>rfl|x::xs,l=>by simp[px,Qh xs]
def Qi:∀(a b:List dU) (l:ie),px l (a++b)=px l a++px (ho l a) b
 |[],_,_=>rfl|x::a,b,l=>by simp[px,ho,Qi a b]
def U7:∀(a:List dU) (x:dU) (l:ie),ho l (a++[x])=(eE (ho l a) x).1
 |[],_,_=>rfl|y::a,x,l=>by simp[ho,U7 a x]
def amw {l:ie}(g:M4 l){list:List dU}(m:list.length<=1048576):vu F0 l list=some (ho l list,px l list,()):=by
 rw[akP,ZM (by have:=g.1;omega) (by have:=g.2;omega),ag];refine cp (fun n i (z:List Int×ie)=>Cb F0 (EH F0) n (tn list i z.1 [] [] z.2.1 z.2.2)) list.length (fun k z=>z.1=px l (list.take k)/\z.2=ho l (list.take k)) _ (fun n k z e f=>.inr ⟨(z.1++[(eE z.2 list[k]).2],(eE z.2 list[k]).1),?_,?_⟩) (fun n z f=>?_) F0.n 0 ([],l) (aQ _) ⟨rfl,rfl⟩ (by rw[bH];omega)
 .obtain⟨d,c⟩:=f;have h:M4 z.2:=by rw[c];exact Hs g
  have o:z.1.length<=1048576:=by rw[d,Qh,bz];omega
  rw[IJ,aO e,ae,ao e,ad,Yy e]
  try rw[aFs]
  rw[ass (l:=(z.2.1,z.2.2)) (by have:=h.1;show z.2.1.length<=_;omega) (by have:=h.2;show z.2.2.length<=_;omega),ag];simp only;rw[av (a:=z.1.length) (b:=[(eE (z.2.1,z.2.2) list[k]).2].length) (k:=8) (by omega) (by omega) (by simp only[aV,ba];omega),ad,al (by omega)]
 .obtain⟨d,c⟩:=f;have j:list.take (k+1)=list.take k++[list[k]]:=by rw[J6,lS e];rfl
  refine⟨?_,?_⟩
  .rw[j,Qi,<-d,<-c];rfl
  .rw[j,U7,<-c]
 .obtain⟨d,c⟩:=f;rw[mH]at d c;rw[IJ,aE,aa,aba,d,c]
def acu:∀{ss:List Yu},(∀s∈ss,asq s)->(ss.flatMap (·.2)).length<=2*ss.length
 |[],_=>by simp
 |s::ss,h=>by
  have b:=(h s J5).2.2.1;have c:=acu (ss:=ss) fun x a=>h x (rL _ a)
  rw[List.flatMap_cons,aL,aV];omega
def azL {l:List UInt8}(f:l.length<=1073741824):uM F0 (tx l)=some ((bO l).1.flatMap (·.2),()):=by
 rw[aod,VY f,ag];have hlen:=pw l;have cU:=Qf l;generalize h:(bO l).1=ss at hlen cU;refine cp (fun n i xs=>Gz F0 (ID F0) n (wX i xs ss)) ss.length (fun k xs=>xs=(ss.take k).flatMap (·.2)) _ (fun n k xs c d=>.inr ⟨_,?_,rfl⟩) (fun n xs d=>?_) F0.n 0 [] (aQ _) rfl (by rw[bH];omega)
 .have j:=(cU _ (cy c)).2.2.1;have e:=acu (ss:=ss.take k) fun x e=>cU x (ajr e)
  rw[<-d,bz]at e;rw[KC,aO c,ae,ao c,ad,Yy c,av (a:=xs.length) (b:=ss[k].2.length) (k:=32) (by omega) (by omega) (by omega),ad,al (by omega),d];have g:(ss.take (k+1)).flatMap (·.2)=(ss.take k).flatMap (·.2)++ss[k].2:=by rw[show ss.take (k+1)=ss.take k++[ss[k]] by rw[J6,lS c];rfl,List.flatMap_append];simp
  rw[g]
 .rw[mH]at d;rw[KC,aE,aa,adL,d]
def kf {V:Type}(X:Nat->Int->Option V)(L:Nat)(p:Nat->Bool)(d e:Option V)(g:∀n k,k<L->X (n+1) (k:Int)=if p k=true then X n ((k+1:Nat):Int) else e)(j:∀n,X (n+1) (L:Int)=d)(n:Nat)(o:L<n) :
  X n 0=if (List.range L).all p=true then d else e:=by
 refine cp (fun n i (_:Unit)=>X n i) L (fun k _=>∀a,a<k->p a=true) _ (fun n k _ f h=>?_) (fun n _ h=>?_) n 0 () (aQ _) (fun a b=>absurd b (QI _)) (by omega)
 .try dsimp only
  rw[g n k f];by_cases c:p k=true
  .rw[ah c];refine .inr ⟨(),rfl,fun a b=>?_⟩;by_cases l:a=k
   .exact l▸c
   .exact h a (by omega)
  .rw[af c,af]
   .exact .inl rfl
   .intro m;exact c (hD.1 m k (il.2 f))
 .try dsimp only
  rw[j,ah];exact hD.2 fun a b=>h a (il.1 b)
def JN {U:Type}(s:List U)(q:U->Bool)(d:U):(List.range s.length).all (fun k=>q (s.getD k d))=s.all q:=by
 rw[Bool.eq_iff_iff,hD,hD];constructor
 .intro h x b;obtain⟨i,a,rfl⟩:=aqD.1 b;have:=h i (il.2 a);simpa [List.getD,a]using this
 .intro h k c;exact h _ (mJ (il.1 c) d)
def aEo (s:List Int)(i:Int):(s.all fun x=> !(x==i))= !decide (i∈s):=by rw[Bool.eq_iff_iff,hD];simp only[afD,bR,aqA];exact⟨fun h a=>h i a rfl,fun h x b e=>h (e▸b)⟩
def ite_not (b:Bool){U:Type}(x y:U):(if (!b)=true then x else y)=if b=true then y else x:=by cases b<;>rfl
def awD {U:Type}(b:Bool)(x y:U):br b x y=if b=true then x else y:=by cases b<;>rfl
def e3 {s:List Int}(h:s.length<=1073741824)(i:Int):cQ F0 s i=some (decide (i∈s),()):=by
 rw[akS,kf (fun n k=>Cg F0 (tw F0) n (tv s i k)) s.length (fun k=> !(s.getD k 0==i)) (some (false,())) (some (true,())) (fun n k a=>?_) (fun n=>?_) _ (by rw[bH];omega),
  JN s (fun x=> !(x==i)),aEo,ite_not]
 .by_cases b:i∈s<;>simp[b]
 .rw[IL,aO a,ae,ao a,ad,j5,al (by omega),ite_not,awD,adS]
 .rw[IL,aE,aa,abd]
def ast {s:List Int}(h:s.length<=1073741824)(i:Int):gv F0 s i=some (decide (i∈s),()):=by
 have key:∃a,jU F0 s i=some (a,())/\decide (a>=0)=decide (i∈s):=by
  rw[OD];have:=cp (fun n k (_:Unit)=>hl F0 (fQ F0) n (fP s i (s.length:Int) k)) s.length (fun k _=>∀a,a<k->s.getD a 0≠i)
   (some ((if i∈s then ((s.idxOf i:Nat):Int) else -1),())) (fun n k _ f g=>?_) (fun n _ g=>?_) F0.n 0 () (aQ _) (fun a c=>absurd c (QI _)) (by rw[bH];omega)
  .refine⟨_,this,?_⟩;by_cases b:i∈s
   .rw[ah b,aH b];exact aH (Int.natCast_nonneg _)
   .rw[af b,aK b];rfl
  .try dsimp only
   rw[oq,aO f,ae,ao f,ad,j5,al (by omega),J3];by_cases d:i=s.getD k 0
   .left;have b:i∈s:=d▸mJ f 0;rw[bc.2 d,ae,ah b];have m:s.idxOf i=k:=by
     have j:s.idxOf i<s.length:=List.idxOf_lt_length_of_mem b;have l:s.getD (s.idxOf i) 0=i:=by simp[List.getD,j]
     rcases Nat.lt_trichotomy (s.idxOf i) k with hlt|o|q
     .exact absurd l (g _ hlt)
     .exact o
     .have:=List.not_of_lt_findIdx (p:=(·==i)) (xs:=s) q;have r:s[k]'(by omega)=i:=by rw[d];simp[List.getD,f]
      simp[r]at this
    rw[m]
   .right;rw[bR.2 d,aa];refine⟨(),rfl,fun a c=>?_⟩;by_cases t:a=k
    .exact fun e=>d (t▸e.symm)
    .exact g a (by omega)
  .try dsimp only
   have b:i ∉ s:=by intro b;obtain⟨a,c,e⟩:=aqD.1 b;exact g a c (by simp[List.getD,c,e])
   rw[oq,aE,aa,Jj,af b]
 obtain⟨a,j,l⟩:=key;rw[Jk,j,ag,l]
def eF {s:List Int}(h:s.length<=1073741824)(i:Int):dh F0 s i=some (decide (i∈s),()):=by rw[alP,ast h,ag]
def asu (i:Int):List Int->List Int
 |[]=>[i]|x::l=>if x>=i then i::x::l else x::asu i l
def U8 (s:List Int)(i:Int):List Int:=if i∈s then s else asu i s
def auj (i:Int):∀s:List Int,(asu i s).length=s.length+1
 |[]=>rfl|x::l=>by
  unfold asu;split
  .rfl
  .simp[auj i l]
def amx (s:List Int)(i:Int):(U8 s i).length<=s.length+1:=by
 unfold U8;split
 .omega
 .rw[auj];exact bP _
def aje {i:Int}:∀{s:List Int} {k:Nat},k<=s.length->(∀a (h:a<s.length),a<k->s[a]<i)->(∀h:k<s.length,¬s[k]<i)->asu i s=s.take k++i::s.drop k
 |[],k,_,_,_=>by simp[asu]
 |x::l,0,_,_,h=>by have:=h (by simp);simp only[avM]at this;unfold asu;rw[ah (by omega)];rfl
 |x::l,k+1,c,b,d=>by have e:=b 0 (by simp) (by omega);simp only[avM]at e;unfold asu;rw[af (by omega),List.take_succ_cons,List.drop_succ_cons,Fb,aje (k:=k) (by simpa using c) (fun a h f=>b (a+1) (by simp only[aV];omega) (by omega)) (fun h=>d (by simp only[aV];omega))]
def VZ {l h n:Nat}(a:l<=h)(b:h<=n):QN (l:Int) (h:Int) (n:Int)=true:=by simp[QN];omega
def ZN {s:List Int}(h:s.length<=1048576)(i:Int):vv F0 s i=some (U8 s i,()):=by
 rw[akT,e3 (by omega),ag];unfold U8;by_cases c:i∈s
 .rw[aH c,ae,ah c,av (by omega) (by omega) (by omega),ad];rfl
 .rw[aK c,aa,af c];have fin:∀k:Nat,k<=s.length->(∀a (h:a<s.length),a<k->s[a]<i)->(∀h:k<s.length,¬s[k]<i)->tB F0 (.exit 0) (pS s i (k:Int))=some (asu i s,()):=by
   intro k b g j;rw[abe,show QN 0 (k:Int) (s.length:Int)=true from VZ (l:=0) (aQ _) b,ad,kC,kC,show(0:Int).toNat=0 from rfl,aam,Fc,mH,
    av (by omega) (by omega) (by rw[bz];omega),ad,av (by omega) (by omega) (by rw[bz];simp only[aV,ba];omega),ad,VZ b (bP _),ad,
    av (by omega) (by omega) (by rw[aL,bz,a1];simp only[aV,ba];omega),ad,aje b g j]
   simp
  refine cp (fun n k (_:Unit)=>Cj F0 (tB F0) n (tz s i k)) s.length (fun k _=>∀a (h:a<s.length),a<k->s[a]<i) _ (fun n k _ b d=>?_) (fun n _ d=>?_) F0.n 0 () (aQ _) (fun a _ f=>absurd f (QI _)) (by rw[bH];omega)
  .try dsimp only
   rw[IN,aO b,ae,ao b,ad,Yy b,al (by omega)];by_cases hlt:s[k]<i
   .right;rw[aH hlt,ae];refine⟨(),rfl,fun a f m=>?_⟩;by_cases e:a=k
    .subst e;exact hlt
    .exact d a f (by omega)
   .left;rw[aK hlt,aa];exact fin k (by omega) d (fun _=>hlt)
  .try dsimp only
   rw[IN,aE,aa];exact fin s.length (bP _) d (fun h=>absurd h (SQ _))
def mE {l:List Int}(h:l.length<=1073741824):dM F0 l=some (l,()):=by rw[Bi,av (by omega) (by omega) (by omega),ad];rfl
def ae8 {U:Type}(p:U->Bool):∀(l:List U) (j:Nat),(oK p l (j:Int)=-1/\∀x∈l,p x=false)\/∃k,∃h:k<l.length,oK p l (j:Int)=((j+k:Nat):Int)/\p l[k]=true/\∀i (hi:i<l.length),i<k->p l[i]=false
 |[],j=>.inl ⟨rfl,by simp⟩
 |x::l,j=>by
  unfold oK;cases a:p x with
  |true=>exact .inr ⟨0,by simp,by simp,by simpa using a,fun i _ hi=>absurd hi (QI _)⟩
  |false =>
   have e:(j:Int)+1=((j+1:Nat):Int):=by omega
   dsimp only;rw[e];rcases ae8 p l (j+1) with ⟨b,c⟩|⟨k,f,b,c,g⟩
   .refine .inl ⟨b,fun y d=>?_⟩;rcases fe.1 d with rfl|d
    .exact a
    .exact c y d
   .refine .inr ⟨k+1,by simpa using f,by rw[b];omega,by simpa using c,fun i hi m=>?_⟩;cases i with
    |zero=>simpa using a|succ i=>simpa using g i (by simpa using hi) (by omega)
def HQ {k a b:Nat}(c:k<=a)(d:1<=b)(e:a+b<=1073741824):afV (k:Int) a b=true:=by unfold afV;rw[aH (show(0:Int)<=k by omega),aH (show(k:Int)<=a by omega),aH (show(1:Int)<=b by omega),aH (show((a+b:Nat):Int)<=1073741824 by omega)];rfl
def agG {s:List Int}(h:s.length<=1048576)(i:Int):DT F0 s i=some (U8 s i,()):=by
 rw[alW,eF (by omega),ag];unfold U8;by_cases c:i∈s
 .rw[aH c,ae,ah c,mE (by omega),ag]
 .rw[aK c,aa,af c];rcases ae8 (fun e=>geP e i) s 0 with ⟨b,d⟩|⟨k,m,b,d,j⟩
  .have b:oK (fun e=>geP e i) s 0=-1:=b;rw[b,show decide ((-1:Int)<0)=true from rfl,ae,mE (by omega),ag,HQ (bP _) (by simp) (by simp only[aV,ba];omega),ad,kC,
    aje (k:=s.length) (bP _) (fun f g _=>?_) (fun h=>absurd h (SQ _))]
   .simp
   .have:=apd (d s[f] (cy g));omega
  .have b:oK (fun e=>geP e i) s 0=((0+k:Nat):Int):=b;rw[vd]at b;have d:=lT d;rw[b,show decide (((k:Nat):Int)<0)=false from aK (by omega),aa,mE (by omega),ag,HQ (k:=k) (a:=s.length) (by omega) (by simp) (by simp only[aV,ba];omega),ad,kC,
    aje (k:=k) (by omega) (fun f g l=>?_) (fun _=>by omega)]
   .simp
   .have:=apd (j f g l);omega
def e4 (lo hi x:Int):Bool:=decide (lo<=x)&&decide (x<=hi)
def cO (x lo hi:Int):bI F0 x lo hi=some (e4 lo hi x,()):=acq x lo hi
def bM (x lo hi:Int):aU F0 x lo hi=some (e4 lo hi x,()):=Qe x lo hi
def hz {U:Type}{l:List U}{k:Nat}(h:k<l.length):l.take (k+1)=l.take k++[l[k]]:=by rw[J6,lS h];rfl
abbrev cE:=Int×ByteArray×List Int
def bw (l:List UInt8):Bool:=(bO l).2
def aZ (l:List UInt8):Int:=match (bO l).1.getLast? with|some s=>s.1|none=>0
def U9 {l:List UInt8}(h:(bO l).2=false):(bO l).1=[]:=by
 unfold bO at h ⊢;split
 .rfl
 .rename_i a;rw[af a]at h;split
  .rfl
  .rename_i b;rw[b]at h;dsimp only at h;split
   .rfl
   .rename_i c;rw[af c]at h;split
    .rfl
    .rename_i d;rw[d]at h;cases h
def Qj {l:List UInt8}(h:l.length<=1073741824):eB F0 (tx l)=some (bw l,()):=by rw[aks,VY h,ag];rfl
def Mj {l:List UInt8}(h:l.length<=1073741824):eC F0 (tx l)=some (bw l,()):=by rw[alD,Qg h,ag];rfl
def apY (ss:List Yu)(f:ss.length<=30)(d:Yu:=(0,[])):br ((ss.length:Int)==0) (some ((0:Int),())) (ck (bN (ai ((ss.length:Int)-1)) (ss.length:Int)) (some ((ay ss (ai ((ss.length:Int)-1)) d).1,())))=some ((match ss.getLast? with|some s=>s.1|none=>0),()):=by
 cases a:ss with
 |nil=>rfl
 |cons s r =>
  rw[<-a];have e:ss.length≠0:=by rw[a];simp
  have b:((ss.length:Int)==0)=false:=bR.2 (by omega);have c:ai ((ss.length:Int)-1)=((ss.length-1:Nat):Int):=by rw[aF (by omega) (by omega)];omega
  rw[b,aa,c,ao (by omega),ad,Yy (by omega),List.getLast?_eq_getElem?,lS (by omega)]
def amy {l:List UInt8}(h:l.length<=1073741824):df F0 (tx l)=some (aZ l,()):=by
 rw[akt,VY h,ag];dsimp only;cases a:(bO l).2 with
 |true =>
  rw[aG,aa];exact apY _ (pw l)
 |false =>
  rw[dW,ae];unfold aZ;rw[U9 a];rfl
def agH {l:List UInt8}(h:l.length<=1073741824):dZ F0 (tx l)=some (aZ l,()):=by rw[alE,Qg h,ag];exact apY _ (pw l)
def Pg (l:List UInt8):0<=aZ l/\aZ l<=60:=by
 unfold aZ;split
 .rename_i s a;have:=Qf l s (List.mem_of_getLast? a);exact⟨this.1,this.2.1⟩
 .omega
def bq (c:Int×Int):Bool:=e4 4 7 c.1&&e4 1 6 c.2
def gL (c:Int×Int):dy F0 c=some (bq c,()):=by rw[ako,cO,ag,cO,ag];unfold bq;dsimp only;cases e4 4 7 c.1<;>rfl
def fh (c:Int×Int):dY F0 c=some (bq c,()):=by rw[alz,bM,ag,bM,ag];unfold bq;dsimp only;cases e4 4 7 c.1<;>rfl
def b4 {c:Int×Int}(h:bq c=true):4<=c.1/\c.1<=7/\1<=c.2/\c.2<=6:=by unfold bq e4 at h;simp only[aD,bV]at h;omega
def auk {n:Int}(a:4<=n)(b:n<=7):1<=Int.tdiv (n-1) 3/\Int.tdiv (n-1) 3<=2:=by
 have:n=4\/n=5\/n=6\/n=7:=by omega
 rcases this with rfl|rfl|rfl|rfl<;>decide
def BG (c:Int×Int):Int:=if bq c=true then Int.tdiv (c.1-1) 3 else 0
def BH (c:Int×Int):Int:=if bq c=true then c.1-Int.tdiv (c.1-1) 3 else 0
def agI (c:Int×Int):DK F0 c=some (BG c,()):=by
 rw[alF,fh,ag];unfold BG;dsimp only;cases h:bq c with
 |false=>rfl
 |true =>
  have:=b4 h;have a:=auk this.1 this.2.1;have e:ai (c.1-1)=c.1-1:=aF (by omega) (by omega);rw[aG,aa,e,aF (by omega) (by omega),ah rfl]
def Va (c:Int×Int):vB F0 c=some (BH c,()):=by
 rw[alG,fh,ag,agI,ag];unfold BH BG;dsimp only;cases h:bq c with
 |false=>rfl
 |true =>
  have:=b4 h;have a:=auk this.1 this.2.1;rw[aG,aa,ah rfl,ah rfl,aF (by omega) (by omega)]
def ZO (c:Int×Int):vp F0 c=some (BH c,()):=by
 rw[aku,gL,ag];unfold BH;dsimp only;cases h:bq c with
 |false=>rfl
 |true =>
  have:=b4 h;have a:=auk this.1 this.2.1;have e:ai (c.1-1)=c.1-1:=aF (by omega) (by omega);rw[aG,aa,e,aF (n:=Int.tdiv (c.1-1) 3) (by omega) (by omega),aF (by omega) (by omega),ah rfl]
def lI (n:Int)(s:List Int):Bool:=(List.range s.length).all fun k=>decide (0<=s.getD k 0)&&(decide (s.getD k 0<n)&&(decide (k=0) || decide (s.getD (k-1) 0<s.getD k 0)))
def Qk {V:Type}{n:Int}{s:List Int}{k:Nat}(g:k<s.length)(x y:Option V) :
  br (decide (s.getD k 0<0)) x (br (decide (s.getD k 0>=n)) x (br (decide ((k:Int)>0)) (br (decide (s.getD (k-1) 0>=s.getD k 0)) x y) y)) =
  if (decide (0<=s.getD k 0)&&(decide (s.getD k 0<n)&&(decide (k=0) || decide (s.getD (k-1) 0<s.getD k 0))))=true then y else x:=by
 generalize s.getD k 0=a;generalize s.getD (k-1) 0=b;by_cases c:a<0
 .rw[aH c,ae,aK (show ¬0<=a by omega)];rfl
 .rw[aK c,aa,aH (show 0<=a by omega),hH];by_cases d:a>=n
  .rw[aH d,ae,aK (show ¬a<n by omega)];rfl
  .rw[aK d,aa,aH (show a<n by omega),hH];by_cases e:k=0
   .subst e;rfl
   .rw[aH (show(k:Int)>0 by omega),ae,aK e,va];by_cases f:b>=a
    .rw[aH f,ae,aK (show ¬b<a by omega)];rfl
    .rw[aK f,aa,aH (show b<a by omega)];rfl
def JO {k:Nat}(a:0<k)(h:k<=9223372036854775807):ai ((k:Int)-1)=((k-1:Nat):Int):=by rw[aF (by omega) (by omega)];omega
def ae9 {s:List Int}(h:s.length<=1073741824)(n:Int):AS F0 n s=some (lI n s,()):=by
 rw[an8,kf (fun m k=>wy F0 (wz F0) m (oQ n s k)) s.length (fun k=>decide (0<=s.getD k 0)&&(decide (s.getD k 0<n)&&(decide (k=0) || decide (s.getD (k-1) 0<s.getD k 0)))) (some (true,())) (some (false,())) (fun m k a=>?_) (fun m=>?_) _ (by rw[bH];omega)]
 .show(if lI n s=true then _ else _)=_;cases lI n s<;>rfl
 .rw[Kk,aO a,ae,ao a,ad,j5,ahi,ad,al (by omega)];by_cases b:k=0
  .subst b;rw[<-Qk a];rfl
  .rw[JO (by omega) (by omega),ao (show k-1<s.length by omega),ad,ad,j5,<-Qk a]
 .rw[Kk,aE,aa,adC]
def ZP {s:List Int}(h:s.length<=1073741824)(n:Int):uR F0 n s=some (lI n s,()):=by
 rw[aot,kf (fun m k=>yu F0 (yv F0) m (o7 n s s (s.length:Int) k)) s.length (fun k=>decide (0<=s.getD k 0)&&(decide (s.getD k 0<n)&&(decide (k=0) || decide (s.getD (k-1) 0<s.getD k 0)))) (some (true,())) (some (false,())) (fun m k a=>?_) (fun m=>?_) _ (by rw[bH];omega)]
 .show(if lI n s=true then _ else _)=_;cases lI n s<;>rfl
 .rw[Lm,aO a,ae,ao a,ad,j5,aih,al (by omega)];by_cases b:k=0
  .subst b;rw[<-Qk a];rfl
  .rw[JO (by omega) (by omega),ao (show k-1<s.length by omega),ad,j5,<-Qk a]
 .rw[Lm,aE,aa,aeh]
def afa {a b:List Int}(h:a.length<=1073741824):gd F0 a b=some (decide (a=b),()):=by
 rw[Oq];by_cases d:a.length=b.length
 .have e:((a.length:Int) != (b.length:Int))=false:=by rw[d];exact ajw (b.length:Int)
  rw[e,aa,kf (fun m k=>gX F0 (fO F0) m (fN a b (a.length:Int) k)) a.length (fun k=>a.getD k 0==b.getD k 0) (some (true,())) (some (false,())) (fun m k f=>?_) (fun m=>?_) _ (by rw[bH];omega)]
  .by_cases c:a=b
   .rw[aH c,ah (hD.2 fun k _=>by rw[c];exact aal (b.getD k 0))]
   .rw[aK c,af];intro j;refine c (List.ext_getElem d fun k g l=>?_);have:=hD.1 j k (il.2 g);simpa [List.getD,g,l]using this
  .rw[oj,aO f,ae,ao f,ad,ao (d▸f),ad,j5,j5,J2,al (by omega),awD];by_cases i:a.getD k 0=b.getD k 0
   .simp[i]
   .simp[i]
  .rw[oj,aE,aa,I5]
 .have e:((a.length:Int) != (b.length:Int))=true:=Dk.2 (by omega);rw[e,ae,aK (fun c=>d (by rw[c]))]
def WQ (c:Int×Int)(q:Int×List UInt8×List Int):Bool:=bq c&&(bw q.2.1&&(decide (aZ q.2.1=q.1)&&(if q.2.1=[] then decide (q.2.2=[]) else lI c.1 q.2.2&&decide ((q.2.2.length:Int)>=BH c))))
def asv:aj=tx []:=rfl
def amz {q:cE}(h:q.2.2.length<=1073741824):gj F0 q=some (q,()):=by rw[alO,mE h,ag]
def awE {v c:Int}{a b:List UInt8}{s t:List Int}(h:s.length<=1073741824):hU F0 (v,tx a,s) (c,tx b,t)=some ((v==c)&&(decide (a=b)&&decide (s=t)),()):=by rw[Ui];dsimp only;rw[Pc,afa h,ag];cases (v==c)<;>cases decide (a=b)<;>rfl
def aul {v:Int}{l:List UInt8}{s:List Int}(d:l.length<=1073741824)(e:s.length<=1073741824)(c:Int×Int):iX F0 c (v,tx l,s)=some (WQ c (v,l,s),()):=by
 rw[arG,gL,ag];unfold WQ;dsimp only;rw[Qj d,ag,amy d,ag,ae9 e,ag,ZO,ag,asv,Pc];cases bq c with
 |false=>rfl
 |true =>
  cases bw l with
  |false=>rfl
  |true =>
   by_cases a:aZ l=v
   .rw[aH a,show(aZ l != v)=false by rw[a];exact ajw v];by_cases b:l=[]
    .rw[aH b,ah b];cases s with
     |nil=>rfl|cons x r=>rfl
    .rw[aK b,af b];cases lI c.1 s<;>rfl
   .rw[aK a,show(aZ l != v)=true from Dk.2 a];rfl
def azM {c:UInt8}{l:List UInt8}(h:parts c l=[[]]):l=[]:=by
 cases l with
 |nil=>rfl
 |cons x l =>
  unfold parts at h;split at h
  .exact absurd (vS h).2 (Ee c l)
  .split at h
   .cases (vS h).1
   .cases (vS h).1
def aum {σ V:Type}{f:σ->List UInt8->Option (σ×V)}{I:σ->Prop}{Q:V->Prop}(e:∀s p a b,I s->f s p=some (a,b)->Q b/\I a):∀{l:List (List UInt8)} {s:σ} {r:List V},I s->Ac f s l=some r->∀b∈r,Q b
 |[],s,r,_,h,b,hb=>by cases h;cases hb
 |p::l,s,r,g,h,b,hb=>by
  unfold Ac at h;cases c:f s p with
  |none=>rw[c]at h;cases h
  |some x =>
   obtain⟨a,i⟩:=x;rw[c]at h;obtain⟨j,k⟩:=e s p a i g c;dsimp only at h;cases d:Ac f a l with
   |none=>rw[d]at h;cases h
   |some m =>
    rw[d]at h;cases h;rcases fe.1 hb with rfl|hb
    .exact j
    .exact aum e k d b hb
def asw {l:List UInt8}:∀s∈(bO l).1,1<=s.1:=by
 unfold bO;split
 .simp
 .split
  .simp
  .split
   .simp
   .split
    .simp
    .rename_i d;refine aum (I:=fun s=>0<=s) (Q:=fun b=>1<=b.1) (fun s p e b f a=>?_) (by omega) d;obtain⟨g,h⟩:=acr a;unfold Ef at a;split at a
     .rename_i c;cases a;exact⟨by have:=c.2.2.2.1;show 1<=_;omega,by have:=c.2.2.2.1;omega⟩
     .cases a
def awF {l:List UInt8}(h:bw l=true)(c:l≠[]):(bO l).1≠[]:=by
 unfold bw at h;unfold bO at h ⊢;rw[af c]at h ⊢;cases b:parts 47 l with
 |nil=>rw[b]at h;cases h
 |cons g d =>
  rw[b]at h;dsimp only at h ⊢;split
  .rename_i a;rw[ah a]at h;cases h
  .rename_i a;rw[af a]at h;have i:g=[]:=atg fun j=>a (.inl j)
   cases e:Ac Ef 0 d with
   |none=>rw[e]at h;cases h
   |some r =>
    dsimp only;intro k;have f:=Pf e;rw[k]at f;have:d=[]:=WS f.symm;subst this i;exact c (azM b)
def amA {l:List UInt8}(h:bw l=true)(b:l≠[]):1<=aZ l:=by
 have c:=awF h b;unfold aZ;cases a:(bO l).1.getLast? with
 |none=>exact absurd (List.getLast?_eq_none_iff.1 a) c|some s=>exact asw s (List.mem_of_getLast? a)
def awG:aZ []=0:=rfl
def amB:bw []=true:=rfl
def aBB (c:Int×Int)(v:Int)(l:List UInt8)(s:List Int) :
  (bq c&&(((v==0)&&(decide (l=[])&&decide (s=[]))) || (decide (v>=1)&&(bw l&&((v==aZ l)&&(lI c.1 s&&decide ((s.length:Int)>=BH c)))))))=WQ c (v,l,s):=by
 unfold WQ;dsimp only;cases e:bq c with
 |false=>rfl
 |true =>
  rw[hH,hH];by_cases b:l=[]
  .subst b;rw[awG,amB,ah rfl,aH rfl,hH,hH,hH];by_cases a:v=0
   .subst a;rw[aal,aH rfl,aK (show ¬(0:Int)>=1 by omega),WV,Bool.or_false]
   .rw[bR.2 a,aK (show ¬(0:Int)=v from fun h=>a h.symm)];simp
  .rw[aK b,WV,afF,va,af b];cases d:bw l with
   |false=>rw[WV,WV,afF]
   |true =>
    have:=amA d b;by_cases a:v=aZ l
    .rw[aH (show v>=1 by omega),bc.2 a,aH a.symm];rfl
    .rw[bR.2 a,aK (show ¬aZ l=v from fun h=>a h.symm)];simp
def apZ {v:Int}{l:List UInt8}{s:List Int}(a:l.length<=1073741824)(b:s.length<=1073741824)(c:Int×Int):la F0 c (v,tx l,s)=some (WQ c (v,l,s),()):=by rw[<-aBB,arY,fh,ag,RM,ag];dsimp only;rw[asv,awE b,ag,Mj a,ag,agH a,ag,ZP b,ag,Va,ag];dsimp only;generalize bw l=d;generalize aZ l=e;generalize lI c.1 s=f;generalize decide ((s.length:Int)>=BH c)=g;generalize decide (v>=1)=h;generalize ((v==0)&&(decide (l=[])&&decide (s=[])))=i;generalize (v==e)=j;cases bq c<;>cases d<;>cases f<;>cases g<;>cases h<;>cases i<;>cases j<;>rfl
def Vb (c:Int×Int)(p:Int×List UInt8×List Int):Option (Int×List UInt8×List Int):=if p.2.1≠[]/\WQ c p=true then some p else none
def ayU (o:Option (Int×List UInt8×List Int)):cE×Bool:=match o with
 |some q=>((q.1,tx q.2.1,q.2.2),true)|none=>((0,tx [],[]),false)
def awH {v:Int}{l:List UInt8}{s:List Int}(b:l.length<=1073741824)(d:s.length<=1073741824)(c:Int×Int):DD F0 c (v,tx l,s)=some ((ayU (Vb c (v,l,s))).1,(ayU (Vb c (v,l,s))).2,()):=by
 rw[akY];dsimp only;rw[av (by omega) (by omega) (by omega),ad,asv,Pc,Fc,aul b d,ag];unfold Vb;dsimp only;by_cases a:l=[]
 .rw[aH a,ae,af (fun h=>h.1 a)];rfl
 .rw[aK a,aa];cases e:WQ c (v,l,s) with
  |true=>rw[ah ⟨a,rfl⟩];rfl|false=>rw[af (fun h=>by cases h.2)];rfl
def azN {c:Int×Int}{v:Int}{l:List UInt8}{s:List Int}(h:WQ c (v,l,s)=true):(v==0)=decide (l=[]):=by
 unfold WQ at h;simp only[aD,bV]at h;obtain⟨_,b,d,_⟩:=h;by_cases a:l=[]
 .subst a;rw[<-d];rfl
 .have:=amA b a;rw[aK a];exact bR.2 (by omega)
def aun {v:Int}{l:List UInt8}{s:List Int}(d:l.length<=1073741824)(b:s.length<=1073741824)(c:Int×Int):DW F0 c (v,tx l,s)=some ((ayU (Vb c (v,l,s))).1,(ayU (Vb c (v,l,s))).2,()):=by
 rw[alY,amz (q:=(v,tx l,s)) b,ag];dsimp only;rw[apZ d b,ag];unfold Vb;dsimp only;cases e:WQ c (v,l,s) with
 |false=>rw[af (fun h=>by cases h.2)];rfl
 |true =>
  rw[aG,aa,azN e];by_cases a:l=[]
  .rw[aH a,ae,af (fun h=>h.1 a)];rfl
  .rw[aK a,aa,ah ⟨a,rfl⟩];rfl
def bW (c:Int×Int)(view:Int):Int:=if bq c=true/\0<=view then view%c.1 else -1
def Vc (c:Int×Int)(view s:Int):Int:=if bq c=true/\0<=view/\0<=s/\s<=c.1-1 then (view%c.1+s)%c.1 else -1
def bG (c:Int×Int)(view i:Int):Int:=if bq c=true/\0<=view/\0<=i/\i<=c.1-1 then (i+c.1-view%c.1)%c.1 else -1
def Ph (c:Int×Int)(view i:Int):Int:=if bG c view i<=0 then -1 else Vc c view ((bG c view i-1)/c.2)
def sG {a b:Int}(h:0<=a):Int.tmod a b=a%b:=ajp h
def ne0 {n:Int}(h:4<=n):(!(n==0))=true:=by rw[bR.2 (show n≠0 by omega)];rfl
def ajf {lo hi x:Int}:e4 lo hi x=decide (lo<=x/\x<=hi):=by unfold e4;by_cases a:lo<=x<;>by_cases b:x<=hi<;>simp[a,b]
def asx {n:Int}(a:4<=n)(view:Int):0<=view%n/\view%n<n:=⟨YK _ (by omega),ajs _ (by omega)⟩
def JP (c:Int×Int)(view:Int):kY F0 c view=some (bW c view,()):=by
 rw[arI,gL,ag];unfold bW;cases b:bq c with
 |false=>rfl
 |true =>
  have d:=b4 b;by_cases a:view<0
  .rw[aH a,af (fun h=>by omega)];rfl
  .rw[aK a,aG,aa,aa,ne0 d.1,ad,ah ⟨rfl,by omega⟩,sG (by omega)]
def HR (c:Int×Int)(view:Int):rr F0 c view=some (bW c view,()):=by
 rw[ar8,fh,ag];unfold bW;cases b:bq c with
 |false=>rfl
 |true =>
  have d:=b4 b;by_cases a:view<0
  .rw[aH a,af (fun h=>by omega)];rfl
  .rw[aK a,aG,aa,aa,ne0 d.1,ad,ah ⟨rfl,by omega⟩,sG (by omega)]
def Vd {n:Int}(a:4<=n)(b:n<=7):ai (n-1)=n-1:=aF (by omega) (by omega)
def aBC (c:Int×Int)(view s:Int):VM F0 c view s=some (Vc c view s,()):=by
 rw[arM,gL,ag];unfold Vc;cases f:bq c with
 |false=>rfl
 |true =>
  have d:=b4 f;have g:=asx d.1 view;by_cases e:view<0
  .rw[aH e,af (fun h=>by omega)];rfl
  .rw[aK e,aG,aa,aa,cO,ag,Vd d.1 d.2.1,ajf];by_cases b:0<=s/\s<=c.1-1
   .rw[aH b,aG,aa,ne0 d.1,ad,ad,ah ⟨rfl,by omega,b.1,b.2⟩,sG (a:=view) (by omega),aF (by omega) (by omega),sG (by omega)]
   .rw[aK b,af (fun h=>b ⟨h.2.2.1,h.2.2.2⟩)];rfl
def azO (c:Int×Int)(view s:Int):VU F0 c view s=some (Vc c view s,()):=by
 rw[asb,fh,ag];unfold Vc;cases f:bq c with
 |false=>rfl
 |true =>
  have d:=b4 f;have g:=asx d.1 view;by_cases e:view<0
  .rw[aH e,af (fun h=>by omega)];rfl
  .rw[aK e,aG,aa,aa,bM,ag,Vd d.1 d.2.1,ajf];by_cases b:0<=s/\s<=c.1-1
   .rw[aH b,aG,aa,ne0 d.1,ad,ad,ah ⟨rfl,by omega,b.1,b.2⟩,sG (a:=view) (by omega),aF (by omega) (by omega),sG (by omega)]
   .rw[aK b,af (fun h=>b ⟨h.2.2.1,h.2.2.2⟩)];rfl
def Ve (c:Int×Int)(view i:Int):HM F0 c view i=some (bG c view i,()):=by
 rw[arL,gL,ag];unfold bG;cases f:bq c with
 |false=>rfl
 |true =>
  have d:=b4 f;have g:=asx d.1 view;by_cases e:view<0
  .rw[aH e,af (fun h=>by omega)];rfl
  .rw[aK e,aG,aa,aa,cO,ag,Vd d.1 d.2.1,ajf];by_cases b:0<=i/\i<=c.1-1
   .rw[aH b,aG,aa,ne0 d.1,ad,ad,ah ⟨rfl,by omega,b.1,b.2⟩,sG (a:=view) (by omega),aF (n:=i+c.1) (by omega) (by omega),aF (by omega) (by omega),sG (by omega)]
   .rw[aK b,af (fun h=>b ⟨h.2.2.1,h.2.2.2⟩)];rfl
def HS (c:Int×Int)(view i:Int):HN F0 c view i=some (bG c view i,()):=by
 rw[asa,fh,ag];unfold bG;cases f:bq c with
 |false=>rfl
 |true =>
  have d:=b4 f;have g:=asx d.1 view;by_cases e:view<0
  .rw[aH e,af (fun h=>by omega)];rfl
  .rw[aK e,aG,aa,aa,bM,ag,Vd d.1 d.2.1,ajf];by_cases b:0<=i/\i<=c.1-1
   .rw[aH b,aG,aa,ne0 d.1,ad,ad,ah ⟨rfl,by omega,b.1,b.2⟩,sG (a:=view) (by omega),aF (n:=i-view%c.1) (by omega) (by omega),aF (by omega) (by omega),sG (by omega),
     show i-view%c.1+c.1=i+c.1-view%c.1 by omega]
   .rw[aK b,af (fun h=>b ⟨h.2.2.1,h.2.2.2⟩)];rfl
def V0 (c:Int×Int)(view i:Int):-1<=bG c view i/\bG c view i<=6:=by
 unfold bG;split
 .rename_i h;have a:=b4 h.1;have b:=YK (i+c.1-view%c.1) (show c.1≠0 by omega);have d:=ajs (i+c.1-view%c.1) (show 0<c.1 by omega);omega
 .omega
def agJ {c:Int×Int}{view i:Int}(h:0<=bG c view i):bq c=true:=by
 unfold bG at h;split at h
 .rename_i a;exact a.1
 .omega
def aBD {a b:Int}(c:0<=a)(d:a<=6)(e:1<=b):0<=a/b/\a/b<=6:=⟨Int.ediv_nonneg c (by omega),Int.le_trans (Int.ediv_le_self b c) d⟩
def aBE (c:Int×Int)(view i:Int):VN F0 c view i=some (Ph c view i,()):=by
 rw[aww,Ve,ag];unfold Ph;have f:=V0 c view i;by_cases d:bG c view i<=0
 .rw[aH (show(bG c view i,()).1<=0 from d),ae,ah d]
 .have e:=b4 (agJ (c:=c) (view:=view) (i:=i) (by omega));have g:=aBD (a:=bG c view i-1) (b:=c.2) (by omega) (by omega) e.2.2.1;rw[aK (show ¬(bG c view i,()).1<=0 from d),aa,af d,show(!(c.2==0))=true by rw[bR.2 (show c.2≠0 by omega)];rfl,ad];dsimp only;rw[aF (n:=bG c view i-1) (by omega) (by omega),ao7 (show 0<=bG c view i-1 by omega),aF (by omega) (by omega),aBC,ag]
def ayV (c:Int×Int)(view i:Int):VV F0 c view i=some (Ph c view i,()):=by
 rw[awx,HS,ag];unfold Ph;have f:=V0 c view i;by_cases d:bG c view i<=0
 .rw[aH (show(bG c view i,()).1<1 by show bG c view i<1;omega),ae,ah d]
 .have e:=b4 (agJ (c:=c) (view:=view) (i:=i) (by omega));have g:=aBD (a:=bG c view i-1) (b:=c.2) (by omega) (by omega) e.2.2.1;rw[aK (show ¬(bG c view i,()).1<1 by show ¬bG c view i<1;omega),aa,af d,show(!(c.2==0))=true by rw[bR.2 (show c.2≠0 by omega)];rfl,ad];dsimp only;rw[aF (n:=bG c view i-1) (by omega) (by omega),ao7 (show 0<=bG c view i-1 by omega),aF (by omega) (by omega),azO,ag]
def ap0 (a b:List Int):List Int:=b.foldl U8 (a.foldl U8 [])
def lJ:∀(l a:List Int),(l.foldl U8 a).length<=a.length+l.length
 |[],a=>by simp
 |x::l,a=>by have b:=lJ l (U8 a x);have c:=amx a x;rw[List.foldl_cons,aV];omega
def azP (a b:List Int):(ap0 a b).length<=a.length+b.length:=by unfold ap0;have d:=lJ b (a.foldl U8 []);have c:=lJ a [];rw[ba]at c;omega
def V1 {γ:Type}(X:Nat->Int->List Int->Option γ)(l a:List Int)(R:Option γ)(f:a.length+l.length<=1048576)(c:∀n k xs (h:k<l.length),xs.length<=1048575->X (n+1) (k:Int) xs=X n ((k+1:Nat):Int) (U8 xs l[k]))
  (d:∀n,X (n+1) (l.length:Int) (l.foldl U8 a)=R) (n:Nat) (e:l.length<n):X n 0 a=R:=by
 refine cp X l.length (fun k xs=>xs=(l.take k).foldl U8 a) R (fun n k xs b h=>.inr ⟨U8 xs l[k],c n k xs b ?_,?_⟩) (fun n xs h=>?_) n 0 a (aQ _) rfl (by omega)
 .have:=lJ (l.take k) a;rw[h];rw[bz]at this;omega
 .rw[hz b,List.foldl_append,<-h];rfl
 .rw[mH]at h;rw[h];exact d n
def auo {a b:List Int}(h:a.length+b.length<=1048576):GI F0 a b=some (ap0 a b,()):=by
 rw[ahS];have d:=lJ a [];rw[ba]at d;refine V1 (fun n i xs=>xV F0 (Bc F0) n (pY a b i xs)) a [] _ (by rw[ba];omega) (fun n k xs c e=>?_) (fun n=>?_) _ (by rw[bH];omega)
 .rw[Fx,aO c,ae,ao c,ad,bb c,ZN (by omega),ag,al (by omega)]
 .rw[Fx,aE,aa,Zj];refine V1 (fun n i xs=>xU F0 (Bb F0) n (pX b i xs)) b (a.foldl U8 []) _ (by omega) (fun n k xs c e=>?_) (fun n=>?_) _ (by rw[bH];omega)
  .rw[Fw,aO c,ae,ao c,ad,bb c,ZN (by omega),ag,al (by omega)]
  .rw[Fw,aE,aa,Zi];rfl
def asy {a b:List Int}(h:a.length+b.length<=1048576):Hd F0 a b=some (ap0 a b,()):=by
 rw[aiI];have d:=lJ a [];rw[ba]at d;refine V1 (fun n i xs=>y0 F0 (By F0) n (rp b a (a.length:Int) i xs)) a [] _ (by rw[ba];omega) (fun n k xs c e=>?_) (fun n=>?_) _ (by rw[bH];omega)
 .rw[FW,aO c,ae,ao c,ad,bb c,agG (by omega),ag,al (by omega)]
 .rw[FW,aE,aa,ZD];refine V1 (fun n i xs=>yZ F0 (Bx F0) n (rn b (b.length:Int) i xs)) b (a.foldl U8 []) _ (by omega) (fun n k xs c e=>?_) (fun n=>?_) _ (by rw[bH];omega)
  .rw[FV,aO c,ae,ao c,ad,bb c,agG (by omega),ag,al (by omega)]
  .rw[FV,aE,aa,ZC];rfl
def kx {i n:Int}(a:0<=i)(h:i<n):bN i n=true:=by simp[bN];omega
end Go.Am.Tryz
