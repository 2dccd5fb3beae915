/- No condition. -/
import Derived.Test.YtpkabclplaibaaaGreatDoorQwYJG8
import Derived.Lib.MinMaxS
import Derived.Lib.CutLaws
import Derived.Lib.PathFns
import Derived.Lib.SplitLaws
import Derived.Test.YtpkabclplaibaaaGreatDoorQwAmData
set_option linter.all false
namespace Go.Am.Tryz
open Go.Am
def I6 (n:Int):Prop:=-9223372036854775808<=n/\n<=9223372036854775807
def vO {n:Int}(h:I6 n):hQ F0 n=some (tx (Lib.itoa n),()):=by
 rw[akw];by_cases a:n=0
 .subst a;simp only[oD,ae]
  congr 2
  simp[tx,Lib.itoa,Lib.decDigits]
 .rw[show(n==0)=false from b0.2 a,aa];have r:(Lib.decDigits n.natAbs).length<=20:=by rw[Lib.decDigits_length];exact Lib.nDigits_le20 _ (by obtain⟨f,g⟩:=h;omega)
  refine ayL (fun m (x:Int×List UInt8)=>s7 F0 (FF F0) m (nB x.1 (decide (n<0)) (tx x.2))) _ (fun x=>I6 x.1/\az9 x.1.natAbs++x.2=Lib.decDigits n.natAbs) (fun x=>x.1.natAbs) (fun m x p=>?_) _ (n,[]) ⟨h,?_⟩ ?_
  .obtain⟨x,l⟩:=x;obtain⟨⟨f,g⟩,b⟩:=p;simp only at f g b ⊢;have s:l.length<=20:=by have:=Bd List.length b;rw[aN]at this;omega
   by_cases k:x=0
   .left;subst k;rw[Jw];simp only[Gn,aa,abN];rw[show az9 (Int.natAbs 0)=[] from rfl,s4]at b;subst b;by_cases c:n<0
    .rw[aS c,ae,fX (by rw[bn];have:(ByteArray.mk #[45]).size=1:=rfl;omega),ab,show ByteArray.mk #[45]=tx [45] from rfl,gw];unfold Lib.itoa;rw[ak c];rfl
    .rw[aV c,aa];unfold Lib.itoa;rw[ag c,show n.natAbs=n.toNat by omega]
   .right;have o:x.natAbs%10<10:=adY _ (by omega);have aHb:(Int.tdiv x 10).natAbs=x.natAbs/10:=by rw[Int.natAbs_tdiv];rfl
    have i:I6 (Int.tdiv x 10):=⟨by omega,by omega⟩;have q:=aB1 (u:=x.natAbs) (by omega);have j:al (Int.tdiv x 10)=Int.tdiv x 10:=aG i.1 i.2;refine⟨(Int.tdiv x 10,UInt8.ofNat (48+x.natAbs%10)::l),?_,⟨i,?_⟩,?_⟩
    .rw[Jw,show(x != 0)=true from Ez.2 k,ae];have key:tx [UInt8.ofNat (48+x.natAbs%10)]++tx l=tx (UInt8.ofNat (48+x.natAbs%10)::l):=by rw[gw];rfl
     have d:Ru F0 (tx [UInt8.ofNat (48+x.natAbs%10)]).size (tx l).size=true:=fX (by rw[bn,bn];simp only[a1,bJ];omega);by_cases t:x<0
     .have e:Int.tmod x 10=-((x.natAbs%10:Nat):Int):=by obtain⟨u,rfl⟩:∃u:Nat,x=-(u:Int):=⟨x.natAbs,by omega⟩;rw[Int.neg_tmod,Int.natAbs_neg,Int.natAbs_natCast];rfl
      by_cases a:x.natAbs%10=0
      .rw[e,a,show decide (-((0:Nat):Int)<0)=false from rfl,aa,show(48+-((0:Nat):Int))=48+((0:Nat):Int) from rfl,dig (by omega)];rw[a]at d key;rw[d,ab,key,j]
      .rw[e,aS (by omega),ae,aG (n:=0 - -((x.natAbs%10:Nat):Int)) (by omega) (by omega),show(0:Int) - -((x.natAbs%10:Nat):Int)=((x.natAbs%10:Nat):Int) by omega,dig o,d,ab,key,j]
     .have e:Int.tmod x 10=((x.natAbs%10:Nat):Int):=by obtain⟨u,rfl⟩:∃u:Nat,x=(u:Int):=⟨x.natAbs,by omega⟩;rfl
      rw[e,aV (by omega),aa,dig o,d,ab,key,j]
    .simp only;rw[aHb,<-b,q];simp
    .simp only;rw[aHb];omega
  .simp only[fD];unfold az9;rw[ag (by omega)]
  .simp only;rw[bg];obtain⟨f,g⟩:=h;omega
def VW {n:Int}(h:I6 n):ma F0 n=some (tx (Lib.itoa n),()):=by rw[alN];unfold strconv_Itoa;rw[aS h.1,aS h.2];rfl
def QQ {n:Int}(h:I6 n):(Lib.itoa n).length<=21:=Lib.itoa_length_le n h.1 h.2
def VX (a b:List UInt8):((tx a).toList==(tx b).toList)=decide (a=b):=by
 rw[Lib.toList_data,Lib.toList_data,hy,hy];by_cases h:a=b
 .simp[h]
 .simp[h]
def WX (l:List UInt8)(k:Nat):ij (tx l) (k:Int)=((l.getD k 0).toNat:Int):=by unfold ij;rw[hy];rfl
def ar9 (c:UInt8):c.toNat<256:=UInt8.toNat_lt c
def isD (c:UInt8):Bool:=decide (48<=c.toNat)&&decide (c.toNat<=57)
def val:List UInt8->Nat->Nat
 |[],n=>n|c::l,n=>val l (10*n+(c.toNat-48))
def eS (l:List UInt8):Int×Bool :=
 if l.length<1\/6<l.length then (0,false)
 else if l.all isD then (if Lib.itoa (val l 0:Int)=l then ((val l 0:Int),true) else (0,false)) else (0,false)
def amg (a b:List UInt8)(n:Nat):val (a++b) n=val b (val a n):=by
 induction a generalizing n with
 |nil=>rfl|cons c l d=>exact d _
def aFS {l:List UInt8}(h:∀c∈l,isD c=true)(n:Nat):val l n<(n+1)*10 ^ l.length:=by
 induction l generalizing n with
 |nil=>simp[val]
 |cons c l a =>
  have b:=a (fun d e=>h d (jG _ e)) (10*n+(c.toNat-48));have f:=h c vR;simp only[isD,aE,bM]at f;refine Ew b ?_;rw[a1,Nat.pow_succ];have g:10*n+(c.toNat-48)+1<=(n+1)*10:=by omega
  calc (10*n+(c.toNat-48)+1)*10 ^ l.length<=((n+1)*10)*10 ^ l.length:=Bb _ g
   _=(n+1)*(10 ^ l.length*10):=by rw[Nat.mul_assoc,Nat.mul_comm 10]
def aCa {l:List UInt8}{k:Nat}(h:k<l.length):val (l.take (k+1)) 0=10*val (l.take k) 0+((l.getD k 0).toNat-48):=by rw[Lt,aR h 0,amg];rfl
def afy {l:List UInt8}(a:l.length<=6)(h:∀c∈l,isD c=true):val l 0<=999999:=by have b:=aFS h 0;have d:10 ^ l.length<=10 ^ 6:=Nat.pow_le_pow_right (by omega) a;omega
def amh (l:List UInt8):0<=(eS l).1/\(eS l).1<=999999:=by
 unfold eS;split
 .simp
 .split
  .rename_i d a;have:=afy (l:=l) (by omega) (fun c b=>dh.1 a c b);split
   .simp only;omega
   .simp
  .simp
def at2 {l:List UInt8}(t:1<=l.length)(o:l.length<=6){X:Nat->Int->Int->Option (Int×(Bool×Unit))}{D:Int->Option (ByteArray×Unit)}(p:∀n,I6 n->D n=some (tx (Lib.itoa n),()))
  (q:∀n k (m:Nat),k<l.length->m<=999999->X (n+1) m k=br (decide (((l.getD k 0).toNat:Int)<48)) (some (0,false,())) (br (decide (((l.getD k 0).toNat:Int)>57)) (some (0,false,())) (X n (al (al (10*m)+al ((l.getD k 0).toNat-48))) ((k+1:Nat):Int))))
  (s:∀n (m:Nat),X (n+1) m l.length=(D m).bind fun r=>br (!(r.1.toList==(tx l).toList)) (some (0,false,())) (some ((m:Int),true,()))) (n:Nat) (u:6<n):X n 0 0=some ((eS l).1,(eS l).2,()):=by
 refine cx (fun n i (m:Nat)=>X n m i) l.length (fun k m=>m=val (l.take k) 0/\∀c∈l.take k,isD c=true) _ (fun n k m d f=>?_) (fun n m f=>?_) n 0 0 (a7 _) ⟨rfl,by simp⟩ (by omega)
 .obtain⟨rfl,b⟩:=f;have g:=afy (l:=l.take k) (by rw[bQ];omega) b;have j:=nz d (0:UInt8);have v:=ar9 (l.getD k 0);rw[q n k _ d g];by_cases w:(l.getD k 0).toNat<48
  .left;rw[aS (by omega),ae];have:l.all isD=false:=by rw[adV];exact⟨_,j,fun h=>by simp only[isD,aE,bM]at h;omega⟩
   unfold eS;rw[ag (by omega),this];rfl
  .by_cases x:(l.getD k 0).toNat>57
   .left;rw[aV (by omega),aa,aS (by omega),ae];have:l.all isD=false:=by rw[adV];exact⟨_,j,fun h=>by simp only[isD,aE,bM]at h;omega⟩
    unfold eS;rw[ag (by omega),this];rfl
   .right;refine⟨val (l.take (k+1)) 0,?_,rfl,?_⟩
    .rw[aV (by omega),aa,aV (by omega),aa,aCa d,aG (n:=10*_) (by omega) (by omega),aG (n:=((l.getD k 0).toNat:Int)-48) (by omega) (by omega),aG (by omega) (by omega)]
     congr 1
     omega
    .intro c a;rw[Lt,aR d 0]at a;rcases eK.1 a with a|a
     .exact b c a
     .simp only[ajy,fj]at a;subst a;simp only[isD,aE,bM];omega
 .obtain⟨rfl,b⟩:=f;rw[l3]at b ⊢;have g:=afy o b;rw[s,p _ ⟨by omega,by omega⟩,an,VX];unfold eS;rw[ag (by omega),ak (dh.2 b)];by_cases e:Lib.itoa (val l 0:Int)=l
  .rw[aS e,ak e];rfl
  .rw[aV e,ag e];rfl
def CI (l:List UInt8):l6 F0 (tx l)=some ((eS l).1,(eS l).2,()):=by
 rw[aky,bn];by_cases b:l.length<1
 .rw[aS (by omega),ae];unfold eS;rw[ak (.inl b)]
 .rw[aV (by omega),aa];by_cases c:6<l.length
  .rw[aS (by omega),ae];unfold eS;rw[ak (.inr c)]
  .rw[aV (by omega),aa];refine at2 (X:=fun n m k=>C5 F0 (tP F0) n (tO (tx l) m k)) (by omega) (by omega) (fun n d=>vO d) (fun n k m a e=>?_) (fun n m=>?_) _ (by rw[bg];omega)
   .have f:=ar9 (l.getD k 0);rw[JA];simp only[bn,WX,aef,aO a,ao a,ae,ab,ah (show k+1<=9223372036854775807 by omega)]
    congr 2
    congr 2
    rw[aG (n:=10*(m:Int)) (by omega) (by omega),aG (n:=((l.getD k 0).toNat:Int)) (by omega) (by omega),aG (n:=10*(m:Int)+((l.getD k 0).toNat:Int)) (by omega) (by omega),aG (n:=((l.getD k 0).toNat:Int)-48) (by omega) (by omega)]
    congr 1
    omega
   .rw[JA];simp only[bn,aA,aa,abP]
def Fi (l:List UInt8):mb F0 (tx l)=some ((eS l).1,(eS l).2,()):=by
 rw[alO,bn];by_cases b:l.length<1
 .rw[aS (by omega),ae];unfold eS;rw[ak (.inl b)]
 .rw[aV (by omega),aa];by_cases c:6<l.length
  .rw[aS (by omega),ae];unfold eS;rw[ak (.inr c)]
  .rw[aV (by omega),aa];refine at2 (X:=fun n m k=>DN F0 (uY F0) n (uX (tx l) m k)) (by omega) (by omega) (fun n d=>VW d) (fun n k m a e=>?_) (fun n m=>?_) _ (by rw[bg];omega)
   .have f:=ar9 (l.getD k 0);rw[Kk];simp only[bn,WX,aeO,aO a,ao a,ae,ab,ah (show k+1<=9223372036854775807 by omega)];by_cases g:(l.getD k 0).toNat<48
    .rw[aS (by omega),ae,ae]
    .rw[IntWalk.u8_in _ (by omega)]
   .rw[Kk];simp only[bn,aA,aa,acy]
def ami (l:List UInt8)(k:Nat):(tx l).extract 0 k=tx (l.take k):=by rw[Ot ((tx l).extract 0 k),Lib.Pa.extract_upto_list,hy]
def extract_from (l:List UInt8)(k:Nat):(tx l).extract k (tx l).size=tx (l.drop k):=by rw[Ot ((tx l).extract k (tx l).size),Lib.extract_to_end,hy]
def amj {a b:List UInt8}{c:UInt8}(h:c ∉ a):(a++c::b).takeWhile (· != c)=a/\(a++c::b).dropWhile (· != c)=c::b:=by
 induction a with
 |nil=>simp
 |cons x a d =>
  have e:(x != c)=true:=by simp;rintro rfl;simp at h
  have:=d fun f=>h (jG _ f)
  rw[Gp,List.takeWhile_cons,List.dropWhile_cons,e];exact⟨by simp[this.1],by simp[this.2]⟩
def aFz {a:List UInt8}{c:UInt8}(h:c ∉ a):a.takeWhile (· != c)=a/\a.dropWhile (· != c)=[]:=by
 induction a with
 |nil=>simp
 |cons x a b =>
  have d:(x != c)=true:=by simp;rintro rfl;simp at h
  have:=b fun e=>h (jG _ e)
  rw[List.takeWhile_cons,List.dropWhile_cons,d];exact⟨by simp[this.1],by simp[this.2]⟩
def at3 {l:List UInt8}{k:Nat}(h:k<l.length):l=l.take k++l.getD k 0::l.drop (k+1):=by
 have:l.getD k 0=l[k]:=by simp[List.getD,h]
 rw[this,List.getElem_cons_drop,apa]
def apQ {l:List UInt8}(c:UInt8)(s:l.length<=4294967296) :
  gL F0 (tx l) (c.toNat:Int)=some (if c∈l then (tx (l.takeWhile (· != c)),tx ((l.dropWhile (· != c)).drop 1),true,()) else (tx [],tx [],false,())):=by
 rw[an0];refine cx (fun n i (_:Unit)=>HH F0 (xJ F0) n (xx (tx l) (c.toNat:Int) i)) l.length (fun k _=>c ∉ l.take k) _ (fun n k _ d a=>?_) (fun n _ a=>?_) F0.n 0 () (a7 _) (by simp) (by rw[bg];omega)
 .rw[LG,bn,aO d,ae,ao d,ab,WX];by_cases e:l.getD k 0=c
  .left;have f:=at3 d;rw[e]at f;have j:=amj (b:=l.drop (k+1)) a;have g:((((l.getD k 0).toNat:Int))==(c.toNat:Int))=true:=by rw[e];simp
   have m:Qw 0 (k:Int) (l.length:Int)=true:=by simp[Qw];omega
   have o:Qw ((k+1:Nat):Int) (l.length:Int) (l.length:Int)=true:=by simp only[Qw,aE,bM];omega
   rw[g,ae,m,ab,ah (by omega),o,ab,ahw];simp only[l2,show(0:Int).toNat=0 from rfl];have p:c∈l:=by rw[f];simp
   rw[ak p,ami,show((tx l).extract (k+1) l.length)=tx (l.drop (k+1)) by rw[<-extract_from,bn]];have q:l.takeWhile (· != c)=l.take k:=by
    have:=j.1
    rwa [<-f]at this
   have r:(l.dropWhile (· != c)).drop 1=l.drop (k+1):=by have:=j.2;rw[<-f]at this;rw[this];rfl
   rw[q,r]
  .right;have g:((((l.getD k 0).toNat:Int))==(c.toNat:Int))=false:=by refine b0.2 fun h=>e (UInt8.toNat_inj.1 (by omega))
   refine⟨(),by rw[g,aa,ah (by omega)],?_⟩;rw[Lt,aR d 0];simp only[ajy,eK,fj];rintro(h|h)
   .exact a h
   .exact e h.symm
 .rw[l3]at a;rw[LG,bn,aA,aa,aee,ag a];rfl
def ade {a b:List UInt8}{c:UInt8}(h:c ∉ a):Lib.indexByte (a++c::b) c=a.length:=by
 induction a with
 |nil=>simp[Lib.indexByte]
 |cons x a d =>
  have e:(x==c)=false:=by simp;rintro rfl;simp at h
  have:=d fun f=>h (jG _ f)
  rw[Gp];unfold Lib.indexByte;rw[e,this];simp
def adf {a:List UInt8}{c:UInt8}(h:c ∉ a):Lib.indexByte a c=-1:=by
 induction a with
 |nil=>rfl
 |cons x a b =>
  have d:(x==c)=false:=by simp;rintro rfl;simp at h
  have:=b fun e=>h (jG _ e)
  unfold Lib.indexByte;rw[d,this];rfl
def adg {l:List UInt8}{c:UInt8}(h:c∈l):∃a b,l=a++c::b/\c ∉ a:=by
 induction l with
 |nil=>cases h
 |cons x l g =>
  by_cases d:x=c
  .exact⟨[],l,by rw[d];rfl,by simp⟩
  .rcases cK.1 h with e|e
   .exact absurd e.symm d
   .obtain⟨a,b,i,j⟩:=g e;exact⟨x::a,b,by rw[i];rfl,fun k=>by
     rcases cK.1 k with f|f
     .exact d f.symm
     .exact j f⟩
def aEa (l:List UInt8)(c:UInt8):Lib.cut l [c]=(l.takeWhile (· != c),(l.dropWhile (· != c)).drop 1,decide (c∈l)):=by
 unfold Lib.cut;rw[Lib.index_one];by_cases h:c∈l
 .obtain⟨a,b,rfl,d⟩:=adg h;rw[ade d,ak (by omega),(amj d).1,(amj d).2];simp[List.take_append,List.drop_append]
 .rw[adf h,ag (by omega),(aFz h).1,(aFz h).2];simp[h]
def vj {l:List UInt8}(c:UInt8)(a:l.length<4294967281):strings_Cut F0 (tx l) (tx [c])=some (tx (l.takeWhile (· != c)),tx ((l.dropWhile (· != c)).drop 1),decide (c∈l),()):=by
 have h:Nat.blt (tx l).size 4294967281=true:=by rw[bn];simpa using a
 unfold strings_Cut;rw[h,ab,hy,hy,aEa];rfl
abbrev dK:=Int×(Int×(Int×Int))
def adh (x lo hi:Int):bI F0 x lo hi=some (decide (lo<=x)&&decide (x<=hi),()):=by
 rw[arB];by_cases h:lo<=x
 .rw[aS (show x>=lo from h),ae,fF]
 .rw[aV (show ¬x>=lo from h),aa,Tq]
def QR (x lo hi:Int):bw F0 x lo hi=some (decide (lo<=x)&&decide (x<=hi),()):=by
 rw[alP];by_cases h:lo<=x
 .rw[aS (show x>=lo from h),ae,fF]
 .rw[aV (show ¬x>=lo from h),aa,Tq]
def inB (x lo hi:Int):Bool:=decide (lo<=x)&&decide (x<=hi)
def fS (x:dK):Bool:=inB x.1 0 3&&inB x.2.1 0 3&&inB x.2.2.1 0 1000&&inB x.2.2.2 0 99
def awN (a b:Bool):br a (some (b,())) (some (false,()))=some (a&&b,()):=by cases a<;>rfl
def P3 (x:dK):rk F0 x=some (fS x,()):=by rw[arC];simp only[adh,an,awN];simp only[fS,inB,Bool.and_assoc]
def P4 (x:dK):wB F0 x=some (fS x,()):=by rw[arT];simp only[QR,an,awN];simp only[fS,inB,Bool.and_assoc]
def jD {x:dK}(h:fS x=true):(0<=x.1/\x.1<=3)/\(0<=x.2.1/\x.2.1<=3)/\(0<=x.2.2.1/\x.2.2.1<=1000)/\(0<=x.2.2.2/\x.2.2.2<=99):=by simp only[fS,inB,aE,bM]at h;exact⟨h.1.1.1,h.1.1.2,h.1.2,h.2⟩
def txL (x:dK):List UInt8:=Lib.itoa x.1++62::(Lib.itoa x.2.1++58::(Lib.itoa x.2.2.1++35::Lib.itoa x.2.2.2))
def aml {x:dK}(h:fS x=true):(txL x).length<=90:=by obtain⟨a,b,c,d⟩:=jD h;have e:=QQ (n:=x.1) ⟨by omega,by omega⟩;have f:=QQ (n:=x.2.1) ⟨by omega,by omega⟩;have g:=QQ (n:=x.2.2.1) ⟨by omega,by omega⟩;have i:=QQ (n:=x.2.2.2) ⟨by omega,by omega⟩;simp only[txL,aN,a1];omega
def aaE (x:dK):List UInt8:=if fS x=true then txL x else []
def amm (x:dK):vZ F0 x=some (tx (aaE x),()):=by
 rw[akx,P3,an];unfold aaE;cases h:fS x with
 |false=>rfl
 |true =>
  obtain⟨f,g,i,j⟩:=jD h;have a:=vO (n:=x.1) ⟨by omega,by omega⟩;have b:=vO (n:=x.2.1) ⟨by omega,by omega⟩;have c:=vO (n:=x.2.2.1) ⟨by omega,by omega⟩;have d:=vO (n:=x.2.2.2) ⟨by omega,by omega⟩;have e:=aml h;simp only[txL,aN,a1]at e;simp only[aX,aa,a,b,c,d,an,show ByteArray.mk #[62]=tx [62] from rfl,show ByteArray.mk #[58]=tx [58] from rfl,show ByteArray.mk #[35]=tx [35] from rfl,gw,bn];rw[fX (by simp only[aN,a1,bJ];omega),ab,fX (by simp only[aN,a1,bJ];omega),ab,fX (by simp only[aN,a1,bJ];omega),ab,fX (by simp only[aN,a1,bJ];omega),ab,fX (by simp only[aN,a1,bJ];omega),ab,fX (by simp only[aN,a1,bJ];omega),ab];simp[txL]
def at4 (x:dK):ME F0 x=some (tx (aaE x),()):=by
 rw[alQ,P4,an];unfold aaE;cases h:fS x with
 |false=>rfl
 |true =>
  obtain⟨f,g,i,j⟩:=jD h;have a:=VW (n:=x.1) ⟨by omega,by omega⟩;have b:=VW (n:=x.2.1) ⟨by omega,by omega⟩;have c:=VW (n:=x.2.2.1) ⟨by omega,by omega⟩;have d:=VW (n:=x.2.2.2) ⟨by omega,by omega⟩;have e:=aml h;simp only[txL,aN,a1]at e;simp only[aX,aa,a,b,c,d,an,show ByteArray.mk #[62]=tx [62] from rfl,show ByteArray.mk #[58]=tx [58] from rfl,show ByteArray.mk #[35]=tx [35] from rfl,gw,bn];rw[fX (by simp only[aN,a1,bJ];omega),ab,fX (by simp only[aN,a1,bJ];omega),ab,fX (by simp only[aN,a1,bJ];omega),ab,fX (by simp only[aN,a1,bJ];omega),ab,fX (by simp only[aN,a1,bJ];omega),ab,fX (by simp only[aN,a1,bJ];omega),ab];simp[txL]
def aza (u:Nat):∀c∈Lib.decDigits u,isD c=true:=by
 induction u using Nat.strongRecOn with
 |ind u d =>
  intro c a;rw[Lib.decDigits]at a;have key:∀v:Nat,v<10->isD (UInt8.ofNat (48+v))=true:=fun v e=>by
   have:(UInt8.ofNat (48+v)).toNat=48+v:=by rw[UInt8.toNat_ofNat'];omega
   simp only[isD,this,aE,bM];omega
  by_cases b:u<10
  .rw[dif_pos b,fj]at a;rw[a];exact key u b
  .rw[dif_neg b]at a;rcases eK.1 a with a|a
   .exact d (u/10) (by omega) c a
   .rw[fj]at a;rw[a];exact key _ (adY _ (by omega))
def aEb (u:Nat):val (Lib.decDigits u) 0=u:=by
 induction u using Nat.strongRecOn with
 |ind u b =>
  have key:∀v:Nat,v<10->(UInt8.ofNat (48+v)).toNat=48+v:=fun v c=>by rw[UInt8.toNat_ofNat'];omega
  rw[Lib.decDigits];by_cases a:u<10
  .rw[dif_pos a];simp only[val,key u a];omega
  .rw[dif_neg a,amg,b (u/10) (by omega)];simp only[val,key (u%10) (adY _ (by omega))];omega
def aEc {k:Nat}:∀{u:Nat},u<10 ^ (k+1)->1<=(Lib.decDigits u).length/\(Lib.decDigits u).length<=k+1:=by
 induction k with
 |zero =>
  intro u a;rw[Lib.decDigits,dif_pos (by omega)];simp
 |succ k c =>
  intro u a;rw[Lib.decDigits];by_cases b:u<10
  .rw[dif_pos b];simp
  .rw[dif_neg b];have:=c (u:=u/10) (by rw[Nat.pow_succ]at a;omega);rw[aN,bU];omega
def amn (u:Nat):Lib.itoa (u:Int)=Lib.decDigits u:=Lib.itoa_nonneg u
def wJ {n:Int}(a:0<=n)(b:n<=999999):eS (Lib.itoa n)=(n,true):=by obtain⟨u,rfl⟩:∃u:Nat,n=u:=⟨n.toNat,by omega⟩;rw[amn];have c:=aEc (k:=5) (u:=u) (by omega);unfold eS;rw[ag (by omega),ak (dh.2 (aza u)),aEb,amn,ak rfl]
def afz {n:Int}(b:0<=n){c:UInt8}(a:isD c=false):c ∉ Lib.itoa n:=by obtain⟨u,rfl⟩:∃u:Nat,n=u:=⟨n.toNat,by omega⟩;rw[amn];intro h;rw[aza u c h]at a;cases a
def AZ (l:List UInt8)(c:UInt8):List UInt8×List UInt8:=if c∈l then (l.takeWhile (· != c),(l.dropWhile (· != c)).drop 1) else ([],[])
def eb (l:List UInt8)(c:UInt8):List UInt8×List UInt8:=(l.takeWhile (· != c),(l.dropWhile (· != c)).drop 1)
def afA (l:List UInt8):dK:=((eS (AZ l 62).1).1,(eS (AZ (AZ l 62).2 58).1).1,(eS (AZ (AZ (AZ l 62).2 58).2 35).1).1,(eS (AZ (AZ (AZ l 62).2 58).2 35).2).1)
def awO (l:List UInt8):dK:=((eS (eb l 62).1).1,(eS (eb (eb l 62).2 58).1).1,(eS (eb (eb (eb l 62).2 58).2 35).1).1,(eS (eb (eb (eb l 62).2 58).2 35).2).1)
def asa {a b:List UInt8}{c:UInt8}(h:c ∉ a):AZ (a++c::b) c=(a,b):=by unfold AZ;rw[ak (by simp),(amj h).1,(amj h).2];rfl
def asb {a b:List UInt8}{c:UInt8}(h:c ∉ a):eb (a++c::b) c=(a,b):=by unfold eb;rw[(amj h).1,(amj h).2];rfl
def aCb {x:dK}(h:fS x=true):afA (txL x)=x:=by obtain⟨a,b,c,d⟩:=jD h;unfold afA txL;rw[asa (afz a.1 (by decide)),asa (afz b.1 (by decide)),asa (afz c.1 (by decide))];simp only[wJ a.1 (by omega),wJ b.1 (by omega),wJ c.1 (by omega),wJ d.1 (by omega)]
def at5 {x:dK}(h:fS x=true):awO (txL x)=x:=by obtain⟨a,b,c,d⟩:=jD h;unfold awO txL;rw[asb (afz a.1 (by decide)),asb (afz b.1 (by decide)),asb (afz c.1 (by decide))];simp only[wJ a.1 (by omega),wJ b.1 (by omega),wJ c.1 (by omega),wJ d.1 (by omega)]
def XM (l:List UInt8):dK×Bool:=if fS (afA l)=true/\txL (afA l)=l then (afA l,true) else ((0,0,0,0),false)
def at6 (l:List UInt8)(c:UInt8):((l.dropWhile (· != c)).drop 1).length<=l.length:=by rw[bA];have:=(List.dropWhile_sublist (l:=l) (· != c)).length_le;omega
def asc (l:List UInt8)(c:UInt8):(AZ l c).2.length<=l.length:=by
 unfold AZ;split
 .exact at6 l c
 .simp
def ajg (l:List UInt8)(c:UInt8):(eb l c).2.length<=l.length:=at6 l c
def amo {l:List UInt8}(c:UInt8)(a:l.length<=4294967296):∃b,gL F0 (tx l) (c.toNat:Int)=some (tx (AZ l c).1,tx (AZ l c).2,b,()):=by
 rw[apQ c a];unfold AZ;split
 .exact⟨_,rfl⟩
 .exact⟨_,rfl⟩
def aCc {l:List UInt8}(g:l.length<=4294967280):WM F0 (tx l)=some ((XM l).1,(XM l).2,()):=by
 obtain⟨i,c⟩:=amo (l:=l) 62 (by omega);obtain⟨j,d⟩:=amo (l:=(AZ l 62).2) 58 (by have:=asc l 62;omega);obtain⟨k,e⟩:=amo (l:=(AZ (AZ l 62).2 58).2) 35 (by have:=asc l 62;have:=asc (AZ l 62).2 58;omega);rw[arD];rw[show gL F0 (tx l) 62=_ from c,an,show gL F0 _ 58=_ from d,an,show gL F0 _ 35=_ from e,an,CI,an,CI,an,CI,an,CI,an,show aj=tx [] from rfl,VX];have f:((eS (AZ l 62).1).1,(eS (AZ (AZ l 62).2 58).1).1,(eS (AZ (AZ (AZ l 62).2 58).2 35).1).1,(eS (AZ (AZ (AZ l 62).2 58).2 35).2).1)=afA l:=rfl;simp only[f,amm,an,VX];unfold XM aaE;by_cases cz:fS (afA l)=true
 .rw[ak cz];by_cases a:txL (afA l)=l
  .have b:¬l=[]:=by rw[<-a];simp[txL]
   rw[ak ⟨cz,a⟩,aV b,aa,aS a];rfl
  .rw[ag (fun h=>a h.2),aV a];cases decide (l=[])<;>rfl
 .rw[ag cz,ag (fun h=>cz h.1)];by_cases b:l=[]
  .rw[aS b];rfl
  .rw[aV b,aa,aV (fun h=>b h.symm)];rfl
def aAb {l:List UInt8}(h:l.length<4294967281):WS F0 (tx l)=some ((XM l).1,(XM l).2,()):=by
 have i:=vj (l:=l) 62 h;have t:=ajg l 62;have u:=ajg (eb l 62).2 58;have j:=vj (l:=(eb l 62).2) 58 (by omega);have k:=vj (l:=(eb (eb l 62).2 58).2) 35 (by omega);rw[arU];rw[show ByteArray.mk #[62]=tx [62] from rfl,i,an,show ByteArray.mk #[58]=tx [58] from rfl];rw[show strings_Cut F0 (tx ((l.dropWhile (· != 62)).drop 1)) (tx [58])=_ from j,an,show ByteArray.mk #[35]=tx [35] from rfl];rw[show strings_Cut F0 (tx (((eb l 62).2.dropWhile (· != 58)).drop 1)) (tx [35])=_ from k,an];have m:=fun (a b c d:ByteArray)=>(show aL [a,b,c,d] 0 ByteArray.empty=a from rfl)
 have n:=fun (a b c d:ByteArray)=>(show aL [a,b,c,d] 1 ByteArray.empty=b from rfl)
 have o:=fun (a b c d:ByteArray)=>(show aL [a,b,c,d] 2 ByteArray.empty=c from rfl)
 have p:=fun (a b c d:ByteArray)=>(show aL [a,b,c,d] 3 ByteArray.empty=d from rfl)
 rw[show bG 0 4=true from rfl,ab,m,Fi,an,show bG 1 4=true from rfl,ab,n,Fi,an,show bG 2 4=true from rfl,ab,o,Fi,an,show bG 3 4=true from rfl,ab,p,Fi,an];have q:((eS (l.takeWhile (· != 62))).1,(eS ((eb l 62).2.takeWhile (· != 58))).1,(eS ((eb (eb l 62).2 58).2.takeWhile (· != 35))).1,(eS (((eb (eb l 62).2 58).2.dropWhile (· != 35)).drop 1)).1)=awO l:=rfl;simp only[q,P4,at4,an,VX];unfold XM aaE;by_cases cz:fS (awO l)=true
 .rw[ak cz,cz];by_cases e:txL (awO l)=l
  .have r:afA l=awO l:=by have:=aCb cz;rw[e]at this;exact this
   rw[r,ak ⟨cz,e⟩,aS e];rfl
  .have:¬(fS (afA l)=true/\txL (afA l)=l):=by rintro⟨f,g⟩;have:=at5 f;rw[g]at this;rw[this]at e;exact e g
   rw[ag this,aV e];rfl
 .have:¬(fS (afA l)=true/\txL (afA l)=l):=by rintro⟨f,g⟩;have:=at5 f;rw[g]at this;rw[this]at cz;exact cz f
  rw[ag this];have s:fS (awO l)=false:=by simpa using cz
  rw[s];rfl
def aCd (l:List UInt8):fS (XM l).1=true:=by
 unfold XM;split
 .rename_i a;exact a.1
 .rfl
def parts (c:UInt8):List UInt8->List (List UInt8)
 |[]=>[[]]|x::l=>if x=c then []::parts c l else match parts c l with
  |p::a=>(x::p)::a|[]=>[[x]]
def Fj (c:UInt8)(l:List UInt8):parts c l≠[]:=by
 cases l with
 |nil=>simp[parts]
 |cons x l =>
  unfold parts;split
  .simp
  .split<;>simp
def amp {c:UInt8}{a:List UInt8}(h:c ∉ a):parts c a=[a]:=by
 induction a with
 |nil=>rfl
 |cons x a b =>
  have d:¬x=c:=by rintro rfl;simp at h
  unfold parts;rw[ag d,b fun e=>h (jG _ e)]
def at7 {c:UInt8}{a b:List UInt8}(h:c ∉ a):parts c (a++c::b)=a::parts c b:=by
 induction a with
 |nil =>
  rw[s4]
  conv=>lhs;unfold parts
  rw[ak rfl]
 |cons x a d =>
  have e:¬x=c:=by rintro rfl;simp at h
  rw[Gp]
  conv=>lhs;unfold parts
  rw[ag e,d fun f=>h (jG _ f)]
def I7 (c:UInt8)(l:List UInt8):(parts c l).length<=l.length+1:=by
 induction l with
 |nil=>simp[parts]
 |cons x l a =>
  unfold parts;split
  .simp only[a1];omega
  .split
   .rename_i p b h;rw[h]at a;simp only[a1]at a ⊢;omega
   .simp
def CJ {c:UInt8}:∀{l p:List UInt8},p∈parts c l->p.length<=l.length
 |[],p,h=>by simp only[parts,fj]at h;rw[h];simp
 |x::l,p,h=>by
  unfold parts at h;split at h
  .rcases cK.1 h with rfl|h
   .simp
   .have:=CJ h;simp only[a1];omega
  .split at h
   .rename_i q b a;rcases cK.1 h with rfl|h
    .have:=CJ (c:=c) (l:=l) (p:=q) (by rw[a];simp);simp only[a1];omega
    .have:=CJ (c:=c) (l:=l) (p:=p) (by rw[a];simp[h]);simp only[a1];omega
   .rw[fj]at h;rw[h];simp
def Nv (l:List UInt8)(a b:Nat):(tx l).extract a b=tx ((l.drop a).take (b-a)):=by rw[Ot ((tx l).extract a b),Lib.extract_data,hy]
def apR {l:List UInt8}(c:UInt8)(w:l.length<=4294967296):vo F0 (tx l) (c.toNat:Int)=some ((parts c l).map tx,()):=by
 have x:=I7 c l;rw[anZ];refine cx (fun n i (z:Nat×List ByteArray)=>rq F0 (Jx F0) n (k1 (tx l) (c.toNat:Int) (z.1:Int) i z.2)) (l.length+1)
  (fun k z=>if k<=l.length then ∃done:List (List UInt8),z.2=done.map tx/\parts c l=done++parts c (l.drop z.1)/\z.1<=k/\c ∉ (l.drop z.1).take (k-z.1) else z.2=(parts c l).map tx) _ (fun n k z y d=>.inr ?_) (fun n z d=>?_) F0.n 0 (0,[]) (a7 _) ?_ (by rw[bg];omega)
 .obtain⟨a,xs⟩:=z;rw[ak (by omega)]at d;obtain⟨done,rfl,e,p,f⟩:=d;simp only at e p f;have A:done.length+1<=l.length+1:=by have g:=Bd List.length e;have B:0<(parts c (l.drop a)).length:=List.length_pos_iff.2 (Fj c _);rw[aN]at g;omega
  have q:decide ((k:Int)<=(l.length:Int))=true:=aS (by omega);rw[LF,bn,q,ae];have r:Qw (a:Int) (k:Int) (l.length:Int)=true:=by simp only[Qw,aE,bM];omega
  have s:∀b:ByteArray,dV F0 (done.map tx).length [b].length 16=true:=fun b=>au (by omega) (by omega) (by rw[pw];simp only[a1,bJ];omega)
  simp only[l2,Nv,r,s,ab,ah (show k+1<=9223372036854775807 by omega)];by_cases t:k=l.length
  .subst t;rw[oD,ae];refine⟨(l.length+1,(parts c l).map tx),?_,by rw[ag (by omega)]⟩;have u:(l.drop a).take (l.length-a)=l.drop a:=ao9 (by rw[bA];omega);rw[u]at f ⊢;rw[e,amp f];simp
  .have hlt:k<l.length:=by omega
   have v:(((k:Nat):Int)==(l.length:Int))=false:=b0.2 (by omega);rw[v,aa,ao hlt,ab,WX];have m:l.drop a=(l.drop a).take (k-a)++l.getD k 0::l.drop (k+1):=by
    have:=at3 (l:=l.drop a) (k:=k-a) (by rw[bA];omega);have o:(l.drop a).getD (k-a) 0=l.getD k 0:=by simp only[Od,af9];rw[show a+(k-a)=k by omega]
    rw[o,List.drop_drop,show a+(k-a+1)=k+1 by omega]at this;exact this
   by_cases j:l.getD k 0=c
   .have g:((((l.getD k 0).toNat:Int))==(c.toNat:Int))=true:=by rw[j];simp
    rw[g,ae];refine⟨(k+1,done.map tx++[tx ((l.drop a).take (k-a))]),rfl,?_⟩;rw[ak (by omega)];refine⟨done++[(l.drop a).take (k-a)],by simp,?_,bh _,by simp⟩;rw[j]at m;rw[e,m,at7 f,<-m];simp
   .have g:((((l.getD k 0).toNat:Int))==(c.toNat:Int))=false:=b0.2 fun h=>j (UInt8.toNat_inj.1 (by omega))
    rw[g,aa];refine⟨(a,done.map tx),rfl,?_⟩;rw[ak (by omega)];refine⟨done,rfl,e,by show a<=k+1;omega,?_⟩;have o:(l.drop a).take (k+1-a)=(l.drop a).take (k-a)++[l.getD k 0]:=by
     rw[show k+1-a=(k-a)+1 by omega,Lt]
     congr 1
     have:(l.drop a)[k-a]?=some (l.getD k 0):=by rw[af9,show a+(k-a)=k by omega];exact aR hlt 0
     rw[this];rfl
    show c ∉ (l.drop a).take (k+1-a);rw[o,eK,fj];rintro(h|h)
    .exact f h
    .exact j h.symm
 .rw[ag (by omega)]at d;rw[LF,bn,aV (by omega),aa,aed,d]
 .rw[ak (by omega)];exact⟨[],rfl,rfl,bh _,by simp⟩
def asd (c:UInt8):∀(n:Nat) (l:List UInt8),l.length<=n->∀k,k=Lib.countB (tx l) (tx [c])->Lib.splitB (tx [c]) 0 k (tx l)=(parts c l).map tx:=by
 intro n
 induction n with
 |zero =>
  intro l f k m;obtain rfl:l=[]:=XO (by omega);have d:Lib.indexB (tx []) (tx [c])=-1:=by show Lib.index (tx []).data.toList (tx [c]).data.toList=-1;rw[hy,hy,Lib.index_one];rfl
  rw[Lib.splitB_miss _ _ _ _ d];rfl
 |succ n o =>
  intro l f k m;by_cases h:c∈l
  .obtain⟨a,b,rfl,g⟩:=adg h;have d:Lib.indexB (tx (a++c::b)) (tx [c])=(a.length:Int):=by show Lib.index (tx (a++c::b)).data.toList (tx [c]).data.toList=_;rw[hy,hy,Lib.index_one,ade g]
   have i:(tx [c]).size=1:=bn [c];have j:(tx (a++c::b)).extract (a.length+(tx [c]).size) (tx (a++c::b)).size=tx b:=by
    rw[extract_from,i]
    congr 1
    simp[List.drop_append]
   have p:=Lib.countB_hit (tx (a++c::b)) (tx [c]) a.length (by rw[i];omega) d;rw[j]at p;obtain⟨e,rfl⟩:∃e,k=e+1:=⟨Lib.countB (tx b) (tx [c]),by omega⟩;rw[Lib.splitB_hit _ _ _ _ _ d,j,o b (by simp only[aN,a1]at f;omega) e (by omega),at7 g,XR,ami];simp[List.take_append]
  .have d:Lib.indexB (tx l) (tx [c])=-1:=by show Lib.index (tx l).data.toList (tx [c]).data.toList=-1;rw[hy,hy,Lib.index_one,adf h]
   rw[Lib.splitB_miss _ _ _ _ d,amp h];rfl
def amq {l:List UInt8}(c:UInt8)(a:l.length<4294967281):vB F0 (tx l) (c.toNat:Int)=some ((parts c l).map tx,()):=by
 have b:strOf [(c.toNat:Int)]=tx [c]:=by
  simp only[strOf,tx,sE,List.map_nil]
  congr 2
  simp
 have h:Nat.blt (tx l).size 4294967281=true:=by rw[bn];simpa using a
 have d:Nat.ble 1 (tx [c]).size=true:=by rw[bn];rfl
 rw[aok,b];unfold strings_Split;rw[h,d,Bool.and_self,ab,an,asd c l.length l (bh _) _ rfl]
def sY {σ V:Type}(f:σ->List UInt8->Option (σ×V)):σ->List (List UInt8)->Option (List V)
 |_,[]=>some []|s,p::a=>match f s p with
  |none=>none|some (c,b)=>match sY f c a with
   |none=>none|some r=>some (b::r)
def P5 {σ V γ:Type}(f:σ->List UInt8->Option (σ×V))(I:σ->Prop)(P:List (List UInt8))(X:Nat->σ->Int->List V->Option γ)(c:Option γ)(d:List V->Option γ)
  (g:∀n k s xs p,k<P.length->P[k]?=some p->I s->xs.length=k->X (n+1) s (k:Int) xs=match f s p with|none=>c|some (a,b)=>X n a ((k+1:Nat):Int) (xs++[b]))
  (i:∀n s xs,xs.length=P.length->X (n+1) s (P.length:Int) xs=d xs) (j:∀s p a b,I s->f s p=some (a,b)->I a) :
  ∀(n k:Nat) (s:σ) (xs:List V),k<=P.length->P.length-k<n->I s->xs.length=k->X n s (k:Int) xs=match sY f s (P.drop k) with|none=>c|some l=>d (xs++l)
 |0,_,_,_,_,h,_,_=>absurd h (abd _)|n+1,k,s,xs,u,v,m,e=>by
  rcases Rr k P.length with hlt|w
  .have o:P[k]?=some P[k]:=nu hlt;rw[g n k s xs P[k] hlt o m e,abb hlt];simp only[sY];cases t:f s P[k]with
   |none=>rfl
   |some q =>
    obtain⟨a,b⟩:=q;simp only;rw[P5 f I P X c d g i j n (k+1) a (xs++[b]) hlt (by omega) (j _ _ _ _ m t) (by simp[e])];cases sY f a (P.drop (k+1)) with
    |none=>rfl|some r=>simp
  .obtain rfl:k=P.length:=by omega
   rw[i n s xs e,agc];simp[sY]
def P6 {σ V:Type}{f:σ->List UInt8->Option (σ×V)}:∀{P:List (List UInt8)} {s:σ} {r:List V},sY f s P=some r->r.length=P.length
 |[],_,r,h=>by cases h;rfl
 |p::b,s,r,h=>by
  simp only[sY]at h;split at h
  .cases h
  .split at h
   .cases h
   .rename_i a;cases h;simp[P6 a]
def amr {σ V:Type}{f:σ->List UInt8->Option (σ×V)}{Q:V->Prop}(a:∀s p c b,f s p=some (c,b)->Q b):∀{P:List (List UInt8)} {s:σ} {r:List V},sY f s P=some r->∀b∈r,Q b
 |[],_,r,h=>by cases h;simp
 |p::g,s,r,h=>by
  simp only[sY]at h;split at h
  .cases h
  .rename_i d;split at h
   .cases h
   .rename_i e;cases h;intro b hb;rcases cK.1 hb with rfl|hb
    .exact a _ _ _ _ d
    .exact amr a e b hb
def txF (_:Unit)(p:List UInt8):Option (Unit×dK):=if (XM p).2=true then some ((),(XM p).1) else none
def kz (l:List UInt8):List dK×Bool:=if l=[] then ([],true) else match sY txF () (parts 44 l) with|none=>([],false)|some r=>(r,true)
def apS (l:List UInt8):(kz l).1.length<=l.length+1:=by
 unfold kz;split
 .simp
 .split
  .simp
  .rename_i r a;have:=P6 a;have:=I7 44 l;simp only;omega
def aCf (l:List UInt8):∀x∈(kz l).1,fS x=true:=by
 unfold kz;split
 .simp
 .split
  .simp
  .rename_i r a;refine amr (Q:=fun x=>fS x=true) (fun s p c b h=>?_) a;unfold txF at h;split at h
   .cases h;exact aCd p
   .cases h
def afB (l:List UInt8):((tx l).toList==aj.toList)=decide (l=[]):=VX l []
def ase (P:List (List UInt8))(k:Nat){p:List UInt8}(h:P[k]?=some p):aL (P.map tx) (k:Int) ByteArray.empty=tx p:=by show(P.map tx).getD k ByteArray.empty=_;simp[Od,h]
def apT {l:List UInt8}(f:l.length<=1073741824):B0 F0 (tx l)=some ((kz l).1,(kz l).2,()):=by
 have g:=I7 44 l;rw[an1,afB];unfold kz;by_cases a:l=[]
 .rw[aS a,ak a];rfl
 .rw[aV a,aa,ag a,show vo F0 (tx l) 44=_ from apR 44 (by omega),an];have:=P5 txF (fun _=>True) (parts 44 l) (fun n _ i xs=>HK F0 (xV F0) n (xU i xs ((parts 44 l).map tx))) (some ([],false,())) (fun xs=>some (xs,true,())) (fun n k s xs p c d _ e=>?_) (fun n s xs e=>?_) (fun _ _ _ _ _ _=>trivial) F0.n 0 () [] (a7 _) (by rw[bg];omega) trivial rfl
  .simp only[abe,s4]at this;rw[show((0:Nat):Int)=0 from rfl]at this;rw[this];cases sY txF () (parts 44 l)<;>rfl
  .have h:=CJ (ajw d);rw[LH,pw,aO c,ae,ao c,ab,ase _ _ d,aCc (by omega),an];unfold txF;cases cz:(XM p).2 with
   |false=>simp only[fE,ae,ahx];rfl
   |true =>
    simp only[aX,aa];rw[au (b:=[(XM p).1].length) (k:=32) (by omega) (by omega) (by simp only[a1,bJ];omega),ab,ah (by omega)];rfl
  .rw[LH,pw,aA,aa,aeg]
def awP {l:List UInt8}(f:l.length<=1073741824):Kl F0 (tx l)=some ((kz l).1,(kz l).2,()):=by
 have g:=I7 44 l;rw[aol,afB];unfold kz;by_cases a:l=[]
 .rw[aS a,ak a];rfl
 .rw[aV a,aa,ag a,show vB F0 (tx l) 44=_ from amq 44 (by omega),an];have:=P5 txF (fun _=>True) (parts 44 l) (fun n _ i xs=>Im F0 (zU F0) n (zJ ((parts 44 l).map tx) (((parts 44 l).map tx).length:Int) i xs)) (some ([],false,())) (fun xs=>some (xs,true,())) (fun n k s xs p c d _ e=>?_) (fun n s xs e=>?_) (fun _ _ _ _ _ _=>trivial) F0.n 0 () [] (a7 _) (by rw[bg];omega) trivial rfl
  .simp only[abe,s4]at this;rw[show((0:Nat):Int)=0 from rfl]at this;rw[this];cases sY txF () (parts 44 l)<;>rfl
  .have h:=CJ (ajw d);rw[MF,pw,aO c,ae,ao c,ab,ase _ _ d,aAb (by omega),an];unfold txF;cases cz:(XM p).2 with
   |false=>simp only[fE,ae,aiv];rfl
   |true =>
    simp only[aX,aa];rw[au (b:=[(XM p).1].length) (k:=32) (by omega) (by omega) (by simp only[a1,bJ];omega),ab,ah (by omega)];rfl
  .rw[MF,pw,aA,aa,aeP]
abbrev P7:=Int×List dK
def sM (a:Int)(p:List UInt8):Option (Int×P7) :=
 if 124∈p/\(eS (eb p 124).1).2=true/\(kz (eb p 124).2).2=true/\a<(eS (eb p 124).1).1/\(eS (eb p 124).1).1<=60/\(kz (eb p 124).2).1.length<=2
 then some ((eS (eb p 124).1).1,(eS (eb p 124).1).1,(kz (eb p 124).2).1) else none
def bR (l:List UInt8):List P7×Bool:=if l=[] then ([],true) else match parts 47 l with
 |[]=>([],false)|b::a=>if ¬b=[]\/30<a.length then ([],false) else match sY sM 0 a with
  |none=>([],false)|some r=>(r,true)
def asf (s:P7):Prop:=0<=s.1/\s.1<=60/\s.2.length<=2/\∀x∈s.2,fS x=true
def VY {d:Int}{p:List UInt8}{a:Int}{b:P7}(h:sM d p=some (a,b)):asf b/\a=b.1:=by
 unfold sM at h;split at h
 .rename_i c;cases h;exact⟨⟨(amh _).1,c.2.2.2.2.1,c.2.2.2.2.2,aCf _⟩,rfl⟩
 .cases h
def QS (l:List UInt8):∀s∈(bR l).1,asf s:=by
 unfold bR;split
 .simp
 .split
  .simp
  .split
   .simp
   .split
    .simp
    .rename_i a;exact amr (Q:=asf) (fun s p c b h=>(VY h).1) a
def wK (l:List UInt8):(bR l).1.length<=30:=by
 unfold bR;split
 .simp
 .split
  .simp
  .split
   .simp
   .split
    .simp
    .rename_i a;have:=P6 a;simp only;omega
def br6 {U:Type}(a b c d e f:Bool)(x y:U):br (!a) x (br (!b) x (br (!c) x (br d x (br e x (br f x y)))))=if a=true/\b=true/\c=true/\d=false/\e=false/\f=false then y else x:=by cases a<;>cases b<;>cases c<;>cases d<;>cases e<;>cases f<;>rfl
def br5 {U:Type}(a b c d f:Bool)(x y:U):br (!a) x (br (!b) x (br (!c) x (br (!d) x (br f x y))))=if a=true/\b=true/\c=true/\d=true/\f=false then y else x:=by cases a<;>cases b<;>cases c<;>cases d<;>cases f<;>rfl
def WY {l:List UInt8}(G:l.length<=1073741824):pE F0 (tx l)=some ((bR l).1,(bR l).2,()):=by
 have q:=I7 47 l;have r:=fun p (h:p∈parts 47 l)=>CJ h
 rw[an3,afB];unfold bR;by_cases f:l=[]
 .rw[aS f,ak f];rfl
 .rw[aV f,aa,ag f,show vo F0 (tx l) 47=_ from apR 47 (by omega),an];cases t:parts 47 l with
  |nil=>exact absurd t (Fj 47 l)
  |cons c a =>
   rw[t]at q r;simp only[a1]at q;have x:aL ((c::a).map tx) 0 ByteArray.empty=tx c:=rfl;have y:bG 0 (((c::a).map tx).length:Int)=true:=ao (k:=0) (by simp);simp only[y,ab,x,afB];by_cases d:c=[]
   .by_cases z:30<a.length
    .rw[aS d,aX,aa,aS (by rw[pw,a1];omega),ae,ak (.inr z)]
    .rw[aS d,aX,aa,aV (by rw[pw,a1];omega),aa,ag (by simp[d];omega)];have:=P5 sM (fun s=>0<=s/\s<=60) a (fun n s i xs=>HN F0 (x1 F0) n (x0 s (i+1) [] xs ((c::a).map tx))) (some ([],false,())) (fun xs=>some (xs,true,())) (fun n k s xs p H u A B=>?_) (fun n s xs B=>?_) (fun s p I b A C=>?_) F0.n 0 0 [] (a7 _) (by rw[bg];omega) ⟨by omega,by omega⟩ rfl
     .simp only[abe,s4]at this;rw[show((0:Nat):Int)+1=1 from rfl]at this;rw[this];cases sY sM 0 a<;>rfl
     .have K:=r p (jG _ (ajw u));have v:k+1<((c::a).map tx).length:=by simp;omega
      have D:aL ((c::a).map tx) (((k+1:Nat)):Int) ByteArray.empty=tx p:=ase _ _ (by simpa using u);rw[show((k:Int)+1)=((k+1:Nat):Int) by omega,LI,aO v,ae,ao v,ab,D,show gL F0 (tx p) 124=_ from apQ 124 (by omega),an];have L:=ajg p 124;have M:=amh (eb p 124).1;have N:=apS (eb p 124).2;by_cases g:(124:UInt8)∈p
      .rw[ak g];simp only[CI,an];rw[show B0 F0 (tx ((p.dropWhile (· != 124)).drop 1))=some ((kz (eb p 124).2).1,(kz (eb p 124).2).2,()) from apT (by show(eb p 124).2.length<=_;omega),an];simp only[RC];rw[br6];unfold sM;have E:(eS (p.takeWhile (· != 124)))=eS (eb p 124).1:=rfl;rw[E];by_cases e:124∈p/\(eS (eb p 124).1).2=true/\(kz (eb p 124).2).2=true/\s<(eS (eb p 124).1).1/\(eS (eb p 124).1).1<=60/\(kz (eb p 124).2).1.length<=2
       .have j:decide ((eS (eb p 124).1).1<=s)=false:=aV (by omega);have m:decide ((eS (eb p 124).1).1>60)=false:=aV (by omega);have o:decide (((kz (eb p 124).2).1.length:Int)>2)=false:=aV (by omega);rw[ak e,ak ⟨rfl,e.2.1,e.2.2.1,j,m,o⟩];simp only;rw[au (b:=[((eS (eb p 124).1).1,(kz (eb p 124).2).1)].length) (k:=32) (by omega) (by omega) (by simp only[a1,bJ];omega),ab,ah (by omega)];rfl
       .rw[ag e,ag (fun h=>e ?_)];have j:decide ((eS (eb p 124).1).1<=s)=false:=h.2.2.2.1;have m:decide ((eS (eb p 124).1).1>60)=false:=h.2.2.2.2.1;have o:decide (((kz (eb p 124).2).1.length:Int)>2)=false:=h.2.2.2.2.2;have O:=aqE j;have P:=aqE m;have Q:=aqE o;exact⟨g,h.2.1,h.2.2.1,by omega,by omega,by omega⟩
      .rw[ag g];unfold sM;rw[ag (fun h=>g h.1),CI,an,show B0 F0 (tx [])=_ from apT (by simp),an];simp only[fE,ae,RC]
     .rw[show((a.length:Int)+1)=(((c::a).map tx).length:Int) by simp,LI,aA,aa,aeh]
     .obtain⟨w,F⟩:=VY C;rw[F];exact⟨w.1,w.2.1⟩
   .rw[aV d,fE,ae,ak (.inl d)]
def aaF {l:List UInt8}(E:l.length<=1073741824):Cs F0 (tx l)=some ((bR l).1,(bR l).2,()):=by
 have g:=I7 47 l;have j:=fun p (h:p∈parts 47 l)=>CJ h
 rw[aon,afB];unfold bR;by_cases f:l=[]
 .rw[aS f,ak f];rfl
 .rw[aV f,aa,ag f,show vB F0 (tx l) 47=_ from amq 47 (by omega),an];cases m:parts 47 l with
  |nil=>exact absurd m (Fj 47 l)
  |cons c a =>
   rw[m]at g j;simp only[a1]at g;have t:aL ((c::a).map tx) 0 ByteArray.empty=tx c:=rfl;have u:bG 0 (((c::a).map tx).length:Int)=true:=ao (k:=0) (by simp);have hlen:((c::a).map tx).length=a.length+1:=by simp
   have v:Qw 1 (((c::a).map tx).length:Int) (((c::a).map tx).length:Int)=true:=by rw[hlen];simp only[Qw,aE,bM];omega
   have w:((((c::a).map tx).take (((c::a).map tx).length:Int).toNat).drop (1:Int).toNat)=a.map tx:=by rw[l2,l3];rfl
   simp only[u,ab,t,afB,v,w];rw[hlen,aG (by omega) (by omega)];by_cases e:c=[]
   .by_cases x:30<a.length
    .rw[aS e,aX,aa,aS (by omega),ae,ak (.inr x)]
    .rw[aS e,aX,aa,aV (by omega),aa,ag (by simp[e];omega)];have:=P5 sM (fun s=>0<=s/\s<=60) a (fun n s i xs=>Iq F0 (z1 F0) n (zV s (a.map tx) ((a.map tx).length:Int) i xs)) (some ([],false,())) (fun xs=>some (xs,true,())) (fun n k s xs p o q y z=>?_) (fun n s xs z=>?_) (fun s p F b y A=>?_) F0.n 0 0 [] (a7 _) (by rw[bg];omega) ⟨by omega,by omega⟩ rfl
     .simp only[abe,s4]at this;rw[show((0:Nat):Int)=0 from rfl]at this;rw[this];cases sY sM 0 a<;>rfl
     .have G:=j p (jG _ (ajw q));have H:=ajg p 124;have I:=amh (eb p 124).1;have K:=apS (eb p 124).2;rw[MG,pw,aO o,ae,ao o,ab,ase _ _ q,show ByteArray.mk #[124]=tx [124] from rfl,vj 124 (by omega),an];simp only[Fi,an];rw[show Kl F0 (tx ((p.dropWhile (· != 124)).drop 1))=some ((kz (eb p 124).2).1,(kz (eb p 124).2).2,()) from awP (by show(eb p 124).2.length<=_;omega),an];simp only[aiw,QR,an];rw[br5];unfold sM;have B:(eS (p.takeWhile (· != 124)))=eS (eb p 124).1:=rfl;rw[B,aG (n:=s+1) (by omega) (by omega)];by_cases d:124∈p/\(eS (eb p 124).1).2=true/\(kz (eb p 124).2).2=true/\s<(eS (eb p 124).1).1/\(eS (eb p 124).1).1<=60/\(kz (eb p 124).2).1.length<=2
      .have C:(decide (s+1<=(eS (eb p 124).1).1)&&decide ((eS (eb p 124).1).1<=60))=true:=by rw[aS (by omega),aS (by omega)];rfl
       rw[ak d,ak ⟨aS d.1,d.2.1,d.2.2.1,C,aV (by omega)⟩];simp only;rw[au (b:=[((eS (eb p 124).1).1,(kz (eb p 124).2).1)].length) (k:=32) (by omega) (by omega) (by simp only[a1,bJ];omega),ab,ah (by omega)]
      .rw[ag d,ag (fun h=>d ⟨s3 h.1,h.2.1,h.2.2.1,by have:=h.2.2.2.1;rw[aE]at this;have:=s3 this.1;omega,by have:=h.2.2.2.1;rw[aE]at this;have:=s3 this.2;omega,by have:=aqE h.2.2.2.2;omega⟩)]
     .rw[MG,pw,aA,aa,aeQ]
     .obtain⟨r,D⟩:=VY A;rw[D];exact⟨r.1,r.2.1⟩
   .rw[aV e,fE,ae,ak (.inl e)]
abbrev hJ:=List Int×List Int
def BK (l:hJ):Bool:=decide (l.1.length=4)&&(decide (l.2.length=4)&&(l.1.all (fun n=>inB n 0 400)&&l.2.all (fun n=>inB n 0 100)))
def Zi {a:List Int}(lo hi:Int)(h:a.length<=1048576):qa F0 a lo hi=some (a.all (fun n=>inB n lo hi),()):=by
 rw[acN];refine cx (fun n i (_:Unit)=>r8 F0 (mS F0) n (mR lo hi a (a.length:Int) i)) a.length (fun k _=>∀x∈a.take k,inB x lo hi=true) _ (fun n k _ c d=>?_) (fun n _ d=>?_) F0.n 0 () (a7 _) (by simp) (by rw[bg];omega)
 .rw[Bv,aO c,ae,ao c,ab,kl,QR,an];show(br (!inB (a.getD k 0) lo hi) _ _=_)\/∃f:Unit,br (!inB (a.getD k 0) lo hi) _ _=_/\_;cases e:inB (a.getD k 0) lo hi with
  |false =>
   left;rw[fE,ae,XF];have:a.all (fun n=>inB n lo hi)=false:=adV.2 ⟨_,nz c 0,by rw[e];simp⟩;rw[this]
  |true =>
   right;refine⟨(),by rw[aX,aa,ah (by omega)],?_⟩;intro x b;rw[Lt,aR c 0]at b;rcases eK.1 b with b|b
   .exact d x b
   .simp only[ajy,fj]at b;rw[b];exact e
 .rw[l3]at d;rw[Bv,aA,aa,Vv,dh.2 d]
def Zj {l:hJ}(a:l.1.length<=1048576)(b:l.2.length<=1048576):tz F0 l=some (BK l,()):=by
 rw[ae2,Zi 0 400 a,Zi 0 100 b];have e:∀n:Nat,((n:Int)==4)=decide (n=4):=fun n=>by
  by_cases h:n=4
  .subst h;rfl
  .rw[aV h];exact b0.2 (by omega)
 simp only[an,e,awN];rfl
def adi {l:hJ}:s9 F0 l=some (BK l,()):=by
 rw[aek];have e:∀n:Nat,((n:Int) != 4)= !decide (n=4):=fun n=>by
  by_cases h:n=4
  .subst h;rfl
  .rw[aV h];exact Ez.2 (by omega)
 rw[e,e];unfold BK;by_cases c:l.1.length=4
 .by_cases g:l.2.length=4
  .rw[aS c,aS g,aX,aa,aa,fF,fF];refine cx (fun n i (_:Unit)=>ua F0 (oJ F0) n (oI i l.1 l.2)) 4 (fun k _=>(∀x∈l.1.take k,inB x 0 400=true)/\∀x∈l.2.take k,inB x 0 100=true) _ (fun n k _ o b=>?_) (fun n _ b=>?_) F0.n 0 () (by omega) (by simp) (by rw[bg];omega)
   .have d:k<l.1.length:=by omega
    have f:k<l.2.length:=by omega
    rw[EG,show decide ((k:Int)<4)=true from aS (by omega),ae,ao d,ab,kl,adh,an,ao f,ab,kl,adh,an];show(br (!inB (l.1.getD k 0) 0 400) _ (br (!inB (l.2.getD k 0) 0 100) _ _)=_)\/∃p:Unit,br (!inB (l.1.getD k 0) 0 400) _ (br (!inB (l.2.getD k 0) 0 100) _ _)=_/\_;cases j:inB (l.1.getD k 0) 0 400 with
    |false =>
     left;rw[fE,ae,JG];have:l.1.all (fun n=>inB n 0 400)=false:=adV.2 ⟨_,nz d 0,by rw[j];simp⟩;rw[this];rfl
    |true =>
     cases m:inB (l.2.getD k 0) 0 100 with
     |false =>
      left;rw[aX,aa,fE,ae,JG];have:l.2.all (fun n=>inB n 0 100)=false:=adV.2 ⟨_,nz f 0,by rw[m];simp⟩;rw[this,Tr]
     |true =>
      right;refine⟨(),by rw[aX,aa,aa,ah (by omega)],?_,?_⟩
      .intro x a;rw[Lt,aR d 0]at a;rcases eK.1 a with a|a
       .exact b.1 x a
       .simp only[ajy,fj]at a;rw[a];exact j
      .intro x a;rw[Lt,aR f 0]at a;rcases eK.1 a with a|a
       .exact b.2 x a
       .simp only[ajy,fj]at a;rw[a];exact m
   .rw[ao9 (by omega),ao9 (by omega)]at b;rw[EG,show decide (((4:Nat):Int)<4)=false from rfl,aa,Xo,dh.2 b.1,dh.2 b.2];rfl
  .rw[aS c,aV g];rfl
 .rw[aV c];rfl
def eJ (l:hJ)(x:dK):hJ×Int :=
 if BK l=true/\fS x=true then
  if x.2.2.2<aL l.2 x.1 0 then (l,2)
  else if x.2.2.2>aL l.2 x.1 0 then (l,3)
  else if x.2.2.1>aL l.1 x.1 0 then ((l.1,l.2.set x.1.toNat (x.2.2.2+1)),4)
  else if BK ((l.1.set x.1.toNat (aL l.1 x.1 0-x.2.2.1)).set x.2.1.toNat (aL (l.1.set x.1.toNat (aL l.1 x.1 0-x.2.2.1)) x.2.1 0+x.2.2.1),l.2.set x.1.toNat (x.2.2.2+1))=true
   then (((l.1.set x.1.toNat (aL l.1 x.1 0-x.2.2.1)).set x.2.1.toNat (aL (l.1.set x.1.toNat (aL l.1 x.1 0-x.2.2.1)) x.2.1 0+x.2.2.1),l.2.set x.1.toNat (x.2.2.2+1)),0)
   else (l,1)
 else (l,1)
def aaG {l:hJ}(h:BK l=true):l.1.length=4/\l.2.length=4/\(∀x∈l.1,0<=x/\x<=400)/\∀x∈l.2,0<=x/\x<=100:=by simp only[BK,aE,bM,dh,inB]at h;exact⟨h.1,h.2.1,fun x a=>⟨(h.2.2.1 x a).1,(h.2.2.1 x a).2⟩,fun x a=>⟨(h.2.2.2 x a).1,(h.2.2.2 x a).2⟩⟩
def aaH {l:hJ}(a:l.1.length<=1048576)(b:l.2.length<=1048576):pI F0 l=some (l,()):=by rw[akJ,au (by omega) (by omega) (by omega),ab,au (by omega) (by omega) (by omega),ab];simp
def VZ {l:hJ}(a:l.1.length<=1048576)(b:l.2.length<=1048576):jC F0 l=some (l,()):=by rw[aav,CB,CB,au (by omega) (by omega) (by omega),ab,an,au (by omega) (by omega) (by omega),ab,an];simp
def dT {p:Prop}(i:Decidable p)(h:p): @decide p i=true:=aS h
def dF {p:Prop}(i:Decidable p)(h:¬p): @decide p i=false:=aV h
def asg {a:List Int}{k:Nat}{v:Int}{lo hi:Int}(b:∀x∈a,lo<=x/\x<=hi)(c:lo<=v/\v<=hi):∀x∈a.set k v,lo<=x/\x<=hi:=fun x d=>by
 rcases avZ d with h|h
 .exact b x h
 .rw[h];exact c
def ash {l:hJ}(g:l.1.length<=1048576)(i:l.2.length<=1048576)(x:dK):JH F0 l x=some ((eJ l x).1,(eJ l x).2,()):=by
 rw[atV,aaH g i,an,adi,an];unfold eJ;cases p:BK l with
 |false=>rw[ag (by simp)];rfl
 |true =>
  rw[aX,aa,P3,an];cases q:fS x with
  |false=>rw[ag (by simp)];rfl
  |true =>
   rw[aX,aa,ak ⟨rfl,rfl⟩];obtain⟨j,r,m,s⟩:=aaG p;obtain⟨b,o,B,C⟩:=jD q;have f:∀(y:Int) (n:Nat),n=4->0<=y->y<=3->bG y (n:Int)=true:=fun y n h g i=>by obtain⟨u,rfl⟩:∃u:Nat,y=u:=⟨y.toNat,by omega⟩;exact ao (by omega)
   have t:=f x.1 _ j b.1 b.2;have z:=f x.1 _ r b.1 b.2;have A:∀w,bG x.2.1 ((l.1.set x.1.toNat w).length:Int)=true:=fun w=>f x.2.1 _ (by rw[Gq];exact j) o.1 o.2
   simp only[t,z,A,ab];have D:0<=aL l.1 x.1 0/\aL l.1 x.1 0<=400:=m _ (nz (a:=l.1) (k:=x.1.toNat) (by omega) 0);have E:0<=aL l.2 x.1 0/\aL l.2 x.1 0<=100:=s _ (nz (a:=l.2) (k:=x.1.toNat) (by omega) 0);by_cases c:x.2.2.2<aL l.2 x.1 0
   .rw[dT _ c,ae,ak c]
   .rw[dF _ c,aa,ag c];by_cases d:x.2.2.2>aL l.2 x.1 0
    .rw[dT _ d,ae,ak d]
    .rw[dF _ d,aa,ag d,aG (n:=x.2.2.2+1) (by omega) (by omega)];by_cases e:x.2.2.1>aL l.1 x.1 0
     .rw[dT _ e,ae,ak e]
     .have F:0<=aL (l.1.set x.1.toNat (aL l.1 x.1 0-x.2.2.1)) x.2.1 0/\aL (l.1.set x.1.toNat (aL l.1 x.1 0-x.2.2.1)) x.2.1 0<=400:=asg (k:=x.1.toNat) (v:=aL l.1 x.1 0-x.2.2.1) m ⟨by omega,by omega⟩ _ (nz (a:=l.1.set x.1.toNat (aL l.1 x.1 0-x.2.2.1)) (k:=x.2.1.toNat) (by rw[Gq];omega) 0);rw[dF _ e,aa,ag e,aG (n:=aL l.1 x.1 0-x.2.2.1) (by omega) (by omega),aG (n:=aL (l.1.set x.1.toNat (aL l.1 x.1 0-x.2.2.1)) x.2.1 0+x.2.2.1) (by omega) (by omega),adi,an];cases BK ((l.1.set x.1.toNat (aL l.1 x.1 0-x.2.2.1)).set x.2.1.toNat (aL (l.1.set x.1.toNat (aL l.1 x.1 0-x.2.2.1)) x.2.1 0+x.2.2.1),l.2.set x.1.toNat (x.2.2.2+1)) with
      |false=>rw[ag (by simp),fE,ae,an]
      |true=>rw[ak rfl];rfl
def aCg {l:hJ}(f:l.1.length<=1048576)(g:l.2.length<=1048576)(x:dK):acP F0 l x=some ((eJ l x).1,(eJ l x).2,()):=by
 rw[at0,VZ f g,an,Zj f g,an];unfold eJ;cases p:BK l with
 |false=>rw[ag (by simp)];rfl
 |true =>
  rw[aX,aa,P4,an];cases q:fS x with
  |false=>rw[ag (by simp)];rfl
  |true =>
   rw[aX,aa,ak ⟨rfl,rfl⟩];obtain⟨j,r,m,s⟩:=aaG p;obtain⟨b,o,C,D⟩:=jD q;have i:∀(y:Int) (n:Nat),n=4->0<=y->y<=3->bG y (n:Int)=true:=fun y n h f g=>by obtain⟨u,rfl⟩:∃u:Nat,y=u:=⟨y.toNat,by omega⟩;exact ao (by omega)
   have t:=i x.1 _ j b.1 b.2;have z:=i x.1 _ r b.1 b.2;have A:∀w,bG x.2.1 ((l.1.set x.1.toNat w).length:Int)=true:=fun w=>i x.2.1 _ (by rw[Gq];exact j) o.1 o.2
   simp only[t,z,A,ab];have E:0<=aL l.1 x.1 0/\aL l.1 x.1 0<=400:=m _ (nz (a:=l.1) (k:=x.1.toNat) (by omega) 0);have F:0<=aL l.2 x.1 0/\aL l.2 x.1 0<=100:=s _ (nz (a:=l.2) (k:=x.1.toNat) (by omega) 0);by_cases c:x.2.2.2<aL l.2 x.1 0
   .rw[dT _ c,ae,ak c]
   .rw[dF _ c,aa,ag c];by_cases d:x.2.2.2>aL l.2 x.1 0
    .rw[dT _ d,ae,ak d]
    .have B:aL l.2 x.1 0=x.2.2.2:=by omega
     rw[dF _ d,aa,ag d,B,aG (n:=x.2.2.2+1) (by omega) (by omega)];by_cases e:x.2.2.1>aL l.1 x.1 0
     .rw[dT _ e,ae,ak e]
     .have G:0<=aL (l.1.set x.1.toNat (aL l.1 x.1 0-x.2.2.1)) x.2.1 0/\aL (l.1.set x.1.toNat (aL l.1 x.1 0-x.2.2.1)) x.2.1 0<=400:=asg (k:=x.1.toNat) (v:=aL l.1 x.1 0-x.2.2.1) m ⟨by omega,by omega⟩ _ (nz (a:=l.1.set x.1.toNat (aL l.1 x.1 0-x.2.2.1)) (k:=x.2.1.toNat) (by rw[Gq];omega) 0);rw[dF _ e,aa,ag e,aG (n:=aL l.1 x.1 0-x.2.2.1) (by omega) (by omega),aG (n:=aL (l.1.set x.1.toNat (aL l.1 x.1 0-x.2.2.1)) x.2.1 0+x.2.2.1) (by omega) (by omega),Zj (by simp only[Gq];omega) (by simp only[Gq];omega),an];cases BK ((l.1.set x.1.toNat (aL l.1 x.1 0-x.2.2.1)).set x.2.1.toNat (aL (l.1.set x.1.toNat (aL l.1 x.1 0-x.2.2.1)) x.2.1 0+x.2.2.1),l.2.set x.1.toNat (x.2.2.2+1)) with
      |false=>rw[ag (by simp),fE,ae,an]
      |true=>rw[ak rfl];rfl
def aua (l:hJ)(x:dK):(eJ l x).1.1.length=l.1.length/\(eJ l x).1.2.length=l.2.length:=by
 unfold eJ;split
 .split
  .exact⟨rfl,rfl⟩
  .split
   .exact⟨rfl,rfl⟩
   .split
    .exact⟨rfl,by simp⟩
    .split
     .exact⟨by simp,by simp⟩
     .exact⟨rfl,rfl⟩
 .exact⟨rfl,rfl⟩
def V0:hJ:=([100,100,100,100],[0,0,0,0])
def Zk:k2 F0=some (V0,()):=by
 have st:∀n (k:Nat) (c:List Int),k<4->c.length=k->hZ F0 (iv F0) (n+1) (ft (k:Int) [] [] c [0,0,0,0])=hZ F0 (iv F0) n (ft ((k+1:Nat):Int) [] [] (c++[100]) [0,0,0,0]):=fun n k c e f=>by rw[Bg,show decide ((k:Int)<4)=true from aS (by omega),ae,au (a:=c.length) (b:=[(100:Nat)].length) (k:=8) (by omega) (by omega) (by simp only[a1,bJ];omega),ab,ah (by omega)]
 rw[abS,show okM F0 4 4 8=true from awJ (n:=4) (by omega) (by omega) (by omega),ab];refine cx (fun n i c=>hZ F0 (iv F0) n (ft i [] [] c [0,0,0,0])) 4 (fun k c=>c=List.replicate k 100) _ (fun n k c e d=>.inr ⟨_,st n k c e (by rw[d];simp),by rw[d,<-List.replicate_succ']⟩) (fun n c d=>?_) F0.n 0 [] (by omega) rfl (by rw[bg];omega);rw[Bg,show decide (((4:Nat):Int)<4)=false from rfl,aa,Ud,d];rfl
def V1:p9 F0=some (V0,()):=by
 have st:∀n (k:Nat) (c:List Int),k<4->c.length=k->h8 F0 (iE F0) (n+1) (fx (k:Int) [] [] c [0,0,0,0])=h8 F0 (iE F0) n (fx ((k+1:Nat):Int) [] [] (c++[100]) [0,0,0,0]):=fun n k c e f=>by rw[Bu,show decide ((k:Int)<4)=true from aS (by omega),ae,au (a:=c.length) (b:=[(100:Nat)].length) (k:=8) (by omega) (by omega) (by simp only[a1,bJ];omega),ab,ah (by omega)]
 rw[acM,show okM F0 4 4 8=true from awJ (n:=4) (by omega) (by omega) (by omega),ab];refine cx (fun n i c=>h8 F0 (iE F0) n (fx i [] [] c [0,0,0,0])) 4 (fun k c=>c=List.replicate k 100) _ (fun n k c e d=>.inr ⟨_,st n k c e (by rw[d];simp),by rw[d,<-List.replicate_succ']⟩) (fun n c d=>?_) F0.n 0 [] (by omega) rfl (by rw[bg];omega);rw[Bu,show decide (((4:Nat):Int)<4)=false from rfl,aa,Vu,d];rfl
def aub (c:Int):PO F0 c=some ((c==0) || (c==4),()):=by rw[arZ];cases h:(c==0)<;>rfl
def aaI (l:hJ):Prop:=l.1.length=4/\l.2.length=4
def aFT {l:hJ}(h:aaI l)(x:dK):aaI (eJ l x).1:=⟨(aua l x).1.trans h.1,(aua l x).2.trans h.2⟩
def agU {U:Type}{a:List U}{k:Nat}(h:k<a.length)(d:U):aL a (k:Int) d=a[k]:=by rw[kl];simp[List.getD,h]
def aHc (x:dK):(x.1,x.2.1,x.2.2.1,x.2.2.2)=x:=rfl
def gn:hJ->List dK->List Int
 |_,[]=>[]|l,x::xs=>(eJ l x).2::gn (eJ l x).1 xs
def eT:hJ->List dK->hJ
 |l,[]=>l|l,x::xs=>eT (eJ l x).1 xs
def Nw:∀{xs:List dK} {l:hJ},aaI l->aaI (eT l xs)
 |[],_,h=>h|x::xs,l,h=>Nw (xs:=xs) (aFT h x)
def IK:∀(xs:List dK) (l:hJ),(gn l xs).length=xs.length
 |[],_=>rfl|x::xs,l=>by simp[gn,IK xs]
def QT:∀(a b:List dK) (l:hJ),gn l (a++b)=gn l a++gn (eT l a) b
 |[],_,_=>rfl|x::a,b,l=>by simp[gn,eT,QT a b]
def Nx:∀(a:List dK) (x:dK) (l:hJ),eT l (a++[x])=(eJ (eT l a) x).1
 |[],_,_=>rfl|y::a,x,l=>by simp[eT,Nx a x]
def adj:∀(xs:List dK) (l:hJ) (j:Nat) (h:j<xs.length),(gn l xs)[j]?=some (eJ (eT l (xs.take j)) xs[j]).2
 |x::xs,l,0,h=>rfl|x::xs,l,j+1,h=>by simp only[gn,av1,List.take_succ_cons,eT,List.getElem_cons_succ];exact adj xs _ j (by simpa using h)
def ams {l:hJ}(g:aaI l){list:List dK}(m:list.length<=1048576):wj F0 l list=some (eT l list,gn l list,()):=by
 rw[ak0,aaH (by have:=g.1;omega) (by have:=g.2;omega),an];refine cx (fun n i (z:List Int×hJ)=>Dq F0 (FR F0) n (uu list i z.1 [] [] z.2.1 z.2.2)) list.length (fun k z=>z.1=gn l (list.take k)/\z.2=eT l (list.take k)) _ (fun n k z e f=>.inr ⟨(z.1++[(eJ z.2 list[k]).2],(eJ z.2 list[k]).1),?_,?_⟩) (fun n z f=>?_) F0.n 0 ([],l) (a7 _) ⟨rfl,rfl⟩ (by rw[bg];omega)
 .obtain⟨d,c⟩:=f;have h:aaI z.2:=by rw[c];exact Nw g
  have o:z.1.length<=1048576:=by rw[d,IK,bQ];omega
  rw[JW,aO e,ae,ao e,ab,agU e]
  try rw[aHc]
  rw[ash (l:=(z.2.1,z.2.2)) (by have:=h.1;show z.2.1.length<=_;omega) (by have:=h.2;show z.2.2.length<=_;omega),an];simp only;rw[au (a:=z.1.length) (b:=[(eJ (z.2.1,z.2.2) list[k]).2].length) (k:=8) (by omega) (by omega) (by simp only[a1,bJ];omega),ab,ah (by omega)]
 .obtain⟨d,c⟩:=f;have j:list.take (k+1)=list.take k++[list[k]]:=by rw[Lt,nu e];rfl
  refine⟨?_,?_⟩
  .rw[j,QT,<-d,<-c];rfl
  .rw[j,Nx,<-c]
 .obtain⟨d,c⟩:=f;rw[l3]at d c;rw[JW,aA,aa,ab8,d,c]
def adk:∀{ss:List P7},(∀s∈ss,asf s)->(ss.flatMap (·.2)).length<=2*ss.length
 |[],_=>by simp
 |s::ss,h=>by
  have b:=(h s vR).2.2.1;have c:=adk (ss:=ss) fun x a=>h x (jG _ a)
  rw[List.flatMap_cons,aN,a1];omega
def aAc {l:List UInt8}(f:l.length<=1073741824):vw F0 (tx l)=some ((bR l).1.flatMap (·.2),()):=by
 rw[aoa,WY f,an];have hlen:=wK l;have cz:=QS l;generalize h:(bR l).1=ss at hlen cz;refine cx (fun n i xs=>HZ F0 (JU F0) n (yn i xs ss)) ss.length (fun k xs=>xs=(ss.take k).flatMap (·.2)) _ (fun n k xs c d=>.inr ⟨_,?_,rfl⟩) (fun n xs d=>?_) F0.n 0 [] (a7 _) rfl (by rw[bg];omega)
 .have j:=(cz _ (bT c)).2.2.1;have e:=adk (ss:=ss.take k) fun x e=>cz x (XQ e)
  rw[<-d,bQ]at e;rw[L5,aO c,ae,ao c,ab,agU c,au (a:=xs.length) (b:=ss[k].2.length) (k:=32) (by omega) (by omega) (by omega),ab,ah (by omega),d];have g:(ss.take (k+1)).flatMap (·.2)=(ss.take k).flatMap (·.2)++ss[k].2:=by rw[show ss.take (k+1)=ss.take k++[ss[k]] by rw[Lt,nu c];rfl,List.flatMap_append];simp
  rw[g]
 .rw[l3]at d;rw[L5,aA,aa,aes,d]
def eU {V:Type}(X:Nat->Int->Option V)(L:Nat)(p:Nat->Bool)(d e:Option V)(g:∀n k,k<L->X (n+1) (k:Int)=if p k=true then X n ((k+1:Nat):Int) else e)(j:∀n,X (n+1) (L:Int)=d)(n:Nat)(o:L<n) :
  X n 0=if (List.range L).all p=true then d else e:=by
 refine cx (fun n i (_:Unit)=>X n i) L (fun k _=>∀a,a<k->p a=true) _ (fun n k _ f h=>?_) (fun n _ h=>?_) n 0 () (a7 _) (fun a b=>absurd b (abd _)) (by omega)
 .try dsimp only
  rw[g n k f];by_cases c:p k=true
  .rw[ak c];refine .inr ⟨(),rfl,fun a b=>?_⟩;by_cases l:a=k
   .exact l▸c
   .exact h a (by omega)
  .rw[ag c,ag]
   .exact .inl rfl
   .intro m;exact c (dh.1 m k (dk.2 f))
 .try dsimp only
  rw[j,ak];exact dh.2 fun a b=>h a (dk.1 b)
def adl {U:Type}(s:List U)(q:U->Bool)(d:U):(List.range s.length).all (fun k=>q (s.getD k d))=s.all q:=by
 rw[Bool.eq_iff_iff,dh,dh];constructor
 .intro h x b;obtain⟨i,a,rfl⟩:=aqC.1 b;have:=h i (dk.2 a);simpa [List.getD,a]using this
 .intro h k c;exact h _ (nz (dk.1 c) d)
def aFU (s:List Int)(i:Int):(s.all fun x=> !(x==i))= !decide (i∈s):=by rw[Bool.eq_iff_iff,dh];simp only[abc,b0,ate];exact⟨fun h a=>h i a rfl,fun h x b e=>h (e▸b)⟩
def ite_not (b:Bool){U:Type}(x y:U):(if (!b)=true then x else y)=if b=true then y else x:=by cases b<;>rfl
def awQ {U:Type}(b:Bool)(x y:U):br b x y=if b=true then x else y:=by cases b<;>rfl
def ep {s:List Int}(h:s.length<=1073741824)(i:Int):cS F0 s i=some (decide (i∈s),()):=by
 rw[akt,eU (fun n k=>CY F0 (tK F0) n (tJ s i k)) s.length (fun k=> !(s.getD k 0==i)) (some (false,())) (some (true,())) (fun n k a=>?_) (fun n=>?_) _ (by rw[bg];omega),
  adl s (fun x=> !(x==i)),aFU,ite_not]
 .by_cases b:i∈s<;>simp[b]
 .rw[Jt,aO a,ae,ao a,ab,kl,ah (by omega),ite_not,awQ,aec]
 .rw[Jt,aA,aa,abJ]
def asi {s:List Int}(h:s.length<=1073741824)(i:Int):gB F0 s i=some (decide (i∈s),()):=by
 have key:∃a,j6 F0 s i=some (a,())/\decide (a>=0)=decide (i∈s):=by
  rw[PI];have:=cx (fun n k (_:Unit)=>hI F0 (fQ F0) n (fP s i (s.length:Int) k)) s.length (fun k _=>∀a,a<k->s.getD a 0≠i)
   (some ((if i∈s then ((s.idxOf i:Nat):Int) else -1),())) (fun n k _ f g=>?_) (fun n _ g=>?_) F0.n 0 () (a7 _) (fun a c=>absurd c (abd _)) (by rw[bg];omega)
  .refine⟨_,this,?_⟩;by_cases b:i∈s
   .rw[ak b,aS b];exact aS (Int.natCast_nonneg _)
   .rw[ag b,aV b];rfl
  .try dsimp only
   rw[pa,aO f,ae,ao f,ab,kl,ah (by omega),Lr];by_cases d:i=s.getD k 0
   .left;have b:i∈s:=d▸nz f 0;rw[cj.2 d,ae,ak b];have m:s.idxOf i=k:=by
     have j:s.idxOf i<s.length:=List.idxOf_lt_length_of_mem b;have l:s.getD (s.idxOf i) 0=i:=by simp[List.getD,j]
     rcases Nat.lt_trichotomy (s.idxOf i) k with hlt|o|q
     .exact absurd l (g _ hlt)
     .exact o
     .have:=List.not_of_lt_findIdx (p:=(·==i)) (xs:=s) q;have r:s[k]'(by omega)=i:=by rw[d];simp[List.getD,f]
      simp[r]at this
    rw[m]
   .right;rw[b0.2 d,aa];refine⟨(),rfl,fun a c=>?_⟩;by_cases t:a=k
    .exact fun e=>d (t▸e.symm)
    .exact g a (by omega)
  .try dsimp only
   have b:i ∉ s:=by intro b;obtain⟨a,c,e⟩:=aqC.1 b;exact g a c (by simp[List.getD,c,e])
   rw[pa,aA,aa,Ku,ag b]
 obtain⟨a,j,l⟩:=key;rw[Kv,j,an,l]
def wL {s:List Int}(h:s.length<=1073741824)(i:Int):j7 F0 s i=some (decide (i∈s),()):=by rw[al4,asi h,an]
def ai3 (i:Int):List Int->List Int
 |[]=>[i]|x::l=>if x>=i then i::x::l else x::ai3 i l
def Tl (s:List Int)(i:Int):List Int:=if i∈s then s else ai3 i s
def auc (i:Int):∀s:List Int,(ai3 i s).length=s.length+1
 |[]=>rfl|x::l=>by
  unfold ai3;split
  .rfl
  .simp[auc i l]
def V2 (s:List Int)(i:Int):(Tl s i).length<=s.length+1:=by
 unfold Tl;split
 .omega
 .rw[auc];exact bh _
def azb {i:Int}:∀{s:List Int} {k:Nat},k<=s.length->(∀a (h:a<s.length),a<k->s[a]<i)->(∀h:k<s.length,¬s[k]<i)->ai3 i s=s.take k++i::s.drop k
 |[],k,_,_,_=>by simp[ai3]
 |x::l,0,_,_,h=>by have:=h (by simp);simp only[av3]at this;unfold ai3;rw[ak (by omega)];rfl
 |x::l,k+1,c,b,d=>by have e:=b 0 (by simp) (by omega);simp only[av3]at e;unfold ai3;rw[ag (by omega),List.take_succ_cons,List.drop_succ_cons,Gp,azb (k:=k) (by simpa using c) (fun a h f=>b (a+1) (by simp only[a1];omega) (by omega)) (fun h=>d (by simp only[a1];omega))]
def WZ {l h n:Nat}(a:l<=h)(b:h<=n):Qw (l:Int) (h:Int) (n:Int)=true:=by simp[Qw];omega
def KY {s:List Int}(h:s.length<=1048576)(i:Int):l5 F0 s i=some (Tl s i,()):=by
 rw[aku,ep (by omega),an];unfold Tl;by_cases c:i∈s
 .rw[aS c,ae,ak c,au (by omega) (by omega) (by omega),ab];rfl
 .rw[aV c,aa,ag c];have TH:∀k:Nat,k<=s.length->(∀a (h:a<s.length),a<k->s[a]<i)->(∀h:k<s.length,¬s[k]<i)->tM F0 (.exit 0) (rf s i (k:Int))=some (ai3 i s,()):=by
   intro k b g j;rw[abK,show Qw 0 (k:Int) (s.length:Int)=true from WZ (l:=0) (a7 _) b,ab,l2,l2,show(0:Int).toNat=0 from rfl,abe,s4,l3,
    au (by omega) (by omega) (by rw[bQ];omega),ab,au (by omega) (by omega) (by rw[bQ];simp only[a1,bJ];omega),ab,WZ b (bh _),ab,
    au (by omega) (by omega) (by rw[aN,bQ,bA];simp only[a1,bJ];omega),ab,azb b g j]
   simp
  refine cx (fun n k (_:Unit)=>C1 F0 (tM F0) n (tL s i k)) s.length (fun k _=>∀a (h:a<s.length),a<k->s[a]<i) _ (fun n k _ b d=>?_) (fun n _ d=>?_) F0.n 0 () (a7 _) (fun a _ f=>absurd f (abd _)) (by rw[bg];omega)
  .try dsimp only
   rw[Ju,aO b,ae,ao b,ab,agU b,ah (by omega)];by_cases hlt:s[k]<i
   .right;rw[aS hlt,ae];refine⟨(),rfl,fun a f m=>?_⟩;by_cases e:a=k
    .subst e;exact hlt
    .exact d a f (by omega)
   .left;rw[aV hlt,aa];exact TH k (by omega) d (fun _=>hlt)
  .try dsimp only
   rw[Ju,aA,aa];exact TH s.length (bh _) d (fun h=>absurd h (Ts _))
def IL {l:List Int}(h:l.length<=1073741824):fR F0 l=some (l,()):=by rw[CB,au (by omega) (by omega) (by omega),ab];rfl
def fT (lo hi x:Int):Bool:=decide (lo<=x)&&decide (x<=hi)
def cy (x lo hi:Int):bI F0 x lo hi=some (fT lo hi x,()):=adh x lo hi
def cG (x lo hi:Int):bw F0 x lo hi=some (fT lo hi x,()):=QR x lo hi
def ef {U:Type}{l:List U}{k:Nat}(h:k<l.length):l.take (k+1)=l.take k++[l[k]]:=by rw[Lt,nu h];rfl
abbrev b3:=Int×ByteArray×List Int
def bc (l:List UInt8):Bool:=(bR l).2
def aH (l:List UInt8):Int:=match (bR l).1.getLast? with|some s=>s.1|none=>0
def V3 {l:List UInt8}(h:(bR l).2=false):(bR l).1=[]:=by
 unfold bR at h ⊢;split
 .rfl
 .rename_i a;rw[ag a]at h;split
  .rfl
  .rename_i b;rw[b]at h;dsimp only at h;split
   .rfl
   .rename_i c;rw[ag c]at h;split
    .rfl
    .rename_i d;rw[d]at h;cases h
def QU {l:List UInt8}(h:l.length<=1073741824):ey F0 (tx l)=some (bc l,()):=by rw[akz,WY h,an];rfl
def V4 {l:List UInt8}(h:l.length<=1073741824):e7 F0 (tx l)=some (bc l,()):=by rw[alU,aaF h,an];rfl
def apU (ss:List P7)(f:ss.length<=30)(d:P7:=(0,[])):br ((ss.length:Int)==0) (some ((0:Int),())) (ck (bG (al ((ss.length:Int)-1)) (ss.length:Int)) (some ((aL ss (al ((ss.length:Int)-1)) d).1,())))=some ((match ss.getLast? with|some s=>s.1|none=>0),()):=by
 cases a:ss with
 |nil=>rfl
 |cons s r =>
  rw[<-a];have e:ss.length≠0:=by rw[a];simp
  have b:((ss.length:Int)==0)=false:=b0.2 (by omega);have c:al ((ss.length:Int)-1)=((ss.length-1:Nat):Int):=by rw[aG (by omega) (by omega)];omega
  rw[b,aa,c,ao (by omega),ab,agU (by omega),List.getLast?_eq_getElem?,nu (by omega)]
def amt {l:List UInt8}(h:l.length<=1073741824):cr F0 (tx l)=some (aH l,()):=by
 rw[akB,WY h,an];dsimp only;cases a:(bR l).2 with
 |true =>
  rw[aX,aa];exact apU _ (wK l)
 |false =>
  rw[fE,ae];unfold aH;rw[V3 a];rfl
def agV {l:List UInt8}(h:l.length<=1073741824):pY F0 (tx l)=some (aH l,()):=by rw[alV,aaF h,an];exact apU _ (wK l)
def ie (l:List UInt8):0<=aH l/\aH l<=60:=by
 unfold aH;split
 .rename_i s a;have:=QS l s (List.mem_of_getLast? a);exact⟨this.1,this.2.1⟩
 .omega
def a8 (c:Int×Int):Bool:=fT 4 7 c.1&&fT 1 6 c.2
def eV (c:Int×Int):dt F0 c=some (a8 c,()):=by rw[akL,cy,an,cy,an];unfold a8;dsimp only;cases fT 4 7 c.1<;>rfl
def hX (c:Int×Int):gh F0 c=some (a8 c,()):=by rw[alS,cG,an,cG,an];unfold a8;dsimp only;cases fT 4 7 c.1<;>rfl
def bZ {c:Int×Int}(h:a8 c=true):4<=c.1/\c.1<=7/\1<=c.2/\c.2<=6:=by unfold a8 fT at h;simp only[aE,bM]at h;omega
def aud {n:Int}(a:4<=n)(b:n<=7):1<=Int.tdiv (n-1) 3/\Int.tdiv (n-1) 3<=2:=by
 have:n=4\/n=5\/n=6\/n=7:=by omega
 rcases this with rfl|rfl|rfl|rfl<;>decide
def sZ (c:Int×Int):Int:=if a8 c=true then Int.tdiv (c.1-1) 3 else 0
def nm (c:Int×Int):Int:=if a8 c=true then c.1-Int.tdiv (c.1-1) 3 else 0
def agW (c:Int×Int):E1 F0 c=some (sZ c,()):=by
 rw[alT,hX,an];unfold sZ;dsimp only;cases h:a8 c with
 |false=>rfl
 |true =>
  have:=bZ h;have a:=aud this.1 this.2.1;have e:al (c.1-1)=c.1-1:=aG (by omega) (by omega);rw[aX,aa,e,aG (by omega) (by omega),ak rfl]
def agX (c:Int×Int):E2 F0 c=some (nm c,()):=by
 rw[alW,hX,an,agW,an];unfold nm sZ;dsimp only;cases h:a8 c with
 |false=>rfl
 |true =>
  have:=bZ h;have a:=aud this.1 this.2.1;rw[aX,aa,ak rfl,ak rfl,aG (by omega) (by omega)]
def aaJ (c:Int×Int):wg F0 c=some (nm c,()):=by
 rw[akM,eV,an];unfold nm;dsimp only;cases h:a8 c with
 |false=>rfl
 |true =>
  have:=bZ h;have a:=aud this.1 this.2.1;have e:al (c.1-1)=c.1-1:=aG (by omega) (by omega);rw[aX,aa,e,aG (n:=Int.tdiv (c.1-1) 3) (by omega) (by omega),aG (by omega) (by omega),ak rfl]
def hY (n:Int)(s:List Int):Bool:=(List.range s.length).all fun k=>decide (0<=s.getD k 0)&&(decide (s.getD k 0<n)&&(decide (k=0) || decide (s.getD (k-1) 0<s.getD k 0)))
def QV {V:Type}{n:Int}{s:List Int}{k:Nat}(g:k<s.length)(x y:Option V) :
  br (decide (s.getD k 0<0)) x (br (decide (s.getD k 0>=n)) x (br (decide ((k:Int)>0)) (br (decide (s.getD (k-1) 0>=s.getD k 0)) x y) y)) =
  if (decide (0<=s.getD k 0)&&(decide (s.getD k 0<n)&&(decide (k=0) || decide (s.getD (k-1) 0<s.getD k 0))))=true then y else x:=by
 generalize s.getD k 0=a;generalize s.getD (k-1) 0=b;by_cases c:a<0
 .rw[aS c,ae,aV (show ¬0<=a by omega)];rfl
 .rw[aV c,aa,aS (show 0<=a by omega),fF];by_cases d:a>=n
  .rw[aS d,ae,aV (show ¬a<n by omega)];rfl
  .rw[aV d,aa,aS (show a<n by omega),fF];by_cases e:k=0
   .subst e;rfl
   .rw[aS (show(k:Int)>0 by omega),ae,aV e,wR];by_cases f:b>=a
    .rw[aS f,ae,aV (show ¬b<a by omega)];rfl
    .rw[aV f,aa,aS (show b<a by omega)];rfl
def KZ {k:Nat}(a:0<k)(h:k<=9223372036854775807):al ((k:Int)-1)=((k-1:Nat):Int):=by rw[aG (by omega) (by omega)];omega
def afC {s:List Int}(h:s.length<=1073741824)(n:Int):B3 F0 n s=some (hY n s,()):=by
 rw[an4,eU (fun m k=>x8 F0 (x9 F0) m (pJ n s k)) s.length (fun k=>decide (0<=s.getD k 0)&&(decide (s.getD k 0<n)&&(decide (k=0) || decide (s.getD (k-1) 0<s.getD k 0)))) (some (true,())) (some (false,())) (fun m k a=>?_) (fun m=>?_) _ (by rw[bg];omega)]
 .show(if hY n s=true then _ else _)=_;cases hY n s<;>rfl
 .rw[LP,aO a,ae,ao a,ab,kl,ahz,ab,ah (by omega)];by_cases b:k=0
  .subst b;rw[<-QV a];rfl
  .rw[KZ (by omega) (by omega),ao (show k-1<s.length by omega),ab,ab,kl,<-QV a]
 .rw[LP,aA,aa,aem]
def aaK {s:List Int}(h:s.length<=1073741824)(n:Int):vC F0 n s=some (hY n s,()):=by
 rw[aoo,eU (fun m k=>z8 F0 (Aa F0) m (pX n s s (s.length:Int) k)) s.length (fun k=>decide (0<=s.getD k 0)&&(decide (s.getD k 0<n)&&(decide (k=0) || decide (s.getD (k-1) 0<s.getD k 0)))) (some (true,())) (some (false,())) (fun m k a=>?_) (fun m=>?_) _ (by rw[bg];omega)]
 .show(if hY n s=true then _ else _)=_;cases hY n s<;>rfl
 .rw[MH,aO a,ae,ao a,ab,kl,aix,ah (by omega)];by_cases b:k=0
  .subst b;rw[<-QV a];rfl
  .rw[KZ (by omega) (by omega),ao (show k-1<s.length by omega),ab,kl,<-QV a]
 .rw[MH,aA,aa,aeR]
def afD {a b:List Int}(h:a.length<=1073741824):gj F0 a b=some (decide (a=b),()):=by
 rw[Px];by_cases d:a.length=b.length
 .have e:((a.length:Int) != (b.length:Int))=false:=by rw[d];exact Gn (b.length:Int)
  rw[e,aa,eU (fun m k=>hF F0 (fO F0) m (fN a b (a.length:Int) k)) a.length (fun k=>a.getD k 0==b.getD k 0) (some (true,())) (some (false,())) (fun m k f=>?_) (fun m=>?_) _ (by rw[bg];omega)]
  .by_cases c:a=b
   .rw[aS c,ak (dh.2 fun k _=>by rw[c];exact oD (b.getD k 0))]
   .rw[aV c,ag];intro j;refine c (List.ext_getElem d fun k g l=>?_);have:=dh.1 j k (dk.2 g);simpa [List.getD,g,l]using this
  .rw[o7,aO f,ae,ao f,ab,ao (d▸f),ab,kl,kl,Lq,ah (by omega),awQ];by_cases i:a.getD k 0=b.getD k 0
   .simp[i]
   .simp[i]
  .rw[o7,aA,aa,Km]
 .have e:((a.length:Int) != (b.length:Int))=true:=Ez.2 (by omega);rw[e,ae,aV (fun c=>d (by rw[c]))]
def ai4 (c:Int×Int)(q:Int×List UInt8×List Int):Bool:=a8 c&&(bc q.2.1&&(decide (aH q.2.1=q.1)&&(if q.2.1=[] then decide (q.2.2=[]) else hY c.1 q.2.2&&decide ((q.2.2.length:Int)>=nm c))))
def asj:aj=tx []:=rfl
def awR {q:b3}(h:q.2.2.length<=1073741824):qc F0 q=some (q,()):=by rw[amc,IL h,an]
def awS {v c:Int}{a b:List UInt8}{s t:List Int}(h:s.length<=1073741824):mc F0 (v,tx a,s) (c,tx b,t)=some ((v==c)&&(decide (a=b)&&decide (s=t)),()):=by rw[Va];dsimp only;rw[VX,afD h,an];cases (v==c)<;>cases decide (a=b)<;>rfl
def aue {v:Int}{l:List UInt8}{s:List Int}(d:l.length<=1073741824)(e:s.length<=1073741824)(c:Int×Int):jw F0 c (v,tx l,s)=some (ai4 c (v,l,s),()):=by
 rw[arF,eV,an];unfold ai4;dsimp only;rw[QU d,an,amt d,an,afC e,an,aaJ,an,asj,VX];cases a8 c with
 |false=>rfl
 |true =>
  cases bc l with
  |false=>rfl
  |true =>
   by_cases a:aH l=v
   .rw[aS a,show(aH l != v)=false by rw[a];exact Gn v];by_cases b:l=[]
    .rw[aS b,ak b];cases s with
     |nil=>rfl|cons x r=>rfl
    .rw[aV b,ag b];cases hY c.1 s<;>rfl
   .rw[aV a,show(aH l != v)=true from Ez.2 a];rfl
def aAd {c:UInt8}{l:List UInt8}(h:parts c l=[[]]):l=[]:=by
 cases l with
 |nil=>rfl
 |cons x l =>
  unfold parts at h;split at h
  .exact absurd (sD h).2 (Fj c l)
  .split at h
   .cases (sD h).1
   .cases (sD h).1
def auf {σ V:Type}{f:σ->List UInt8->Option (σ×V)}{I:σ->Prop}{Q:V->Prop}(e:∀s p a b,I s->f s p=some (a,b)->Q b/\I a):∀{l:List (List UInt8)} {s:σ} {r:List V},I s->sY f s l=some r->∀b∈r,Q b
 |[],s,r,_,h,b,hb=>by cases h;cases hb
 |p::l,s,r,g,h,b,hb=>by
  unfold sY at h;cases c:f s p with
  |none=>rw[c]at h;cases h
  |some x =>
   obtain⟨a,i⟩:=x;rw[c]at h;obtain⟨j,k⟩:=e s p a i g c;dsimp only at h;cases d:sY f a l with
   |none=>rw[d]at h;cases h
   |some m =>
    rw[d]at h;cases h;rcases cK.1 hb with rfl|hb
    .exact j
    .exact auf e k d b hb
def asl {l:List UInt8}:∀s∈(bR l).1,1<=s.1:=by
 unfold bR;split
 .simp
 .split
  .simp
  .split
   .simp
   .split
    .simp
    .rename_i d;refine auf (I:=fun s=>0<=s) (Q:=fun b=>1<=b.1) (fun s p e b f a=>?_) (by omega) d;obtain⟨g,h⟩:=VY a;unfold sM at a;split at a
     .rename_i c;cases a;exact⟨by have:=c.2.2.2.1;show 1<=_;omega,by have:=c.2.2.2.1;omega⟩
     .cases a
def awT {l:List UInt8}(h:bc l=true)(c:l≠[]):(bR l).1≠[]:=by
 unfold bc at h;unfold bR at h ⊢;rw[ag c]at h ⊢;cases b:parts 47 l with
 |nil=>rw[b]at h;cases h
 |cons g d =>
  rw[b]at h;dsimp only at h ⊢;split
  .rename_i a;rw[ak a]at h;cases h
  .rename_i a;rw[ag a]at h;have i:g=[]:=ao8 fun j=>a (.inl j)
   cases e:sY sM 0 d with
   |none=>rw[e]at h;cases h
   |some r =>
    dsimp only;intro k;have f:=P6 e;rw[k]at f;have:d=[]:=XO f.symm;subst this i;exact c (aAd b)
def awU {l:List UInt8}(h:bc l=true)(b:l≠[]):1<=aH l:=by
 have c:=awT h b;unfold aH;cases a:(bR l).1.getLast? with
 |none=>exact absurd (List.getLast?_eq_none_iff.1 a) c|some s=>exact asl s (List.mem_of_getLast? a)
def QW:aH []=0:=rfl
def QX:bc []=true:=rfl
def aCh (c:Int×Int)(v:Int)(l:List UInt8)(s:List Int) :
  (a8 c&&(((v==0)&&(decide (l=[])&&decide (s=[]))) || (decide (v>=1)&&(bc l&&((v==aH l)&&(hY c.1 s&&decide ((s.length:Int)>=nm c)))))))=ai4 c (v,l,s):=by
 unfold ai4;dsimp only;cases e:a8 c with
 |false=>rfl
 |true =>
  rw[fF,fF];by_cases b:l=[]
  .subst b;rw[QW,QX,ak rfl,aS rfl,fF,fF,fF];by_cases a:v=0
   .subst a;rw[oD,aS rfl,aV (show ¬(0:Int)>=1 by omega),Tq,ajC]
   .rw[b0.2 a,aV (show ¬(0:Int)=v from fun h=>a h.symm)];simp
  .rw[aV b,Tq,Tr,wR,ag b];cases d:bc l with
   |false=>rw[Tq,Tq,Tr]
   |true =>
    have:=awU d b;by_cases a:v=aH l
    .rw[aS (show v>=1 by omega),cj.2 a,aS a.symm];rfl
    .rw[b0.2 a,aV (show ¬aH l=v from fun h=>a h.symm)];simp
def aAe {v:Int}{l:List UInt8}{s:List Int}(a:l.length<=1073741824)(b:s.length<=1073741824)(c:Int×Int):wD F0 c (v,tx l,s)=some (ai4 c (v,l,s),()):=by rw[<-aCh,arW,hX,an,aiy,an];dsimp only;rw[asj,awS b,an,V4 a,an,agV a,an,aaK b,an,agX,an];dsimp only;generalize bc l=d;generalize aH l=e;generalize hY c.1 s=f;generalize decide ((s.length:Int)>=nm c)=g;generalize decide (v>=1)=h;generalize ((v==0)&&(decide (l=[])&&decide (s=[])))=i;generalize (v==e)=j;cases a8 c<;>cases d<;>cases f<;>cases g<;>cases h<;>cases i<;>cases j<;>rfl
def asm (c:Int×Int)(p:Int×List UInt8×List Int):Option (Int×List UInt8×List Int):=if p.2.1≠[]/\ai4 c p=true then some p else none
def aFA (o:Option (Int×List UInt8×List Int)):b3×Bool:=match o with
 |some q=>((q.1,tx q.2.1,q.2.2),true)|none=>((0,tx [],[]),false)
def awV {v:Int}{l:List UInt8}{s:List Int}(b:l.length<=1073741824)(d:s.length<=1073741824)(c:Int×Int):ES F0 c (v,tx l,s)=some ((aFA (asm c (v,l,s))).1,(aFA (asm c (v,l,s))).2,()):=by
 rw[ak9];dsimp only;rw[au (by omega) (by omega) (by omega),ab,asj,VX,s4,aue b d,an];unfold asm;dsimp only;by_cases a:l=[]
 .rw[aS a,ae,ag (fun h=>h.1 a)];rfl
 .rw[aV a,aa];cases e:ai4 c (v,l,s) with
  |true=>rw[ak ⟨a,rfl⟩];rfl|false=>rw[ag (fun h=>by cases h.2)];rfl
def eG (c:Int×Int)(view:Int):Int:=if a8 c=true/\0<=view then view%c.1 else -1
def afE (c:Int×Int)(view s:Int):Int:=if a8 c=true/\0<=view/\0<=s/\s<=c.1-1 then (view%c.1+s)%c.1 else -1
def cP (c:Int×Int)(view i:Int):Int:=if a8 c=true/\0<=view/\0<=i/\i<=c.1-1 then (i+c.1-view%c.1)%c.1 else -1
def afF (c:Int×Int)(view i:Int):Int:=if cP c view i<=0 then -1 else afE c view ((cP c view i-1)/c.2)
def V5 {a b:Int}(h:0<=a):Int.tmod a b=a%b:=ajr h
def ne0 {n:Int}(h:4<=n):(!(n==0))=true:=by rw[b0.2 (show n≠0 by omega)];rfl
def azc {lo hi x:Int}:fT lo hi x=decide (lo<=x/\x<=hi):=by unfold fT;by_cases a:lo<=x<;>by_cases b:x<=hi<;>simp[a,b]
def aCi {n:Int}(a:4<=n)(view:Int):0<=view%n/\view%n<n:=⟨agf _ (by omega),ajt _ (by omega)⟩
def K0 (c:Int×Int)(view:Int):lg F0 c view=some (eG c view,()):=by
 rw[arH,eV,an];unfold eG;cases b:a8 c with
 |false=>rfl
 |true =>
  have d:=bZ b;by_cases a:view<0
  .rw[aS a,ag (fun h=>by omega)];rfl
  .rw[aV a,aX,aa,aa,ne0 d.1,ab,ak ⟨rfl,by omega⟩,V5 (by omega)]
def afG {n:Int}(a:4<=n)(b:n<=7):al (n-1)=n-1:=aG (by omega) (by omega)
def aCj (c:Int×Int)(view s:Int):WN F0 c view s=some (afE c view s,()):=by
 rw[arK,eV,an];unfold afE;cases f:a8 c with
 |false=>rfl
 |true =>
  have d:=bZ f;have g:=aCi d.1 view;by_cases e:view<0
  .rw[aS e,ag (fun h=>by omega)];rfl
  .rw[aV e,aX,aa,aa,cy,an,afG d.1 d.2.1,azc];by_cases b:0<=s/\s<=c.1-1
   .rw[aS b,aX,aa,ne0 d.1,ab,ab,ak ⟨rfl,by omega,b.1,b.2⟩,V5 (a:=view) (by omega),aG (by omega) (by omega),V5 (by omega)]
   .rw[aV b,ag (fun h=>b ⟨h.2.2.1,h.2.2.2⟩)];rfl
def V6 (c:Int×Int)(view i:Int):I5 F0 c view i=some (cP c view i,()):=by
 rw[arJ,eV,an];unfold cP;cases f:a8 c with
 |false=>rfl
 |true =>
  have d:=bZ f;have g:=aCi d.1 view;by_cases e:view<0
  .rw[aS e,ag (fun h=>by omega)];rfl
  .rw[aV e,aX,aa,aa,cy,an,afG d.1 d.2.1,azc];by_cases b:0<=i/\i<=c.1-1
   .rw[aS b,aX,aa,ne0 d.1,ab,ab,ak ⟨rfl,by omega,b.1,b.2⟩,V5 (a:=view) (by omega),aG (n:=i+c.1) (by omega) (by omega),aG (by omega) (by omega),V5 (by omega)]
   .rw[aV b,ag (fun h=>b ⟨h.2.2.1,h.2.2.2⟩)];rfl
def apV (c:Int×Int)(view i:Int):-1<=cP c view i/\cP c view i<=6:=by
 unfold cP;split
 .rename_i h;have a:=bZ h.1;have b:=agf (i+c.1-view%c.1) (show c.1≠0 by omega);have d:=ajt (i+c.1-view%c.1) (show 0<c.1 by omega);omega
 .omega
def aug {c:Int×Int}{view i:Int}(h:0<=cP c view i):a8 c=true:=by
 unfold cP at h;split at h
 .rename_i a;exact a.1
 .omega
def aFV {a b:Int}(c:0<=a)(d:a<=6)(e:1<=b):0<=a/b/\a/b<=6:=⟨Int.ediv_nonneg c (by omega),Int.le_trans (Int.ediv_le_self b c) d⟩
def aCk (c:Int×Int)(view i:Int):WO F0 c view i=some (afF c view i,()):=by
 rw[awM,V6,an];unfold afF;have f:=apV c view i;by_cases d:cP c view i<=0
 .rw[aS (show(cP c view i,()).1<=0 from d),ae,ak d]
 .have e:=bZ (aug (c:=c) (view:=view) (i:=i) (by omega));have g:=aFV (a:=cP c view i-1) (b:=c.2) (by omega) (by omega) e.2.2.1;rw[aV (show ¬(cP c view i,()).1<=0 from d),aa,ag d,show(!(c.2==0))=true by rw[b0.2 (show c.2≠0 by omega)];rfl,ab];dsimp only;rw[aG (n:=cP c view i-1) (by omega) (by omega),ajs (show 0<=cP c view i-1 by omega),aG (by omega) (by omega),aCj,an]
end Go.Am.Tryz
