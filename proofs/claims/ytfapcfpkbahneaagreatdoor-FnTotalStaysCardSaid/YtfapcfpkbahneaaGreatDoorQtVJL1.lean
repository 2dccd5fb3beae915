/- Lemmas for the claim. No condition. -/
import Derived.Test.YtfapcfpkbahneaaGreatDoorQtVJG7
import Derived.Lib.MinMaxS
import Derived.Lib.CutLaws
import Derived.Lib.PathFns
import Derived.Lib.SplitLaws
import Derived.Test.YtfapcfpkbahneaaGreatDoorQtAmData
set_option linter.all false
namespace Go.Am.Tryz
open Go.Am
def I64 (n:Int):Prop:=-9223372036854775808<=n/\n<=9223372036854775807
theorem Cf {n:Int}(h:I64 n):kV F0 n=some (tx (Lib.itoa n),()):=by
 rw[amY];by_cases hz:n=0
 ·subst hz;simp only[ack,af]
  congr 2
  simp[tx,Lib.itoa,Lib.decDigits]
 ·rw[show(n==0)=false from cj.2 hz,aa];have hD:(Lib.decDigits n.natAbs).length<=20:=by rw[Lib.decDigits_length];exact Lib.nDigits_le20 _ (by obtain⟨h1,h2⟩:=h;omega)
  refine aCe (fun m (x:Int×List UInt8)=>uj F0 (Fl F0) m (o6 x.1 (decide (n<0)) (tx x.2))) _ (fun x=>I64 x.1/\aDS x.1.natAbs++x.2=Lib.decDigits n.natAbs) (fun x=>x.1.natAbs) (fun m x hx=>?_) _ (n,[]) ⟨h,?_⟩ ?_
  ·obtain⟨x,l⟩:=x;obtain⟨⟨h1,h2⟩,h3⟩:=hx;simp only at h1 h2 h3 ⊢;have hl:l.length<=20:=by have:=AT List.length h3;rw[aT]at this;omega
   by_cases hx0:x=0
   ·left;subst hx0;rw[Jq];simp only[al6,aa,acY];rw[show aDS (Int.natAbs 0)=[] from rfl,F6]at h3;subst h3;by_cases hn:n<0
    ·rw[aM hn,af,iT (by rw[bP];have:(ByteArray.mk #[45]).size=1:=rfl;omega),ae,show ByteArray.mk #[45]=tx [45] from rfl,gG];unfold Lib.itoa;rw[ak hn];rfl
    ·rw[aQ hn,aa];unfold Lib.itoa;rw[ah hn,show n.natAbs=n.toNat by omega]
   ·right;have aHY:x.natAbs%10<10:=aaC _ (by omega);have aMD:(Int.tdiv x 10).natAbs=x.natAbs/10:=by rw[Int.natAbs_tdiv];rfl
    have hI:I64 (Int.tdiv x 10):=⟨by omega,by omega⟩;have hr:=aF8 (u:=x.natAbs) (by omega);have hw:aj (Int.tdiv x 10)=Int.tdiv x 10:=aI hI.1 hI.2;refine⟨(Int.tdiv x 10,UInt8.ofNat (48+x.natAbs%10)::l),?_,⟨hI,?_⟩,?_⟩
    ·rw[Jq,show(x != 0)=true from D0.2 hx0,af];have key:tx [UInt8.ofNat (48+x.natAbs%10)]++tx l=tx (UInt8.ofNat (48+x.natAbs%10)::l):=by rw[gG];rfl
     have hsz:okC F0 (tx [UInt8.ofNat (48+x.natAbs%10)]).size (tx l).size=true:=iT (by rw[bP,bP];simp only[bg,bB];omega);by_cases aRG:x<0
     ·have hm:Int.tmod x 10=-((x.natAbs%10:Nat):Int):=by obtain⟨u,rfl⟩:∃u:Nat,x=-(u:Int):=⟨x.natAbs,by omega⟩;rw[Int.neg_tmod,Int.natAbs_neg,Int.natAbs_natCast];rfl
      by_cases hz:x.natAbs%10=0
      ·rw[hm,hz,show decide (-((0:Nat):Int)<0)=false from rfl,aa,show(48+-((0:Nat):Int))=48+((0:Nat):Int) from rfl,dig (by omega)];rw[hz]at hsz key;rw[hsz,ae,key,hw]
      ·rw[hm,aM (by omega),af,aI (n:=0 - -((x.natAbs%10:Nat):Int)) (by omega) (by omega),show(0:Int) - -((x.natAbs%10:Nat):Int)=((x.natAbs%10:Nat):Int) by omega,dig aHY,hsz,ae,key,hw]
     ·have hm:Int.tmod x 10=((x.natAbs%10:Nat):Int):=by obtain⟨u,rfl⟩:∃u:Nat,x=(u:Int):=⟨x.natAbs,by omega⟩;rfl
      rw[hm,aQ (by omega),aa,dig aHY,hsz,ae,key,hw]
    ·simp only;rw[aMD,<-h3,hr];simp
    ·simp only;rw[aMD];omega
  ·simp only[ie];unfold aDS;rw[ah (by omega)]
  ·simp only;rw[bT];obtain⟨h1,h2⟩:=h;omega
theorem QE {n:Int}(h:I64 n):lk F0 n=some (tx (Lib.itoa n),()):=by rw[aok];unfold strconv_Itoa;rw[aM h.1,aM h.2];rfl
theorem RE {n:Int}(h:I64 n):(Lib.itoa n).length<=21:=Lib.itoa_length_le n h.1 h.2
theorem ahf {xs:List ByteArray}{l:List (List UInt8)}{s:List UInt8}(h:(xs.map fun b=>b.data.toList)=l)(h1:xs.length<=67108864)(h2:(Lib.join l s).length<=67108864):strings_Join F0 xs (tx s)=some (tx (Lib.join l s),()):=by have e1:decide ((xs.length:Int)<=F0.mem)=true:=aM (show((xs.length:Nat):Int)<=140737488355328 by omega);have e2:decide (((Lib.join l s).length:Int)<=F0.mem)=true:=aM (show(((Lib.join l s).length:Nat):Int)<=140737488355328 by omega);unfold strings_Join amR;rw[h,iK,e1,e2];rfl
theorem WR (a b:List UInt8):((tx a).toList==(tx b).toList)=decide (a=b):=by
 rw[Lib.toList_data,Lib.toList_data,iK,iK];by_cases h:a=b
 ·simp[h]
 ·simp[h]
theorem XN (l:List UInt8)(k:Nat):lL (tx l) (k:Int)=((l.getD k 0).toNat:Int):=by unfold lL;rw[iK];rfl
theorem avr (c:UInt8):c.toNat<256:=UInt8.toNat_lt c
def isD (c:UInt8):Bool:=decide (48<=c.toNat)&&decide (c.toNat<=57)
def val:List UInt8->Nat->Nat
 |[],n=>n
 |c::l,n=>val l (10*n+(c.toNat-48))
def gh (l:List UInt8):Int×Bool :=
 if l.length<1\/6<l.length then (0,false)
 else if l.all isD then (if Lib.itoa (val l 0:Int)=l then ((val l 0:Int),true) else (0,false)) else (0,false)
theorem ao4 (a b:List UInt8)(n:Nat):val (a++b) n=val b (val a n):=by
 induction a generalizing n with
 |nil=>rfl
 |cons c l ih=>exact ih _
theorem aKv {l:List UInt8}(h:∀c∈l,isD c=true)(n:Nat):val l n<(n+1)*10 ^ l.length:=by
 induction l generalizing n with
 |nil=>simp[val]
 |cons c l ih =>
  have h1:=ih (fun d hd=>h d (tI _ hd)) (10*n+(c.toNat-48));have h2:=h c OD;simp only[isD,aJ,cD]at h2;refine DZ h1 ?_;rw[bg,Nat.pow_succ];have h3:10*n+(c.toNat-48)+1<=(n+1)*10:=by omega
  calc (10*n+(c.toNat-48)+1)*10 ^ l.length<=((n+1)*10)*10 ^ l.length:=F4 _ h3
   _=(n+1)*(10 ^ l.length*10):=by rw[Nat.mul_assoc,Nat.mul_comm 10]
theorem aGs {l:List UInt8}{k:Nat}(h:k<l.length):val (l.take (k+1)) 0=10*val (l.take k) 0+((l.getD k 0).toNat-48):=by rw[Lr,bc h 0,ao4];rfl
theorem ahg {l:List UInt8}(h6:l.length<=6)(h:∀c∈l,isD c=true):val l 0<=999999:=by have h1:=aKv h 0;have h2:10 ^ l.length<=10 ^ 6:=Nat.pow_le_pow_right (by omega) h6;omega
theorem ao5 (l:List UInt8):0<=(gh l).1/\(gh l).1<=999999:=by
 unfold gh;split
 ·simp
 ·split
  ·rename_i h1 h2;have:=ahg (l:=l) (by omega) (fun c hc=>iJ.1 h2 c hc);split
   ·simp only;omega
   ·simp
  ·simp
theorem axI {l:List UInt8}(h1:1<=l.length)(h6:l.length<=6){X:Nat->Int->Int->Option (Int×(Bool×Unit))}{D:Int->Option (ByteArray×Unit)}(hD:∀n,I64 n->D n=some (tx (Lib.itoa n),()))
  (hs:∀n k (m:Nat),k<l.length->m<=999999->X (n+1) m k=br (decide (((l.getD k 0).toNat:Int)<48)) (some (0,false,())) (br (decide (((l.getD k 0).toNat:Int)>57)) (some (0,false,())) (X n (aj (aj (10*m)+aj ((l.getD k 0).toNat-48))) ((k+1:Nat):Int))))
  (he:∀n (m:Nat),X (n+1) m l.length=(D m).bind fun r=>br (!(r.1.toList==(tx l).toList)) (some (0,false,())) (some ((m:Int),true,()))) (n:Nat) (hn:6<n):X n 0 0=some ((gh l).1,(gh l).2,()):=by
 refine df (fun n i (m:Nat)=>X n m i) l.length (fun k m=>m=val (l.take k) 0/\∀c∈l.take k,isD c=true) _ (fun n k m hk hI=>?_) (fun n m hI=>?_) n 0 0 (aX _) ⟨rfl,by simp⟩ (by omega)
 ·obtain⟨rfl,nZ⟩:=hI;have hsm:=ahg (l:=l.take k) (by rw[bQ];omega) nZ;have Bq:=o4 hk (0:UInt8);have hb:=avr (l.getD k 0);rw[hs n k _ hk hsm];by_cases h48:(l.getD k 0).toNat<48
  ·left;rw[aM (by omega),af];have:l.all isD=false:=by rw[ar6];exact⟨_,Bq,fun h=>by simp only[isD,aJ,cD]at h;omega⟩
   unfold gh;rw[ah (by omega),this];rfl
  ·by_cases h57:(l.getD k 0).toNat>57
   ·left;rw[aQ (by omega),aa,aM (by omega),af];have:l.all isD=false:=by rw[ar6];exact⟨_,Bq,fun h=>by simp only[isD,aJ,cD]at h;omega⟩
    unfold gh;rw[ah (by omega),this];rfl
   ·right;refine⟨val (l.take (k+1)) 0,?_,rfl,?_⟩
    ·rw[aQ (by omega),aa,aQ (by omega),aa,aGs hk,aI (n:=10*_) (by omega) (by omega),aI (n:=((l.getD k 0).toNat:Int)-48) (by omega) (by omega),aI (by omega) (by omega)]
     congr 1
     omega
    ·intro c hc;rw[Lr,bc hk 0]at hc;rcases lX.1 hc with hc|hc
     ·exact nZ c hc
     ·simp only[al5,ml]at hc;subst hc;simp only[isD,aJ,cD];omega
 ·obtain⟨rfl,nZ⟩:=hI;rw[nN]at nZ ⊢;have hsm:=ahg h6 nZ;rw[he,hD _ ⟨by omega,by omega⟩,ai,WR];unfold gh;rw[ah (by omega),ak (iJ.2 nZ)];by_cases hit:Lib.itoa (val l 0:Int)=l
  ·rw[aM hit,ak hit];rfl
  ·rw[aQ hit,ah hit];rfl
theorem Cg (l:List UInt8):nP F0 (tx l)=some ((gh l).1,(gh l).2,()):=by
 rw[amZ,bP];by_cases h1:l.length<1
 ·rw[aM (by omega),af];unfold gh;rw[ak (.inl h1)]
 ·rw[aQ (by omega),aa];by_cases h6:6<l.length
  ·rw[aM (by omega),af];unfold gh;rw[ak (.inr h6)]
  ·rw[aQ (by omega),aa];refine axI (X:=fun n m k=>CB F0 (uV F0) n (uU (tx l) m k)) (by omega) (by omega) (fun n hn=>Cf hn) (fun n k m hk hm=>?_) (fun n m=>?_) _ (by rw[bT];omega)
   ·have hb:=avr (l.getD k 0);rw[Js];simp only[bP,XN,afM,aS hk,av hk,af,ae,ao (show k+1<=9223372036854775807 by omega)]
    congr 2
    congr 2
    rw[aI (n:=10*(m:Int)) (by omega) (by omega),aI (n:=((l.getD k 0).toNat:Int)) (by omega) (by omega),aI (n:=10*(m:Int)+((l.getD k 0).toNat:Int)) (by omega) (by omega),aI (n:=((l.getD k 0).toNat:Int)-48) (by omega) (by omega)]
    congr 1
    omega
   ·rw[Js];simp only[bP,aH,aa,acZ]
theorem E1 (l:List UInt8):nT F0 (tx l)=some ((gh l).1,(gh l).2,()):=by
 rw[aol,bP];by_cases h1:l.length<1
 ·rw[aM (by omega),af];unfold gh;rw[ak (.inl h1)]
 ·rw[aQ (by omega),aa];by_cases h6:6<l.length
  ·rw[aM (by omega),af];unfold gh;rw[ak (.inr h6)]
  ·rw[aQ (by omega),aa];refine axI (X:=fun n m k=>Dk F0 (vS F0) n (vR (tx l) m k)) (by omega) (by omega) (fun n hn=>QE hn) (fun n k m hk hm=>?_) (fun n m=>?_) _ (by rw[bT];omega)
   ·have hb:=avr (l.getD k 0);rw[Ke];simp only[bP,XN,agt,aS hk,av hk,af,ae,ao (show k+1<=9223372036854775807 by omega)];by_cases h48:(l.getD k 0).toNat<48
    ·rw[aM (by omega),af,af]
    ·rw[IntWalk.u8_in _ (by omega)]
   ·rw[Ke];simp only[bP,aH,aa,adH]
theorem ao6 (l:List UInt8)(k:Nat):(tx l).extract 0 k=tx (l.take k):=by rw[aim ((tx l).extract 0 k),Lib.Pa.extract_upto_list,iK]
theorem extract_from (l:List UInt8)(k:Nat):(tx l).extract k (tx l).size=tx (l.drop k):=by rw[aim ((tx l).extract k (tx l).size),Lib.extract_to_end,iK]
theorem ao7 {a b:List UInt8}{c:UInt8}(h:c ∉ a):(a++c::b).takeWhile (· != c)=a/\(a++c::b).dropWhile (· != c)=c::b:=by
 induction a with
 |nil=>simp
 |cons x a ih =>
  have hx:(x != c)=true:=by simp;rintro rfl;simp at h
  have:=ih fun h'=>h (tI _ h')
  rw[F5,List.takeWhile_cons,List.dropWhile_cons,hx];exact⟨by simp[this.1],by simp[this.2]⟩
theorem aJE {a:List UInt8}{c:UInt8}(h:c ∉ a):a.takeWhile (· != c)=a/\a.dropWhile (· != c)=[]:=by
 induction a with
 |nil=>simp
 |cons x a ih =>
  have hx:(x != c)=true:=by simp;rintro rfl;simp at h
  have:=ih fun h'=>h (tI _ h')
  rw[List.takeWhile_cons,List.dropWhile_cons,hx];exact⟨by simp[this.1],by simp[this.2]⟩
theorem axJ {l:List UInt8}{k:Nat}(h:k<l.length):l=l.take k++l.getD k 0::l.drop (k+1):=by
 have:l.getD k 0=l[k]:=by simp[List.getD,h]
 rw[this,List.getElem_cons_drop,awy]
theorem asV {l:List UInt8}(c:UInt8)(hl:l.length<=4294967296) :
  iU F0 (tx l) (c.toNat:Int)=some (if c∈l then (tx (l.takeWhile (· != c)),tx ((l.dropWhile (· != c)).drop 1),true,()) else (tx [],tx [],false,())):=by
 rw[aqT];refine df (fun n i (_:Unit)=>Hg F0 (yk F0) n (yj (tx l) (c.toNat:Int) i)) l.length (fun k _=>c ∉ l.take k) _ (fun n k _ hk hI=>?_) (fun n _ hI=>?_) F0.n 0 () (aX _) (by simp) (by rw[bT];omega)
 ·rw[LF,bP,aS hk,af,av hk,ae,XN];by_cases hc:l.getD k 0=c
  ·left;have hs:=axJ hk;rw[hc]at hs;have ht:=ao7 (b:=l.drop (k+1)) hI;have h1:((((l.getD k 0).toNat:Int))==(c.toNat:Int))=true:=by rw[hc];simp
   have h2:Si 0 (k:Int) (l.length:Int)=true:=by simp[Si];omega
   have h3:Si ((k+1:Nat):Int) (l.length:Int) (l.length:Int)=true:=by simp only[Si,aJ,cD];omega
   rw[h1,af,h2,ae,ao (by omega),h3,ae,ajN];simp only[mm,show(0:Int).toNat=0 from rfl];have hm:c∈l:=by rw[hs];simp
   rw[ak hm,ao6,show((tx l).extract (k+1) l.length)=tx (l.drop (k+1)) by rw[<-extract_from,bP]];have e1:l.takeWhile (· != c)=l.take k:=by
    have:=ht.1
    rwa [<-hs]at this
   have e2:(l.dropWhile (· != c)).drop 1=l.drop (k+1):=by have:=ht.2;rw[<-hs]at this;rw[this];rfl
   rw[e1,e2]
  ·right;have h1:((((l.getD k 0).toNat:Int))==(c.toNat:Int))=false:=by refine cj.2 fun h=>hc (UInt8.toNat_inj.1 (by omega))
   refine⟨(),by rw[h1,aa,ao (by omega)],?_⟩;rw[Lr,bc hk 0];simp only[al5,lX,ml];rintro(h|h)
   ·exact hI h
   ·exact hc h.symm
 ·rw[nN]at hI;rw[LF,bP,aH,aa,afL,ah hI];rfl
theorem aeu {a b:List UInt8}{c:UInt8}(h:c ∉ a):Lib.indexByte (a++c::b) c=a.length:=by
 induction a with
 |nil=>simp[Lib.indexByte]
 |cons x a ih =>
  have hx:(x==c)=false:=by simp;rintro rfl;simp at h
  have:=ih fun h'=>h (tI _ h')
  rw[F5];unfold Lib.indexByte;rw[hx,this];simp
theorem aev {a:List UInt8}{c:UInt8}(h:c ∉ a):Lib.indexByte a c=-1:=by
 induction a with
 |nil=>rfl
 |cons x a ih =>
  have hx:(x==c)=false:=by simp;rintro rfl;simp at h
  have:=ih fun h'=>h (tI _ h')
  unfold Lib.indexByte;rw[hx,this];rfl
theorem aew {l:List UInt8}{c:UInt8}(h:c∈l):∃a b,l=a++c::b/\c ∉ a:=by
 induction l with
 |nil=>cases h
 |cons x l ih =>
  by_cases hx:x=c
  ·exact⟨[],l,by rw[hx];rfl,by simp⟩
  ·rcases gS.1 h with h'|h'
   ·exact absurd h'.symm hx
   ·obtain⟨a,b,h1,h2⟩:=ih h';exact⟨x::a,b,by rw[h1];rfl,fun h3=>by
     rcases gS.1 h3 with h4|h4
     ·exact hx h4.symm
     ·exact h2 h4⟩
theorem aIo (l:List UInt8)(c:UInt8):Lib.cut l [c]=(l.takeWhile (· != c),(l.dropWhile (· != c)).drop 1,decide (c∈l)):=by
 unfold Lib.cut;rw[Lib.index_one];by_cases h:c∈l
 ·obtain⟨a,b,rfl,h2⟩:=aew h;rw[aeu h2,ak (by omega),(ao7 h2).1,(ao7 h2).2];simp[List.take_append,List.drop_append]
 ·rw[aev h,ah (by omega),(aJE h).1,(aJE h).2];simp[h]
theorem wG {l:List UInt8}(c:UInt8)(hl:l.length<4294967281):strings_Cut F0 (tx l) (tx [c])=some (tx (l.takeWhile (· != c)),tx ((l.dropWhile (· != c)).drop 1),decide (c∈l),()):=by
 have h:Nat.blt (tx l).size 4294967281=true:=by rw[bP];simpa using hl
 unfold strings_Cut;rw[h,ae,iK,iK,aIo];rfl
abbrev eO:=Int×(Int×(Int×Int))
theorem aex (x lo hi:Int):bX F0 x lo hi=some (decide (lo<=x)&&decide (x<=hi),()):=by
 rw[auH];by_cases h:lo<=x
 ·rw[aM (show x>=lo from h),af,ji]
 ·rw[aQ (show ¬x>=lo from h),aa,YO]
theorem RF (x lo hi:Int):bd F0 x lo hi=some (decide (lo<=x)&&decide (x<=hi),()):=by
 rw[aoi];by_cases h:lo<=x
 ·rw[aM (show x>=lo from h),af,ji]
 ·rw[aQ (show ¬x>=lo from h),aa,YO]
def inB (x lo hi:Int):Bool:=decide (lo<=x)&&decide (x<=hi)
def gQ (x:eO):Bool:=inB x.1 0 3&&inB x.2.1 0 3&&inB x.2.2.1 0 1000&&inB x.2.2.2 0 99
theorem aAp (a b:Bool):br a (some (b,())) (some (false,()))=some (a&&b,()):=by cases a<;>rfl
theorem QF (x:eO):sd F0 x=some (gQ x,()):=by rw[auI];simp only[aex,ai,aAp];simp only[gQ,inB,Bool.and_assoc]
theorem Ch (x:eO):pR F0 x=some (gQ x,()):=by rw[au1];simp only[RF,ai,aAp];simp only[gQ,inB,Bool.and_assoc]
theorem nA {x:eO}(h:gQ x=true):(0<=x.1/\x.1<=3)/\(0<=x.2.1/\x.2.1<=3)/\(0<=x.2.2.1/\x.2.2.1<=1000)/\(0<=x.2.2.2/\x.2.2.2<=99):=by simp only[gQ,inB,aJ,cD]at h;exact⟨h.1.1.1,h.1.1.2,h.1.2,h.2⟩
def txL (x:eO):List UInt8:=Lib.itoa x.1++62::(Lib.itoa x.2.1++58::(Lib.itoa x.2.2.1++35::Lib.itoa x.2.2.2))
theorem ao8 {x:eO}(h:gQ x=true):(txL x).length<=90:=by obtain⟨h1,h2,h3,h4⟩:=nA h;have e1:=RE (n:=x.1) ⟨by omega,by omega⟩;have e2:=RE (n:=x.2.1) ⟨by omega,by omega⟩;have e3:=RE (n:=x.2.2.1) ⟨by omega,by omega⟩;have e4:=RE (n:=x.2.2.2) ⟨by omega,by omega⟩;simp only[txL,aT,bg];omega
def abE (x:eO):List UInt8:=if gQ x=true then txL x else []
theorem ao9 (x:eO):xn F0 x=some (tx (abE x),()):=by
 rw[am0,QF,ai];unfold abE;cases h:gQ x with
 |false=>rfl
 |true =>
  obtain⟨h1,h2,h3,h4⟩:=nA h;have d1:=Cf (n:=x.1) ⟨by omega,by omega⟩;have d2:=Cf (n:=x.2.1) ⟨by omega,by omega⟩;have d3:=Cf (n:=x.2.2.1) ⟨by omega,by omega⟩;have d4:=Cf (n:=x.2.2.2) ⟨by omega,by omega⟩;have e:=ao8 h;simp only[txL,aT,bg]at e;simp only[aL,aa,d1,d2,d3,d4,ai,show ByteArray.mk #[62]=tx [62] from rfl,show ByteArray.mk #[58]=tx [58] from rfl,show ByteArray.mk #[35]=tx [35] from rfl,gG,bP];rw[iT (by simp only[aT,bg,bB];omega),ae,iT (by simp only[aT,bg,bB];omega),ae,iT (by simp only[aT,bg,bB];omega),ae,iT (by simp only[aT,bg,bB];omega),ae,iT (by simp only[aT,bg,bB];omega),ae,iT (by simp only[aT,bg,bB];omega),ae];simp[txL]
theorem ai8 (x:eO):EG F0 x=some (tx (abE x),()):=by
 rw[aom,Ch,ai];unfold abE;cases h:gQ x with
 |false=>rfl
 |true =>
  obtain⟨h1,h2,h3,h4⟩:=nA h;have d1:=QE (n:=x.1) ⟨by omega,by omega⟩;have d2:=QE (n:=x.2.1) ⟨by omega,by omega⟩;have d3:=QE (n:=x.2.2.1) ⟨by omega,by omega⟩;have d4:=QE (n:=x.2.2.2) ⟨by omega,by omega⟩;have e:=ao8 h;simp only[txL,aT,bg]at e;simp only[aL,aa,d1,d2,d3,d4,ai,show ByteArray.mk #[62]=tx [62] from rfl,show ByteArray.mk #[58]=tx [58] from rfl,show ByteArray.mk #[35]=tx [35] from rfl,gG,bP];rw[iT (by simp only[aT,bg,bB];omega),ae,iT (by simp only[aT,bg,bB];omega),ae,iT (by simp only[aT,bg,bB];omega),ae,iT (by simp only[aT,bg,bB];omega),ae,iT (by simp only[aT,bg,bB];omega),ae,iT (by simp only[aT,bg,bB];omega),ae];simp[txL]
theorem aCW (u:Nat):∀c∈Lib.decDigits u,isD c=true:=by
 induction u using Nat.strongRecOn with
 |ind u ih =>
  intro c hc;rw[Lib.decDigits]at hc;have key:∀v:Nat,v<10->isD (UInt8.ofNat (48+v))=true:=fun v hv=>by
   have:(UInt8.ofNat (48+v)).toNat=48+v:=by rw[UInt8.toNat_ofNat'];omega
   simp only[isD,this,aJ,cD];omega
  by_cases Sf:u<10
  ·rw[dif_pos Sf,ml]at hc;rw[hc];exact key u Sf
  ·rw[dif_neg Sf]at hc;rcases lX.1 hc with hc|hc
   ·exact ih (u/10) (by omega) c hc
   ·rw[ml]at hc;rw[hc];exact key _ (aaC _ (by omega))
theorem aIp (u:Nat):val (Lib.decDigits u) 0=u:=by
 induction u using Nat.strongRecOn with
 |ind u ih =>
  have key:∀v:Nat,v<10->(UInt8.ofNat (48+v)).toNat=48+v:=fun v hv=>by rw[UInt8.toNat_ofNat'];omega
  rw[Lib.decDigits];by_cases Sf:u<10
  ·rw[dif_pos Sf];simp only[val,key u Sf];omega
  ·rw[dif_neg Sf,ao4,ih (u/10) (by omega)];simp only[val,key (u%10) (aaC _ (by omega))];omega
theorem aIq {k:Nat}:∀{u:Nat},u<10 ^ (k+1)->1<=(Lib.decDigits u).length/\(Lib.decDigits u).length<=k+1:=by
 induction k with
 |zero =>
  intro u hu;rw[Lib.decDigits,dif_pos (by omega)];simp
 |succ k ih =>
  intro u hu;rw[Lib.decDigits];by_cases Sf:u<10
  ·rw[dif_pos Sf];simp
  ·rw[dif_neg Sf];have:=ih (u:=u/10) (by rw[Nat.pow_succ]at hu;omega);rw[aT,ew];omega
theorem apa (u:Nat):Lib.itoa (u:Int)=Lib.decDigits u:=Lib.itoa_nonneg u
theorem xJ {n:Int}(h0:0<=n)(h1:n<=999999):gh (Lib.itoa n)=(n,true):=by obtain⟨u,rfl⟩:∃u:Nat,n=u:=⟨n.toNat,by omega⟩;rw[apa];have hl:=aIq (k:=5) (u:=u) (by omega);unfold gh;rw[ah (by omega),ak (iJ.2 (aCW u)),aIp,apa,ak rfl]
theorem ahi {n:Int}(h0:0<=n){c:UInt8}(hc:isD c=false):c ∉ Lib.itoa n:=by obtain⟨u,rfl⟩:∃u:Nat,n=u:=⟨n.toNat,by omega⟩;rw[apa];intro h;rw[aCW u c h]at hc;cases hc
def AG (l:List UInt8)(c:UInt8):List UInt8×List UInt8:=if c∈l then (l.takeWhile (· != c),(l.dropWhile (· != c)).drop 1) else ([],[])
def fq (l:List UInt8)(c:UInt8):List UInt8×List UInt8:=(l.takeWhile (· != c),(l.dropWhile (· != c)).drop 1)
def ahj (l:List UInt8):eO:=((gh (AG l 62).1).1,(gh (AG (AG l 62).2 58).1).1,(gh (AG (AG (AG l 62).2 58).2 35).1).1,(gh (AG (AG (AG l 62).2 58).2 35).2).1)
def aAq (l:List UInt8):eO:=((gh (fq l 62).1).1,(gh (fq (fq l 62).2 58).1).1,(gh (fq (fq (fq l 62).2 58).2 35).1).1,(gh (fq (fq (fq l 62).2 58).2 35).2).1)
theorem avs {a b:List UInt8}{c:UInt8}(h:c ∉ a):AG (a++c::b) c=(a,b):=by unfold AG;rw[ak (by simp),(ao7 h).1,(ao7 h).2];rfl
theorem avt {a b:List UInt8}{c:UInt8}(h:c ∉ a):fq (a++c::b) c=(a,b):=by unfold fq;rw[(ao7 h).1,(ao7 h).2];rfl
theorem aGt {x:eO}(h:gQ x=true):ahj (txL x)=x:=by obtain⟨h1,h2,h3,h4⟩:=nA h;unfold ahj txL;rw[avs (ahi h1.1 (by decide)),avs (ahi h2.1 (by decide)),avs (ahi h3.1 (by decide))];simp only[xJ h1.1 (by omega),xJ h2.1 (by omega),xJ h3.1 (by omega),xJ h4.1 (by omega)]
theorem axK {x:eO}(h:gQ x=true):aAq (txL x)=x:=by obtain⟨h1,h2,h3,h4⟩:=nA h;unfold aAq txL;rw[avt (ahi h1.1 (by decide)),avt (ahi h2.1 (by decide)),avt (ahi h3.1 (by decide))];simp only[xJ h1.1 (by omega),xJ h2.1 (by omega),xJ h3.1 (by omega),xJ h4.1 (by omega)]
def YH (l:List UInt8):eO×Bool:=if gQ (ahj l)=true/\txL (ahj l)=l then (ahj l,true) else ((0,0,0,0),false)
theorem axL (l:List UInt8)(c:UInt8):((l.dropWhile (· != c)).drop 1).length<=l.length:=by rw[bz];have:=(List.dropWhile_sublist (l:=l) (· != c)).length_le;omega
theorem avu (l:List UInt8)(c:UInt8):(AG l c).2.length<=l.length:=by
 unfold AG;split
 ·exact axL l c
 ·simp
theorem alN (l:List UInt8)(c:UInt8):(fq l c).2.length<=l.length:=axL l c
theorem apb {l:List UInt8}(c:UInt8)(hl:l.length<=4294967296):∃b,iU F0 (tx l) (c.toNat:Int)=some (tx (AG l c).1,tx (AG l c).2,b,()):=by
 rw[asV c hl];unfold AG;split
 ·exact⟨_,rfl⟩
 ·exact⟨_,rfl⟩
theorem aGu {l:List UInt8}(hl:l.length<=4294967280):Xz F0 (tx l)=some ((YH l).1,(YH l).2,()):=by
 obtain⟨b1,e1⟩:=apb (l:=l) 62 (by omega);obtain⟨b2,e2⟩:=apb (l:=(AG l 62).2) 58 (by have:=avu l 62;omega);obtain⟨b3,e3⟩:=apb (l:=(AG (AG l 62).2 58).2) 35 (by have:=avu l 62;have:=avu (AG l 62).2 58;omega);rw[auJ];rw[show iU F0 (tx l) 62=_ from e1,ai,show iU F0 _ 58=_ from e2,ai,show iU F0 _ 35=_ from e3,ai,Cg,ai,Cg,ai,Cg,ai,Cg,ai,show al=tx [] from rfl,WR];have hp:((gh (AG l 62).1).1,(gh (AG (AG l 62).2 58).1).1,(gh (AG (AG (AG l 62).2 58).2 35).1).1,(gh (AG (AG (AG l 62).2 58).2 35).2).1)=ahj l:=rfl;simp only[hp,ao9,ai,WR];unfold YH abE;by_cases dO:gQ (ahj l)=true
 ·rw[ak dO];by_cases ht:txL (ahj l)=l
  ·have hne:¬l=[]:=by rw[<-ht];simp[txL]
   rw[ak ⟨dO,ht⟩,aQ hne,aa,aM ht];rfl
  ·rw[ah (fun h=>ht h.2),aQ ht];cases decide (l=[])<;>rfl
 ·rw[ah dO,ah (fun h=>dO h.1)];by_cases hne:l=[]
  ·rw[aM hne];rfl
  ·rw[aQ hne,aa,aQ (fun h=>hne h.symm)];rfl
theorem aD6 {l:List UInt8}(hl:l.length<4294967281):XG F0 (tx l)=some ((YH l).1,(YH l).2,()):=by
 have e1:=wG (l:=l) 62 hl;have h2:=alN l 62;have h3:=alN (fq l 62).2 58;have e2:=wG (l:=(fq l 62).2) 58 (by omega);have e3:=wG (l:=(fq (fq l 62).2 58).2) 35 (by omega);rw[au2];rw[show ByteArray.mk #[62]=tx [62] from rfl,e1,ai,show ByteArray.mk #[58]=tx [58] from rfl];rw[show strings_Cut F0 (tx ((l.dropWhile (· != 62)).drop 1)) (tx [58])=_ from e2,ai,show ByteArray.mk #[35]=tx [35] from rfl];rw[show strings_Cut F0 (tx (((fq l 62).2.dropWhile (· != 58)).drop 1)) (tx [35])=_ from e3,ai];have n0:=fun (a b c d:ByteArray)=>(show aN [a,b,c,d] 0 ByteArray.empty=a from rfl)
 have n1:=fun (a b c d:ByteArray)=>(show aN [a,b,c,d] 1 ByteArray.empty=b from rfl)
 have n2:=fun (a b c d:ByteArray)=>(show aN [a,b,c,d] 2 ByteArray.empty=c from rfl)
 have n3:=fun (a b c d:ByteArray)=>(show aN [a,b,c,d] 3 ByteArray.empty=d from rfl)
 rw[show cc 0 4=true from rfl,ae,n0,E1,ai,show cc 1 4=true from rfl,ae,n1,E1,ai,show cc 2 4=true from rfl,ae,n2,E1,ai,show cc 3 4=true from rfl,ae,n3,E1,ai];have hp:((gh (l.takeWhile (· != 62))).1,(gh ((fq l 62).2.takeWhile (· != 58))).1,(gh ((fq (fq l 62).2 58).2.takeWhile (· != 35))).1,(gh (((fq (fq l 62).2 58).2.dropWhile (· != 35)).drop 1)).1)=aAq l:=rfl;simp only[hp,Ch,ai8,ai,WR];unfold YH abE;by_cases dO:gQ (aAq l)=true
 ·rw[ak dO,dO];by_cases ht:txL (aAq l)=l
  ·have hpe:ahj l=aAq l:=by have:=aGt dO;rw[ht]at this;exact this
   rw[hpe,ak ⟨dO,ht⟩,aM ht];rfl
  ·have:¬(gQ (ahj l)=true/\txL (ahj l)=l):=by rintro⟨q1,q2⟩;have:=axK q1;rw[q2]at this;rw[this]at ht;exact ht q2
   rw[ah this,aQ ht];rfl
 ·have:¬(gQ (ahj l)=true/\txL (ahj l)=l):=by rintro⟨q1,q2⟩;have:=axK q1;rw[q2]at this;rw[this]at dO;exact dO q1
  rw[ah this];have hf:gQ (aAq l)=false:=by simpa using dO
  rw[hf];rfl
theorem aGv (l:List UInt8):gQ (YH l).1=true:=by
 unfold YH;split
 ·rename_i h1;exact h1.1
 ·rfl
def parts (c:UInt8):List UInt8->List (List UInt8)
 |[]=>[[]]
 |x::l=>if x=c then []::parts c l else match parts c l with
  |p::ps=>(x::p)::ps
  |[]=>[[x]]
theorem E2 (c:UInt8)(l:List UInt8):parts c l≠[]:=by
 cases l with
 |nil=>simp[parts]
 |cons x l =>
  unfold parts;split
  ·simp
  ·split<;>simp
theorem apc {c:UInt8}{a:List UInt8}(h:c ∉ a):parts c a=[a]:=by
 induction a with
 |nil=>rfl
 |cons x a ih =>
  have hx:¬x=c:=by rintro rfl;simp at h
  unfold parts;rw[ah hx,ih fun h'=>h (tI _ h')]
theorem axM {c:UInt8}{a b:List UInt8}(h:c ∉ a):parts c (a++c::b)=a::parts c b:=by
 induction a with
 |nil =>
  rw[F6]
  conv=>lhs;unfold parts
  rw[ak rfl]
 |cons x a ih =>
  have hx:¬x=c:=by rintro rfl;simp at h
  rw[F5]
  conv=>lhs;unfold parts
  rw[ah hx,ih fun h'=>h (tI _ h')]
theorem IX (c:UInt8)(l:List UInt8):(parts c l).length<=l.length+1:=by
 induction l with
 |nil=>simp[parts]
 |cons x l ih =>
  unfold parts;split
  ·simp only[bg];omega
  ·split
   ·rename_i p ps h;rw[h]at ih;simp only[bg]at ih ⊢;omega
   ·simp
theorem Ci {c:UInt8}:∀{l p:List UInt8},p∈parts c l->p.length<=l.length
 |[],p,h=>by simp only[parts,ml]at h;rw[h];simp
 |x::l,p,h=>by
  unfold parts at h;split at h
  ·rcases gS.1 h with rfl|h
   ·simp
   ·have:=Ci h;simp only[bg];omega
  ·split at h
   ·rename_i q qs hq;rcases gS.1 h with rfl|h
    ·have:=Ci (c:=c) (l:=l) (p:=q) (by rw[hq];simp);simp only[bg];omega
    ·have:=Ci (c:=c) (l:=l) (p:=p) (by rw[hq];simp[h]);simp only[bg];omega
   ·rw[ml]at h;rw[h];simp
theorem WS (l:List UInt8)(a b:Nat):(tx l).extract a b=tx ((l.drop a).take (b-a)):=by rw[aim ((tx l).extract a b),Lib.extract_data,iK]
theorem asW {l:List UInt8}(c:UInt8)(hl:l.length<=4294967296):wK F0 (tx l) (c.toNat:Int)=some ((parts c l).map tx,()):=by
 have hpl:=IX c l;rw[aqS];refine df (fun n i (z:Nat×List ByteArray)=>sa F0 (Jn F0) n (mv (tx l) (c.toNat:Int) (z.1:Int) i z.2)) (l.length+1)
  (fun k z=>if k<=l.length then ∃done:List (List UInt8),z.2=done.map tx/\parts c l=done++parts c (l.drop z.1)/\z.1<=k/\c ∉ (l.drop z.1).take (k-z.1) else z.2=(parts c l).map tx) _ (fun n k z hk hI=>.inr ?_) (fun n z hI=>?_) F0.n 0 (0,[]) (aX _) ?_ (by rw[bT];omega)
 ·obtain⟨eT,xs⟩:=z;rw[ak (by omega)]at hI;obtain⟨done,rfl,hd,hf,hno⟩:=hI;simp only at hd hf hno;have hdl:done.length+1<=l.length+1:=by have h1:=AT List.length hd;have h2:0<(parts c (l.drop eT)).length:=List.length_pos_iff.2 (E2 c _);rw[aT]at h1;omega
  have hle:decide ((k:Int)<=(l.length:Int))=true:=aM (by omega);rw[LD,bP,hle,af];have hos:Si (eT:Int) (k:Int) (l.length:Int)=true:=by simp only[Si,aJ,cD];omega
  have hoa:∀b:ByteArray,fe F0 (done.map tx).length [b].length 16=true:=fun b=>az (by omega) (by omega) (by rw[ug];simp only[bg,bB];omega)
  simp only[mm,WS,hos,hoa,ae,ao (show k+1<=9223372036854775807 by omega)];by_cases aAr:k=l.length
  ·subst aAr;rw[ack,af];refine⟨(l.length+1,(parts c l).map tx),?_,by rw[ah (by omega)]⟩;have ht:(l.drop eT).take (l.length-eT)=l.drop eT:=awx (by rw[bz];omega);rw[ht]at hno ⊢;rw[hd,apc hno];simp
  ·have hlt:k<l.length:=by omega
   have hb:(((k:Nat):Int)==(l.length:Int))=false:=cj.2 (by omega);rw[hb,aa,av hlt,ae,XN];have hs:l.drop eT=(l.drop eT).take (k-eT)++l.getD k 0::l.drop (k+1):=by
    have:=axJ (l:=l.drop eT) (k:=k-eT) (by rw[bz];omega);have e1:(l.drop eT).getD (k-eT) 0=l.getD k 0:=by simp only[Un,ahT];rw[show eT+(k-eT)=k by omega]
    rw[e1,List.drop_drop,show eT+(k-eT+1)=k+1 by omega]at this;exact this
   by_cases hc:l.getD k 0=c
   ·have h1:((((l.getD k 0).toNat:Int))==(c.toNat:Int))=true:=by rw[hc];simp
    rw[h1,af];refine⟨(k+1,done.map tx++[tx ((l.drop eT).take (k-eT))]),rfl,?_⟩;rw[ak (by omega)];refine⟨done++[(l.drop eT).take (k-eT)],by simp,?_,cp _,by simp⟩;rw[hc]at hs;rw[hd,hs,axM hno,<-hs];simp
   ·have h1:((((l.getD k 0).toNat:Int))==(c.toNat:Int))=false:=cj.2 fun h=>hc (UInt8.toNat_inj.1 (by omega))
    rw[h1,aa];refine⟨(eT,done.map tx),rfl,?_⟩;rw[ak (by omega)];refine⟨done,rfl,hd,by show eT<=k+1;omega,?_⟩;have e1:(l.drop eT).take (k+1-eT)=(l.drop eT).take (k-eT)++[l.getD k 0]:=by
     rw[show k+1-eT=(k-eT)+1 by omega,Lr]
     congr 1
     have:(l.drop eT)[k-eT]?=some (l.getD k 0):=by rw[ahT,show eT+(k-eT)=k by omega];exact bc hlt 0
     rw[this];rfl
    show c ∉ (l.drop eT).take (k+1-eT);rw[e1,lX,ml];rintro(h|h)
    ·exact hno h
    ·exact hc h.symm
 ·rw[ah (by omega)]at hI;rw[LD,bP,aQ (by omega),aa,afK,hI]
 ·rw[ak (by omega)];exact⟨[],rfl,rfl,cp _,by simp⟩
theorem avv (c:UInt8):∀(n:Nat) (l:List UInt8),l.length<=n->∀k,k=Lib.countB (tx l) (tx [c])->Lib.splitB (tx [c]) 0 k (tx l)=(parts c l).map tx:=by
 intro n
 induction n with
 |zero =>
  intro l hl k hk;obtain rfl:l=[]:=YK (by omega);have hi:Lib.indexB (tx []) (tx [c])=-1:=by show Lib.index (tx []).data.toList (tx [c]).data.toList=-1;rw[iK,iK,Lib.index_one];rfl
  rw[Lib.splitB_miss _ _ _ _ hi];rfl
 |succ n ih =>
  intro l hl k hk;by_cases h:c∈l
  ·obtain⟨a,b,rfl,h2⟩:=aew h;have hi:Lib.indexB (tx (a++c::b)) (tx [c])=(a.length:Int):=by show Lib.index (tx (a++c::b)).data.toList (tx [c]).data.toList=_;rw[iK,iK,Lib.index_one,aeu h2]
   have hsz:(tx [c]).size=1:=bP [c];have aFs:(tx (a++c::b)).extract (a.length+(tx [c]).size) (tx (a++c::b)).size=tx b:=by
    rw[extract_from,hsz]
    congr 1
    simp[List.drop_append]
   have aKg:=Lib.countB_hit (tx (a++c::b)) (tx [c]) a.length (by rw[hsz];omega) hi;rw[aFs]at aKg;obtain⟨k',rfl⟩:∃k',k=k'+1:=⟨Lib.countB (tx b) (tx [c]),by omega⟩;rw[Lib.splitB_hit _ _ _ _ _ hi,aFs,ih b (by simp only[aT,bg]at hl;omega) k' (by omega),axM h2,acm,ao6];simp[List.take_append]
  ·have hi:Lib.indexB (tx l) (tx [c])=-1:=by show Lib.index (tx l).data.toList (tx [c]).data.toList=-1;rw[iK,iK,Lib.index_one,aev h]
   rw[Lib.splitB_miss _ _ _ _ hi,apc h];rfl
theorem apd {l:List UInt8}(c:UInt8)(hl:l.length<4294967281):wS F0 (tx l) (c.toNat:Int)=some ((parts c l).map tx,()):=by
 have hso:strOf [(c.toNat:Int)]=tx [c]:=by
  simp only[strOf,tx,uh,List.map_nil]
  congr 2
  simp
 have h:Nat.blt (tx l).size 4294967281=true:=by rw[bP];simpa using hl
 have h2:Nat.ble 1 (tx [c]).size=true:=by rw[bP];rfl
 rw[arf,hso];unfold strings_Split;rw[h,h2,Bool.and_self,ae,ai,avv c l.length l (cp _) _ rfl]
def AH {σ β:Type}(f:σ->List UInt8->Option (σ×β)):σ->List (List UInt8)->Option (List β)
 |_,[]=>some []
 |s,p::ps=>match f s p with
  |none=>none
  |some (s',b)=>match AH f s' ps with
   |none=>none
   |some r=>some (b::r)
theorem QG {σ β γ:Type}(f:σ->List UInt8->Option (σ×β))(I:σ->Prop)(P:List (List UInt8))(X:Nat->σ->Int->List β->Option γ)(R0:Option γ)(R1:List β->Option γ)
  (hs:∀n k s xs p,k<P.length->P[k]?=some p->I s->xs.length=k->X (n+1) s (k:Int) xs=match f s p with|none=>R0|some (s',b)=>X n s' ((k+1:Nat):Int) (xs++[b]))
  (he:∀n s xs,xs.length=P.length->X (n+1) s (P.length:Int) xs=R1 xs) (hI:∀s p s' b,I s->f s p=some (s',b)->I s') :
  ∀(n k:Nat) (s:σ) (xs:List β),k<=P.length->P.length-k<n->I s->xs.length=k->X n s (k:Int) xs=match AH f s (P.drop k) with|none=>R0|some l=>R1 (xs++l)
 |0,_,_,_,_,h,_,_=>absurd h (Sb _)
 |n+1,k,s,xs,hk,hn,hIs,hx=>by
  rcases acn k P.length with hlt|hge
  ·have hp:P[k]?=some P[k]:=oY hlt;rw[hs n k s xs P[k] hlt hp hIs hx,YM hlt];simp only[AH];cases hf:f s P[k]with
   |none=>rfl
   |some q =>
    obtain⟨s',b⟩:=q;simp only;rw[QG f I P X R0 R1 hs he hI n (k+1) s' (xs++[b]) hlt (by omega) (hI _ _ _ _ hIs hf) (by simp[hx])];cases AH f s' (P.drop (k+1)) with
    |none=>rfl
    |some r=>simp
  ·obtain rfl:k=P.length:=by omega
   rw[he n s xs hx,YN];simp[AH]
theorem QH {σ β:Type}{f:σ->List UInt8->Option (σ×β)}:∀{P:List (List UInt8)} {s:σ} {r:List β},AH f s P=some r->r.length=P.length
 |[],_,r,h=>by cases h;rfl
 |p::ps,s,r,h=>by
  simp only[AH]at h;split at h
  ·cases h
  ·split at h
   ·cases h
   ·rename_i hr;cases h;simp[QH hr]
theorem ape {σ β:Type}{f:σ->List UInt8->Option (σ×β)}{Q:β->Prop}(hQ:∀s p s' b,f s p=some (s',b)->Q b):∀{P:List (List UInt8)} {s:σ} {r:List β},AH f s P=some r->∀b∈r,Q b
 |[],_,r,h=>by cases h;simp
 |p::ps,s,r,h=>by
  simp only[AH]at h;split at h
  ·cases h
  ·rename_i hf;split at h
   ·cases h
   ·rename_i hr;cases h;intro b hb;rcases gS.1 hb with rfl|hb
    ·exact hQ _ _ _ _ hf
    ·exact ape hQ hr b hb
def txF (_:Unit)(p:List UInt8):Option (Unit×eO):=if (YH p).2=true then some ((),(YH p).1) else none
def l5 (l:List UInt8):List eO×Bool:=if l=[] then ([],true) else match AH txF () (parts 44 l) with|none=>([],false)|some r=>(r,true)
theorem asX (l:List UInt8):(l5 l).1.length<=l.length+1:=by
 unfold l5;split
 ·simp
 ·split
  ·simp
  ·rename_i r hr;have:=QH hr;have:=IX 44 l;simp only;omega
theorem aGx (l:List UInt8):∀x∈(l5 l).1,gQ x=true:=by
 unfold l5;split
 ·simp
 ·split
  ·simp
  ·rename_i r hr;refine ape (Q:=fun x=>gQ x=true) (fun s p s' b h=>?_) hr;unfold txF at h;split at h
   ·cases h;exact aGv p
   ·cases h
theorem ahk (l:List UInt8):((tx l).toList==al.toList)=decide (l=[]):=WR l []
theorem avw (P:List (List UInt8))(k:Nat){p:List UInt8}(h:P[k]?=some p):aN (P.map tx) (k:Int) ByteArray.empty=tx p:=by show(P.map tx).getD k ByteArray.empty=_;simp[Un,h]
theorem asY {l:List UInt8}(hl:l.length<=1073741824):Bv F0 (tx l)=some ((l5 l).1,(l5 l).2,()):=by
 have hpl:=IX 44 l;rw[aqU,ahk];unfold l5;by_cases h0:l=[]
 ·rw[aM h0,ak h0];rfl
 ·rw[aQ h0,aa,ah h0,show wK F0 (tx l) 44=_ from asW 44 (by omega),ai];have:=QG txF (fun _=>True) (parts 44 l) (fun n _ i xs=>Hj F0 (ym F0) n (yl i xs ((parts 44 l).map tx))) (some ([],false,())) (fun xs=>some (xs,true,())) (fun n k s xs p hk hp _ hx=>?_) (fun n s xs hx=>?_) (fun _ _ _ _ _ _=>trivial) F0.n 0 () [] (aX _) (by rw[bT];omega) trivial rfl
  ·simp only[ahW,F6]at this;rw[show((0:Nat):Int)=0 from rfl]at this;rw[this];cases AH txF () (parts 44 l)<;>rfl
  ·have Sg:=Ci (atC hp);rw[LH,ug,aS hk,af,av hk,ae,avw _ _ hp,aGu (by omega),ai];unfold txF;cases dO:(YH p).2 with
   |false=>simp only[eX,af,ajO];rfl
   |true =>
    simp only[aL,aa];rw[az (b:=[(YH p).1].length) (k:=32) (by omega) (by omega) (by simp only[bg,bB];omega),ae,ao (by omega)];rfl
  ·rw[LH,ug,aH,aa,afN]
theorem aAs {l:List UInt8}(hl:l.length<=1073741824):Kf F0 (tx l)=some ((l5 l).1,(l5 l).2,()):=by
 have hpl:=IX 44 l;rw[arh,ahk];unfold l5;by_cases h0:l=[]
 ·rw[aM h0,ak h0];rfl
 ·rw[aQ h0,aa,ah h0,show wS F0 (tx l) 44=_ from apd 44 (by omega),ai];have:=QG txF (fun _=>True) (parts 44 l) (fun n _ i xs=>HV F0 (zB F0) n (zA ((parts 44 l).map tx) (((parts 44 l).map tx).length:Int) i xs)) (some ([],false,())) (fun xs=>some (xs,true,())) (fun n k s xs p hk hp _ hx=>?_) (fun n s xs hx=>?_) (fun _ _ _ _ _ _=>trivial) F0.n 0 () [] (aX _) (by rw[bT];omega) trivial rfl
  ·simp only[ahW,F6]at this;rw[show((0:Nat):Int)=0 from rfl]at this;rw[this];cases AH txF () (parts 44 l)<;>rfl
  ·have Sg:=Ci (atC hp);rw[ME,ug,aS hk,af,av hk,ae,avw _ _ hp,aD6 (by omega),ai];unfold txF;cases dO:(YH p).2 with
   |false=>simp only[eX,af,akM];rfl
   |true =>
    simp only[aL,aa];rw[az (b:=[(YH p).1].length) (k:=32) (by omega) (by omega) (by simp only[bg,bB];omega),ae,ao (by omega)];rfl
  ·rw[ME,ug,aH,aa,agu]
abbrev aao:=Int×List eO
def E3 (Jt:Int)(p:List UInt8):Option (Int×aao) :=
 if 124∈p/\(gh (fq p 124).1).2=true/\(l5 (fq p 124).2).2=true/\Jt<(gh (fq p 124).1).1/\(gh (fq p 124).1).1<=60/\(l5 (fq p 124).2).1.length<=2
 then some ((gh (fq p 124).1).1,(gh (fq p 124).1).1,(l5 (fq p 124).2).1) else none
def cC (l:List UInt8):List aao×Bool:=if l=[] then ([],true) else match parts 47 l with
 |[]=>([],false)
 |p0::ps=>if ¬p0=[]\/30<ps.length then ([],false) else match AH E3 0 ps with
  |none=>([],false)
  |some r=>(r,true)
def avx (s:aao):Prop:=0<=s.1/\s.1<=60/\s.2.length<=2/\∀x∈s.2,gQ x=true
theorem aey {Jt:Int}{p:List UInt8}{s':Int}{b:aao}(h:E3 Jt p=some (s',b)):avx b/\s'=b.1:=by
 unfold E3 at h;split at h
 ·rename_i hc;cases h;exact⟨⟨(ao5 _).1,hc.2.2.2.2.1,hc.2.2.2.2.2,aGx _⟩,rfl⟩
 ·cases h
theorem RG (l:List UInt8):∀s∈(cC l).1,avx s:=by
 unfold cC;split
 ·simp
 ·split
  ·simp
  ·split
   ·simp
   ·split
    ·simp
    ·rename_i hr;exact ape (Q:=avx) (fun s p s' b h=>(aey h).1) hr
theorem rP (l:List UInt8):(cC l).1.length<=30:=by
 unfold cC;split
 ·simp
 ·split
  ·simp
  ·split
   ·simp
   ·split
    ·simp
    ·rename_i hr;have:=QH hr;simp only;omega
theorem br6 {α:Type}(a b c d e f:Bool)(x y:α):br (!a) x (br (!b) x (br (!c) x (br d x (br e x (br f x y)))))=if a=true/\b=true/\c=true/\d=false/\e=false/\f=false then y else x:=by cases a<;>cases b<;>cases c<;>cases d<;>cases e<;>cases f<;>rfl
theorem br5 {α:Type}(a b c d f:Bool)(x y:α):br (!a) x (br (!b) x (br (!c) x (br (!d) x (br f x y))))=if a=true/\b=true/\c=true/\d=true/\f=false then y else x:=by cases a<;>cases b<;>cases c<;>cases d<;>cases f<;>rfl
theorem XO {l:List UInt8}(hl:l.length<=1073741824):qT F0 (tx l)=some ((cC l).1,(cC l).2,()):=by
 have hpl:=IX 47 l;have Sg:=fun p (h:p∈parts 47 l)=>Ci h
 rw[aqW,ahk];unfold cC;by_cases h0:l=[]
 ·rw[aM h0,ak h0];rfl
 ·rw[aQ h0,aa,ah h0,show wK F0 (tx l) 47=_ from asW 47 (by omega),ai];cases hP:parts 47 l with
  |nil=>exact absurd hP (E2 47 l)
  |cons p0 ps =>
   rw[hP]at hpl Sg;simp only[bg]at hpl;have ha0:aN ((p0::ps).map tx) 0 ByteArray.empty=tx p0:=rfl;have ho:cc 0 (((p0::ps).map tx).length:Int)=true:=av (k:=0) (by simp);simp only[ho,ae,ha0,ahk];by_cases hp0:p0=[]
   ·by_cases h30:30<ps.length
    ·rw[aM hp0,aL,aa,aM (by rw[ug,bg];omega),af,ak (.inr h30)]
    ·rw[aM hp0,aL,aa,aQ (by rw[ug,bg];omega),aa,ah (by simp[hp0];omega)];have:=QG E3 (fun s=>0<=s/\s<=60) ps (fun n s i xs=>Hm F0 (yo F0) n (yn s (i+1) [] xs ((p0::ps).map tx))) (some ([],false,())) (fun xs=>some (xs,true,())) (fun n k s xs p hk hp hs hx=>?_) (fun n s xs hx=>?_) (fun s p s' b hs hf=>?_) F0.n 0 0 [] (aX _) (by rw[bT];omega) ⟨by omega,by omega⟩ rfl
     ·simp only[ahW,F6]at this;rw[show((0:Nat):Int)+1=1 from rfl]at this;rw[this];cases AH E3 0 ps<;>rfl
     ·have aOI:=Sg p (tI _ (atC hp));have hk1:k+1<((p0::ps).map tx).length:=by simp;omega
      have hat:aN ((p0::ps).map tx) (((k+1:Nat)):Int) ByteArray.empty=tx p:=avw _ _ (by simpa using hp);rw[show((k:Int)+1)=((k+1:Nat):Int) by omega,LI,aS hk1,af,av hk1,ae,hat,show iU F0 (tx p) 124=_ from asV 124 (by omega),ai];have amO:=alN p 124;have hmx:=ao5 (fq p 124).1;have htl:=asX (fq p 124).2;by_cases hm:(124:UInt8)∈p
      ·rw[ak hm];simp only[Cg,ai];rw[show Bv F0 (tx ((p.dropWhile (· != 124)).drop 1))=some ((l5 (fq p 124).2).1,(l5 (fq p 124).2).2,()) from asY (by show(fq p 124).2.length<=_;omega),ai];simp only[Sr];rw[br6];unfold E3;have hw:(gh (p.takeWhile (· != 124)))=gh (fq p 124).1:=rfl;rw[hw];by_cases OO:124∈p/\(gh (fq p 124).1).2=true/\(l5 (fq p 124).2).2=true/\s<(gh (fq p 124).1).1/\(gh (fq p 124).1).1<=60/\(l5 (fq p 124).2).1.length<=2
       ·have q1:decide ((gh (fq p 124).1).1<=s)=false:=aQ (by omega);have q2:decide ((gh (fq p 124).1).1>60)=false:=aQ (by omega);have q3:decide (((l5 (fq p 124).2).1.length:Int)>2)=false:=aQ (by omega);rw[ak OO,ak ⟨rfl,OO.2.1,OO.2.2.1,q1,q2,q3⟩];simp only;rw[az (b:=[((gh (fq p 124).1).1,(l5 (fq p 124).2).1)].length) (k:=32) (by omega) (by omega) (by simp only[bg,bB];omega),ae,ao (by omega)];rfl
       ·rw[ah OO,ah (fun h=>OO ?_)];have q1:decide ((gh (fq p 124).1).1<=s)=false:=h.2.2.2.1;have q2:decide ((gh (fq p 124).1).1>60)=false:=h.2.2.2.2.1;have q3:decide (((l5 (fq p 124).2).1.length:Int)>2)=false:=h.2.2.2.2.2;have r1:=ar5 q1;have r2:=ar5 q2;have r3:=ar5 q3;exact⟨hm,h.2.1,h.2.2.1,by omega,by omega,by omega⟩
      ·rw[ah hm];unfold E3;rw[ah (fun h=>hm h.1),Cg,ai,show Bv F0 (tx [])=_ from asY (by simp),ai];simp only[eX,af,Sr]
     ·rw[show((ps.length:Int)+1)=(((p0::ps).map tx).length:Int) by simp,LI,aH,aa,afO]
     ·obtain⟨h1,h2⟩:=aey hf;rw[h2];exact⟨h1.1,h1.2.1⟩
   ·rw[aQ hp0,eX,af,ak (.inl hp0)]
theorem RH {l:List UInt8}(hl:l.length<=1073741824):rq F0 (tx l)=some ((cC l).1,(cC l).2,()):=by
 have hpl:=IX 47 l;have Sg:=fun p (h:p∈parts 47 l)=>Ci h
 rw[arj,ahk];unfold cC;by_cases h0:l=[]
 ·rw[aM h0,ak h0];rfl
 ·rw[aQ h0,aa,ah h0,show wS F0 (tx l) 47=_ from apd 47 (by omega),ai];cases hP:parts 47 l with
  |nil=>exact absurd hP (E2 47 l)
  |cons p0 ps =>
   rw[hP]at hpl Sg;simp only[bg]at hpl;have ha0:aN ((p0::ps).map tx) 0 ByteArray.empty=tx p0:=rfl;have ho:cc 0 (((p0::ps).map tx).length:Int)=true:=av (k:=0) (by simp);have hlen:((p0::ps).map tx).length=ps.length+1:=by simp
   have hos:Si 1 (((p0::ps).map tx).length:Int) (((p0::ps).map tx).length:Int)=true:=by rw[hlen];simp only[Si,aJ,cD];omega
   have hdr:((((p0::ps).map tx).take (((p0::ps).map tx).length:Int).toNat).drop (1:Int).toNat)=ps.map tx:=by rw[mm,nN];rfl
   simp only[ho,ae,ha0,ahk,hos,hdr];rw[hlen,aI (by omega) (by omega)];by_cases hp0:p0=[]
   ·by_cases h30:30<ps.length
    ·rw[aM hp0,aL,aa,aM (by omega),af,ak (.inr h30)]
    ·rw[aM hp0,aL,aa,aQ (by omega),aa,ah (by simp[hp0];omega)];have:=QG E3 (fun s=>0<=s/\s<=60) ps (fun n s i xs=>HY F0 (zD F0) n (zC s (ps.map tx) ((ps.map tx).length:Int) i xs)) (some ([],false,())) (fun xs=>some (xs,true,())) (fun n k s xs p hk hp hs hx=>?_) (fun n s xs hx=>?_) (fun s p s' b hs hf=>?_) F0.n 0 0 [] (aX _) (by rw[bT];omega) ⟨by omega,by omega⟩ rfl
     ·simp only[ahW,F6]at this;rw[show((0:Nat):Int)=0 from rfl]at this;rw[this];cases AH E3 0 ps<;>rfl
     ·have aOI:=Sg p (tI _ (atC hp));have amO:=alN p 124;have hmx:=ao5 (fq p 124).1;have htl:=asX (fq p 124).2;rw[MF,ug,aS hk,af,av hk,ae,avw _ _ hp,show ByteArray.mk #[124]=tx [124] from rfl,wG 124 (by omega),ai];simp only[E1,ai];rw[show Kf F0 (tx ((p.dropWhile (· != 124)).drop 1))=some ((l5 (fq p 124).2).1,(l5 (fq p 124).2).2,()) from aAs (by show(fq p 124).2.length<=_;omega),ai];simp only[akN,RF,ai];rw[br5];unfold E3;have hw:(gh (p.takeWhile (· != 124)))=gh (fq p 124).1:=rfl;rw[hw,aI (n:=s+1) (by omega) (by omega)];by_cases OO:124∈p/\(gh (fq p 124).1).2=true/\(l5 (fq p 124).2).2=true/\s<(gh (fq p 124).1).1/\(gh (fq p 124).1).1<=60/\(l5 (fq p 124).2).1.length<=2
      ·have hin:(decide (s+1<=(gh (fq p 124).1).1)&&decide ((gh (fq p 124).1).1<=60))=true:=by rw[aM (by omega),aM (by omega)];rfl
       rw[ak OO,ak ⟨aM OO.1,OO.2.1,OO.2.2.1,hin,aQ (by omega)⟩];simp only;rw[az (b:=[((gh (fq p 124).1).1,(l5 (fq p 124).2).1)].length) (k:=32) (by omega) (by omega) (by simp only[bg,bB];omega),ae,ao (by omega)]
      ·rw[ah OO,ah (fun h=>OO ⟨uf h.1,h.2.1,h.2.2.1,by have:=h.2.2.2.1;rw[aJ]at this;have:=uf this.1;omega,by have:=h.2.2.2.1;rw[aJ]at this;have:=uf this.2;omega,by have:=ar5 h.2.2.2.2;omega⟩)]
     ·rw[MF,ug,aH,aa,agv]
     ·obtain⟨h1,h2⟩:=aey hf;rw[h2];exact⟨h1.1,h1.2.1⟩
   ·rw[aQ hp0,eX,af,ak (.inl hp0)]
abbrev iE:=List Int×List Int
def Bh (l:iE):Bool:=decide (l.1.length=4)&&(decide (l.2.length=4)&&(l.1.all (fun n=>inB n 0 400)&&l.2.all (fun n=>inB n 0 100)))
theorem aap {a:List Int}(lo hi:Int)(h:a.length<=1048576):rL F0 a lo hi=some (a.all (fun n=>inB n lo hi),()):=by
 rw[aeh];refine df (fun n i (_:Unit)=>tv F0 (oO F0) n (oN lo hi a (a.length:Int) i)) a.length (fun k _=>∀x∈a.take k,inB x lo hi=true) _ (fun n k _ hk hI=>?_) (fun n _ hI=>?_) F0.n 0 () (aX _) (by simp) (by rw[bT];omega)
 ·rw[Bb,aS hk,af,av hk,ae,lM,RF,ai];show(br (!inB (a.getD k 0) lo hi) _ _=_)\/∃z':Unit,br (!inB (a.getD k 0) lo hi) _ _=_/\_;cases hb:inB (a.getD k 0) lo hi with
  |false =>
   left;rw[eX,af,YB];have:a.all (fun n=>inB n lo hi)=false:=ar6.2 ⟨_,o4 hk 0,by rw[hb];simp⟩;rw[this]
  |true =>
   right;refine⟨(),by rw[aL,aa,ao (by omega)],?_⟩;intro x hx;rw[Lr,bc hk 0]at hx;rcases lX.1 hx with hx|hx
   ·exact hI x hx
   ·simp only[al5,ml]at hx;rw[hx];exact hb
 ·rw[nN]at hI;rw[Bb,aH,aa,WD,iJ.2 hI]
theorem Ot {l:iE}(h1:l.1.length<=1048576)(h2:l.2.length<=1048576):pT F0 l=some (Bh l,()):=by
 rw[ag0,aap 0 400 h1,aap 0 100 h2];have e:∀n:Nat,((n:Int)==4)=decide (n=4):=fun n=>by
  by_cases h:n=4
  ·subst h;rfl
  ·rw[aQ h];exact cj.2 (by omega)
 simp only[ai,e,aAp];rfl
theorem aez {l:iE}:ur F0 l=some (Bh l,()):=by
 rw[afZ];have e:∀n:Nat,((n:Int) != 4)= !decide (n=4):=fun n=>by
  by_cases h:n=4
  ·subst h;rfl
  ·rw[aQ h];exact D0.2 (by omega)
 rw[e,e];unfold Bh;by_cases h1:l.1.length=4
 ·by_cases h2:l.2.length=4
  ·rw[aM h1,aM h2,aL,aa,aa,ji,ji];refine df (fun n i (_:Unit)=>vr F0 (qh F0) n (qg i l.1 l.2)) 4 (fun k _=>(∀x∈l.1.take k,inB x 0 400=true)/\∀x∈l.2.take k,inB x 0 100=true) _ (fun n k _ hk hI=>?_) (fun n _ hI=>?_) F0.n 0 () (by omega) (by simp) (by rw[bT];omega)
   ·have hk1:k<l.1.length:=by omega
    have hk2:k<l.2.length:=by omega
    rw[Eu,show decide ((k:Int)<4)=true from aM (by omega),af,av hk1,ae,lM,aex,ai,av hk2,ae,lM,aex,ai];show(br (!inB (l.1.getD k 0) 0 400) _ (br (!inB (l.2.getD k 0) 0 100) _ _)=_)\/∃z':Unit,br (!inB (l.1.getD k 0) 0 400) _ (br (!inB (l.2.getD k 0) 0 100) _ _)=_/\_;cases hb:inB (l.1.getD k 0) 0 400 with
    |false =>
     left;rw[eX,af,JM];have:l.1.all (fun n=>inB n 0 400)=false:=ar6.2 ⟨_,o4 hk1 0,by rw[hb];simp⟩;rw[this];rfl
    |true =>
     cases hc:inB (l.2.getD k 0) 0 100 with
     |false =>
      left;rw[aL,aa,eX,af,JM];have:l.2.all (fun n=>inB n 0 100)=false:=ar6.2 ⟨_,o4 hk2 0,by rw[hc];simp⟩;rw[this,ahX]
     |true =>
      right;refine⟨(),by rw[aL,aa,aa,ao (by omega)],?_,?_⟩
      ·intro x hx;rw[Lr,bc hk1 0]at hx;rcases lX.1 hx with hx|hx
       ·exact hI.1 x hx
       ·simp only[al5,ml]at hx;rw[hx];exact hb
      ·intro x hx;rw[Lr,bc hk2 0]at hx;rcases lX.1 hx with hx|hx
       ·exact hI.2 x hx
       ·simp only[al5,ml]at hx;rw[hx];exact hc
   ·rw[awx (by omega),awx (by omega)]at hI;rw[Eu,show decide (((4:Nat):Int)<4)=false from rfl,aa,Yn,iJ.2 hI.1,iJ.2 hI.2];rfl
  ·rw[aM h1,aQ h2];rfl
 ·rw[aQ h1];rfl
def eU (l:iE)(x:eO):iE×Int :=
 if Bh l=true/\gQ x=true then
  if x.2.2.2<aN l.2 x.1 0 then (l,2)
  else if x.2.2.2>aN l.2 x.1 0 then (l,3)
  else if x.2.2.1>aN l.1 x.1 0 then ((l.1,l.2.set x.1.toNat (x.2.2.2+1)),4)
  else if Bh ((l.1.set x.1.toNat (aN l.1 x.1 0-x.2.2.1)).set x.2.1.toNat (aN (l.1.set x.1.toNat (aN l.1 x.1 0-x.2.2.1)) x.2.1 0+x.2.2.1),l.2.set x.1.toNat (x.2.2.2+1))=true
   then (((l.1.set x.1.toNat (aN l.1 x.1 0-x.2.2.1)).set x.2.1.toNat (aN (l.1.set x.1.toNat (aN l.1 x.1 0-x.2.2.1)) x.2.1 0+x.2.2.1),l.2.set x.1.toNat (x.2.2.2+1)),0)
   else (l,1)
 else (l,1)
theorem abF {l:iE}(h:Bh l=true):l.1.length=4/\l.2.length=4/\(∀x∈l.1,0<=x/\x<=400)/\∀x∈l.2,0<=x/\x<=100:=by simp only[Bh,aJ,cD,iJ,inB]at h;exact⟨h.1,h.2.1,fun x hx=>⟨(h.2.2.1 x hx).1,(h.2.2.1 x hx).2⟩,fun x hx=>⟨(h.2.2.2 x hx).1,(h.2.2.2 x hx).2⟩⟩
theorem abG {l:iE}(h1:l.1.length<=1048576)(h2:l.2.length<=1048576):q9 F0 l=some (l,()):=by rw[anp,az (by omega) (by omega) (by omega),ae,az (by omega) (by omega) (by omega),ae];simp
theorem WT {l:iE}(h1:l.1.length<=1048576)(h2:l.2.length<=1048576):kN F0 l=some (l,()):=by rw[abB,BY,BY,az (by omega) (by omega) (by omega),ae,ai,az (by omega) (by omega) (by omega),ae,ai];simp
theorem dT {p:Prop}(i:Decidable p)(h:p): @decide p i=true:=aM h
theorem dF {p:Prop}(i:Decidable p)(h:¬p): @decide p i=false:=aQ h
theorem avy {a:List Int}{k:Nat}{v:Int}{lo hi:Int}(ha:∀x∈a,lo<=x/\x<=hi)(hv:lo<=v/\v<=hi):∀x∈a.set k v,lo<=x/\x<=hi:=fun x hx=>by
 rcases List.mem_or_eq_of_mem_set hx with h|h
 ·exact ha x h
 ·rw[h];exact hv
theorem avz {l:iE}(h1:l.1.length<=1048576)(h2:l.2.length<=1048576)(x:eO):JN F0 l x=some ((eU l x).1,(eU l x).2,()):=by
 rw[axt,abG h1 h2,ai,aez,ai];unfold eU;cases hl:Bh l with
 |false=>rw[ah (by simp)];rfl
 |true =>
  rw[aL,aa,QF,ai];cases hx:gQ x with
  |false=>rw[ah (by simp)];rfl
  |true =>
   rw[aL,aa,ak ⟨rfl,rfl⟩];obtain⟨e1,e2,e3,e4⟩:=abF hl;obtain⟨q1,q2,q3,q4⟩:=nA hx;have o0:∀(y:Int) (n:Nat),n=4->0<=y->y<=3->cc y (n:Int)=true:=fun y n h h1 h2=>by obtain⟨u,rfl⟩:∃u:Nat,y=u:=⟨y.toNat,by omega⟩;exact av (by omega)
   have o1:=o0 x.1 _ e1 q1.1 q1.2;have o2:=o0 x.1 _ e2 q1.1 q1.2;have o3:∀w,cc x.2.1 ((l.1.set x.1.toNat w).length:Int)=true:=fun w=>o0 x.2.1 _ (by rw[Ls];exact e1) q2.1 q2.2
   simp only[o1,o2,o3,ae];have g1:0<=aN l.1 x.1 0/\aN l.1 x.1 0<=400:=e3 _ (o4 (a:=l.1) (k:=x.1.toNat) (by omega) 0);have g2:0<=aN l.2 x.1 0/\aN l.2 x.1 0<=100:=e4 _ (o4 (a:=l.2) (k:=x.1.toNat) (by omega) 0);by_cases c1:x.2.2.2<aN l.2 x.1 0
   ·rw[dT _ c1,af,ak c1]
   ·rw[dF _ c1,aa,ah c1];by_cases c2:x.2.2.2>aN l.2 x.1 0
    ·rw[dT _ c2,af,ak c2]
    ·rw[dF _ c2,aa,ah c2,aI (n:=x.2.2.2+1) (by omega) (by omega)];by_cases c3:x.2.2.1>aN l.1 x.1 0
     ·rw[dT _ c3,af,ak c3]
     ·have g3:0<=aN (l.1.set x.1.toNat (aN l.1 x.1 0-x.2.2.1)) x.2.1 0/\aN (l.1.set x.1.toNat (aN l.1 x.1 0-x.2.2.1)) x.2.1 0<=400:=avy (k:=x.1.toNat) (v:=aN l.1 x.1 0-x.2.2.1) e3 ⟨by omega,by omega⟩ _ (o4 (a:=l.1.set x.1.toNat (aN l.1 x.1 0-x.2.2.1)) (k:=x.2.1.toNat) (by rw[Ls];omega) 0);rw[dF _ c3,aa,ah c3,aI (n:=aN l.1 x.1 0-x.2.2.1) (by omega) (by omega),aI (n:=aN (l.1.set x.1.toNat (aN l.1 x.1 0-x.2.2.1)) x.2.1 0+x.2.2.1) (by omega) (by omega),aez,ai];cases Bh ((l.1.set x.1.toNat (aN l.1 x.1 0-x.2.2.1)).set x.2.1.toNat (aN (l.1.set x.1.toNat (aN l.1 x.1 0-x.2.2.1)) x.2.1 0+x.2.2.1),l.2.set x.1.toNat (x.2.2.2+1)) with
      |false=>rw[ah (by simp),eX,af,ai]
      |true=>rw[ak rfl];rfl
theorem apf {l:iE}(h1:l.1.length<=1048576)(h2:l.2.length<=1048576)(x:eO):KF F0 l x=some ((eU l x).1,(eU l x).2,()):=by
 rw[axE,WT h1 h2,ai,Ot h1 h2,ai];unfold eU;cases hl:Bh l with
 |false=>rw[ah (by simp)];rfl
 |true =>
  rw[aL,aa,Ch,ai];cases hx:gQ x with
  |false=>rw[ah (by simp)];rfl
  |true =>
   rw[aL,aa,ak ⟨rfl,rfl⟩];obtain⟨e1,e2,e3,e4⟩:=abF hl;obtain⟨q1,q2,q3,q4⟩:=nA hx;have o0:∀(y:Int) (n:Nat),n=4->0<=y->y<=3->cc y (n:Int)=true:=fun y n h h1 h2=>by obtain⟨u,rfl⟩:∃u:Nat,y=u:=⟨y.toNat,by omega⟩;exact av (by omega)
   have o1:=o0 x.1 _ e1 q1.1 q1.2;have o2:=o0 x.1 _ e2 q1.1 q1.2;have o3:∀w,cc x.2.1 ((l.1.set x.1.toNat w).length:Int)=true:=fun w=>o0 x.2.1 _ (by rw[Ls];exact e1) q2.1 q2.2
   simp only[o1,o2,o3,ae];have g1:0<=aN l.1 x.1 0/\aN l.1 x.1 0<=400:=e3 _ (o4 (a:=l.1) (k:=x.1.toNat) (by omega) 0);have g2:0<=aN l.2 x.1 0/\aN l.2 x.1 0<=100:=e4 _ (o4 (a:=l.2) (k:=x.1.toNat) (by omega) 0);by_cases c1:x.2.2.2<aN l.2 x.1 0
   ·rw[dT _ c1,af,ak c1]
   ·rw[dF _ c1,aa,ah c1];by_cases c2:x.2.2.2>aN l.2 x.1 0
    ·rw[dT _ c2,af,ak c2]
    ·have hnn:aN l.2 x.1 0=x.2.2.2:=by omega
     rw[dF _ c2,aa,ah c2,hnn,aI (n:=x.2.2.2+1) (by omega) (by omega)];by_cases c3:x.2.2.1>aN l.1 x.1 0
     ·rw[dT _ c3,af,ak c3]
     ·have g3:0<=aN (l.1.set x.1.toNat (aN l.1 x.1 0-x.2.2.1)) x.2.1 0/\aN (l.1.set x.1.toNat (aN l.1 x.1 0-x.2.2.1)) x.2.1 0<=400:=avy (k:=x.1.toNat) (v:=aN l.1 x.1 0-x.2.2.1) e3 ⟨by omega,by omega⟩ _ (o4 (a:=l.1.set x.1.toNat (aN l.1 x.1 0-x.2.2.1)) (k:=x.2.1.toNat) (by rw[Ls];omega) 0);rw[dF _ c3,aa,ah c3,aI (n:=aN l.1 x.1 0-x.2.2.1) (by omega) (by omega),aI (n:=aN (l.1.set x.1.toNat (aN l.1 x.1 0-x.2.2.1)) x.2.1 0+x.2.2.1) (by omega) (by omega),Ot (by simp only[Ls];omega) (by simp only[Ls];omega),ai];cases Bh ((l.1.set x.1.toNat (aN l.1 x.1 0-x.2.2.1)).set x.2.1.toNat (aN (l.1.set x.1.toNat (aN l.1 x.1 0-x.2.2.1)) x.2.1 0+x.2.2.1),l.2.set x.1.toNat (x.2.2.2+1)) with
      |false=>rw[ah (by simp),eX,af,ai]
      |true=>rw[ak rfl];rfl
theorem axN (l:iE)(x:eO):(eU l x).1.1.length=l.1.length/\(eU l x).1.2.length=l.2.length:=by
 unfold eU;split
 ·split
  ·exact⟨rfl,rfl⟩
  ·split
   ·exact⟨rfl,rfl⟩
   ·split
    ·exact⟨rfl,by simp⟩
    ·split
     ·exact⟨by simp,by simp⟩
     ·exact⟨rfl,rfl⟩
 ·exact⟨rfl,rfl⟩
def RI:iE:=([100,100,100,100],[0,0,0,0])
theorem aaq:mM F0=some (RI,()):=by
 have st:∀n (k:Nat) (xs:List Int),k<4->xs.length=k->jQ F0 (j7 F0) (n+1) (gH (k:Int) [] [] xs [0,0,0,0])=jQ F0 (j7 F0) n (gH ((k+1:Nat):Int) [] [] (xs++[100]) [0,0,0,0]):=fun n k xs hk hx=>by rw[AY,show decide ((k:Int)<4)=true from aM (by omega),af,az (a:=xs.length) (b:=[(100:Nat)].length) (k:=8) (by omega) (by omega) (by simp only[bg,bB];omega),ae,ao (by omega)]
 rw[adh,show okM F0 4 4 8=true from aF7 (n:=4) (by omega) (by omega) (by omega),ae];refine df (fun n i xs=>jQ F0 (j7 F0) n (gH i [] [] xs [0,0,0,0])) 4 (fun k xs=>xs=List.replicate k 100) _ (fun n k xs hk hI=>.inr ⟨_,st n k xs hk (by rw[hI];simp),by rw[hI,<-List.replicate_succ']⟩) (fun n xs hI=>?_) F0.n 0 [] (by omega) rfl (by rw[bT];omega);rw[AY,show decide (((4:Nat):Int)<4)=false from rfl,aa,Vu,hI];rfl
theorem KV:kg F0=some (RI,()):=by
 have st:∀n (k:Nat) (xs:List Int),k<4->xs.length=k->jV F0 (kf F0) (n+1) (gO (k:Int) [] [] xs [0,0,0,0])=jV F0 (kf F0) n (gO ((k+1:Nat):Int) [] [] (xs++[100]) [0,0,0,0]):=fun n k xs hk hx=>by rw[Ba,show decide ((k:Int)<4)=true from aM (by omega),af,az (a:=xs.length) (b:=[(100:Nat)].length) (k:=8) (by omega) (by omega) (by simp only[bg,bB];omega),ae,ao (by omega)]
 rw[aeg,show okM F0 4 4 8=true from aF7 (n:=4) (by omega) (by omega) (by omega),ae];refine df (fun n i xs=>jV F0 (kf F0) n (gO i [] [] xs [0,0,0,0])) 4 (fun k xs=>xs=List.replicate k 100) _ (fun n k xs hk hI=>.inr ⟨_,st n k xs hk (by rw[hI];simp),by rw[hI,<-List.replicate_succ']⟩) (fun n xs hI=>?_) F0.n 0 [] (by omega) rfl (by rw[bT];omega);rw[Ba,show decide (((4:Nat):Int)<4)=false from rfl,aa,WC,hI];rfl
theorem axO (c:Int):QC F0 c=some ((c==0) || (c==4),()):=by rw[avp];cases h:(c==0)<;>rfl
def Ui (l:iE):Prop:=l.1.length=4/\l.2.length=4
theorem aGy {l:iE}(h:Ui l)(x:eO):Ui (eU l x).1:=⟨(axN l x).1.trans h.1,(axN l x).2.trans h.2⟩
theorem aar {α:Type}{a:List α}{k:Nat}(h:k<a.length)(d:α):aN a (k:Int) d=a[k]:=by rw[lM];simp[List.getD,h]
theorem aME (x:eO):(x.1,x.2.1,x.2.2.1,x.2.2.2)=x:=rfl
def iF:iE->List eO->List Int
 |_,[]=>[]
 |l,x::xs=>(eU l x).2::iF (eU l x).1 xs
def fA:iE->List eO->iE
 |l,[]=>l
 |l,x::xs=>fA (eU l x).1 xs
theorem Ix:∀{xs:List eO} {l:iE},Ui l->Ui (fA l xs)
 |[],_,h=>h
 |x::xs,l,h=>Ix (xs:=xs) (aGy h x)
theorem Iy:∀(xs:List eO) (l:iE),(iF l xs).length=xs.length
 |[],_=>rfl
 |x::xs,l=>by simp[iF,Iy xs]
theorem RJ:∀(a b:List eO) (l:iE),iF l (a++b)=iF l a++iF (fA l a) b
 |[],_,_=>rfl
 |x::a,b,l=>by simp[iF,fA,RJ a b]
theorem Ny:∀(a:List eO) (x:eO) (l:iE),fA l (a++[x])=(eU (fA l a) x).1
 |[],_,_=>rfl
 |y::a,x,l=>by simp[fA,Ny a x]
theorem aeA:∀(xs:List eO) (l:iE) (j:Nat) (h:j<xs.length),(iF l xs)[j]?=some (eU (fA l (xs.take j)) xs[j]).2
 |x::xs,l,0,h=>rfl
 |x::xs,l,j+1,h=>by simp only[iF,azr,List.take_succ_cons,fA,List.getElem_cons_succ];exact aeA xs _ j (by simpa using h)
theorem apg {l:iE}(h4:Ui l){list:List eO}(hl:list.length<=1048576):xw F0 l list=some (fA l list,iF l list,()):=by
 rw[anr,abG (by have:=h4.1;omega) (by have:=h4.2;omega),ai];refine df (fun n i (z:List Int×iE)=>CP F0 (Fx F0) n (vt list i z.1 [] [] z.2.1 z.2.2)) list.length (fun k z=>z.1=iF l (list.take k)/\z.2=fA l (list.take k)) _ (fun n k z hk hI=>.inr ⟨(z.1++[(eU z.2 list[k]).2],(eU z.2 list[k]).1),?_,?_⟩) (fun n z hI=>?_) F0.n 0 ([],l) (aX _) ⟨rfl,rfl⟩ (by rw[bT];omega)
 ·obtain⟨h1,h2⟩:=hI;have q4:Ui z.2:=by rw[h2];exact Ix h4
  have hz:z.1.length<=1048576:=by rw[h1,Iy,bQ];omega
  rw[JO,aS hk,af,av hk,ae,aar hk]
  try rw[aME]
  rw[avz (l:=(z.2.1,z.2.2)) (by have:=q4.1;show z.2.1.length<=_;omega) (by have:=q4.2;show z.2.2.length<=_;omega),ai];simp only;rw[az (a:=z.1.length) (b:=[(eU (z.2.1,z.2.2) list[k]).2].length) (k:=8) (by omega) (by omega) (by simp only[bg,bB];omega),ae,ao (by omega)]
 ·obtain⟨h1,h2⟩:=hI;have ht:list.take (k+1)=list.take k++[list[k]]:=by rw[Lr,oY hk];rfl
  refine⟨?_,?_⟩
  ·rw[ht,RJ,<-h1,<-h2];rfl
  ·rw[ht,Ny,<-h2]
 ·obtain⟨h1,h2⟩:=hI;rw[nN]at h1 h2;rw[JO,aH,aa,adi,h1,h2]
theorem aeB:∀{ss:List aao},(∀s∈ss,avx s)->(ss.flatMap (·.2)).length<=2*ss.length
 |[],_=>by simp
 |s::ss,h=>by
  have h1:=(h s OD).2.2.1;have h2:=aeB (ss:=ss) fun x hx=>h x (tI _ hx)
  rw[List.flatMap_cons,aT,bg];omega
theorem aD7 {l:List UInt8}(hl:l.length<=1073741824):wO F0 (tx l)=some ((cC l).1.flatMap (·.2),()):=by
 rw[aq2,XO hl,ai];have hlen:=rP l;have dO:=RG l;generalize hss:(cC l).1=ss at hlen dO;refine df (fun n i xs=>HA F0 (JI F0) n (yR i xs ss)) ss.length (fun k xs=>xs=(ss.take k).flatMap (·.2)) _ (fun n k xs hk hI=>.inr ⟨_,?_,rfl⟩) (fun n xs hI=>?_) F0.n 0 [] (aX _) rfl (by rw[bT];omega)
 ·have h1:=(dO _ (di hk)).2.2.1;have hx:=aeB (ss:=ss.take k) fun x hx=>dO x (al1 hx)
  rw[<-hI,bQ]at hx;rw[L5,aS hk,af,av hk,ae,aar hk,az (a:=xs.length) (b:=ss[k].2.length) (k:=32) (by omega) (by omega) (by omega),ae,ao (by omega),hI];have hf:(ss.take (k+1)).flatMap (·.2)=(ss.take k).flatMap (·.2)++ss[k].2:=by rw[show ss.take (k+1)=ss.take k++[ss[k]] by rw[Lr,oY hk];rfl,List.flatMap_append];simp
  rw[hf]
 ·rw[nN]at hI;rw[L5,aH,aa,afY,hI]
theorem jA {β:Type}(X:Nat->Int->Option β)(L:Nat)(p:Nat->Bool)(Rt Rf:Option β)(hs:∀n k,k<L->X (n+1) (k:Int)=if p k=true then X n ((k+1:Nat):Int) else Rf)(he:∀n,X (n+1) (L:Int)=Rt)(n:Nat)(hn:L<n) :
  X n 0=if (List.range L).all p=true then Rt else Rf:=by
 refine df (fun n i (_:Unit)=>X n i) L (fun k _=>∀j,j<k->p j=true) _ (fun n k _ hk h=>?_) (fun n _ h=>?_) n 0 () (aX _) (fun j hj=>absurd hj (Sb _)) (by omega)
 ·try dsimp only
  rw[hs n k hk];by_cases hp:p k=true
  ·rw[ak hp];refine .inr ⟨(),rfl,fun j hj=>?_⟩;by_cases hjk:j=k
   ·exact hjk▸hp
   ·exact h j (by omega)
  ·rw[ah hp,ah]
   ·exact .inl rfl
   ·intro ha;exact hp (iJ.1 ha k (jC.2 hk))
 ·try dsimp only
  rw[he,ak];exact iJ.2 fun j hj=>h j (jC.1 hj)
theorem KW {α:Type}(s:List α)(q:α->Bool)(d:α):(List.range s.length).all (fun k=>q (s.getD k d))=s.all q:=by
 rw[Bool.eq_iff_iff,iJ,iJ];constructor
 ·intro h x hx;obtain⟨i,hi,rfl⟩:=atB.1 hx;have:=h i (jC.2 hi);simpa [List.getD,hi]using this
 ·intro h k hk;exact h _ (o4 (jC.1 hk) d)
theorem aKw (s:List Int)(i:Int):(s.all fun x=> !(x==i))= !decide (i∈s):=by rw[Bool.eq_iff_iff,iJ];simp only[afl,cj,aty];exact⟨fun h hi=>h i hi rfl,fun h x hx e=>h (e▸hx)⟩
theorem ite_not (b:Bool){α:Type}(x y:α):(if (!b)=true then x else y)=if b=true then y else x:=by cases b<;>rfl
theorem aAu {α:Type}(b:Bool)(x y:α):br b x y=if b=true then x else y:=by cases b<;>rfl
theorem gi {s:List Int}(h:s.length<=1073741824)(i:Int):dE F0 s i=some (decide (i∈s),()):=by
 rw[anv,jA (fun n k=>CU F0 (vz F0) n (vy s i k)) s.length (fun k=> !(s.getD k 0==i)) (some (false,())) (some (true,())) (fun n k hk=>?_) (fun n=>?_) _ (by rw[bT];omega),
  KW s (fun x=> !(x==i)),aKw,ite_not]
 ·by_cases hm:i∈s<;>simp[hm]
 ·rw[JQ,aS hk,af,av hk,ae,lM,ao (by omega),ite_not,aAu,af5]
 ·rw[JQ,aH,aa,adm]
theorem avA {s:List Int}(h:s.length<=1073741824)(i:Int):iQ F0 s i=some (decide (i∈s),()):=by
 have key:∃j,lz F0 s i=some (j,())/\decide (j>=0)=decide (i∈s):=by
  rw[P3];have:=df (fun n k (_:Unit)=>jz F0 (ic F0) n (ib s i (s.length:Int) k)) s.length (fun k _=>∀j,j<k->s.getD j 0≠i)
   (some ((if i∈s then ((s.idxOf i:Nat):Int) else -1),())) (fun n k _ hk hI=>?_) (fun n _ hI=>?_) F0.n 0 () (aX _) (fun j hj=>absurd hj (Sb _)) (by rw[bT];omega)
  ·refine⟨_,this,?_⟩;by_cases hm:i∈s
   ·rw[ak hm,aM hm];exact aM (Int.natCast_nonneg _)
   ·rw[ah hm,aQ hm];rfl
  ·try dsimp only
   rw[qx,aS hk,af,av hk,ae,lM,ao (by omega),Lq];by_cases he:i=s.getD k 0
   ·left;have hm:i∈s:=he▸o4 hk 0;rw[bC.2 he,af,ak hm];have hx:s.idxOf i=k:=by
     have h1:s.idxOf i<s.length:=List.idxOf_lt_length_of_mem hm;have h2:s.getD (s.idxOf i) 0=i:=by simp[List.getD,h1]
     rcases Nat.lt_trichotomy (s.idxOf i) k with hlt|heq|hgt
     ·exact absurd h2 (hI _ hlt)
     ·exact heq
     ·have:=List.not_of_lt_findIdx (p:=(·==i)) (xs:=s) hgt;have h3:s[k]'(by omega)=i:=by rw[he];simp[List.getD,hk]
      simp[h3]at this
    rw[hx]
   ·right;rw[cj.2 he,aa];refine⟨(),rfl,fun j hj=>?_⟩;by_cases hjk:j=k
    ·exact fun e=>he (hjk▸e.symm)
    ·exact hI j (by omega)
  ·try dsimp only
   have hm:i ∉ s:=by intro hm;obtain⟨j,hj,e⟩:=atB.1 hm;exact hI j hj (by simp[List.getD,hj,e])
   rw[qx,aH,aa,Ko,ah hm]
 obtain⟨j,h1,h2⟩:=key;rw[Kp,h1,ai,h2]
theorem fH {s:List Int}(h:s.length<=1073741824)(i:Int):ea F0 s i=some (decide (i∈s),()):=by rw[aoz,avA h,ai]
def avB (i:Int):List Int->List Int
 |[]=>[i]
 |x::l=>if x>=i then i::x::l else x::avB i l
def WU (s:List Int)(i:Int):List Int:=if i∈s then s else avB i s
theorem axP (i:Int):∀s:List Int,(avB i s).length=s.length+1
 |[]=>rfl
 |x::l=>by
  unfold avB;split
  ·rfl
  ·simp[axP i l]
theorem aph (s:List Int)(i:Int):(WU s i).length<=s.length+1:=by
 unfold WU;split
 ·omega
 ·rw[axP];exact cp _
theorem alO {i:Int}:∀{s:List Int} {k:Nat},k<=s.length->(∀j (h:j<s.length),j<k->s[j]<i)->(∀h:k<s.length,¬s[k]<i)->avB i s=s.take k++i::s.drop k
 |[],k,_,_,_=>by simp[avB]
 |x::l,0,_,_,h=>by have:=h (by simp);simp only[azs]at this;unfold avB;rw[ak (by omega)];rfl
 |x::l,k+1,hk,h1,h2=>by have hx:=h1 0 (by simp) (by omega);simp only[azs]at hx;unfold avB;rw[ah (by omega),List.take_succ_cons,List.drop_succ_cons,F5,alO (k:=k) (by simpa using hk) (fun j h hj=>h1 (j+1) (by simp only[bg];omega) (by omega)) (fun h=>h2 (by simp only[bg];omega))]
theorem XP {l h n:Nat}(h1:l<=h)(h2:h<=n):Si (l:Int) (h:Int) (n:Int)=true:=by simp[Si];omega
theorem abH {s:List Int}(h:s.length<=1048576)(i:Int):xy F0 s i=some (WU s i,()):=by
 rw[anw,gi (by omega),ai];unfold WU;by_cases hm:i∈s
 ·rw[aM hm,af,ak hm,az (by omega) (by omega) (by omega),ae];rfl
 ·rw[aQ hm,aa,ah hm];have fin:∀k:Nat,k<=s.length->(∀j (h:j<s.length),j<k->s[j]<i)->(∀h:k<s.length,¬s[k]<i)->vB F0 (.exit 0) (sr s i (k:Int))=some (avB i s,()):=by
   intro k hk h1 h2;rw[adn,show Si 0 (k:Int) (s.length:Int)=true from XP (l:=0) (aX _) hk,ae,mm,mm,show(0:Int).toNat=0 from rfl,ahW,F6,nN,
    az (by omega) (by omega) (by rw[bQ];omega),ae,az (by omega) (by omega) (by rw[bQ];simp only[bg,bB];omega),ae,XP hk (cp _),ae,
    az (by omega) (by omega) (by rw[aT,bQ,bz];simp only[bg,bB];omega),ae,alO hk h1 h2]
   simp
  refine df (fun n k (_:Unit)=>CY F0 (vB F0) n (vA s i k)) s.length (fun k _=>∀j (h:j<s.length),j<k->s[j]<i) _ (fun n k _ hk hI=>?_) (fun n _ hI=>?_) F0.n 0 () (aX _) (fun j _ hj=>absurd hj (Sb _)) (by rw[bT];omega)
  ·try dsimp only
   rw[JS,aS hk,af,av hk,ae,aar hk,ao (by omega)];by_cases hlt:s[k]<i
   ·right;rw[aM hlt,af];refine⟨(),rfl,fun j hj hjk=>?_⟩;by_cases e:j=k
    ·subst e;exact hlt
    ·exact hI j hj (by omega)
   ·left;rw[aQ hlt,aa];exact fin k (by omega) hI (fun _=>hlt)
  ·try dsimp only
   rw[JS,aH,aa];exact fin s.length (cp _) hI (fun h=>absurd h (Uq _))
theorem oS {l:List Int}(h:l.length<=1073741824):eM F0 l=some (l,()):=by rw[BY,az (by omega) (by omega) (by omega),ae];rfl
theorem ahl {α:Type}(p:α->Bool):∀(l:List α) (j:Nat),(qO p l (j:Int)=-1/\∀x∈l,p x=false)\/∃k,∃h:k<l.length,qO p l (j:Int)=((j+k:Nat):Int)/\p l[k]=true/\∀i (hi:i<l.length),i<k->p l[i]=false
 |[],j=>.inl ⟨rfl,by simp⟩
 |x::l,j=>by
  unfold qO;cases hp:p x with
  |true=>exact .inr ⟨0,by simp,by simp,by simpa using hp,fun i _ hi=>absurd hi (Sb _)⟩
  |false =>
   have e:(j:Int)+1=((j+1:Nat):Int):=by omega
   dsimp only;rw[e];rcases ahl p l (j+1) with ⟨h1,h2⟩|⟨k,hk,h1,h2,h3⟩
   ·refine .inl ⟨h1,fun y hy=>?_⟩;rcases gS.1 hy with rfl|hy
    ·exact hp
    ·exact h2 y hy
   ·refine .inr ⟨k+1,by simpa using hk,by rw[h1];omega,by simpa using h2,fun i hi hik=>?_⟩;cases i with
    |zero=>simpa using hp
    |succ i=>simpa using h3 i (by simpa using hi) (by omega)
theorem IY {k a b:Nat}(h1:k<=a)(h2:1<=b)(h3:a+b<=1073741824):aij (k:Int) a b=true:=by unfold aij;rw[aM (show(0:Int)<=k by omega),aM (show(k:Int)<=a by omega),aM (show(1:Int)<=b by omega),aM (show((a+b:Nat):Int)<=1073741824 by omega)];rfl
theorem ai9 {s:List Int}(h:s.length<=1048576)(i:Int):ES F0 s i=some (WU s i,()):=by
 rw[aoG,fH (by omega),ai];unfold WU;by_cases hm:i∈s
 ·rw[aM hm,af,ak hm,oS (by omega),ai]
 ·rw[aQ hm,aa,ah hm];rcases ahl (fun e=>geP e i) s 0 with ⟨h1,h2⟩|⟨k,hk,h1,h2,h3⟩
  ·have h1:qO (fun e=>geP e i) s 0=-1:=h1;rw[h1,show decide ((-1:Int)<0)=true from rfl,af,oS (by omega),ai,IY (cp _) (by simp) (by simp only[bg,bB];omega),ae,mm,
    alO (k:=s.length) (cp _) (fun j hj _=>?_) (fun h=>absurd h (Uq _))]
   ·simp
   ·have:=ar5 (h2 s[j] (di hj));omega
  ·have h1:qO (fun e=>geP e i) s 0=((0+k:Nat):Int):=h1;rw[xf]at h1;have h2:=uf h2;rw[h1,show decide (((k:Nat):Int)<0)=false from aQ (by omega),aa,oS (by omega),ai,IY (k:=k) (a:=s.length) (by omega) (by simp) (by simp only[bg,bB];omega),ae,mm,
    alO (k:=k) (by omega) (fun j hj hjk=>?_) (fun _=>by omega)]
   ·simp
   ·have:=ar5 (h3 j hj hjk);omega
def iG (lo hi x:Int):Bool:=decide (lo<=x)&&decide (x<=hi)
theorem dB (x lo hi:Int):bX F0 x lo hi=some (iG lo hi x,()):=aex x lo hi
theorem b9 (x lo hi:Int):bd F0 x lo hi=some (iG lo hi x,()):=RF x lo hi
theorem gj {α:Type}{l:List α}{k:Nat}(h:k<l.length):l.take (k+1)=l.take k++[l[k]]:=by rw[Lr,oY h];rfl
abbrev dp:=Int×ByteArray×List Int
def cq (l:List UInt8):Bool:=(cC l).2
def bA (l:List UInt8):Int:=match (cC l).1.getLast? with|some s=>s.1|none=>0
theorem WV {l:List UInt8}(h:(cC l).2=false):(cC l).1=[]:=by
 unfold cC at h ⊢;split
 ·rfl
 ·rename_i h0;rw[ah h0]at h;split
  ·rfl
  ·rename_i hp;rw[hp]at h;dsimp only at h;split
   ·rfl
   ·rename_i h1;rw[ah h1]at h;split
    ·rfl
    ·rename_i hr;rw[hr]at h;cases h
theorem RL {l:List UInt8}(h:l.length<=1073741824):fD F0 (tx l)=some (cq l,()):=by rw[am1,XO h,ai];rfl
theorem Nz {l:List UInt8}(h:l.length<=1073741824):fE F0 (tx l)=some (cq l,()):=by rw[aon,RH h,ai];rfl
theorem asZ (ss:List aao)(hlen:ss.length<=30)(d:aao:=(0,[])):br ((ss.length:Int)==0) (some ((0:Int),())) (ck (cc (aj ((ss.length:Int)-1)) (ss.length:Int)) (some ((aN ss (aj ((ss.length:Int)-1)) d).1,())))=some ((match ss.getLast? with|some s=>s.1|none=>0),()):=by
 cases hs:ss with
 |nil=>rfl
 |cons s r =>
  rw[<-hs];have h0:ss.length≠0:=by rw[hs];simp
  have h1:((ss.length:Int)==0)=false:=cj.2 (by omega);have h2:aj ((ss.length:Int)-1)=((ss.length-1:Nat):Int):=by rw[aI (by omega) (by omega)];omega
  rw[h1,aa,h2,av (by omega),ae,aar (by omega),List.getLast?_eq_getElem?,oY (by omega)]
theorem api {l:List UInt8}(h:l.length<=1073741824):dZ F0 (tx l)=some (bA l,()):=by
 rw[am2,XO h,ai];dsimp only;cases hb:(cC l).2 with
 |true =>
  rw[aL,aa];exact asZ _ (rP l)
 |false =>
  rw[eX,af];unfold bA;rw[WV hb];rfl
theorem aja {l:List UInt8}(h:l.length<=1073741824):e8 F0 (tx l)=some (bA l,()):=by rw[aoo,RH h,ai];exact asZ _ (rP l)
theorem QI (l:List UInt8):0<=bA l/\bA l<=60:=by
 unfold bA;split
 ·rename_i s hs;have:=RG l s (List.mem_of_getLast? hs);exact⟨this.1,this.2.1⟩
 ·omega
def bO (c:Int×Int):Bool:=iG 4 7 c.1&&iG 1 6 c.2
theorem jf (c:Int×Int):ey F0 c=some (bO c,()):=by rw[amX,dB,ai,dB,ai];unfold bO;dsimp only;cases iG 4 7 c.1<;>rfl
theorem gv (c:Int×Int):eZ F0 c=some (bO c,()):=by rw[aoj,b9,ai,b9,ai];unfold bO;dsimp only;cases iG 4 7 c.1<;>rfl
theorem cP {c:Int×Int}(h:bO c=true):4<=c.1/\c.1<=7/\1<=c.2/\c.2<=6:=by unfold bO iG at h;simp only[aJ,cD]at h;omega
theorem axQ {n:Int}(h1:4<=n)(h2:n<=7):1<=Int.tdiv (n-1) 3/\Int.tdiv (n-1) 3<=2:=by
 have:n=4\/n=5\/n=6\/n=7:=by omega
 rcases this with rfl|rfl|rfl|rfl<;>decide
def FZ (c:Int×Int):Int:=if bO c=true then Int.tdiv (c.1-1) 3 else 0
def KX (c:Int×Int):Int:=if bO c=true then c.1-Int.tdiv (c.1-1) 3 else 0
theorem ajb (c:Int×Int):EH F0 c=some (FZ c,()):=by
 rw[aop,gv,ai];unfold FZ;dsimp only;cases h:bO c with
 |false=>rfl
 |true =>
  have:=cP h;have h3:=axQ this.1 this.2.1;have e:aj (c.1-1)=c.1-1:=aI (by omega) (by omega);rw[aL,aa,e,aI (by omega) (by omega),ak rfl]
theorem ajc (c:Int×Int):EI F0 c=some (KX c,()):=by
 rw[aoq,gv,ai,ajb,ai];unfold KX FZ;dsimp only;cases h:bO c with
 |false=>rfl
 |true =>
  have:=cP h;have h3:=axQ this.1 this.2.1;rw[aL,aa,ak rfl,ak rfl,aI (by omega) (by omega)]
theorem abI (c:Int×Int):xp F0 c=some (KX c,()):=by
 rw[am3,jf,ai];unfold KX;dsimp only;cases h:bO c with
 |false=>rfl
 |true =>
  have:=cP h;have h3:=axQ this.1 this.2.1;have e:aj (c.1-1)=c.1-1:=aI (by omega) (by omega);rw[aL,aa,e,aI (n:=Int.tdiv (c.1-1) 3) (by omega) (by omega),aI (by omega) (by omega),ak rfl]
def nB (n:Int)(s:List Int):Bool:=(List.range s.length).all fun k=>decide (0<=s.getD k 0)&&(decide (s.getD k 0<n)&&(decide (k=0) || decide (s.getD (k-1) 0<s.getD k 0)))
theorem RM {β:Type}{n:Int}{s:List Int}{k:Nat}(hk:k<s.length)(x y:Option β) :
  br (decide (s.getD k 0<0)) x (br (decide (s.getD k 0>=n)) x (br (decide ((k:Int)>0)) (br (decide (s.getD (k-1) 0>=s.getD k 0)) x y) y)) =
  if (decide (0<=s.getD k 0)&&(decide (s.getD k 0<n)&&(decide (k=0) || decide (s.getD (k-1) 0<s.getD k 0))))=true then y else x:=by
 generalize s.getD k 0=a;generalize s.getD (k-1) 0=b;by_cases h1:a<0
 ·rw[aM h1,af,aQ (show ¬0<=a by omega)];rfl
 ·rw[aQ h1,aa,aM (show 0<=a by omega),ji];by_cases h2:a>=n
  ·rw[aM h2,af,aQ (show ¬a<n by omega)];rfl
  ·rw[aQ h2,aa,aM (show a<n by omega),ji];by_cases h3:k=0
   ·subst h3;rfl
   ·rw[aM (show(k:Int)>0 by omega),af,aQ h3,I6];by_cases h4:b>=a
    ·rw[aM h4,af,aQ (show ¬b<a by omega)];rfl
    ·rw[aQ h4,aa,aM (show b<a by omega)];rfl
theorem KY {k:Nat}(h0:0<k)(h:k<=9223372036854775807):aj ((k:Int)-1)=((k-1:Nat):Int):=by rw[aI (by omega) (by omega)];omega
theorem ahm {s:List Int}(h:s.length<=1073741824)(n:Int):Bw F0 n s=some (nB n s,()):=by
 rw[aqX,jA (fun m k=>yq F0 (yr F0) m (qV n s k)) s.length (fun k=>decide (0<=s.getD k 0)&&(decide (s.getD k 0<n)&&(decide (k=0) || decide (s.getD (k-1) 0<s.getD k 0)))) (some (true,())) (some (false,())) (fun m k hk=>?_) (fun m=>?_) _ (by rw[bT];omega)]
 ·show(if nB n s=true then _ else _)=_;cases nB n s<;>rfl
 ·rw[LJ,aS hk,af,av hk,ae,lM,ajP,ae,ao (by omega)];by_cases h0:k=0
  ·subst h0;rw[<-RM hk];rfl
  ·rw[KY (by omega) (by omega),av (show k-1<s.length by omega),ae,ae,lM,<-RM hk]
 ·rw[LJ,aH,aa,afP]
theorem abJ {s:List Int}(h:s.length<=1073741824)(n:Int):wT F0 n s=some (nB n s,()):=by
 rw[ark,jA (fun m k=>zF F0 (zG F0) m (ru n s s (s.length:Int) k)) s.length (fun k=>decide (0<=s.getD k 0)&&(decide (s.getD k 0<n)&&(decide (k=0) || decide (s.getD (k-1) 0<s.getD k 0)))) (some (true,())) (some (false,())) (fun m k hk=>?_) (fun m=>?_) _ (by rw[bT];omega)]
 ·show(if nB n s=true then _ else _)=_;cases nB n s<;>rfl
 ·rw[MG,aS hk,af,av hk,ae,lM,akO,ao (by omega)];by_cases h0:k=0
  ·subst h0;rw[<-RM hk];rfl
  ·rw[KY (by omega) (by omega),av (show k-1<s.length by omega),ae,lM,<-RM hk]
 ·rw[MG,aH,aa,agw]
theorem ahn {a b:List Int}(h:a.length<=1073741824):iy F0 a b=some (decide (a=b),()):=by
 rw[PS];by_cases hl:a.length=b.length
 ·have e:((a.length:Int) != (b.length:Int))=false:=by rw[hl];exact al6 (b.length:Int)
  rw[e,aa,jA (fun m k=>jv F0 (ia F0) m (hZ a b (a.length:Int) k)) a.length (fun k=>a.getD k 0==b.getD k 0) (some (true,())) (some (false,())) (fun m k hk=>?_) (fun m=>?_) _ (by rw[bT];omega)]
  ·by_cases hab:a=b
   ·rw[aM hab,ak (iJ.2 fun k _=>by rw[hab];exact ack (b.getD k 0))]
   ·rw[aQ hab,ah];intro nZ;refine hab (List.ext_getElem hl fun k h1 h2=>?_);have:=iJ.1 nZ k (jC.2 h1);simpa [List.getD,h1,h2]using this
  ·rw[qu,aS hk,af,av hk,ae,av (hl▸hk),ae,lM,lM,Lp,ao (by omega),aAu];by_cases h3:a.getD k 0=b.getD k 0
   ·simp[h3]
   ·simp[h3]
  ·rw[qu,aH,aa,Kb]
 ·have e:((a.length:Int) != (b.length:Int))=true:=D0.2 (by omega);rw[e,af,aQ (fun hab=>hl (by rw[hab]))]
def YI (c:Int×Int)(q:Int×List UInt8×List Int):Bool:=bO c&&(cq q.2.1&&(decide (bA q.2.1=q.1)&&(if q.2.1=[] then decide (q.2.2=[]) else nB c.1 q.2.2&&decide ((q.2.2.length:Int)>=KX c))))
theorem avC:al=tx []:=rfl
theorem apj {q:dp}(h:q.2.2.length<=1073741824):iC F0 q=some (q,()):=by rw[aoy,oS h,ai]
theorem aAv {v v':Int}{a b:List UInt8}{s t:List Int}(h:s.length<=1073741824):jJ F0 (v,tx a,s) (v',tx b,t)=some ((v==v')&&(decide (a=b)&&decide (s=t)),()):=by rw[VX];dsimp only;rw[WR,ahn h,ai];cases (v==v')<;>cases decide (a=b)<;>rfl
theorem axR {v:Int}{l:List UInt8}{s:List Int}(hl:l.length<=1073741824)(hs:s.length<=1073741824)(c:Int×Int):kF F0 c (v,tx l,s)=some (YI c (v,l,s),()):=by
 rw[auL,jf,ai];unfold YI;dsimp only;rw[RL hl,ai,api hl,ai,ahm hs,ai,abI,ai,avC,WR];cases bO c with
 |false=>rfl
 |true =>
  cases cq l with
  |false=>rfl
  |true =>
   by_cases hv:bA l=v
   ·rw[aM hv,show(bA l != v)=false by rw[hv];exact al6 v];by_cases h0:l=[]
    ·rw[aM h0,ak h0];cases s with
     |nil=>rfl
     |cons x r=>rfl
    ·rw[aQ h0,ah h0];cases nB c.1 s<;>rfl
   ·rw[aQ hv,show(bA l != v)=true from D0.2 hv];rfl
theorem aD8 {c:UInt8}{l:List UInt8}(h:parts c l=[[]]):l=[]:=by
 cases l with
 |nil=>rfl
 |cons x l =>
  unfold parts at h;split at h
  ·exact absurd (xX h).2 (E2 c l)
  ·split at h
   ·cases (xX h).1
   ·cases (xX h).1
theorem axS {σ β:Type}{f:σ->List UInt8->Option (σ×β)}{I:σ->Prop}{Q:β->Prop}(hf:∀s p s' b,I s->f s p=some (s',b)->Q b/\I s'):∀{l:List (List UInt8)} {s:σ} {r:List β},I s->AH f s l=some r->∀b∈r,Q b
 |[],s,r,_,h,b,hb=>by cases h;cases hb
 |p::l,s,r,hI,h,b,hb=>by
  unfold AH at h;cases hp:f s p with
  |none=>rw[hp]at h;cases h
  |some x =>
   obtain⟨s',b'⟩:=x;rw[hp]at h;obtain⟨h1,h2⟩:=hf s p s' b' hI hp;dsimp only at h;cases hr:AH f s' l with
   |none=>rw[hr]at h;cases h
   |some r' =>
    rw[hr]at h;cases h;rcases gS.1 hb with rfl|hb
    ·exact h1
    ·exact axS hf h2 hr b hb
theorem avD {l:List UInt8}:∀s∈(cC l).1,1<=s.1:=by
 unfold cC;split
 ·simp
 ·split
  ·simp
  ·split
   ·simp
   ·split
    ·simp
    ·rename_i hr;refine axS (I:=fun s=>0<=s) (Q:=fun b=>1<=b.1) (fun s p s' b hs hf=>?_) (by omega) hr;obtain⟨h1,h2⟩:=aey hf;unfold E3 at hf;split at hf
     ·rename_i hc;cases hf;exact⟨by have:=hc.2.2.2.1;show 1<=_;omega,by have:=hc.2.2.2.1;omega⟩
     ·cases hf
theorem aAw {l:List UInt8}(h:cq l=true)(h0:l≠[]):(cC l).1≠[]:=by
 unfold cq at h;unfold cC at h ⊢;rw[ah h0]at h ⊢;cases hp:parts 47 l with
 |nil=>rw[hp]at h;cases h
 |cons p0 ps =>
  rw[hp]at h;dsimp only at h ⊢;split
  ·rename_i h1;rw[ak h1]at h;cases h
  ·rename_i h1;rw[ah h1]at h;have hp0:p0=[]:=aww fun hne=>h1 (.inl hne)
   cases hr:AH E3 0 ps with
   |none=>rw[hr]at h;cases h
   |some r =>
    dsimp only;intro Xy;have hl:=QH hr;rw[Xy]at hl;have:ps=[]:=YK hl.symm;subst this hp0;exact h0 (aD8 hp)
theorem apk {l:List UInt8}(h:cq l=true)(h0:l≠[]):1<=bA l:=by
 have hne:=aAw h h0;unfold bA;cases hs:(cC l).1.getLast? with
 |none=>exact absurd (List.getLast?_eq_none_iff.1 hs) hne
 |some s=>exact avD s (List.mem_of_getLast? hs)
theorem aAx:bA []=0:=rfl
theorem apl:cq []=true:=rfl
theorem aGz (c:Int×Int)(v:Int)(l:List UInt8)(s:List Int) :
  (bO c&&(((v==0)&&(decide (l=[])&&decide (s=[]))) || (decide (v>=1)&&(cq l&&((v==bA l)&&(nB c.1 s&&decide ((s.length:Int)>=KX c)))))))=YI c (v,l,s):=by
 unfold YI;dsimp only;cases hc:bO c with
 |false=>rfl
 |true =>
  rw[ji,ji];by_cases h0:l=[]
  ·subst h0;rw[aAx,apl,ak rfl,aM rfl,ji,ji,ji];by_cases hv:v=0
   ·subst hv;rw[ack,aM rfl,aQ (show ¬(0:Int)>=1 by omega),YO,Bool.or_false]
   ·rw[cj.2 hv,aQ (show ¬(0:Int)=v from fun h=>hv h.symm)];simp
  ·rw[aQ h0,YO,ahX,I6,ah h0];cases hn:cq l with
   |false=>rw[YO,YO,ahX]
   |true =>
    have:=apk hn h0;by_cases hv:v=bA l
    ·rw[aM (show v>=1 by omega),bC.2 hv,aM hv.symm];rfl
    ·rw[cj.2 hv,aQ (show ¬bA l=v from fun h=>hv h.symm)];simp
theorem as0 {v:Int}{l:List UInt8}{s:List Int}(hl:l.length<=1073741824)(hs:s.length<=1073741824)(c:Int×Int):mX F0 c (v,tx l,s)=some (YI c (v,l,s),()):=by rw[<-aGz,au4,gv,ai,Tj,ai];dsimp only;rw[avC,aAv hs,ai,Nz hl,ai,aja hl,ai,abJ hs,ai,ajc,ai];dsimp only;generalize cq l=b1;generalize bA l=b2;generalize nB c.1 s=b3;generalize decide ((s.length:Int)>=KX c)=b4;generalize decide (v>=1)=b5;generalize ((v==0)&&(decide (l=[])&&decide (s=[])))=b6;generalize (v==b2)=b7;cases bO c<;>cases b1<;>cases b3<;>cases b4<;>cases b5<;>cases b6<;>cases b7<;>rfl
def WW (c:Int×Int)(p:Int×List UInt8×List Int):Option (Int×List UInt8×List Int):=if p.2.1≠[]/\YI c p=true then some p else none
def aCX (o:Option (Int×List UInt8×List Int)):dp×Bool:=match o with
 |some q=>((q.1,tx q.2.1,q.2.2),true)
 |none=>((0,tx [],[]),false)
theorem aAy {v:Int}{l:List UInt8}{s:List Int}(hl:l.length<=1073741824)(hs:s.length<=1073741824)(c:Int×Int):EA F0 c (v,tx l,s)=some ((aCX (WW c (v,l,s))).1,(aCX (WW c (v,l,s))).2,()):=by
 rw[anE];dsimp only;rw[az (by omega) (by omega) (by omega),ae,avC,WR,F6,axR hl hs,ai];unfold WW;dsimp only;by_cases h0:l=[]
 ·rw[aM h0,af,ah (fun h=>h.1 h0)];rfl
 ·rw[aQ h0,aa];cases hq:YI c (v,l,s) with
  |true=>rw[ak ⟨h0,rfl⟩];rfl
  |false=>rw[ah (fun h=>by cases h.2)];rfl
theorem aD9 {c:Int×Int}{v:Int}{l:List UInt8}{s:List Int}(h:YI c (v,l,s)=true):(v==0)=decide (l=[]):=by
 unfold YI at h;simp only[aJ,cD]at h;obtain⟨_,h1,h2,_⟩:=h;by_cases h0:l=[]
 ·subst h0;rw[<-h2];rfl
 ·have:=apk h1 h0;rw[aQ h0];exact cj.2 (by omega)
theorem axT {v:Int}{l:List UInt8}{s:List Int}(hl:l.length<=1073741824)(hs:s.length<=1073741824)(c:Int×Int):EV F0 c (v,tx l,s)=some ((aCX (WW c (v,l,s))).1,(aCX (WW c (v,l,s))).2,()):=by
 rw[aoI,apj (q:=(v,tx l,s)) hs,ai];dsimp only;rw[as0 hl hs,ai];unfold WW;dsimp only;cases hq:YI c (v,l,s) with
 |false=>rw[ah (fun h=>by cases h.2)];rfl
 |true =>
  rw[aL,aa,aD9 hq];by_cases h0:l=[]
  ·rw[aM h0,af,ah (fun h=>h.1 h0)];rfl
  ·rw[aQ h0,aa,ak ⟨h0,rfl⟩];rfl
def cF (c:Int×Int)(view:Int):Int:=if bO c=true/\0<=view then view%c.1 else -1
def WX (c:Int×Int)(view s:Int):Int:=if bO c=true/\0<=view/\0<=s/\s<=c.1-1 then (view%c.1+s)%c.1 else -1
def bW (c:Int×Int)(view i:Int):Int:=if bO c=true/\0<=view/\0<=i/\i<=c.1-1 then (i+c.1-view%c.1)%c.1 else -1
def QJ (c:Int×Int)(view i:Int):Int:=if bW c view i<=0 then -1 else WX c view ((bW c view i-1)/c.2)
theorem uM {a b:Int}(h:0<=a):Int.tmod a b=a%b:=al0 h
theorem ne0 {n:Int}(h:4<=n):(!(n==0))=true:=by rw[cj.2 (show n≠0 by omega)];rfl
theorem alP {lo hi x:Int}:iG lo hi x=decide (lo<=x/\x<=hi):=by unfold iG;by_cases h1:lo<=x<;>by_cases h2:x<=hi<;>simp[h1,h2]
theorem avE {n:Int}(h1:4<=n)(view:Int):0<=view%n/\view%n<n:=⟨al3 _ (by omega),al2 _ (by omega)⟩
theorem KZ (c:Int×Int)(view:Int):mL F0 c view=some (cF c view,()):=by
 rw[auO,jf,ai];unfold cF;cases hc:bO c with
 |false=>rfl
 |true =>
  have hn:=cP hc;by_cases hv:view<0
  ·rw[aM hv,ah (fun h=>by omega)];rfl
  ·rw[aQ hv,aL,aa,aa,ne0 hn.1,ae,ak ⟨rfl,by omega⟩,uM (by omega)]
theorem IZ (c:Int×Int)(view:Int):ti F0 c view=some (cF c view,()):=by
 rw[ave,gv,ai];unfold cF;cases hc:bO c with
 |false=>rfl
 |true =>
  have hn:=cP hc;by_cases hv:view<0
  ·rw[aM hv,ah (fun h=>by omega)];rfl
  ·rw[aQ hv,aL,aa,aa,ne0 hn.1,ae,ak ⟨rfl,by omega⟩,uM (by omega)]
theorem WY {n:Int}(h1:4<=n)(h2:n<=7):aj (n-1)=n-1:=aI (by omega) (by omega)
theorem aGA (c:Int×Int)(view s:Int):XC F0 c view s=some (WX c view s,()):=by
 rw[auS,jf,ai];unfold WX;cases hc:bO c with
 |false=>rfl
 |true =>
  have hn:=cP hc;have hm:=avE hn.1 view;by_cases hv:view<0
  ·rw[aM hv,ah (fun h=>by omega)];rfl
  ·rw[aQ hv,aL,aa,aa,dB,ai,WY hn.1 hn.2.1,alP];by_cases hs:0<=s/\s<=c.1-1
   ·rw[aM hs,aL,aa,ne0 hn.1,ae,ae,ak ⟨rfl,by omega,hs.1,hs.2⟩,uM (a:=view) (by omega),aI (by omega) (by omega),uM (by omega)]
   ·rw[aQ hs,ah (fun h=>hs ⟨h.2.2.1,h.2.2.2⟩)];rfl
theorem aEa (c:Int×Int)(view s:Int):XK F0 c view s=some (WX c view s,()):=by
 rw[avh,gv,ai];unfold WX;cases hc:bO c with
 |false=>rfl
 |true =>
  have hn:=cP hc;have hm:=avE hn.1 view;by_cases hv:view<0
  ·rw[aM hv,ah (fun h=>by omega)];rfl
  ·rw[aQ hv,aL,aa,aa,b9,ai,WY hn.1 hn.2.1,alP];by_cases hs:0<=s/\s<=c.1-1
   ·rw[aM hs,aL,aa,ne0 hn.1,ae,ae,ak ⟨rfl,by omega,hs.1,hs.2⟩,uM (a:=view) (by omega),aI (by omega) (by omega),uM (by omega)]
   ·rw[aQ hs,ah (fun h=>hs ⟨h.2.2.1,h.2.2.2⟩)];rfl
theorem WZ (c:Int×Int)(view i:Int):IT F0 c view i=some (bW c view i,()):=by
 rw[auR,jf,ai];unfold bW;cases hc:bO c with
 |false=>rfl
 |true =>
  have hn:=cP hc;have hm:=avE hn.1 view;by_cases hv:view<0
  ·rw[aM hv,ah (fun h=>by omega)];rfl
  ·rw[aQ hv,aL,aa,aa,dB,ai,WY hn.1 hn.2.1,alP];by_cases hs:0<=i/\i<=c.1-1
   ·rw[aM hs,aL,aa,ne0 hn.1,ae,ae,ak ⟨rfl,by omega,hs.1,hs.2⟩,uM (a:=view) (by omega),aI (n:=i+c.1) (by omega) (by omega),aI (by omega) (by omega),uM (by omega)]
   ·rw[aQ hs,ah (fun h=>hs ⟨h.2.2.1,h.2.2.2⟩)];rfl
theorem I0 (c:Int×Int)(view i:Int):IV F0 c view i=some (bW c view i,()):=by
 rw[avg,gv,ai];unfold bW;cases hc:bO c with
 |false=>rfl
 |true =>
  have hn:=cP hc;have hm:=avE hn.1 view;by_cases hv:view<0
  ·rw[aM hv,ah (fun h=>by omega)];rfl
  ·rw[aQ hv,aL,aa,aa,b9,ai,WY hn.1 hn.2.1,alP];by_cases hs:0<=i/\i<=c.1-1
   ·rw[aM hs,aL,aa,ne0 hn.1,ae,ae,ak ⟨rfl,by omega,hs.1,hs.2⟩,uM (a:=view) (by omega),aI (n:=i-view%c.1) (by omega) (by omega),aI (by omega) (by omega),uM (by omega),
     show i-view%c.1+c.1=i+c.1-view%c.1 by omega]
   ·rw[aQ hs,ah (fun h=>hs ⟨h.2.2.1,h.2.2.2⟩)];rfl
theorem XQ (c:Int×Int)(view i:Int):-1<=bW c view i/\bW c view i<=6:=by
 unfold bW;split
 ·rename_i h;have hn:=cP h.1;have h1:=al3 (i+c.1-view%c.1) (show c.1≠0 by omega);have h2:=al2 (i+c.1-view%c.1) (show 0<c.1 by omega);omega
 ·omega
theorem ajd {c:Int×Int}{view i:Int}(h:0<=bW c view i):bO c=true:=by
 unfold bW at h;split at h
 ·rename_i hh;exact hh.1
 ·omega
theorem aGB {a b:Int}(h1:0<=a)(h2:a<=6)(h3:1<=b):0<=a/b/\a/b<=6:=⟨Int.ediv_nonneg h1 (by omega),Int.le_trans (Int.ediv_le_self b h1) h2⟩
theorem aGC (c:Int×Int)(view i:Int):XD F0 c view i=some (QJ c view i,()):=by
 rw[aAk,WZ,ai];unfold QJ;have hs:=XQ c view i;by_cases h0:bW c view i<=0
 ·rw[aM (show(bW c view i,()).1<=0 from h0),af,ak h0]
 ·have hn:=cP (ajd (c:=c) (view:=view) (i:=i) (by omega));have hd:=aGB (a:=bW c view i-1) (b:=c.2) (by omega) (by omega) hn.2.2.1;rw[aQ (show ¬(bW c view i,()).1<=0 from h0),aa,ah h0,show(!(c.2==0))=true by rw[cj.2 (show c.2≠0 by omega)];rfl,ae];dsimp only;rw[aI (n:=bW c view i-1) (by omega) (by omega),ar1 (show 0<=bW c view i-1 by omega),aI (by omega) (by omega),aGA,ai]
theorem aCY (c:Int×Int)(view i:Int):XL F0 c view i=some (QJ c view i,()):=by
 rw[aAm,I0,ai];unfold QJ;have hs:=XQ c view i;by_cases h0:bW c view i<=0
 ·rw[aM (show(bW c view i,()).1<1 by show bW c view i<1;omega),af,ak h0]
 ·have hn:=cP (ajd (c:=c) (view:=view) (i:=i) (by omega));have hd:=aGB (a:=bW c view i-1) (b:=c.2) (by omega) (by omega) hn.2.2.1;rw[aQ (show ¬(bW c view i,()).1<1 by show ¬bW c view i<1;omega),aa,ah h0,show(!(c.2==0))=true by rw[cj.2 (show c.2≠0 by omega)];rfl,ae];dsimp only;rw[aI (n:=bW c view i-1) (by omega) (by omega),ar1 (show 0<=bW c view i-1 by omega),aI (by omega) (by omega),aEa,ai]
def as1 (a b:List Int):List Int:=b.foldl WU (a.foldl WU [])
theorem nC:∀(l out:List Int),(l.foldl WU out).length<=out.length+l.length
 |[],out=>by simp
 |x::l,out=>by have h1:=nC l (WU out x);have h2:=aph out x;rw[List.foldl_cons,bg];omega
theorem aEb (a b:List Int):(as1 a b).length<=a.length+b.length:=by unfold as1;have h1:=nC b (a.foldl WU []);have h2:=nC a [];rw[bB]at h2;omega
theorem XR {γ:Type}(X:Nat->Int->List Int->Option γ)(l out:List Int)(R:Option γ)(hlen:out.length+l.length<=1048576)(hs:∀n k xs (h:k<l.length),xs.length<=1048575->X (n+1) (k:Int) xs=X n ((k+1:Nat):Int) (WU xs l[k]))
  (he:∀n,X (n+1) (l.length:Int) (l.foldl WU out)=R) (n:Nat) (hn:l.length<n):X n 0 out=R:=by
 refine df X l.length (fun k xs=>xs=(l.take k).foldl WU out) R (fun n k xs hk h=>.inr ⟨WU xs l[k],hs n k xs hk ?_,?_⟩) (fun n xs h=>?_) n 0 out (aX _) rfl (by omega)
 ·have:=nC (l.take k) out;rw[h];rw[bQ]at this;omega
 ·rw[gj hk,List.foldl_append,<-h];rfl
 ·rw[nN]at h;rw[h];exact he n
theorem axU {a b:List Int}(h:a.length+b.length<=1048576):HI F0 a b=some (as1 a b,()):=by
 rw[akq];have hl:=nC a [];rw[bB]at hl;refine XR (fun n i xs=>y9 F0 (BP F0) n (sB a b i xs)) a [] _ (by rw[bB];omega) (fun n k xs hk hx=>?_) (fun n=>?_) _ (by rw[bT];omega)
 ·rw[Gs,aS hk,af,av hk,ae,bp hk,abH (by omega),ai,ao (by omega)]
 ·rw[Gs,aH,aa,abe];refine XR (fun n i xs=>y8 F0 (BO F0) n (sA b i xs)) b (a.foldl WU []) _ (by omega) (fun n k xs hk hx=>?_) (fun n=>?_) _ (by rw[bT];omega)
  ·rw[Gr,aS hk,af,av hk,ae,bp hk,abH (by omega),ai,ao (by omega)]
  ·rw[Gr,aH,aa,abd];rfl
theorem avF {a b:List Int}(h:a.length+b.length<=1048576):Ie F0 a b=some (as1 a b,()):=by
 rw[alg];have hl:=nC a [];rw[bB]at hl;refine XR (fun n i xs=>Ag F0 (Ce F0) n (tg b a (a.length:Int) i xs)) a [] _ (by rw[bB];omega) (fun n k xs hk hx=>?_) (fun n=>?_) _ (by rw[bT];omega)
 ·rw[GR,aS hk,af,av hk,ae,bp hk,ai9 (by omega),ai,ao (by omega)]
 ·rw[GR,aH,aa,abz];refine XR (fun n i xs=>Af F0 (Cd F0) n (tf b (b.length:Int) i xs)) b (a.foldl WU []) _ (by omega) (fun n k xs hk hx=>?_) (fun n=>?_) _ (by rw[bT];omega)
  ·rw[GQ,aS hk,af,av hk,ae,bp hk,ai9 (by omega),ai,ao (by omega)]
  ·rw[GQ,aH,aa,aby];rfl
theorem me {i n:Int}(h0:0<=i)(h:i<n):cc i n=true:=by simp[cc];omega
end Go.Am.Tryz
