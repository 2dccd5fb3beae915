/- Lemmas for the claim. No condition. -/
import Derived.Test.YtfapcfpkbahneaaGreatDoorQlVJG7
import Derived.Lib.MinMaxS
import Derived.Lib.CutLaws
import Derived.Lib.PathFns
import Derived.Lib.SplitLaws
import Derived.Test.YtfapcfpkbahneaaGreatDoorQlAmData
set_option linter.all false
namespace Go.Am.Tryz
open Go.Am
def I64 (n:Int):Prop:=-9223372036854775808≤n∧n≤9223372036854775807
theorem B2 {n:Int}(h:I64 n):kQ F0 n=some (tx (Lib.itoa n),()):=by
 rw[amq]
 by_cases hz:n=0
 ·subst hz
  simp only[abJ,af]
  congr 2
  simp[tx,Lib.itoa,Lib.decDigits]
 ·rw[show(n==0)=false from cp.2 hz,aa]
  have hD:(Lib.decDigits n.natAbs).length≤20:=by rw[Lib.decDigits_length];exact Lib.nDigits_le20 _ (by obtain⟨h1,h2⟩:=h;omega)
  refine aBO (fun m (x:Int×List UInt8)=>uc F0 (E7 F0) m (oS x.1 (decide (n<0)) (tx x.2))) _ (fun x=>I64 x.1∧aDt x.1.natAbs++x.2=Lib.decDigits n.natAbs) (fun x=>x.1.natAbs) (fun m x hx=>?_) _ (n,[]) ⟨h,?_⟩ ?_
  ·obtain⟨x,l⟩:=x
   obtain⟨⟨h1,h2⟩,h3⟩:=hx
   simp only at h1 h2 h3 ⊢
   have hl:l.length≤20:=by
    have:=AJ List.length h3
    rw[aM]at this
    omega
   by_cases hx0:x=0
   ·left
    subst hx0
    rw[I9]
    simp only[alw,aa,aco]
    rw[show aDt (Int.natAbs 0)=[] from rfl,AI]at h3
    subst h3
    by_cases hn:n<0
    ·rw[aL hn,af,iU (by rw[bP];have:(ByteArray.mk #[45]).size=1:=rfl;omega),ae,show ByteArray.mk #[45]=tx [45] from rfl,gJ]
     unfold Lib.itoa
     rw[ak hn]
     rfl
    ·rw[aR hn,aa]
     unfold Lib.itoa
     rw[ah hn,show n.natAbs=n.toNat by omega]
   ·right
    have aHD:x.natAbs%10<10:=Z1 _ (by omega)
    have aMx:(Int.tdiv x 10).natAbs=x.natAbs/10:=by rw[Int.natAbs_tdiv];rfl
    have hI:I64 (Int.tdiv x 10):=⟨by omega,by omega⟩
    have hr:=aFO (u:=x.natAbs) (by omega)
    have hw:aj (Int.tdiv x 10)=Int.tdiv x 10:=aH hI.1 hI.2
    refine⟨(Int.tdiv x 10,UInt8.ofNat (48+x.natAbs%10)::l),?_,⟨hI,?_⟩,?_⟩
    ·rw[I9,show(x != 0)=true from DO.2 hx0,af]
     have key:tx [UInt8.ofNat (48+x.natAbs%10)]++tx l=tx (UInt8.ofNat (48+x.natAbs%10)::l):=by rw[gJ];rfl
     have hsz:okC F0 (tx [UInt8.ofNat (48+x.natAbs%10)]).size (tx l).size=true:=iU (by rw[bP,bP];simp only[ba,bA];omega)
     by_cases aRA:x<0
     ·have hm:Int.tmod x 10=-((x.natAbs%10:Nat):Int):=by
       obtain⟨u,rfl⟩:∃u:Nat,x=-(u:Int):=⟨x.natAbs,by omega⟩
       rw[Int.neg_tmod,Int.natAbs_neg,Int.natAbs_natCast]
       rfl
      by_cases hz:x.natAbs%10=0
      ·rw[hm,hz,show decide (-((0:Nat):Int)<0)=false from rfl,aa,show(48+-((0:Nat):Int))=48+((0:Nat):Int) from rfl,dig (by omega)]
       rw[hz]at hsz key
       rw[hsz,ae,key,hw]
      ·rw[hm,aL (by omega),af,aH (n:=0 - -((x.natAbs%10:Nat):Int)) (by omega) (by omega),show(0:Int) - -((x.natAbs%10:Nat):Int)=((x.natAbs%10:Nat):Int) by omega,dig aHD,hsz,ae,key,hw]
     ·have hm:Int.tmod x 10=((x.natAbs%10:Nat):Int):=by
       obtain⟨u,rfl⟩:∃u:Nat,x=(u:Int):=⟨x.natAbs,by omega⟩
       rfl
      rw[hm,aR (by omega),aa,dig aHD,hsz,ae,key,hw]
    ·simp only
     rw[aMx,←h3,hr]
     simp
    ·simp only
     rw[aMx]
     omega
  ·simp only[gE]
   unfold aDt
   rw[ah (by omega)]
  ·simp only
   rw[ch]
   obtain⟨h1,h2⟩:=h
   omega
theorem P4 {n:Int}(h:I64 n):la F0 n=some (tx (Lib.itoa n),()):=by
 rw[anL]
 unfold strconv_Itoa
 rw[aL h.1,aL h.2]
 rfl
theorem Ra {n:Int}(h:I64 n):(Lib.itoa n).length≤21:=Lib.itoa_length_le n h.1 h.2
theorem agF {xs:List ByteArray}{l:List (List UInt8)}{s:List UInt8}(h:(xs.map fun b=>b.data.toList)=l)(h1:xs.length≤67108864)(h2:(Lib.join l s).length≤67108864):strings_Join F0 xs (tx s)=some (tx (Lib.join l s),()):=by
 have e1:decide ((xs.length:Int)≤F0.mem)=true:=aL (show((xs.length:Nat):Int)≤140737488355328 by omega)
 have e2:decide (((Lib.join l s).length:Int)≤F0.mem)=true:=aL (show(((Lib.join l s).length:Nat):Int)≤140737488355328 by omega)
 unfold strings_Join amj
 rw[h,iL,e1,e2]
 rfl
theorem Wg (a b:List UInt8):((tx a).toList==(tx b).toList)=decide (a=b):=by
 rw[Lib.toList_data,Lib.toList_data,iL,iL]
 by_cases h:a=b
 ·simp[h]
 ·simp[h]
theorem Xf (l:List UInt8)(k:Nat):lN (tx l) (k:Int)=((l.getD k 0).toNat:Int):=by
 unfold lN
 rw[iL]
 rfl
theorem auV (c:UInt8):c.toNat<256:=UInt8.toNat_lt c
def isD (c:UInt8):Bool:=decide (48≤c.toNat)&&decide (c.toNat≤57)
def val:List UInt8→Nat→Nat
 |[],n=>n
 |c::l,n=>val l (10*n+(c.toNat-48))
def gj (l:List UInt8):Int×Bool :=
 if l.length<1∨6<l.length then (0,false)
 else if l.all isD then (if Lib.itoa (val l 0:Int)=l then ((val l 0:Int),true) else (0,false)) else (0,false)
theorem aou (a b:List UInt8)(n:Nat):val (a++b) n=val b (val a n):=by
 induction a generalizing n with
 |nil=>rfl
 |cons c l ih=>exact ih _
theorem aKh {l:List UInt8}(h:∀c∈l,isD c=true)(n:Nat):val l n<(n+1)*10 ^ l.length:=by
 induction l generalizing n with
 |nil=>simp[val]
 |cons c l ih =>
  have h1:=ih (fun d hd=>h d (pW _ hd)) (10*n+(c.toNat-48))
  have h2:=h c IL
  simp only[isD,aJ,cH]at h2
  refine DM h1 ?_
  rw[ba,Nat.pow_succ]
  have h3:10*n+(c.toNat-48)+1≤(n+1)*10:=by omega
  calc (10*n+(c.toNat-48)+1)*10 ^ l.length≤((n+1)*10)*10 ^ l.length:=FR _ h3
   _=(n+1)*(10 ^ l.length*10):=by rw[Nat.mul_assoc,Nat.mul_comm 10]
theorem aF8 {l:List UInt8}{k:Nat}(h:k<l.length):val (l.take (k+1)) 0=10*val (l.take k) 0+((l.getD k 0).toNat-48):=by
 rw[KW,bp h 0,aou]
 rfl
theorem agG {l:List UInt8}(h6:l.length≤6)(h:∀c∈l,isD c=true):val l 0≤999999:=by
 have h1:=aKh h 0
 have h2:10 ^ l.length≤10 ^ 6:=Nat.pow_le_pow_right (by omega) h6
 omega
theorem aov (l:List UInt8):0≤(gj l).1∧(gj l).1≤999999:=by
 unfold gj
 split
 ·simp
 ·split
  ·rename_i h1 h2
   have:=agG (l:=l) (by omega) (fun c hc=>kj.1 h2 c hc)
   split
   ·simp only
    omega
   ·simp
  ·simp
theorem axa {l:List UInt8}(h1:1≤l.length)(h6:l.length≤6){X:Nat→Int→Int→Option (Int×(Bool×Unit))}{D:Int→Option (ByteArray×Unit)}(hD:∀n,I64 n→D n=some (tx (Lib.itoa n),()))
  (hs:∀n k (m:Nat),k<l.length→m≤999999→X (n+1) m k=br (decide (((l.getD k 0).toNat:Int)<48)) (some (0,false,())) (br (decide (((l.getD k 0).toNat:Int)>57)) (some (0,false,())) (X n (aj (aj (10*m)+aj ((l.getD k 0).toNat-48))) ((k+1:Nat):Int))))
  (he:∀n (m:Nat),X (n+1) m l.length=(D m).bind fun r=>br (!(r.1.toList==(tx l).toList)) (some (0,false,())) (some ((m:Int),true,()))) (n:Nat) (hn:6<n):X n 0 0=some ((gj l).1,(gj l).2,()):=by
 refine dp (fun n i (m:Nat)=>X n m i) l.length (fun k m=>m=val (l.take k) 0∧∀c∈l.take k,isD c=true) _ (fun n k m hk hI=>?_) (fun n m hI=>?_) n 0 0 (aV _) ⟨rfl,by simp⟩ (by omega)
 ·obtain⟨rfl,nQ⟩:=hI
  have hsm:=agG (l:=l.take k) (by rw[bQ];omega) nQ
  have Ba:=oQ hk (0:UInt8)
  have hb:=auV (l.getD k 0)
  rw[hs n k _ hk hsm]
  by_cases h48:(l.getD k 0).toNat<48
  ·left
   rw[aL (by omega),af]
   have:l.all isD=false:=by
    rw[ary]
    exact⟨_,Ba,fun h=>by simp only[isD,aJ,cH]at h;omega⟩
   unfold gj
   rw[ah (by omega),this]
   rfl
  ·by_cases h57:(l.getD k 0).toNat>57
   ·left
    rw[aR (by omega),aa,aL (by omega),af]
    have:l.all isD=false:=by
     rw[ary]
     exact⟨_,Ba,fun h=>by simp only[isD,aJ,cH]at h;omega⟩
    unfold gj
    rw[ah (by omega),this]
    rfl
   ·right
    refine⟨val (l.take (k+1)) 0,?_,rfl,?_⟩
    ·rw[aR (by omega),aa,aR (by omega),aa,aF8 hk,aH (n:=10*_) (by omega) (by omega),aH (n:=((l.getD k 0).toNat:Int)-48) (by omega) (by omega),aH (by omega) (by omega)]
     congr 1
     omega
    ·intro c hc
     rw[KW,bp hk 0]at hc
     rcases kI.1 hc with hc|hc
     ·exact nQ c hc
     ·simp only[alv,lZ]at hc
      subst hc
      simp only[isD,aJ,cH]
      omega
 ·obtain⟨rfl,nQ⟩:=hI
  rw[nF]at nQ ⊢
  have hsm:=agG h6 nQ
  rw[he,hD _ ⟨by omega,by omega⟩,ai,Wg]
  unfold gj
  rw[ah (by omega),ak (kj.2 nQ)]
  by_cases hit:Lib.itoa (val l 0:Int)=l
  ·rw[aL hit,ak hit]
   rfl
  ·rw[aR hit,ah hit]
   rfl
theorem B3 (l:List UInt8):nH F0 (tx l)=some ((gj l).1,(gj l).2,()):=by
 rw[amr,bP]
 by_cases h1:l.length<1
 ·rw[aL (by omega),af]
  unfold gj
  rw[ak (.inl h1)]
 ·rw[aR (by omega),aa]
  by_cases h6:6<l.length
  ·rw[aL (by omega),af]
   unfold gj
   rw[ak (.inr h6)]
  ·rw[aR (by omega),aa]
   refine axa (X:=fun n m k=>Cq F0 (uM F0) n (uL (tx l) m k)) (by omega) (by omega) (fun n hn=>B2 hn) (fun n k m hk hm=>?_) (fun n m=>?_) _ (by rw[ch];omega)
   ·have hb:=auV (l.getD k 0)
    rw[Jb]
    simp only[bP,Xf,afd,aW hk,av hk,af,ae,ao (show k+1≤9223372036854775807 by omega)]
    congr 2
    congr 2
    rw[aH (n:=10*(m:Int)) (by omega) (by omega),aH (n:=((l.getD k 0).toNat:Int)) (by omega) (by omega),aH (n:=10*(m:Int)+((l.getD k 0).toNat:Int)) (by omega) (by omega),aH (n:=((l.getD k 0).toNat:Int)-48) (by omega) (by omega)]
    congr 1
    omega
   ·rw[Jb]
    simp only[bP,aI,aa,acp]
theorem EO (l:List UInt8):nK F0 (tx l)=some ((gj l).1,(gj l).2,()):=by
 rw[anM,bP]
 by_cases h1:l.length<1
 ·rw[aL (by omega),af]
  unfold gj
  rw[ak (.inl h1)]
 ·rw[aR (by omega),aa]
  by_cases h6:6<l.length
  ·rw[aL (by omega),af]
   unfold gj
   rw[ak (.inr h6)]
  ·rw[aR (by omega),aa]
   refine axa (X:=fun n m k=>C9 F0 (vJ F0) n (vI (tx l) m k)) (by omega) (by omega) (fun n hn=>P4 hn) (fun n k m hk hm=>?_) (fun n m=>?_) _ (by rw[ch];omega)
   ·have hb:=auV (l.getD k 0)
    rw[JW]
    simp only[bP,Xf,afU,aW hk,av hk,af,ae,ao (show k+1≤9223372036854775807 by omega)]
    by_cases h48:(l.getD k 0).toNat<48
    ·rw[aL (by omega),af,af]
    ·rw[IntWalk.u8_in _ (by omega)]
   ·rw[JW]
    simp only[bP,aI,aa,ac5]
theorem aow (l:List UInt8)(k:Nat):(tx l).extract 0 k=tx (l.take k):=by
 rw[ahK ((tx l).extract 0 k),Lib.Pa.extract_upto_list,iL]
theorem extract_from (l:List UInt8)(k:Nat):(tx l).extract k (tx l).size=tx (l.drop k):=by
 rw[ahK ((tx l).extract k (tx l).size),Lib.extract_to_end,iL]
theorem aox {a b:List UInt8}{c:UInt8}(h:c ∉ a):(a++c::b).takeWhile (· != c)=a∧(a++c::b).dropWhile (· != c)=c::b:=by
 induction a with
 |nil=>simp
 |cons x a ih =>
  have hx:(x != c)=true:=by simp;rintro rfl;simp at h
  have:=ih fun h'=>h (pW _ h')
  rw[FT,List.takeWhile_cons,List.dropWhile_cons,hx]
  exact⟨by simp[this.1],by simp[this.2]⟩
theorem aJs {a:List UInt8}{c:UInt8}(h:c ∉ a):a.takeWhile (· != c)=a∧a.dropWhile (· != c)=[]:=by
 induction a with
 |nil=>simp
 |cons x a ih =>
  have hx:(x != c)=true:=by simp;rintro rfl;simp at h
  have:=ih fun h'=>h (pW _ h')
  rw[List.takeWhile_cons,List.dropWhile_cons,hx]
  exact⟨by simp[this.1],by simp[this.2]⟩
theorem axb {l:List UInt8}{k:Nat}(h:k<l.length):l=l.take k++l.getD k 0::l.drop (k+1):=by
 have:l.getD k 0=l[k]:=by simp[List.getD,h]
 rw[this,List.getElem_cons_drop,as2]
theorem aso {l:List UInt8}(c:UInt8)(hl:l.length≤4294967296) :
  iV F0 (tx l) (c.toNat:Int)=some (if c∈l then (tx (l.takeWhile (· != c)),tx ((l.dropWhile (· != c)).drop 1),true,()) else (tx [],tx [],false,())):=by
 rw[aqm]
 refine dp (fun n i (_:Unit)=>GX F0 (yf F0) n (ye (tx l) (c.toNat:Int) i)) l.length (fun k _=>c ∉ l.take k) _ (fun n k _ hk hI=>?_) (fun n _ hI=>?_) F0.n 0 () (aV _) (by simp) (by rw[ch];omega)
 ·rw[Lf,bP,aW hk,af,av hk,ae,Xf]
  by_cases hc:l.getD k 0=c
  ·left
   have hs:=axb hk
   rw[hc]at hs
   have ht:=aox (b:=l.drop (k+1)) hI
   have h1:((((l.getD k 0).toNat:Int))==(c.toNat:Int))=true:=by rw[hc];simp
   have h2:RN 0 (k:Int) (l.length:Int)=true:=by simp[RN];omega
   have h3:RN ((k+1:Nat):Int) (l.length:Int) (l.length:Int)=true:=by simp only[RN,aJ,cH];omega
   rw[h1,af,h2,ae,ao (by omega),h3,ae,ajf]
   simp only[kH,show(0:Int).toNat=0 from rfl]
   have hm:c∈l:=by rw[hs];simp
   rw[ak hm,aow,show((tx l).extract (k+1) l.length)=tx (l.drop (k+1)) by rw[←extract_from,bP]]
   have e1:l.takeWhile (· != c)=l.take k:=by
    have:=ht.1
    rwa [←hs]at this
   have e2:(l.dropWhile (· != c)).drop 1=l.drop (k+1):=by
    have:=ht.2
    rw[←hs]at this
    rw[this]
    rfl
   rw[e1,e2]
  ·right
   have h1:((((l.getD k 0).toNat:Int))==(c.toNat:Int))=false:=by
    refine cp.2 fun h=>hc (UInt8.toNat_inj.1 (by omega))
   refine⟨(),by rw[h1,aa,ao (by omega)],?_⟩
   rw[KW,bp hk 0]
   simp only[alv,kI,lZ]
   rintro(h|h)
   ·exact hI h
   ·exact hc h.symm
 ·rw[nF]at hI
  rw[Lf,bP,aI,aa,afc,ah hI]
  rfl
theorem adT {a b:List UInt8}{c:UInt8}(h:c ∉ a):Lib.indexByte (a++c::b) c=a.length:=by
 induction a with
 |nil=>simp[Lib.indexByte]
 |cons x a ih =>
  have hx:(x==c)=false:=by simp;rintro rfl;simp at h
  have:=ih fun h'=>h (pW _ h')
  rw[FT]
  unfold Lib.indexByte
  rw[hx,this]
  simp
theorem adU {a:List UInt8}{c:UInt8}(h:c ∉ a):Lib.indexByte a c=-1:=by
 induction a with
 |nil=>rfl
 |cons x a ih =>
  have hx:(x==c)=false:=by simp;rintro rfl;simp at h
  have:=ih fun h'=>h (pW _ h')
  unfold Lib.indexByte
  rw[hx,this]
  rfl
theorem adV {l:List UInt8}{c:UInt8}(h:c∈l):∃a b,l=a++c::b∧c ∉ a:=by
 induction l with
 |nil=>cases h
 |cons x l ih =>
  by_cases hx:x=c
  ·exact⟨[],l,by rw[hx];rfl,by simp⟩
  ·rcases gU.1 h with h'|h'
   ·exact absurd h'.symm hx
   ·obtain⟨a,b,h1,h2⟩:=ih h'
    exact⟨x::a,b,by rw[h1];rfl,fun h3=>by
     rcases gU.1 h3 with h4|h4
     ·exact hx h4.symm
     ·exact h2 h4⟩
theorem aH2 (l:List UInt8)(c:UInt8):Lib.cut l [c]=(l.takeWhile (· != c),(l.dropWhile (· != c)).drop 1,decide (c∈l)):=by
 unfold Lib.cut
 rw[Lib.index_one]
 by_cases h:c∈l
 ·obtain⟨a,b,rfl,h2⟩:=adV h
  rw[adT h2,ak (by omega),(aox h2).1,(aox h2).2]
  simp[as8,List.drop_append]
 ·rw[adU h,ah (by omega),(aJs h).1,(aJs h).2]
  simp[h]
theorem wx {l:List UInt8}(c:UInt8)(hl:l.length<4294967281):strings_Cut F0 (tx l) (tx [c])=some (tx (l.takeWhile (· != c)),tx ((l.dropWhile (· != c)).drop 1),decide (c∈l),()):=by
 have h:Nat.blt (tx l).size 4294967281=true:=by rw[bP];simpa using hl
 unfold strings_Cut
 rw[h,ae,iL,iL,aH2]
 rfl
abbrev fy:=Int×(Int×(Int×Int))
theorem adW (x lo hi:Int):bZ F0 x lo hi=some (decide (lo≤x)&&decide (x≤hi),()):=by
 rw[aua]
 by_cases h:lo≤x
 ·rw[aL (show x≥lo from h),af,jB]
 ·rw[aR (show ¬x≥lo from h),aa,X9]
theorem Rb (x lo hi:Int):bd F0 x lo hi=some (decide (lo≤x)&&decide (x≤hi),()):=by
 rw[anJ]
 by_cases h:lo≤x
 ·rw[aL (show x≥lo from h),af,jB]
 ·rw[aR (show ¬x≥lo from h),aa,X9]
def inB (x lo hi:Int):Bool:=decide (lo≤x)&&decide (x≤hi)
def iG (x:fy):Bool:=inB x.1 0 3&&inB x.2.1 0 3&&inB x.2.2.1 0 1000&&inB x.2.2.2 0 99
theorem azR (a b:Bool):br a (some (b,())) (some (false,()))=some (a&&b,()):=by cases a<;>rfl
theorem P5 (x:fy):rY F0 x=some (iG x,()):=by
 rw[aub]
 simp only[adW,ai,azR]
 simp only[iG,inB,Bool.and_assoc]
theorem B4 (x:fy):pH F0 x=some (iG x,()):=by
 rw[auu]
 simp only[Rb,ai,azR]
 simp only[iG,inB,Bool.and_assoc]
theorem xE {x:fy}(h:iG x=true):(0≤x.1∧x.1≤3)∧(0≤x.2.1∧x.2.1≤3)∧(0≤x.2.2.1∧x.2.2.1≤1000)∧(0≤x.2.2.2∧x.2.2.2≤99):=by
 simp only[iG,inB,aJ,cH]at h
 exact⟨h.1.1.1,h.1.1.2,h.1.2,h.2⟩
def txL (x:fy):List UInt8:=Lib.itoa x.1++62::(Lib.itoa x.2.1++58::(Lib.itoa x.2.2.1++35::Lib.itoa x.2.2.2))
theorem aoy {x:fy}(h:iG x=true):(txL x).length≤90:=by
 obtain⟨h1,h2,h3,h4⟩:=xE h
 have e1:=Ra (n:=x.1) ⟨by omega,by omega⟩
 have e2:=Ra (n:=x.2.1) ⟨by omega,by omega⟩
 have e3:=Ra (n:=x.2.2.1) ⟨by omega,by omega⟩
 have e4:=Ra (n:=x.2.2.2) ⟨by omega,by omega⟩
 simp only[txL,aM,ba]
 omega
def aa2 (x:fy):List UInt8:=if iG x=true then txL x else []
theorem aoz (x:fy):xf F0 x=some (tx (aa2 x),()):=by
 rw[ams,P5,ai]
 unfold aa2
 cases h:iG x with
 |false=>rfl
 |true =>
  obtain⟨h1,h2,h3,h4⟩:=xE h
  have d1:=B2 (n:=x.1) ⟨by omega,by omega⟩
  have d2:=B2 (n:=x.2.1) ⟨by omega,by omega⟩
  have d3:=B2 (n:=x.2.2.1) ⟨by omega,by omega⟩
  have d4:=B2 (n:=x.2.2.2) ⟨by omega,by omega⟩
  have e:=aoy h
  simp only[txL,aM,ba]at e
  simp only[aK,aa,d1,d2,d3,d4,ai,show ByteArray.mk #[62]=tx [62] from rfl,show ByteArray.mk #[58]=tx [58] from rfl,show ByteArray.mk #[35]=tx [35] from rfl,gJ,bP]
  rw[iU (by simp only[aM,ba,bA];omega),ae,iU (by simp only[aM,ba,bA];omega),ae,iU (by simp only[aM,ba,bA];omega),ae,iU (by simp only[aM,ba,bA];omega),ae,iU (by simp only[aM,ba,bA];omega),ae,iU (by simp only[aM,ba,bA];omega),ae]
  simp[txL]
theorem aiv (x:fy):Es F0 x=some (tx (aa2 x),()):=by
 rw[anN,B4,ai]
 unfold aa2
 cases h:iG x with
 |false=>rfl
 |true =>
  obtain⟨h1,h2,h3,h4⟩:=xE h
  have d1:=P4 (n:=x.1) ⟨by omega,by omega⟩
  have d2:=P4 (n:=x.2.1) ⟨by omega,by omega⟩
  have d3:=P4 (n:=x.2.2.1) ⟨by omega,by omega⟩
  have d4:=P4 (n:=x.2.2.2) ⟨by omega,by omega⟩
  have e:=aoy h
  simp only[txL,aM,ba]at e
  simp only[aK,aa,d1,d2,d3,d4,ai,show ByteArray.mk #[62]=tx [62] from rfl,show ByteArray.mk #[58]=tx [58] from rfl,show ByteArray.mk #[35]=tx [35] from rfl,gJ,bP]
  rw[iU (by simp only[aM,ba,bA];omega),ae,iU (by simp only[aM,ba,bA];omega),ae,iU (by simp only[aM,ba,bA];omega),ae,iU (by simp only[aM,ba,bA];omega),ae,iU (by simp only[aM,ba,bA];omega),ae,iU (by simp only[aM,ba,bA];omega),ae]
  simp[txL]
theorem aCv (u:Nat):∀c∈Lib.decDigits u,isD c=true:=by
 induction u using Nat.strongRecOn with
 |ind u ih =>
  intro c hc
  rw[Lib.decDigits]at hc
  have key:∀v:Nat,v<10→isD (UInt8.ofNat (48+v))=true:=fun v hv=>by
   have:(UInt8.ofNat (48+v)).toNat=48+v:=by rw[UInt8.toNat_ofNat'];omega
   simp only[isD,this,aJ,cH]
   omega
  by_cases Qr:u<10
  ·rw[dif_pos Qr,lZ]at hc
   rw[hc]
   exact key u Qr
  ·rw[dif_neg Qr]at hc
   rcases kI.1 hc with hc|hc
   ·exact ih (u/10) (by omega) c hc
   ·rw[lZ]at hc
    rw[hc]
    exact key _ (Z1 _ (by omega))
theorem aH3 (u:Nat):val (Lib.decDigits u) 0=u:=by
 induction u using Nat.strongRecOn with
 |ind u ih =>
  have key:∀v:Nat,v<10→(UInt8.ofNat (48+v)).toNat=48+v:=fun v hv=>by rw[UInt8.toNat_ofNat'];omega
  rw[Lib.decDigits]
  by_cases Qr:u<10
  ·rw[dif_pos Qr]
   simp only[val,key u Qr]
   omega
  ·rw[dif_neg Qr,aou,ih (u/10) (by omega)]
   simp only[val,key (u%10) (Z1 _ (by omega))]
   omega
theorem aH4 {k:Nat}:∀{u:Nat},u<10 ^ (k+1)→1≤(Lib.decDigits u).length∧(Lib.decDigits u).length≤k+1:=by
 induction k with
 |zero =>
  intro u hu
  rw[Lib.decDigits,dif_pos (by omega)]
  simp
 |succ k ih =>
  intro u hu
  rw[Lib.decDigits]
  by_cases Qr:u<10
  ·rw[dif_pos Qr]
   simp
  ·rw[dif_neg Qr]
   have:=ih (u:=u/10) (by rw[Nat.pow_succ]at hu;omega)
   rw[aM,dU]
   omega
theorem aoA (u:Nat):Lib.itoa (u:Int)=Lib.decDigits u:=Lib.itoa_nonneg u
theorem xF {n:Int}(h0:0≤n)(h1:n≤999999):gj (Lib.itoa n)=(n,true):=by
 obtain⟨u,rfl⟩:∃u:Nat,n=u:=⟨n.toNat,by omega⟩
 rw[aoA]
 have hl:=aH4 (k:=5) (u:=u) (by omega)
 unfold gj
 rw[ah (by omega),ak (kj.2 (aCv u)),aH3,aoA,ak rfl]
theorem agJ {n:Int}(h0:0≤n){c:UInt8}(hc:isD c=false):c ∉ Lib.itoa n:=by
 obtain⟨u,rfl⟩:∃u:Nat,n=u:=⟨n.toNat,by omega⟩
 rw[aoA]
 intro h
 rw[aCv u c h]at hc
 cases hc
def Au (l:List UInt8)(c:UInt8):List UInt8×List UInt8:=if c∈l then (l.takeWhile (· != c),(l.dropWhile (· != c)).drop 1) else ([],[])
def fw (l:List UInt8)(c:UInt8):List UInt8×List UInt8:=(l.takeWhile (· != c),(l.dropWhile (· != c)).drop 1)
def agK (l:List UInt8):fy:=((gj (Au l 62).1).1,(gj (Au (Au l 62).2 58).1).1,(gj (Au (Au (Au l 62).2 58).2 35).1).1,(gj (Au (Au (Au l 62).2 58).2 35).2).1)
def azS (l:List UInt8):fy:=((gj (fw l 62).1).1,(gj (fw (fw l 62).2 58).1).1,(gj (fw (fw (fw l 62).2 58).2 35).1).1,(gj (fw (fw (fw l 62).2 58).2 35).2).1)
theorem auW {a b:List UInt8}{c:UInt8}(h:c ∉ a):Au (a++c::b) c=(a,b):=by
 unfold Au
 rw[ak (by simp),(aox h).1,(aox h).2]
 rfl
theorem auX {a b:List UInt8}{c:UInt8}(h:c ∉ a):fw (a++c::b) c=(a,b):=by
 unfold fw
 rw[(aox h).1,(aox h).2]
 rfl
theorem aF9 {x:fy}(h:iG x=true):agK (txL x)=x:=by
 obtain⟨h1,h2,h3,h4⟩:=xE h
 unfold agK txL
 rw[auW (agJ h1.1 (by decide)),auW (agJ h2.1 (by decide)),auW (agJ h3.1 (by decide))]
 simp only[xF h1.1 (by omega),xF h2.1 (by omega),xF h3.1 (by omega),xF h4.1 (by omega)]
theorem axc {x:fy}(h:iG x=true):azS (txL x)=x:=by
 obtain⟨h1,h2,h3,h4⟩:=xE h
 unfold azS txL
 rw[auX (agJ h1.1 (by decide)),auX (agJ h2.1 (by decide)),auX (agJ h3.1 (by decide))]
 simp only[xF h1.1 (by omega),xF h2.1 (by omega),xF h3.1 (by omega),xF h4.1 (by omega)]
def X3 (l:List UInt8):fy×Bool:=if iG (agK l)=true∧txL (agK l)=l then (agK l,true) else ((0,0,0,0),false)
theorem axd (l:List UInt8)(c:UInt8):((l.dropWhile (· != c)).drop 1).length≤l.length:=by
 rw[bo]
 have:=(List.dropWhile_sublist (l:=l) (· != c)).length_le
 omega
theorem auY (l:List UInt8)(c:UInt8):(Au l c).2.length≤l.length:=by
 unfold Au
 split
 ·exact axd l c
 ·simp
theorem ald (l:List UInt8)(c:UInt8):(fw l c).2.length≤l.length:=axd l c
theorem aoB {l:List UInt8}(c:UInt8)(hl:l.length≤4294967296):∃b,iV F0 (tx l) (c.toNat:Int)=some (tx (Au l c).1,tx (Au l c).2,b,()):=by
 rw[aso c hl]
 unfold Au
 split
 ·exact⟨_,rfl⟩
 ·exact⟨_,rfl⟩
theorem aGa {l:List UInt8}(hl:l.length≤4294967280):W0 F0 (tx l)=some ((X3 l).1,(X3 l).2,()):=by
 obtain⟨b1,e1⟩:=aoB (l:=l) 62 (by omega)
 obtain⟨b2,e2⟩:=aoB (l:=(Au l 62).2) 58 (by have:=auY l 62;omega)
 obtain⟨b3,e3⟩:=aoB (l:=(Au (Au l 62).2 58).2) 35 (by have:=auY l 62;have:=auY (Au l 62).2 58;omega)
 rw[auc]
 rw[show iV F0 (tx l) 62=_ from e1,ai,show iV F0 _ 58=_ from e2,ai,show iV F0 _ 35=_ from e3,ai,B3,ai,B3,ai,B3,ai,B3,ai,show al=tx [] from rfl,Wg]
 have hp:((gj (Au l 62).1).1,(gj (Au (Au l 62).2 58).1).1,(gj (Au (Au (Au l 62).2 58).2 35).1).1,(gj (Au (Au (Au l 62).2 58).2 35).2).1)=agK l:=rfl
 simp only[hp,aoz,ai,Wg]
 unfold X3 aa2
 by_cases dS:iG (agK l)=true
 ·rw[ak dS]
  by_cases ht:txL (agK l)=l
  ·have hne:¬l=[]:=by
    rw[←ht]
    simp[txL]
   rw[ak ⟨dS,ht⟩,aR hne,aa,aL ht]
   rfl
  ·rw[ah (fun h=>ht h.2),aR ht]
   cases decide (l=[])<;>rfl
 ·rw[ah dS,ah (fun h=>dS h.1)]
  by_cases hne:l=[]
  ·rw[aL hne]
   rfl
  ·rw[aR hne,aa,aR (fun h=>hne h.symm)]
   rfl
theorem aDI {l:List UInt8}(hl:l.length<4294967281):W8 F0 (tx l)=some ((X3 l).1,(X3 l).2,()):=by
 have e1:=wx (l:=l) 62 hl
 have h2:=ald l 62
 have h3:=ald (fw l 62).2 58
 have e2:=wx (l:=(fw l 62).2) 58 (by omega)
 have e3:=wx (l:=(fw (fw l 62).2 58).2) 35 (by omega)
 rw[auv]
 rw[show ByteArray.mk #[62]=tx [62] from rfl,e1,ai,show ByteArray.mk #[58]=tx [58] from rfl]
 rw[show strings_Cut F0 (tx ((l.dropWhile (· != 62)).drop 1)) (tx [58])=_ from e2,ai,show ByteArray.mk #[35]=tx [35] from rfl]
 rw[show strings_Cut F0 (tx (((fw l 62).2.dropWhile (· != 58)).drop 1)) (tx [35])=_ from e3,ai]
 have n0:=fun (a b c d:ByteArray)=>(show aP [a,b,c,d] 0 ByteArray.empty=a from rfl)
 have n1:=fun (a b c d:ByteArray)=>(show aP [a,b,c,d] 1 ByteArray.empty=b from rfl)
 have n2:=fun (a b c d:ByteArray)=>(show aP [a,b,c,d] 2 ByteArray.empty=c from rfl)
 have n3:=fun (a b c d:ByteArray)=>(show aP [a,b,c,d] 3 ByteArray.empty=d from rfl)
 rw[show cl 0 4=true from rfl,ae,n0,EO,ai,show cl 1 4=true from rfl,ae,n1,EO,ai,show cl 2 4=true from rfl,ae,n2,EO,ai,show cl 3 4=true from rfl,ae,n3,EO,ai]
 have hp:((gj (l.takeWhile (· != 62))).1,(gj ((fw l 62).2.takeWhile (· != 58))).1,(gj ((fw (fw l 62).2 58).2.takeWhile (· != 35))).1,(gj (((fw (fw l 62).2 58).2.dropWhile (· != 35)).drop 1)).1)=azS l:=rfl
 simp only[hp,B4,aiv,ai,Wg]
 unfold X3 aa2
 by_cases dS:iG (azS l)=true
 ·rw[ak dS,dS]
  by_cases ht:txL (azS l)=l
  ·have hpe:agK l=azS l:=by
    have:=aF9 dS
    rw[ht]at this
    exact this
   rw[hpe,ak ⟨dS,ht⟩,aL ht]
   rfl
  ·have:¬(iG (agK l)=true∧txL (agK l)=l):=by
    rintro⟨q1,q2⟩
    have:=axc q1
    rw[q2]at this
    rw[this]at ht
    exact ht q2
   rw[ah this,aR ht]
   rfl
 ·have:¬(iG (agK l)=true∧txL (agK l)=l):=by
   rintro⟨q1,q2⟩
   have:=axc q1
   rw[q2]at this
   rw[this]at dS
   exact dS q1
  rw[ah this]
  have hf:iG (azS l)=false:=by simpa using dS
  rw[hf]
  rfl
theorem aGb (l:List UInt8):iG (X3 l).1=true:=by
 unfold X3
 split
 ·rename_i h1
  exact h1.1
 ·rfl
def parts (c:UInt8):List UInt8→List (List UInt8)
 |[]=>[[]]
 |x::l=>if x=c then []::parts c l else match parts c l with
  |p::ps=>(x::p)::ps
  |[]=>[[x]]
theorem EP (c:UInt8)(l:List UInt8):parts c l≠[]:=by
 cases l with
 |nil=>simp[parts]
 |cons x l =>
  unfold parts
  split
  ·simp
  ·split<;>simp
theorem aoC {c:UInt8}{a:List UInt8}(h:c ∉ a):parts c a=[a]:=by
 induction a with
 |nil=>rfl
 |cons x a ih =>
  have hx:¬x=c:=by rintro rfl;simp at h
  unfold parts
  rw[ah hx,ih fun h'=>h (pW _ h')]
theorem axe {c:UInt8}{a b:List UInt8}(h:c ∉ a):parts c (a++c::b)=a::parts c b:=by
 induction a with
 |nil =>
  rw[AI]
  conv=>lhs;unfold parts
  rw[ak rfl]
 |cons x a ih =>
  have hx:¬x=c:=by rintro rfl;simp at h
  rw[FT]
  conv=>lhs;unfold parts
  rw[ah hx,ih fun h'=>h (pW _ h')]
theorem ID (c:UInt8)(l:List UInt8):(parts c l).length≤l.length+1:=by
 induction l with
 |nil=>simp[parts]
 |cons x l ih =>
  unfold parts
  split
  ·simp only[ba]
   omega
  ·split
   ·rename_i p ps h
    rw[h]at ih
    simp only[ba]at ih ⊢
    omega
   ·simp
theorem B5 {c:UInt8}:∀{l p:List UInt8},p∈parts c l→p.length≤l.length
 |[],p,h=>by
  simp only[parts,lZ]at h
  rw[h]
  simp
 |x::l,p,h=>by
  unfold parts at h
  split at h
  ·rcases gU.1 h with rfl|h
   ·simp
   ·have:=B5 h
    simp only[ba]
    omega
  ·split at h
   ·rename_i q qs hq
    rcases gU.1 h with rfl|h
    ·have:=B5 (c:=c) (l:=l) (p:=q) (by rw[hq];simp)
     simp only[ba]
     omega
    ·have:=B5 (c:=c) (l:=l) (p:=p) (by rw[hq];simp[h])
     simp only[ba]
     omega
   ·rw[lZ]at h
    rw[h]
    simp
theorem Wh (l:List UInt8)(a b:Nat):(tx l).extract a b=tx ((l.drop a).take (b-a)):=by
 rw[ahK ((tx l).extract a b),Lib.extract_data,iL]
theorem asp {l:List UInt8}(c:UInt8)(hl:l.length≤4294967296):wB F0 (tx l) (c.toNat:Int)=some ((parts c l).map tx,()):=by
 have hpl:=ID c l
 rw[aql]
 refine dp (fun n i (z:Nat×List ByteArray)=>rX F0 (I6 F0) n (mo (tx l) (c.toNat:Int) (z.1:Int) i z.2)) (l.length+1)
  (fun k z=>if k≤l.length then ∃done:List (List UInt8),z.2=done.map tx∧parts c l=done++parts c (l.drop z.1)∧z.1≤k∧c ∉ (l.drop z.1).take (k-z.1) else z.2=(parts c l).map tx) _ (fun n k z hk hI=>.inr ?_) (fun n z hI=>?_) F0.n 0 (0,[]) (aV _) ?_ (by rw[ch];omega)
 ·obtain⟨eX,xs⟩:=z
  rw[ak (by omega)]at hI
  obtain⟨done,rfl,hd,hf,hno⟩:=hI
  simp only at hd hf hno
  have hdl:done.length+1≤l.length+1:=by
   have h1:=AJ List.length hd
   have h2:0<(parts c (l.drop eX)).length:=List.length_pos_iff.2 (EP c _)
   rw[aM]at h1
   omega
  have hle:decide ((k:Int)≤(l.length:Int))=true:=aL (by omega)
  rw[Le,bP,hle,af]
  have hos:RN (eX:Int) (k:Int) (l.length:Int)=true:=by simp only[RN,aJ,cH];omega
  have hoa:∀b:ByteArray,fg F0 (done.map tx).length [b].length 16=true:=fun b=>az (by omega) (by omega) (by rw[tZ];simp only[ba,bA];omega)
  simp only[kH,Wh,hos,hoa,ae,ao (show k+1≤9223372036854775807 by omega)]
  by_cases azT:k=l.length
  ·subst azT
   rw[abJ,af]
   refine⟨(l.length+1,(parts c l).map tx),?_,by rw[ah (by omega)]⟩
   have ht:(l.drop eX).take (l.length-eX)=l.drop eX:=ahf (by rw[bo];omega)
   rw[ht]at hno ⊢
   rw[hd,aoC hno]
   simp
  ·have hlt:k<l.length:=by omega
   have hb:(((k:Nat):Int)==(l.length:Int))=false:=cp.2 (by omega)
   rw[hb,aa,av hlt,ae,Xf]
   have hs:l.drop eX=(l.drop eX).take (k-eX)++l.getD k 0::l.drop (k+1):=by
    have:=axb (l:=l.drop eX) (k:=k-eX) (by rw[bo];omega)
    have e1:(l.drop eX).getD (k-eX) 0=l.getD k 0:=by
     simp only[RF,ahi]
     rw[show eX+(k-eX)=k by omega]
    rw[e1,List.drop_drop,show eX+(k-eX+1)=k+1 by omega]at this
    exact this
   by_cases hc:l.getD k 0=c
   ·have h1:((((l.getD k 0).toNat:Int))==(c.toNat:Int))=true:=by rw[hc];simp
    rw[h1,af]
    refine⟨(k+1,done.map tx++[tx ((l.drop eX).take (k-eX))]),rfl,?_⟩
    rw[ak (by omega)]
    refine⟨done++[(l.drop eX).take (k-eX)],by simp,?_,b9 _,by simp⟩
    rw[hc]at hs
    rw[hd,hs,axe hno,←hs]
    simp
   ·have h1:((((l.getD k 0).toNat:Int))==(c.toNat:Int))=false:=cp.2 fun h=>hc (UInt8.toNat_inj.1 (by omega))
    rw[h1,aa]
    refine⟨(eX,done.map tx),rfl,?_⟩
    rw[ak (by omega)]
    refine⟨done,rfl,hd,by show eX≤k+1;omega,?_⟩
    have e1:(l.drop eX).take (k+1-eX)=(l.drop eX).take (k-eX)++[l.getD k 0]:=by
     rw[show k+1-eX=(k-eX)+1 by omega,KW]
     congr 1
     have:(l.drop eX)[k-eX]?=some (l.getD k 0):=by
      rw[ahi,show eX+(k-eX)=k by omega]
      exact bp hlt 0
     rw[this]
     rfl
    show c ∉ (l.drop eX).take (k+1-eX)
    rw[e1,kI,lZ]
    rintro(h|h)
    ·exact hno h
    ·exact hc h.symm
 ·rw[ah (by omega)]at hI
  rw[Le,bP,aR (by omega),aa,afb,hI]
 ·rw[ak (by omega)]
  exact⟨[],rfl,rfl,b9 _,by simp⟩
theorem auZ (c:UInt8):∀(n:Nat) (l:List UInt8),l.length≤n→∀k,k=Lib.countB (tx l) (tx [c])→Lib.splitB (tx [c]) 0 k (tx l)=(parts c l).map tx:=by
 intro n
 induction n with
 |zero =>
  intro l hl k hk
  obtain rfl:l=[]:=X6 (by omega)
  have hi:Lib.indexB (tx []) (tx [c])=-1:=by
   show Lib.index (tx []).data.toList (tx [c]).data.toList=-1
   rw[iL,iL,Lib.index_one]
   rfl
  rw[Lib.splitB_miss _ _ _ _ hi]
  rfl
 |succ n ih =>
  intro l hl k hk
  by_cases h:c∈l
  ·obtain⟨a,b,rfl,h2⟩:=adV h
   have hi:Lib.indexB (tx (a++c::b)) (tx [c])=(a.length:Int):=by
    show Lib.index (tx (a++c::b)).data.toList (tx [c]).data.toList=_
    rw[iL,iL,Lib.index_one,adT h2]
   have hsz:(tx [c]).size=1:=bP [c]
   have aE7:(tx (a++c::b)).extract (a.length+(tx [c]).size) (tx (a++c::b)).size=tx b:=by
    rw[extract_from,hsz]
    congr 1
    simp[List.drop_append]
   have aJ2:=Lib.countB_hit (tx (a++c::b)) (tx [c]) a.length (by rw[hsz];omega) hi
   rw[aE7]at aJ2
   obtain⟨k',rfl⟩:∃k',k=k'+1:=⟨Lib.countB (tx b) (tx [c]),by omega⟩
   rw[Lib.splitB_hit _ _ _ _ _ hi,aE7,ih b (by simp only[aM,ba]at hl;omega) k' (by omega),axe h2,abL,aow]
   simp[as8]
  ·have hi:Lib.indexB (tx l) (tx [c])=-1:=by
    show Lib.index (tx l).data.toList (tx [c]).data.toList=-1
    rw[iL,iL,Lib.index_one,adU h]
   rw[Lib.splitB_miss _ _ _ _ hi,aoC h]
   rfl
theorem aoD {l:List UInt8}(c:UInt8)(hl:l.length<4294967281):wJ F0 (tx l) (c.toNat:Int)=some ((parts c l).map tx,()):=by
 have hso:strOf [(c.toNat:Int)]=tx [c]:=by
  simp only[strOf,tx,ua,List.map_nil]
  congr 2
  simp
 have h:Nat.blt (tx l).size 4294967281=true:=by rw[bP];simpa using hl
 have h2:Nat.ble 1 (tx [c]).size=true:=by rw[bP];rfl
 rw[aqJ,hso]
 unfold strings_Split
 rw[h,h2,Bool.and_self,ae,ai,auZ c l.length l (b9 _) _ rfl]
def Av {σ β:Type}(f:σ→List UInt8→Option (σ×β)):σ→List (List UInt8)→Option (List β)
 |_,[]=>some []
 |s,p::ps=>match f s p with
  |none=>none
  |some (s',b)=>match Av f s' ps with
   |none=>none
   |some r=>some (b::r)
theorem P6 {σ β γ:Type}(f:σ→List UInt8→Option (σ×β))(I:σ→Prop)(P:List (List UInt8))(X:Nat→σ→Int→List β→Option γ)(R0:Option γ)(R1:List β→Option γ)
  (hs:∀n k s xs p,k<P.length→P[k]?=some p→I s→xs.length=k→X (n+1) s (k:Int) xs=match f s p with|none=>R0|some (s',b)=>X n s' ((k+1:Nat):Int) (xs++[b]))
  (he:∀n s xs,xs.length=P.length→X (n+1) s (P.length:Int) xs=R1 xs) (hI:∀s p s' b,I s→f s p=some (s',b)→I s') :
  ∀(n k:Nat) (s:σ) (xs:List β),k≤P.length→P.length-k<n→I s→xs.length=k→X n s (k:Int) xs=match Av f s (P.drop k) with|none=>R0|some l=>R1 (xs++l)
 |0,_,_,_,_,h,_,_=>absurd h (RH _)
 |n+1,k,s,xs,hk,hn,hIs,hx=>by
  rcases abM k P.length with hlt|hge
  ·have hp:P[k]?=some P[k]:=oO hlt
   rw[hs n k s xs P[k] hlt hp hIs hx,X8 hlt]
   simp only[Av]
   cases hf:f s P[k]with
   |none=>rfl
   |some q =>
    obtain⟨s',b⟩:=q
    simp only
    rw[P6 f I P X R0 R1 hs he hI n (k+1) s' (xs++[b]) hlt (by omega) (hI _ _ _ _ hIs hf) (by simp[hx])]
    cases Av f s' (P.drop (k+1)) with
    |none=>rfl
    |some r=>simp
  ·obtain rfl:k=P.length:=by omega
   rw[he n s xs hx,TR]
   simp[Av]
theorem P7 {σ β:Type}{f:σ→List UInt8→Option (σ×β)}:∀{P:List (List UInt8)} {s:σ} {r:List β},Av f s P=some r→r.length=P.length
 |[],_,r,h=>by cases h;rfl
 |p::ps,s,r,h=>by
  simp only[Av]at h
  split at h
  ·cases h
  ·split at h
   ·cases h
   ·rename_i hr
    cases h
    simp[P7 hr]
theorem aoE {σ β:Type}{f:σ→List UInt8→Option (σ×β)}{Q:β→Prop}(hQ:∀s p s' b,f s p=some (s',b)→Q b):∀{P:List (List UInt8)} {s:σ} {r:List β},Av f s P=some r→∀b∈r,Q b
 |[],_,r,h=>by cases h;simp
 |p::ps,s,r,h=>by
  simp only[Av]at h
  split at h
  ·cases h
  ·rename_i hf
   split at h
   ·cases h
   ·rename_i hr
    cases h
    intro b hb
    rcases gU.1 hb with rfl|hb
    ·exact hQ _ _ _ _ hf
    ·exact aoE hQ hr b hb
def txF (_:Unit)(p:List UInt8):Option (Unit×fy):=if (X3 p).2=true then some ((),(X3 p).1) else none
def l6 (l:List UInt8):List fy×Bool:=if l=[] then ([],true) else match Av txF () (parts 44 l) with|none=>([],false)|some r=>(r,true)
theorem asq (l:List UInt8):(l6 l).1.length≤l.length+1:=by
 unfold l6
 split
 ·simp
 ·split
  ·simp
  ·rename_i r hr
   have:=P7 hr
   have:=ID 44 l
   simp only
   omega
theorem aGd (l:List UInt8):∀x∈(l6 l).1,iG x=true:=by
 unfold l6
 split
 ·simp
 ·split
  ·simp
  ·rename_i r hr
   refine aoE (Q:=fun x=>iG x=true) (fun s p s' b h=>?_) hr
   unfold txF at h
   split at h
   ·cases h
    exact aGb p
   ·cases h
theorem agL (l:List UInt8):((tx l).toList==al.toList)=decide (l=[]):=Wg l []
theorem au0 (P:List (List UInt8))(k:Nat){p:List UInt8}(h:P[k]?=some p):aP (P.map tx) (k:Int) ByteArray.empty=tx p:=by
 show(P.map tx).getD k ByteArray.empty=_
 simp[RF,h]
theorem asr {l:List UInt8}(hl:l.length≤1073741824):Bg F0 (tx l)=some ((l6 l).1,(l6 l).2,()):=by
 have hpl:=ID 44 l
 rw[aqn,agL]
 unfold l6
 by_cases h0:l=[]
 ·rw[aL h0,ak h0]
  rfl
 ·rw[aR h0,aa,ah h0,show wB F0 (tx l) 44=_ from asp 44 (by omega),ai]
  have:=P6 txF (fun _=>True) (parts 44 l) (fun n _ i xs=>G5 F0 (yh F0) n (yg i xs ((parts 44 l).map tx))) (some ([],false,())) (fun xs=>some (xs,true,())) (fun n k s xs p hk hp _ hx=>?_) (fun n s xs hx=>?_) (fun _ _ _ _ _ _=>trivial) F0.n 0 () [] (aV _) (by rw[ch];omega) trivial rfl
  ·simp only[ahl,AI]at this
   rw[show((0:Nat):Int)=0 from rfl]at this
   rw[this]
   cases Av txF () (parts 44 l)<;>rfl
  ·have RL:=B5 (av3 hp)
   rw[Lg,tZ,aW hk,af,av hk,ae,au0 _ _ hp,aGa (by omega),ai]
   unfold txF
   cases dS:(X3 p).2 with
   |false=>simp only[eZ,af,ajg];rfl
   |true =>
    simp only[aK,aa]
    rw[az (b:=[(X3 p).1].length) (k:=32) (by omega) (by omega) (by simp only[ba,bA];omega),ae,ao (by omega)]
    rfl
  ·rw[Lg,tZ,aI,aa,afe]
theorem azU {l:List UInt8}(hl:l.length≤1073741824):JX F0 (tx l)=some ((l6 l).1,(l6 l).2,()):=by
 have hpl:=ID 44 l
 rw[aqK,agL]
 unfold l6
 by_cases h0:l=[]
 ·rw[aL h0,ak h0]
  rfl
 ·rw[aR h0,aa,ah h0,show wJ F0 (tx l) 44=_ from aoD 44 (by omega),ai]
  have:=P6 txF (fun _=>True) (parts 44 l) (fun n _ i xs=>HG F0 (zw F0) n (zu ((parts 44 l).map tx) (((parts 44 l).map tx).length:Int) i xs)) (some ([],false,())) (fun xs=>some (xs,true,())) (fun n k s xs p hk hp _ hx=>?_) (fun n s xs hx=>?_) (fun _ _ _ _ _ _=>trivial) F0.n 0 () [] (aV _) (by rw[ch];omega) trivial rfl
  ·simp only[ahl,AI]at this
   rw[show((0:Nat):Int)=0 from rfl]at this
   rw[this]
   cases Av txF () (parts 44 l)<;>rfl
  ·have RL:=B5 (av3 hp)
   rw[Mf,tZ,aW hk,af,av hk,ae,au0 _ _ hp,aDI (by omega),ai]
   unfold txF
   cases dS:(X3 p).2 with
   |false=>simp only[eZ,af,akf];rfl
   |true =>
    simp only[aK,aa]
    rw[az (b:=[(X3 p).1].length) (k:=32) (by omega) (by omega) (by simp only[ba,bA];omega),ae,ao (by omega)]
    rfl
  ·rw[Mf,tZ,aI,aa,afV]
abbrev ZK:=Int×List fy
def ER (last:Int)(p:List UInt8):Option (Int×ZK) :=
 if 124∈p∧(gj (fw p 124).1).2=true∧(l6 (fw p 124).2).2=true∧last<(gj (fw p 124).1).1∧(gj (fw p 124).1).1≤60∧(l6 (fw p 124).2).1.length≤2
 then some ((gj (fw p 124).1).1,(gj (fw p 124).1).1,(l6 (fw p 124).2).1) else none
def cD (l:List UInt8):List ZK×Bool:=if l=[] then ([],true) else match parts 47 l with
 |[]=>([],false)
 |p0::ps=>if ¬p0=[]∨30<ps.length then ([],false) else match Av ER 0 ps with
  |none=>([],false)
  |some r=>(r,true)
def au1 (s:ZK):Prop:=0≤s.1∧s.1≤60∧s.2.length≤2∧∀x∈s.2,iG x=true
theorem adX {last:Int}{p:List UInt8}{s':Int}{b:ZK}(h:ER last p=some (s',b)):au1 b∧s'=b.1:=by
 unfold ER at h
 split at h
 ·rename_i hc
  cases h
  exact⟨⟨(aov _).1,hc.2.2.2.2.1,hc.2.2.2.2.2,aGd _⟩,rfl⟩
 ·cases h
theorem Rc (l:List UInt8):∀s∈(cD l).1,au1 s:=by
 unfold cD
 split
 ·simp
 ·split
  ·simp
  ·split
   ·simp
   ·split
    ·simp
    ·rename_i hr
     exact aoE (Q:=au1) (fun s p s' b h=>(adX h).1) hr
theorem rK (l:List UInt8):(cD l).1.length≤30:=by
 unfold cD
 split
 ·simp
 ·split
  ·simp
  ·split
   ·simp
   ·split
    ·simp
    ·rename_i hr
     have:=P7 hr
     simp only
     omega
theorem br6 {α:Type}(a b c d e f:Bool)(x y:α):br (!a) x (br (!b) x (br (!c) x (br d x (br e x (br f x y)))))=if a=true∧b=true∧c=true∧d=false∧e=false∧f=false then y else x:=by
 cases a<;>cases b<;>cases c<;>cases d<;>cases e<;>cases f<;>rfl
theorem br5 {α:Type}(a b c d f:Bool)(x y:α):br (!a) x (br (!b) x (br (!c) x (br (!d) x (br f x y))))=if a=true∧b=true∧c=true∧d=true∧f=false then y else x:=by
 cases a<;>cases b<;>cases c<;>cases d<;>cases f<;>rfl
theorem Xg {l:List UInt8}(hl:l.length≤1073741824):qQ F0 (tx l)=some ((cD l).1,(cD l).2,()):=by
 have hpl:=ID 47 l
 have RL:=fun p (h:p∈parts 47 l)=>B5 h
 rw[aqp,agL]
 unfold cD
 by_cases h0:l=[]
 ·rw[aL h0,ak h0]
  rfl
 ·rw[aR h0,aa,ah h0,show wB F0 (tx l) 47=_ from asp 47 (by omega),ai]
  cases hP:parts 47 l with
  |nil=>exact absurd hP (EP 47 l)
  |cons p0 ps =>
   rw[hP]at hpl RL
   simp only[ba]at hpl
   have ha0:aP ((p0::ps).map tx) 0 ByteArray.empty=tx p0:=rfl
   have ho:cl 0 (((p0::ps).map tx).length:Int)=true:=av (k:=0) (by simp)
   simp only[ho,ae,ha0,agL]
   by_cases hp0:p0=[]
   ·by_cases h30:30<ps.length
    ·rw[aL hp0,aK,aa,aL (by rw[tZ,ba];omega),af,ak (.inr h30)]
    ·rw[aL hp0,aK,aa,aR (by rw[tZ,ba];omega),aa,ah (by simp[hp0];omega)]
     have:=P6 ER (fun s=>0≤s∧s≤60) ps (fun n s i xs=>G8 F0 (yj F0) n (yi s (i+1) [] xs ((p0::ps).map tx))) (some ([],false,())) (fun xs=>some (xs,true,())) (fun n k s xs p hk hp hs hx=>?_) (fun n s xs hx=>?_) (fun s p s' b hs hf=>?_) F0.n 0 0 [] (aV _) (by rw[ch];omega) ⟨by omega,by omega⟩ rfl
     ·simp only[ahl,AI]at this
      rw[show((0:Nat):Int)+1=1 from rfl]at this
      rw[this]
      cases Av ER 0 ps<;>rfl
     ·have aOB:=RL p (pW _ (av3 hp))
      have hk1:k+1<((p0::ps).map tx).length:=by simp;omega
      have hat:aP ((p0::ps).map tx) (((k+1:Nat)):Int) ByteArray.empty=tx p:=au0 _ _ (by simpa using hp)
      rw[show((k:Int)+1)=((k+1:Nat):Int) by omega,Lh,aW hk1,af,av hk1,ae,hat,show iV F0 (tx p) 124=_ from aso 124 (by omega),ai]
      have amg:=ald p 124
      have hmx:=aov (fw p 124).1
      have htl:=asq (fw p 124).2
      by_cases hm:(124:UInt8)∈p
      ·rw[ak hm]
       simp only[B3,ai]
       rw[show Bg F0 (tx ((p.dropWhile (· != 124)).drop 1))=some ((l6 (fw p 124).2).1,(l6 (fw p 124).2).2,()) from asr (by show(fw p 124).2.length≤_;omega),ai]
       simp only[RX]
       rw[br6]
       unfold ER
       have hw:(gj (p.takeWhile (· != 124)))=gj (fw p 124).1:=rfl
       rw[hw]
       by_cases Oe:124∈p∧(gj (fw p 124).1).2=true∧(l6 (fw p 124).2).2=true∧s<(gj (fw p 124).1).1∧(gj (fw p 124).1).1≤60∧(l6 (fw p 124).2).1.length≤2
       ·have q1:decide ((gj (fw p 124).1).1≤s)=false:=aR (by omega)
        have q2:decide ((gj (fw p 124).1).1>60)=false:=aR (by omega)
        have q3:decide (((l6 (fw p 124).2).1.length:Int)>2)=false:=aR (by omega)
        rw[ak Oe,ak ⟨rfl,Oe.2.1,Oe.2.2.1,q1,q2,q3⟩]
        simp only
        rw[az (b:=[((gj (fw p 124).1).1,(l6 (fw p 124).2).1)].length) (k:=32) (by omega) (by omega) (by simp only[ba,bA];omega),ae,ao (by omega)]
        rfl
       ·rw[ah Oe,ah (fun h=>Oe ?_)]
        have q1:decide ((gj (fw p 124).1).1≤s)=false:=h.2.2.2.1
        have q2:decide ((gj (fw p 124).1).1>60)=false:=h.2.2.2.2.1
        have q3:decide (((l6 (fw p 124).2).1.length:Int)>2)=false:=h.2.2.2.2.2
        have r1:=arx q1
        have r2:=arx q2
        have r3:=arx q3
        exact⟨hm,h.2.1,h.2.2.1,by omega,by omega,by omega⟩
      ·rw[ah hm]
       unfold ER
       rw[ah (fun h=>hm h.1),B3,ai,show Bg F0 (tx [])=_ from asr (by simp),ai]
       simp only[eZ,af,RX]
     ·rw[show((ps.length:Int)+1)=(((p0::ps).map tx).length:Int) by simp,Lh,aI,aa,aff]
     ·obtain⟨h1,h2⟩:=adX hf
      rw[h2]
      exact⟨h1.1,h1.2.1⟩
   ·rw[aR hp0,eZ,af,ak (.inl hp0)]
theorem Re {l:List UInt8}(hl:l.length≤1073741824):rm F0 (tx l)=some ((cD l).1,(cD l).2,()):=by
 have hpl:=ID 47 l
 have RL:=fun p (h:p∈parts 47 l)=>B5 h
 rw[aqM,agL]
 unfold cD
 by_cases h0:l=[]
 ·rw[aL h0,ak h0]
  rfl
 ·rw[aR h0,aa,ah h0,show wJ F0 (tx l) 47=_ from aoD 47 (by omega),ai]
  cases hP:parts 47 l with
  |nil=>exact absurd hP (EP 47 l)
  |cons p0 ps =>
   rw[hP]at hpl RL
   simp only[ba]at hpl
   have ha0:aP ((p0::ps).map tx) 0 ByteArray.empty=tx p0:=rfl
   have ho:cl 0 (((p0::ps).map tx).length:Int)=true:=av (k:=0) (by simp)
   have hlen:((p0::ps).map tx).length=ps.length+1:=by simp
   have hos:RN 1 (((p0::ps).map tx).length:Int) (((p0::ps).map tx).length:Int)=true:=by rw[hlen];simp only[RN,aJ,cH];omega
   have hdr:((((p0::ps).map tx).take (((p0::ps).map tx).length:Int).toNat).drop (1:Int).toNat)=ps.map tx:=by
    rw[kH,nF]
    rfl
   simp only[ho,ae,ha0,agL,hos,hdr]
   rw[hlen,aH (by omega) (by omega)]
   by_cases hp0:p0=[]
   ·by_cases h30:30<ps.length
    ·rw[aL hp0,aK,aa,aL (by omega),af,ak (.inr h30)]
    ·rw[aL hp0,aK,aa,aR (by omega),aa,ah (by simp[hp0];omega)]
     have:=P6 ER (fun s=>0≤s∧s≤60) ps (fun n s i xs=>HJ F0 (zy F0) n (zx s (ps.map tx) ((ps.map tx).length:Int) i xs)) (some ([],false,())) (fun xs=>some (xs,true,())) (fun n k s xs p hk hp hs hx=>?_) (fun n s xs hx=>?_) (fun s p s' b hs hf=>?_) F0.n 0 0 [] (aV _) (by rw[ch];omega) ⟨by omega,by omega⟩ rfl
     ·simp only[ahl,AI]at this
      rw[show((0:Nat):Int)=0 from rfl]at this
      rw[this]
      cases Av ER 0 ps<;>rfl
     ·have aOB:=RL p (pW _ (av3 hp))
      have amg:=ald p 124
      have hmx:=aov (fw p 124).1
      have htl:=asq (fw p 124).2
      rw[Mg,tZ,aW hk,af,av hk,ae,au0 _ _ hp,show ByteArray.mk #[124]=tx [124] from rfl,wx 124 (by omega),ai]
      simp only[EO,ai]
      rw[show JX F0 (tx ((p.dropWhile (· != 124)).drop 1))=some ((l6 (fw p 124).2).1,(l6 (fw p 124).2).2,()) from azU (by show(fw p 124).2.length≤_;omega),ai]
      simp only[akg,Rb,ai]
      rw[br5]
      unfold ER
      have hw:(gj (p.takeWhile (· != 124)))=gj (fw p 124).1:=rfl
      rw[hw,aH (n:=s+1) (by omega) (by omega)]
      by_cases Oe:124∈p∧(gj (fw p 124).1).2=true∧(l6 (fw p 124).2).2=true∧s<(gj (fw p 124).1).1∧(gj (fw p 124).1).1≤60∧(l6 (fw p 124).2).1.length≤2
      ·have hin:(decide (s+1≤(gj (fw p 124).1).1)&&decide ((gj (fw p 124).1).1≤60))=true:=by
        rw[aL (by omega),aL (by omega)]
        rfl
       rw[ak Oe,ak ⟨aL Oe.1,Oe.2.1,Oe.2.2.1,hin,aR (by omega)⟩]
       simp only
       rw[az (b:=[((gj (fw p 124).1).1,(l6 (fw p 124).2).1)].length) (k:=32) (by omega) (by omega) (by simp only[ba,bA];omega),ae,ao (by omega)]
      ·rw[ah Oe,ah (fun h=>Oe ⟨tY h.1,h.2.1,h.2.2.1,by have:=h.2.2.2.1;rw[aJ]at this;have:=tY this.1;omega,by have:=h.2.2.2.1;rw[aJ]at this;have:=tY this.2;omega,by have:=arx h.2.2.2.2;omega⟩)]
     ·rw[Mg,tZ,aI,aa,afW]
     ·obtain⟨h1,h2⟩:=adX hf
      rw[h2]
      exact⟨h1.1,h1.2.1⟩
   ·rw[aR hp0,eZ,af,ak (.inl hp0)]
abbrev nD:=List Int×List Int
def Wi (l:nD):Bool:=decide (l.1.length=4)&&(decide (l.2.length=4)&&(l.1.all (fun n=>inB n 0 400)&&l.2.all (fun n=>inB n 0 100)))
theorem ZL {a:List Int}(lo hi:Int)(h:a.length≤1048576):rH F0 a lo hi=some (a.all (fun n=>inB n lo hi),()):=by
 rw[adH]
 refine dp (fun n i (_:Unit)=>tp F0 (oE F0) n (oD lo hi a (a.length:Int) i)) a.length (fun k _=>∀x∈a.take k,inB x lo hi=true) _ (fun n k _ hk hI=>?_) (fun n _ hI=>?_) F0.n 0 () (aV _) (by simp) (by rw[ch];omega)
 ·rw[A0,aW hk,af,av hk,ae,mm,Rb,ai]
  show(br (!inB (a.getD k 0) lo hi) _ _=_)∨∃z':Unit,br (!inB (a.getD k 0) lo hi) _ _=_∧_
  cases hb:inB (a.getD k 0) lo hi with
  |false =>
   left
   rw[eZ,af,X0]
   have:a.all (fun n=>inB n lo hi)=false:=ary.2 ⟨_,oQ hk 0,by rw[hb];simp⟩
   rw[this]
  |true =>
   right
   refine⟨(),by rw[aK,aa,ao (by omega)],?_⟩
   intro x hx
   rw[KW,bp hk 0]at hx
   rcases kI.1 hx with hx|hx
   ·exact hI x hx
   ·simp only[alv,lZ]at hx
    rw[hx]
    exact hb
 ·rw[nF]at hI
  rw[A0,aI,aa,V5,kj.2 hI]
theorem ZM {l:nD}(h1:l.1.length≤1048576)(h2:l.2.length≤1048576):uC F0 l=some (Wi l,()):=by
 rw[agr,ZL 0 400 h1,ZL 0 100 h2]
 have e:∀n:Nat,((n:Int)==4)=decide (n=4):=fun n=>by
  by_cases h:n=4
  ·subst h;rfl
  ·rw[aR h]
   exact cp.2 (by omega)
 simp only[ai,e,azR]
 rfl
theorem adY {l:nD}:uh F0 l=some (Wi l,()):=by
 rw[afq]
 have e:∀n:Nat,((n:Int) != 4)= !decide (n=4):=fun n=>by
  by_cases h:n=4
  ·subst h;rfl
  ·rw[aR h]
   exact DO.2 (by omega)
 rw[e,e]
 unfold Wi
 by_cases h1:l.1.length=4
 ·by_cases h2:l.2.length=4
  ·rw[aL h1,aL h2,aK,aa,aa,jB,jB]
   refine dp (fun n i (_:Unit)=>vi F0 (qb F0) n (qa i l.1 l.2)) 4 (fun k _=>(∀x∈l.1.take k,inB x 0 400=true)∧∀x∈l.2.take k,inB x 0 100=true) _ (fun n k _ hk hI=>?_) (fun n _ hI=>?_) F0.n 0 () (by omega) (by simp) (by rw[ch];omega)
   ·have hk1:k<l.1.length:=by omega
    have hk2:k<l.2.length:=by omega
    rw[Ef,show decide ((k:Int)<4)=true from aL (by omega),af,av hk1,ae,mm,adW,ai,av hk2,ae,mm,adW,ai]
    show(br (!inB (l.1.getD k 0) 0 400) _ (br (!inB (l.2.getD k 0) 0 100) _ _)=_)∨∃z':Unit,br (!inB (l.1.getD k 0) 0 400) _ (br (!inB (l.2.getD k 0) 0 100) _ _)=_∧_
    cases hb:inB (l.1.getD k 0) 0 400 with
    |false =>
     left
     rw[eZ,af,Ju]
     have:l.1.all (fun n=>inB n 0 400)=false:=ary.2 ⟨_,oQ hk1 0,by rw[hb];simp⟩
     rw[this]
     rfl
    |true =>
     cases hc:inB (l.2.getD k 0) 0 100 with
     |false =>
      left
      rw[aK,aa,eZ,af,Ju]
      have:l.2.all (fun n=>inB n 0 100)=false:=ary.2 ⟨_,oQ hk2 0,by rw[hc];simp⟩
      rw[this,ahm]
     |true =>
      right
      refine⟨(),by rw[aK,aa,aa,ao (by omega)],?_,?_⟩
      ·intro x hx
       rw[KW,bp hk1 0]at hx
       rcases kI.1 hx with hx|hx
       ·exact hI.1 x hx
       ·simp only[alv,lZ]at hx
        rw[hx]
        exact hb
      ·intro x hx
       rw[KW,bp hk2 0]at hx
       rcases kI.1 hx with hx|hx
       ·exact hI.2 x hx
       ·simp only[alv,lZ]at hx
        rw[hx]
        exact hc
   ·rw[ahf (by omega),ahf (by omega)]at hI
    rw[Ef,show decide (((4:Nat):Int)<4)=false from rfl,aa,XM,kj.2 hI.1,kj.2 hI.2]
    rfl
  ·rw[aL h1,aR h2]
   rfl
 ·rw[aR h1]
  rfl
def lE (l:nD)(x:fy):nD×Int :=
 if Wi l=true∧iG x=true then
  if x.2.2.2<aP l.2 x.1 0 then (l,2)
  else if x.2.2.2>aP l.2 x.1 0 then (l,3)
  else if x.2.2.1>aP l.1 x.1 0 then ((l.1,l.2.set x.1.toNat (x.2.2.2+1)),4)
  else if Wi ((l.1.set x.1.toNat (aP l.1 x.1 0-x.2.2.1)).set x.2.1.toNat (aP (l.1.set x.1.toNat (aP l.1 x.1 0-x.2.2.1)) x.2.1 0+x.2.2.1),l.2.set x.1.toNat (x.2.2.2+1))=true
   then (((l.1.set x.1.toNat (aP l.1 x.1 0-x.2.2.1)).set x.2.1.toNat (aP (l.1.set x.1.toNat (aP l.1 x.1 0-x.2.2.1)) x.2.1 0+x.2.2.1),l.2.set x.1.toNat (x.2.2.2+1)),0)
   else (l,1)
 else (l,1)
theorem aoF {l:nD}(h:Wi l=true):l.1.length=4∧l.2.length=4∧(∀x∈l.1,0≤x∧x≤400)∧∀x∈l.2,0≤x∧x≤100:=by
 simp only[Wi,aJ,cH,kj,inB]at h
 exact⟨h.1,h.2.1,fun x hx=>⟨(h.2.2.1 x hx).1,(h.2.2.1 x hx).2⟩,fun x hx=>⟨(h.2.2.2 x hx).1,(h.2.2.2 x hx).2⟩⟩
theorem aa3 {l:nD}(h1:l.1.length≤1048576)(h2:l.2.length≤1048576):qZ F0 l=some (l,()):=by
 rw[amQ,az (by omega) (by omega) (by omega),ae,az (by omega) (by omega) (by omega),ae]
 simp
theorem Wj {l:nD}(h1:l.1.length≤1048576)(h2:l.2.length≤1048576):kE F0 l=some (l,()):=by
 rw[aaZ,BI,BI,az (by omega) (by omega) (by omega),ae,ai,az (by omega) (by omega) (by omega),ae,ai]
 simp
theorem dT {p:Prop}(i:Decidable p)(h:p): @decide p i=true:=aL h
theorem dF {p:Prop}(i:Decidable p)(h:¬p): @decide p i=false:=aR h
theorem aCw {a:List Int}{k:Nat}{v:Int}{lo hi:Int}(ha:∀x∈a,lo≤x∧x≤hi)(hv:lo≤v∧v≤hi):∀x∈a.set k v,lo≤x∧x≤hi:=fun x hx=>by
 rcases ayT hx with h|h
 ·exact ha x h
 ·rw[h];exact hv
theorem au2 {l:nD}(h1:l.1.length≤1048576)(h2:l.2.length≤1048576)(x:fy):Jv F0 l x=some ((lE l x).1,(lE l x).2,()):=by
 rw[awW,aa3 h1 h2,ai,adY,ai]
 unfold lE
 cases hl:Wi l with
 |false=>rw[ah (by simp)];rfl
 |true =>
  rw[aK,aa,P5,ai]
  cases hx:iG x with
  |false=>rw[ah (by simp)];rfl
  |true =>
   rw[aK,aa,ak ⟨rfl,rfl⟩]
   obtain⟨e1,e2,e3,e4⟩:=aoF hl
   obtain⟨q1,q2,q3,q4⟩:=xE hx
   have o0:∀(y:Int) (n:Nat),n=4→0≤y→y≤3→cl y (n:Int)=true:=fun y n h h1 h2=>by
    obtain⟨u,rfl⟩:∃u:Nat,y=u:=⟨y.toNat,by omega⟩
    exact av (by omega)
   have o1:=o0 x.1 _ e1 q1.1 q1.2
   have o2:=o0 x.1 _ e2 q1.1 q1.2
   have o3:∀w,cl x.2.1 ((l.1.set x.1.toNat w).length:Int)=true:=fun w=>o0 x.2.1 _ (by rw[abK];exact e1) q2.1 q2.2
   simp only[o1,o2,o3,ae]
   have g1:0≤aP l.1 x.1 0∧aP l.1 x.1 0≤400:=e3 _ (oQ (a:=l.1) (k:=x.1.toNat) (by omega) 0)
   have g2:0≤aP l.2 x.1 0∧aP l.2 x.1 0≤100:=e4 _ (oQ (a:=l.2) (k:=x.1.toNat) (by omega) 0)
   by_cases c1:x.2.2.2<aP l.2 x.1 0
   ·rw[dT _ c1,af,ak c1]
   ·rw[dF _ c1,aa,ah c1]
    by_cases c2:x.2.2.2>aP l.2 x.1 0
    ·rw[dT _ c2,af,ak c2]
    ·rw[dF _ c2,aa,ah c2,aH (n:=x.2.2.2+1) (by omega) (by omega)]
     by_cases c3:x.2.2.1>aP l.1 x.1 0
     ·rw[dT _ c3,af,ak c3]
     ·have g3:0≤aP (l.1.set x.1.toNat (aP l.1 x.1 0-x.2.2.1)) x.2.1 0∧aP (l.1.set x.1.toNat (aP l.1 x.1 0-x.2.2.1)) x.2.1 0≤400:=aCw (k:=x.1.toNat) (v:=aP l.1 x.1 0-x.2.2.1) e3 ⟨by omega,by omega⟩ _ (oQ (a:=l.1.set x.1.toNat (aP l.1 x.1 0-x.2.2.1)) (k:=x.2.1.toNat) (by rw[abK];omega) 0)
      rw[dF _ c3,aa,ah c3,aH (n:=aP l.1 x.1 0-x.2.2.1) (by omega) (by omega),aH (n:=aP (l.1.set x.1.toNat (aP l.1 x.1 0-x.2.2.1)) x.2.1 0+x.2.2.1) (by omega) (by omega),adY,ai]
      cases Wi ((l.1.set x.1.toNat (aP l.1 x.1 0-x.2.2.1)).set x.2.1.toNat (aP (l.1.set x.1.toNat (aP l.1 x.1 0-x.2.2.1)) x.2.1 0+x.2.2.1),l.2.set x.1.toNat (x.2.2.2+1)) with
      |false=>rw[ah (by simp),eZ,af,ai]
      |true=>rw[ak rfl];rfl
theorem aoG {l:nD}(h1:l.1.length≤1048576)(h2:l.2.length≤1048576)(x:fy):Ko F0 l x=some ((lE l x).1,(lE l x).2,()):=by
 rw[aw7,Wj h1 h2,ai,ZM h1 h2,ai]
 unfold lE
 cases hl:Wi l with
 |false=>rw[ah (by simp)];rfl
 |true =>
  rw[aK,aa,B4,ai]
  cases hx:iG x with
  |false=>rw[ah (by simp)];rfl
  |true =>
   rw[aK,aa,ak ⟨rfl,rfl⟩]
   obtain⟨e1,e2,e3,e4⟩:=aoF hl
   obtain⟨q1,q2,q3,q4⟩:=xE hx
   have o0:∀(y:Int) (n:Nat),n=4→0≤y→y≤3→cl y (n:Int)=true:=fun y n h h1 h2=>by
    obtain⟨u,rfl⟩:∃u:Nat,y=u:=⟨y.toNat,by omega⟩
    exact av (by omega)
   have o1:=o0 x.1 _ e1 q1.1 q1.2
   have o2:=o0 x.1 _ e2 q1.1 q1.2
   have o3:∀w,cl x.2.1 ((l.1.set x.1.toNat w).length:Int)=true:=fun w=>o0 x.2.1 _ (by rw[abK];exact e1) q2.1 q2.2
   simp only[o1,o2,o3,ae]
   have g1:0≤aP l.1 x.1 0∧aP l.1 x.1 0≤400:=e3 _ (oQ (a:=l.1) (k:=x.1.toNat) (by omega) 0)
   have g2:0≤aP l.2 x.1 0∧aP l.2 x.1 0≤100:=e4 _ (oQ (a:=l.2) (k:=x.1.toNat) (by omega) 0)
   by_cases c1:x.2.2.2<aP l.2 x.1 0
   ·rw[dT _ c1,af,ak c1]
   ·rw[dF _ c1,aa,ah c1]
    by_cases c2:x.2.2.2>aP l.2 x.1 0
    ·rw[dT _ c2,af,ak c2]
    ·have hnn:aP l.2 x.1 0=x.2.2.2:=by omega
     rw[dF _ c2,aa,ah c2,hnn,aH (n:=x.2.2.2+1) (by omega) (by omega)]
     by_cases c3:x.2.2.1>aP l.1 x.1 0
     ·rw[dT _ c3,af,ak c3]
     ·have g3:0≤aP (l.1.set x.1.toNat (aP l.1 x.1 0-x.2.2.1)) x.2.1 0∧aP (l.1.set x.1.toNat (aP l.1 x.1 0-x.2.2.1)) x.2.1 0≤400:=aCw (k:=x.1.toNat) (v:=aP l.1 x.1 0-x.2.2.1) e3 ⟨by omega,by omega⟩ _ (oQ (a:=l.1.set x.1.toNat (aP l.1 x.1 0-x.2.2.1)) (k:=x.2.1.toNat) (by rw[abK];omega) 0)
      rw[dF _ c3,aa,ah c3,aH (n:=aP l.1 x.1 0-x.2.2.1) (by omega) (by omega),aH (n:=aP (l.1.set x.1.toNat (aP l.1 x.1 0-x.2.2.1)) x.2.1 0+x.2.2.1) (by omega) (by omega),ZM (by simp only[abK];omega) (by simp only[abK];omega),ai]
      cases Wi ((l.1.set x.1.toNat (aP l.1 x.1 0-x.2.2.1)).set x.2.1.toNat (aP (l.1.set x.1.toNat (aP l.1 x.1 0-x.2.2.1)) x.2.1 0+x.2.2.1),l.2.set x.1.toNat (x.2.2.2+1)) with
      |false=>rw[ah (by simp),eZ,af,ai]
      |true=>rw[ak rfl];rfl
theorem axf (l:nD)(x:fy):(lE l x).1.1.length=l.1.length∧(lE l x).1.2.length=l.2.length:=by
 unfold lE
 split
 ·split
  ·exact⟨rfl,rfl⟩
  ·split
   ·exact⟨rfl,rfl⟩
   ·split
    ·exact⟨rfl,by simp⟩
    ·split
     ·exact⟨by simp,by simp⟩
     ·exact⟨rfl,rfl⟩
 ·exact⟨rfl,rfl⟩
def au3:nD:=([100,100,100,100],[0,0,0,0])
theorem ZN:mI F0=some (au3,()):=by
 have st:∀n (k:Nat) (xs:List Int),k<4→xs.length=k→jQ F0 (j2 F0) (n+1) (gK (k:Int) [] [] xs [0,0,0,0])=jQ F0 (j2 F0) n (gK ((k+1:Nat):Int) [] [] (xs++[100]) [0,0,0,0]):=fun n k xs hk hx=>by
  rw[AN,show decide ((k:Int)<4)=true from aL (by omega),af,az (a:=xs.length) (b:=[(100:Nat)].length) (k:=8) (by omega) (by omega) (by simp only[ba,bA];omega),ae,ao (by omega)]
 rw[acG,show okM F0 4 4 8=true from aFN (n:=4) (by omega) (by omega) (by omega),ae]
 refine dp (fun n i xs=>jQ F0 (j2 F0) n (gK i [] [] xs [0,0,0,0])) 4 (fun k xs=>xs=List.replicate k 100) _ (fun n k xs hk hI=>.inr ⟨_,st n k xs hk (by rw[hI];simp),by rw[hI,←List.replicate_succ']⟩) (fun n xs hI=>?_) F0.n 0 [] (by omega) rfl (by rw[ch];omega)
 rw[AN,show decide (((4:Nat):Int)<4)=false from rfl,aa,UX,hI]
 rfl
theorem Wk:nu F0=some (au3,()):=by
 have st:∀n (k:Nat) (xs:List Int),k<4→xs.length=k→jU F0 (j8 F0) (n+1) (gR (k:Int) [] [] xs [0,0,0,0])=jU F0 (j8 F0) n (gR ((k+1:Nat):Int) [] [] (xs++[100]) [0,0,0,0]):=fun n k xs hk hx=>by
  rw[AZ,show decide ((k:Int)<4)=true from aL (by omega),af,az (a:=xs.length) (b:=[(100:Nat)].length) (k:=8) (by omega) (by omega) (by simp only[ba,bA];omega),ae,ao (by omega)]
 rw[adG,show okM F0 4 4 8=true from aFN (n:=4) (by omega) (by omega) (by omega),ae]
 refine dp (fun n i xs=>jU F0 (j8 F0) n (gR i [] [] xs [0,0,0,0])) 4 (fun k xs=>xs=List.replicate k 100) _ (fun n k xs hk hI=>.inr ⟨_,st n k xs hk (by rw[hI];simp),by rw[hI,←List.replicate_succ']⟩) (fun n xs hI=>?_) F0.n 0 [] (by omega) rfl (by rw[ch];omega)
 rw[AZ,show decide (((4:Nat):Int)<4)=false from rfl,aa,V4,hI]
 rfl
def aa4 (l:nD):Prop:=l.1.length=4∧l.2.length=4
theorem aH5 {l:nD}(h:aa4 l)(x:fy):aa4 (lE l x).1:=⟨(axf l x).1.trans h.1,(axf l x).2.trans h.2⟩
theorem ZO {α:Type}{a:List α}{k:Nat}(h:k<a.length)(d:α):aP a (k:Int) d=a[k]:=by
 rw[mm]
 simp[List.getD,h]
theorem aMy (x:fy):(x.1,x.2.1,x.2.2.1,x.2.2.2)=x:=rfl
def rL:nD→List fy→List Int
 |_,[]=>[]
 |l,x::xs=>(lE l x).2::rL (lE l x).1 xs
def rM:nD→List fy→nD
 |l,[]=>l
 |l,x::xs=>rM (lE l x).1 xs
theorem Xh:∀{xs:List fy} {l:nD},aa4 l→aa4 (rM l xs)
 |[],_,h=>h
 |x::xs,l,h=>Xh (xs:=xs) (aH5 h x)
theorem Rg:∀(xs:List fy) (l:nD),(rL l xs).length=xs.length
 |[],_=>rfl
 |x::xs,l=>by simp[rL,Rg xs]
theorem Rh:∀(a b:List fy) (l:nD),rL l (a++b)=rL l a++rL (rM l a) b
 |[],_,_=>rfl
 |x::a,b,l=>by simp[rL,rM,Rh a b]
theorem Wl:∀(a:List fy) (x:fy) (l:nD),rM l (a++[x])=(lE (rM l a) x).1
 |[],_,_=>rfl
 |y::a,x,l=>by simp[rM,Wl a x]
theorem aoH {l:nD}(h4:aa4 l){list:List fy}(hl:list.length≤1048576):xn F0 l list=some (rM l list,rL l list,()):=by
 rw[amS,aa3 (by have:=h4.1;omega) (by have:=h4.2;omega),ai]
 refine dp (fun n i (z:List Int×nD)=>CE F0 (Fk F0) n (vj list i z.1 [] [] z.2.1 z.2.2)) list.length (fun k z=>z.1=rL l (list.take k)∧z.2=rM l (list.take k)) _ (fun n k z hk hI=>.inr ⟨(z.1++[(lE z.2 list[k]).2],(lE z.2 list[k]).1),?_,?_⟩) (fun n z hI=>?_) F0.n 0 ([],l) (aV _) ⟨rfl,rfl⟩ (by rw[ch];omega)
 ·obtain⟨h1,h2⟩:=hI
  have q4:aa4 z.2:=by rw[h2];exact Xh h4
  have hz:z.1.length≤1048576:=by rw[h1,Rg,bQ];omega
  rw[Jw,aW hk,af,av hk,ae,ZO hk]
  try rw[aMy]
  rw[au2 (l:=(z.2.1,z.2.2)) (by have:=q4.1;show z.2.1.length≤_;omega) (by have:=q4.2;show z.2.2.length≤_;omega),ai]
  simp only
  rw[az (a:=z.1.length) (b:=[(lE (z.2.1,z.2.2) list[k]).2].length) (k:=8) (by omega) (by omega) (by simp only[ba,bA];omega),ae,ao (by omega)]
 ·obtain⟨h1,h2⟩:=hI
  have ht:list.take (k+1)=list.take k++[list[k]]:=by rw[KW,oO hk];rfl
  refine⟨?_,?_⟩
  ·rw[ht,Rh,←h1,←h2]
   rfl
  ·rw[ht,Wl,←h2]
 ·obtain⟨h1,h2⟩:=hI
  rw[nF]at h1 h2
  rw[Jw,aI,aa,acH,h1,h2]
theorem adZ:∀{ss:List ZK},(∀s∈ss,au1 s)→(ss.flatMap (·.2)).length≤2*ss.length
 |[],_=>by simp
 |s::ss,h=>by
  have h1:=(h s IL).2.2.1
  have h2:=adZ (ss:=ss) fun x hx=>h x (pW _ hx)
  rw[List.flatMap_cons,aM,ba]
  omega
theorem aDJ {l:List UInt8}(hl:l.length≤1073741824):wF F0 (tx l)=some ((cD l).1.flatMap (·.2),()):=by
 rw[aqv,Xg hl,ai]
 have hlen:=rK l
 have dS:=Rc l
 generalize hss:(cD l).1=ss at hlen dS
 refine dp (fun n i xs=>Hk F0 (Jq F0) n (yM i xs ss)) ss.length (fun k xs=>xs=(ss.take k).flatMap (·.2)) _ (fun n k xs hk hI=>.inr ⟨_,?_,rfl⟩) (fun n xs hI=>?_) F0.n 0 [] (aV _) rfl (by rw[ch];omega)
 ·have h1:=(dS _ (dr hk)).2.2.1
  have hx:=adZ (ss:=ss.take k) fun x hx=>dS x (abG hx)
  rw[←hI,bQ]at hx
  rw[LC,aW hk,af,av hk,ae,ZO hk,az (a:=xs.length) (b:=ss[k].2.length) (k:=32) (by omega) (by omega) (by omega),ae,ao (by omega),hI]
  have hf:(ss.take (k+1)).flatMap (·.2)=(ss.take k).flatMap (·.2)++ss[k].2:=by
   rw[show ss.take (k+1)=ss.take k++[ss[k]] by rw[KW,oO hk];rfl,List.flatMap_append]
   simp
  rw[hf]
 ·rw[nF]at hI
  rw[LC,aI,aa,afp,hI]
theorem lW {β:Type}(X:Nat→Int→Option β)(L:Nat)(p:Nat→Bool)(Rt Rf:Option β)(hs:∀n k,k<L→X (n+1) (k:Int)=if p k=true then X n ((k+1:Nat):Int) else Rf)(he:∀n,X (n+1) (L:Int)=Rt)(n:Nat)(hn:L<n) :
  X n 0=if (List.range L).all p=true then Rt else Rf:=by
 refine dp (fun n i (_:Unit)=>X n i) L (fun k _=>∀j,j<k→p j=true) _ (fun n k _ hk h=>?_) (fun n _ h=>?_) n 0 () (aV _) (fun j hj=>absurd hj (RH _)) (by omega)
 ·try dsimp only
  rw[hs n k hk]
  by_cases hp:p k=true
  ·rw[ak hp]
   refine .inr ⟨(),rfl,fun j hj=>?_⟩
   by_cases hjk:j=k
   ·exact hjk▸hp
   ·exact h j (by omega)
  ·rw[ah hp,ah]
   ·exact .inl rfl
   ·intro ha
    exact hp (kj.1 ha k (kJ.2 hk))
 ·try dsimp only
  rw[he,ak]
  exact kj.2 fun j hj=>h j (kJ.1 hj)
theorem Ky {α:Type}(s:List α)(q:α→Bool)(d:α):(List.range s.length).all (fun k=>q (s.getD k d))=s.all q:=by
 rw[Bool.eq_iff_iff,kj,kj]
 constructor
 ·intro h x hx
  obtain⟨i,hi,rfl⟩:=as4.1 hx
  have:=h i (kJ.2 hi)
  simpa [List.getD,hi]using this
 ·intro h k hk
  exact h _ (oQ (kJ.1 hk) d)
theorem aKi (s:List Int)(i:Int):(s.all fun x=> !(x==i))= !decide (i∈s):=by
 rw[Bool.eq_iff_iff,kj]
 simp only[arz,cp,as0]
 exact⟨fun h hi=>h i hi rfl,fun h x hx e=>h (e▸hx)⟩
theorem ite_not (b:Bool){α:Type}(x y:α):(if (!b)=true then x else y)=if b=true then y else x:=by cases b<;>rfl
theorem azW {α:Type}(b:Bool)(x y:α):br b x y=if b=true then x else y:=by cases b<;>rfl
theorem gk {s:List Int}(h:s.length≤1073741824)(i:Int):dG F0 s i=some (decide (i∈s),()):=by
 rw[amW,lW (fun n k=>CJ F0 (vp F0) n (vo s i k)) s.length (fun k=> !(s.getD k 0==i)) (some (false,())) (some (true,())) (fun n k hk=>?_) (fun n=>?_) _ (by rw[ch];omega),
  Ky s (fun x=> !(x==i)),aKi,ite_not]
 ·by_cases hm:i∈s<;>simp[hm]
 ·rw[Jy,aW hk,af,av hk,ae,mm,ao (by omega),ite_not,azW,afw]
 ·rw[Jy,aI,aa,acK]
theorem au4 {s:List Int}(h:s.length≤1073741824)(i:Int):iR F0 s i=some (decide (i∈s),()):=by
 have key:∃j,lr F0 s i=some (j,())∧decide (j≥0)=decide (i∈s):=by
  rw[Pu]
  have:=dp (fun n k (_:Unit)=>jx F0 (ij F0) n (ig s i (s.length:Int) k)) s.length (fun k _=>∀j,j<k→s.getD j 0≠i)
   (some ((if i∈s then ((s.idxOf i:Nat):Int) else -1),())) (fun n k _ hk hI=>?_) (fun n _ hI=>?_) F0.n 0 () (aV _) (fun j hj=>absurd hj (RH _)) (by rw[ch];omega)
  ·refine⟨_,this,?_⟩
   by_cases hm:i∈s
   ·rw[ak hm,aL hm]
    exact aL (Int.natCast_nonneg _)
   ·rw[ah hm,aR hm]
    rfl
  ·try dsimp only
   rw[qq,aW hk,af,av hk,ae,mm,ao (by omega),KV]
   by_cases he:i=s.getD k 0
   ·left
    have hm:i∈s:=he▸oQ hk 0
    rw[bB.2 he,af,ak hm]
    have hx:s.idxOf i=k:=by
     have h1:s.idxOf i<s.length:=List.idxOf_lt_length_of_mem hm
     have h2:s.getD (s.idxOf i) 0=i:=by simp[List.getD,h1]
     rcases Nat.lt_trichotomy (s.idxOf i) k with hlt|heq|hgt
     ·exact absurd h2 (hI _ hlt)
     ·exact heq
     ·have:=List.not_of_lt_findIdx (p:=(·==i)) (xs:=s) hgt
      have h3:s[k]'(by omega)=i:=by
       rw[he]
       simp[List.getD,hk]
      simp[h3]at this
    rw[hx]
   ·right
    rw[cp.2 he,aa]
    refine⟨(),rfl,fun j hj=>?_⟩
    by_cases hjk:j=k
    ·exact fun e=>he (hjk▸e.symm)
    ·exact hI j (by omega)
  ·try dsimp only
   have hm:i ∉ s:=by
    intro hm
    obtain⟨j,hj,e⟩:=as4.1 hm
    exact hI j hj (by simp[List.getD,hj,e])
   rw[qq,aI,aa,J6,ah hm]
 obtain⟨j,h1,h2⟩:=key
 rw[J7,h1,ai,h2]
theorem fI {s:List Int}(h:s.length≤1073741824)(i:Int):eb F0 s i=some (decide (i∈s),()):=by
 rw[an0,au4 h,ai]
def au5 (i:Int):List Int→List Int
 |[]=>[i]
 |x::l=>if x≥i then i::x::l else x::au5 i l
def Wm (s:List Int)(i:Int):List Int:=if i∈s then s else au5 i s
theorem axg (i:Int):∀s:List Int,(au5 i s).length=s.length+1
 |[]=>rfl
 |x::l=>by
  unfold au5
  split
  ·rfl
  ·simp[axg i l]
theorem aoI (s:List Int)(i:Int):(Wm s i).length≤s.length+1:=by
 unfold Wm
 split
 ·omega
 ·rw[axg]
  exact b9 _
theorem ale {i:Int}:∀{s:List Int} {k:Nat},k≤s.length→(∀j (h:j<s.length),j<k→s[j]<i)→(∀h:k<s.length,¬s[k]<i)→au5 i s=s.take k++i::s.drop k
 |[],k,_,_,_=>by simp[au5]
 |x::l,0,_,_,h=>by
  have:=h (by simp)
  simp only[List.getElem_cons_zero]at this
  unfold au5
  rw[ak (by omega)]
  rfl
 |x::l,k+1,hk,h1,h2=>by
  have hx:=h1 0 (by simp) (by omega)
  simp only[List.getElem_cons_zero]at hx
  unfold au5
  rw[ah (by omega),List.take_succ_cons,List.drop_succ_cons,FT,ale (k:=k) (by simpa using hk) (fun j h hj=>h1 (j+1) (by simp only[ba];omega) (by omega)) (fun h=>h2 (by simp only[ba];omega))]
theorem Xi {l h n:Nat}(h1:l≤h)(h2:h≤n):RN (l:Int) (h:Int) (n:Int)=true:=by simp[RN];omega
theorem aa5 {s:List Int}(h:s.length≤1048576)(i:Int):xo F0 s i=some (Wm s i,()):=by
 rw[amX,gk (by omega),ai]
 unfold Wm
 by_cases hm:i∈s
 ·rw[aL hm,af,ak hm,az (by omega) (by omega) (by omega),ae]
  rfl
 ·rw[aR hm,aa,ah hm]
  have fin:∀k:Nat,k≤s.length→(∀j (h:j<s.length),j<k→s[j]<i)→(∀h:k<s.length,¬s[k]<i)→vr F0 (.exit 0) (sn s i (k:Int))=some (au5 i s,()):=by
   intro k hk h1 h2
   rw[acL,show RN 0 (k:Int) (s.length:Int)=true from Xi (l:=0) (aV _) hk,ae,kH,kH,show(0:Int).toNat=0 from rfl,ahl,AI,nF,
    az (by omega) (by omega) (by rw[bQ];omega),ae,az (by omega) (by omega) (by rw[bQ];simp only[ba,bA];omega),ae,Xi hk (b9 _),ae,
    az (by omega) (by omega) (by rw[aM,bQ,bo];simp only[ba,bA];omega),ae,ale hk h1 h2]
   simp
  refine dp (fun n k (_:Unit)=>CM F0 (vr F0) n (vq s i k)) s.length (fun k _=>∀j (h:j<s.length),j<k→s[j]<i) _ (fun n k _ hk hI=>?_) (fun n _ hI=>?_) F0.n 0 () (aV _) (fun j _ hj=>absurd hj (RH _)) (by rw[ch];omega)
  ·try dsimp only
   rw[JA,aW hk,af,av hk,ae,ZO hk,ao (by omega)]
   by_cases hlt:s[k]<i
   ·right
    rw[aL hlt,af]
    refine⟨(),rfl,fun j hj hjk=>?_⟩
    by_cases e:j=k
    ·subst e;exact hlt
    ·exact hI j hj (by omega)
   ·left
    rw[aR hlt,aa]
    exact fin k (by omega) hI (fun _=>hlt)
  ·try dsimp only
   rw[JA,aI,aa]
   exact fin s.length (b9 _) hI (fun h=>absurd h (TT _))
theorem oI {l:List Int}(h:l.length≤1073741824):eR F0 l=some (l,()):=by
 rw[BI,az (by omega) (by omega) (by omega),ae]
 rfl
theorem agM {α:Type}(p:α→Bool):∀(l:List α) (j:Nat),(qL p l (j:Int)=-1∧∀x∈l,p x=false)∨∃k,∃h:k<l.length,qL p l (j:Int)=((j+k:Nat):Int)∧p l[k]=true∧∀i (hi:i<l.length),i<k→p l[i]=false
 |[],j=>.inl ⟨rfl,by simp⟩
 |x::l,j=>by
  unfold qL
  cases hp:p x with
  |true=>exact .inr ⟨0,by simp,by simp,by simpa using hp,fun i _ hi=>absurd hi (RH _)⟩
  |false =>
   have e:(j:Int)+1=((j+1:Nat):Int):=by omega
   dsimp only
   rw[e]
   rcases agM p l (j+1) with ⟨h1,h2⟩|⟨k,hk,h1,h2,h3⟩
   ·refine .inl ⟨h1,fun y hy=>?_⟩
    rcases gU.1 hy with rfl|hy
    ·exact hp
    ·exact h2 y hy
   ·refine .inr ⟨k+1,by simpa using hk,by rw[h1];omega,by simpa using h2,fun i hi hik=>?_⟩
    cases i with
    |zero=>simpa using hp
    |succ i=>simpa using h3 i (by simpa using hi) (by omega)
theorem IE {k a b:Nat}(h1:k≤a)(h2:1≤b)(h3:a+b≤1073741824):ahH (k:Int) a b=true:=by
 unfold ahH
 rw[aL (show(0:Int)≤k by omega),aL (show(k:Int)≤a by omega),aL (show(1:Int)≤b by omega),aL (show((a+b:Nat):Int)≤1073741824 by omega)]
 rfl
theorem aiw {s:List Int}(h:s.length≤1048576)(i:Int):EE F0 s i=some (Wm s i,()):=by
 rw[an7,fI (by omega),ai]
 unfold Wm
 by_cases hm:i∈s
 ·rw[aL hm,af,ak hm,oI (by omega),ai]
 ·rw[aR hm,aa,ah hm]
  rcases agM (fun e=>geP e i) s 0 with ⟨h1,h2⟩|⟨k,hk,h1,h2,h3⟩
  ·have h1:qL (fun e=>geP e i) s 0=-1:=h1
   rw[h1,show decide ((-1:Int)<0)=true from rfl,af,oI (by omega),ai,IE (b9 _) (by simp) (by simp only[ba,bA];omega),ae,kH,
    ale (k:=s.length) (b9 _) (fun j hj _=>?_) (fun h=>absurd h (TT _))]
   ·simp
   ·have:=arx (h2 s[j] (dr hj))
    omega
  ·have h1:qL (fun e=>geP e i) s 0=((0+k:Nat):Int):=h1
   rw[w8]at h1
   have h2:=tY h2
   rw[h1,show decide (((k:Nat):Int)<0)=false from aR (by omega),aa,oI (by omega),ai,IE (k:=k) (a:=s.length) (by omega) (by simp) (by simp only[ba,bA];omega),ae,kH,
    ale (k:=k) (by omega) (fun j hj hjk=>?_) (fun _=>by omega)]
   ·simp
   ·have:=arx (h3 j hj hjk)
    omega
def iH (lo hi x:Int):Bool:=decide (lo≤x)&&decide (x≤hi)
theorem dz (x lo hi:Int):bZ F0 x lo hi=some (iH lo hi x,()):=adW x lo hi
theorem cg (x lo hi:Int):bd F0 x lo hi=some (iH lo hi x,()):=Rb x lo hi
theorem jA {α:Type}{l:List α}{k:Nat}(h:k<l.length):l.take (k+1)=l.take k++[l[k]]:=by
 rw[KW,oO h]
 rfl
abbrev di:=Int×ByteArray×List Int
def cr (l:List UInt8):Bool:=(cD l).2
def bu (l:List UInt8):Int:=match (cD l).1.getLast? with|some s=>s.1|none=>0
theorem Wn {l:List UInt8}(h:(cD l).2=false):(cD l).1=[]:=by
 unfold cD at h ⊢
 split
 ·rfl
 ·rename_i h0
  rw[ah h0]at h
  split
  ·rfl
  ·rename_i hp
   rw[hp]at h
   dsimp only at h
   split
   ·rfl
   ·rename_i h1
    rw[ah h1]at h
    split
    ·rfl
    ·rename_i hr
     rw[hr]at h
     cases h
theorem Ri {l:List UInt8}(h:l.length≤1073741824):fF F0 (tx l)=some (cr l,()):=by
 rw[amt,Xg h,ai]
 rfl
theorem M5 {l:List UInt8}(h:l.length≤1073741824):fG F0 (tx l)=some (cr l,()):=by
 rw[anO,Re h,ai]
 rfl
theorem ass (ss:List ZK)(hlen:ss.length≤30)(d:ZK:=(0,[])):br ((ss.length:Int)==0) (some ((0:Int),())) (ck (cl (aj ((ss.length:Int)-1)) (ss.length:Int)) (some ((aP ss (aj ((ss.length:Int)-1)) d).1,())))=some ((match ss.getLast? with|some s=>s.1|none=>0),()):=by
 cases hs:ss with
 |nil=>rfl
 |cons s r =>
  rw[←hs]
  have h0:ss.length≠0:=by rw[hs];simp
  have h1:((ss.length:Int)==0)=false:=cp.2 (by omega)
  have h2:aj ((ss.length:Int)-1)=((ss.length-1:Nat):Int):=by rw[aH (by omega) (by omega)];omega
  rw[h1,aa,h2,av (by omega),ae,ZO (by omega),List.getLast?_eq_getElem?,oO (by omega)]
theorem aoJ {l:List UInt8}(h:l.length≤1073741824):ea F0 (tx l)=some (bu l,()):=by
 rw[amu,Xg h,ai]
 dsimp only
 cases hb:(cD l).2 with
 |true =>
  rw[aK,aa]
  exact ass _ (rK l)
 |false =>
  rw[eZ,af]
  unfold bu
  rw[Wn hb]
  rfl
theorem aix {l:List UInt8}(h:l.length≤1073741824):fa F0 (tx l)=some (bu l,()):=by
 rw[anP,Re h,ai]
 exact ass _ (rK l)
theorem P8 (l:List UInt8):0≤bu l∧bu l≤60:=by
 unfold bu
 split
 ·rename_i s hs
  have:=Rc l s (List.mem_of_getLast? hs)
  exact⟨this.1,this.2.1⟩
 ·omega
def bO (c:Int×Int):Bool:=iH 4 7 c.1&&iH 1 6 c.2
theorem jg (c:Int×Int):eC F0 c=some (bO c,()):=by
 rw[amp,dz,ai,dz,ai]
 unfold bO
 dsimp only
 cases iH 4 7 c.1<;>rfl
theorem gx (c:Int×Int):e9 F0 c=some (bO c,()):=by
 rw[anK,cg,ai,cg,ai]
 unfold bO
 dsimp only
 cases iH 4 7 c.1<;>rfl
theorem cO {c:Int×Int}(h:bO c=true):4≤c.1∧c.1≤7∧1≤c.2∧c.2≤6:=by
 unfold bO iH at h
 simp only[aJ,cH]at h
 omega
theorem axh {n:Int}(h1:4≤n)(h2:n≤7):1≤Int.tdiv (n-1) 3∧Int.tdiv (n-1) 3≤2:=by
 have:n=4∨n=5∨n=6∨n=7:=by omega
 rcases this with rfl|rfl|rfl|rfl<;>decide
def FP (c:Int×Int):Int:=if bO c=true then Int.tdiv (c.1-1) 3 else 0
def Kz (c:Int×Int):Int:=if bO c=true then c.1-Int.tdiv (c.1-1) 3 else 0
theorem aiy (c:Int×Int):Et F0 c=some (FP c,()):=by
 rw[anQ,gx,ai]
 unfold FP
 dsimp only
 cases h:bO c with
 |false=>rfl
 |true =>
  have:=cO h
  have h3:=axh this.1 this.2.1
  have e:aj (c.1-1)=c.1-1:=aH (by omega) (by omega)
  rw[aK,aa,e,aH (by omega) (by omega),ak rfl]
theorem aiz (c:Int×Int):Eu F0 c=some (Kz c,()):=by
 rw[anR,gx,ai,aiy,ai]
 unfold Kz FP
 dsimp only
 cases h:bO c with
 |false=>rfl
 |true =>
  have:=cO h
  have h3:=axh this.1 this.2.1
  rw[aK,aa,ak rfl,ak rfl,aH (by omega) (by omega)]
theorem aa6 (c:Int×Int):xh F0 c=some (Kz c,()):=by
 rw[amv,jg,ai]
 unfold Kz
 dsimp only
 cases h:bO c with
 |false=>rfl
 |true =>
  have:=cO h
  have h3:=axh this.1 this.2.1
  have e:aj (c.1-1)=c.1-1:=aH (by omega) (by omega)
  rw[aK,aa,e,aH (n:=Int.tdiv (c.1-1) 3) (by omega) (by omega),aH (by omega) (by omega),ak rfl]
def nx (n:Int)(s:List Int):Bool:=(List.range s.length).all fun k=>decide (0≤s.getD k 0)&&(decide (s.getD k 0<n)&&(decide (k=0) || decide (s.getD (k-1) 0<s.getD k 0)))
theorem Rj {β:Type}{n:Int}{s:List Int}{k:Nat}(hk:k<s.length)(x y:Option β) :
  br (decide (s.getD k 0<0)) x (br (decide (s.getD k 0≥n)) x (br (decide ((k:Int)>0)) (br (decide (s.getD (k-1) 0≥s.getD k 0)) x y) y)) =
  if (decide (0≤s.getD k 0)&&(decide (s.getD k 0<n)&&(decide (k=0) || decide (s.getD (k-1) 0<s.getD k 0))))=true then y else x:=by
 generalize s.getD k 0=a
 generalize s.getD (k-1) 0=b
 by_cases h1:a<0
 ·rw[aL h1,af,aR (show ¬0≤a by omega)]
  rfl
 ·rw[aR h1,aa,aL (show 0≤a by omega),jB]
  by_cases h2:a≥n
  ·rw[aL h2,af,aR (show ¬a<n by omega)]
   rfl
  ·rw[aR h2,aa,aL (show a<n by omega),jB]
   by_cases h3:k=0
   ·subst h3
    rfl
   ·rw[aL (show(k:Int)>0 by omega),af,aR h3,IM]
    by_cases h4:b≥a
    ·rw[aL h4,af,aR (show ¬b<a by omega)]
     rfl
    ·rw[aR h4,aa,aL (show b<a by omega)]
     rfl
theorem KA {k:Nat}(h0:0<k)(h:k≤9223372036854775807):aj ((k:Int)-1)=((k-1:Nat):Int):=by rw[aH (by omega) (by omega)];omega
theorem agN {s:List Int}(h:s.length≤1073741824)(n:Int):Bh F0 n s=some (nx n s,()):=by
 rw[aqq,lW (fun m k=>yl F0 (ym F0) m (qS n s k)) s.length (fun k=>decide (0≤s.getD k 0)&&(decide (s.getD k 0<n)&&(decide (k=0) || decide (s.getD (k-1) 0<s.getD k 0)))) (some (true,())) (some (false,())) (fun m k hk=>?_) (fun m=>?_) _ (by rw[ch];omega)]
 ·show(if nx n s=true then _ else _)=_
  cases nx n s<;>rfl
 ·rw[Li,aW hk,af,av hk,ae,mm,ajh,ae,ao (by omega)]
  by_cases h0:k=0
  ·subst h0
   rw[←Rj hk]
   rfl
  ·rw[KA (by omega) (by omega),av (show k-1<s.length by omega),ae,ae,mm,←Rj hk]
 ·rw[Li,aI,aa,afg]
theorem aa7 {s:List Int}(h:s.length≤1073741824)(n:Int):wK F0 n s=some (nx n s,()):=by
 rw[aqN,lW (fun m k=>zA F0 (zB F0) m (rp n s s (s.length:Int) k)) s.length (fun k=>decide (0≤s.getD k 0)&&(decide (s.getD k 0<n)&&(decide (k=0) || decide (s.getD (k-1) 0<s.getD k 0)))) (some (true,())) (some (false,())) (fun m k hk=>?_) (fun m=>?_) _ (by rw[ch];omega)]
 ·show(if nx n s=true then _ else _)=_
  cases nx n s<;>rfl
 ·rw[Mh,aW hk,af,av hk,ae,mm,akh,ao (by omega)]
  by_cases h0:k=0
  ·subst h0
   rw[←Rj hk]
   rfl
  ·rw[KA (by omega) (by omega),av (show k-1<s.length by omega),ae,mm,←Rj hk]
 ·rw[Mh,aI,aa,afX]
theorem agO {a b:List Int}(h:a.length≤1073741824):iA F0 a b=some (decide (a=b),()):=by
 rw[Pj]
 by_cases hl:a.length=b.length
 ·have e:((a.length:Int) != (b.length:Int))=false:=by rw[hl];exact alw (b.length:Int)
  rw[e,aa,lW (fun m k=>jt F0 (ie F0) m (ic a b (a.length:Int) k)) a.length (fun k=>a.getD k 0==b.getD k 0) (some (true,())) (some (false,())) (fun m k hk=>?_) (fun m=>?_) _ (by rw[ch];omega)]
  ·by_cases hab:a=b
   ·rw[aL hab,ak (kj.2 fun k _=>by rw[hab];exact abJ (b.getD k 0))]
   ·rw[aR hab,ah]
    intro nQ
    refine hab (List.ext_getElem hl fun k h1 h2=>?_)
    have:=kj.1 nQ k (kJ.2 h1)
    simpa [List.getD,h1,h2]using this
  ·rw[qn,aW hk,af,av hk,ae,av (hl▸hk),ae,mm,mm,KU,ao (by omega),azW]
   by_cases h3:a.getD k 0=b.getD k 0
   ·simp[h3]
   ·simp[h3]
  ·rw[qn,aI,aa,JT]
 ·have e:((a.length:Int) != (b.length:Int))=true:=DO.2 (by omega)
  rw[e,af,aR (fun hab=>hl (by rw[hab]))]
def X4 (c:Int×Int)(q:Int×List UInt8×List Int):Bool:=bO c&&(cr q.2.1&&(decide (bu q.2.1=q.1)&&(if q.2.1=[] then decide (q.2.2=[]) else nx c.1 q.2.2&&decide ((q.2.2.length:Int)≥Kz c))))
theorem au6:al=tx []:=rfl
theorem aoK {q:di}(h:q.2.2.length≤1073741824):iE F0 q=some (q,()):=by
 rw[anZ,oI h,ai]
theorem azX {v v':Int}{a b:List UInt8}{s t:List Int}(h:s.length≤1073741824):jJ F0 (v,tx a,s) (v',tx b,t)=some ((v==v')&&(decide (a=b)&&decide (s=t)),()):=by
 rw[Vq]
 dsimp only
 rw[Wg,agO h,ai]
 cases (v==v')<;>cases decide (a=b)<;>rfl
theorem axi {v:Int}{l:List UInt8}{s:List Int}(hl:l.length≤1073741824)(hs:s.length≤1073741824)(c:Int×Int):kv F0 c (v,tx l,s)=some (X4 c (v,l,s),()):=by
 rw[aue,jg,ai]
 unfold X4
 dsimp only
 rw[Ri hl,ai,aoJ hl,ai,agN hs,ai,aa6,ai,au6,Wg]
 cases bO c with
 |false=>rfl
 |true =>
  cases cr l with
  |false=>rfl
  |true =>
   by_cases hv:bu l=v
   ·rw[aL hv,show(bu l != v)=false by rw[hv];exact alw v]
    by_cases h0:l=[]
    ·rw[aL h0,ak h0]
     cases s with
     |nil=>rfl
     |cons x r=>rfl
    ·rw[aR h0,ah h0]
     cases nx c.1 s<;>rfl
   ·rw[aR hv,show(bu l != v)=true from DO.2 hv]
    rfl
theorem aDK {c:UInt8}{l:List UInt8}(h:parts c l=[[]]):l=[]:=by
 cases l with
 |nil=>rfl
 |cons x l =>
  unfold parts at h
  split at h
  ·exact absurd (xS h).2 (EP c l)
  ·split at h
   ·cases (xS h).1
   ·cases (xS h).1
theorem axj {σ β:Type}{f:σ→List UInt8→Option (σ×β)}{I:σ→Prop}{Q:β→Prop}(hf:∀s p s' b,I s→f s p=some (s',b)→Q b∧I s'):∀{l:List (List UInt8)} {s:σ} {r:List β},I s→Av f s l=some r→∀b∈r,Q b
 |[],s,r,_,h,b,hb=>by
  cases h
  cases hb
 |p::l,s,r,hI,h,b,hb=>by
  unfold Av at h
  cases hp:f s p with
  |none=>rw[hp]at h;cases h
  |some x =>
   obtain⟨s',b'⟩:=x
   rw[hp]at h
   obtain⟨h1,h2⟩:=hf s p s' b' hI hp
   dsimp only at h
   cases hr:Av f s' l with
   |none=>rw[hr]at h;cases h
   |some r' =>
    rw[hr]at h
    cases h
    rcases gU.1 hb with rfl|hb
    ·exact h1
    ·exact axj hf h2 hr b hb
theorem au7 {l:List UInt8}:∀s∈(cD l).1,1≤s.1:=by
 unfold cD
 split
 ·simp
 ·split
  ·simp
  ·split
   ·simp
   ·split
    ·simp
    ·rename_i hr
     refine axj (I:=fun s=>0≤s) (Q:=fun b=>1≤b.1) (fun s p s' b hs hf=>?_) (by omega) hr
     obtain⟨h1,h2⟩:=adX hf
     unfold ER at hf
     split at hf
     ·rename_i hc
      cases hf
      exact⟨by have:=hc.2.2.2.1;show 1≤_;omega,by have:=hc.2.2.2.1;omega⟩
     ·cases hf
theorem azY {l:List UInt8}(h:cr l=true)(h0:l≠[]):(cD l).1≠[]:=by
 unfold cr at h
 unfold cD at h ⊢
 rw[ah h0]at h ⊢
 cases hp:parts 47 l with
 |nil=>rw[hp]at h;cases h
 |cons p0 ps =>
  rw[hp]at h
  dsimp only at h ⊢
  split
  ·rename_i h1
   rw[ak h1]at h
   cases h
  ·rename_i h1
   rw[ah h1]at h
   have hp0:p0=[]:=av1 fun hne=>h1 (.inl hne)
   cases hr:Av ER 0 ps with
   |none=>rw[hr]at h;cases h
   |some r =>
    dsimp only
    intro WZ
    have hl:=P7 hr
    rw[WZ]at hl
    have:ps=[]:=X6 hl.symm
    subst this hp0
    exact h0 (aDK hp)
theorem aoL {l:List UInt8}(h:cr l=true)(h0:l≠[]):1≤bu l:=by
 have hne:=azY h h0
 unfold bu
 cases hs:(cD l).1.getLast? with
 |none=>exact absurd (List.getLast?_eq_none_iff.1 hs) hne
 |some s=>exact au7 s (List.mem_of_getLast? hs)
theorem azZ:bu []=0:=rfl
theorem aoM:cr []=true:=rfl
theorem aGe (c:Int×Int)(v:Int)(l:List UInt8)(s:List Int) :
  (bO c&&(((v==0)&&(decide (l=[])&&decide (s=[]))) || (decide (v≥1)&&(cr l&&((v==bu l)&&(nx c.1 s&&decide ((s.length:Int)≥Kz c)))))))=X4 c (v,l,s):=by
 unfold X4
 dsimp only
 cases hc:bO c with
 |false=>rfl
 |true =>
  rw[jB,jB]
  by_cases h0:l=[]
  ·subst h0
   rw[azZ,aoM,ak rfl,aL rfl,jB,jB,jB]
   by_cases hv:v=0
   ·subst hv
    rw[abJ,aL rfl,aR (show ¬(0:Int)≥1 by omega),X9,Bool.or_false]
   ·rw[cp.2 hv,aR (show ¬(0:Int)=v from fun h=>hv h.symm)]
    simp
  ·rw[aR h0,X9,ahm,IM,ah h0]
   cases hn:cr l with
   |false=>rw[X9,X9,ahm]
   |true =>
    have:=aoL hn h0
    by_cases hv:v=bu l
    ·rw[aL (show v≥1 by omega),bB.2 hv,aL hv.symm]
     rfl
    ·rw[cp.2 hv,aR (show ¬bu l=v from fun h=>hv h.symm)]
     simp
theorem ast {v:Int}{l:List UInt8}{s:List Int}(hl:l.length≤1073741824)(hs:s.length≤1073741824)(c:Int×Int):mT F0 c (v,tx l,s)=some (X4 c (v,l,s),()):=by
 rw[←aGe,auy,gx,ai,SQ,ai]
 dsimp only
 rw[au6,azX hs,ai,M5 hl,ai,aix hl,ai,aa7 hs,ai,aiz,ai]
 dsimp only
 generalize cr l=b1
 generalize bu l=b2
 generalize nx c.1 s=b3
 generalize decide ((s.length:Int)≥Kz c)=b4
 generalize decide (v≥1)=b5
 generalize ((v==0)&&(decide (l=[])&&decide (s=[])))=b6
 generalize (v==b2)=b7
 cases bO c<;>cases b1<;>cases b3<;>cases b4<;>cases b5<;>cases b6<;>cases b7<;>rfl
def Wo (c:Int×Int)(p:Int×List UInt8×List Int):Option (Int×List UInt8×List Int):=if p.2.1≠[]∧X4 c p=true then some p else none
def aCx (o:Option (Int×List UInt8×List Int)):di×Bool:=match o with
 |some q=>((q.1,tx q.2.1,q.2.2),true)
 |none=>((0,tx [],[]),false)
theorem az0 {v:Int}{l:List UInt8}{s:List Int}(hl:l.length≤1073741824)(hs:s.length≤1073741824)(c:Int×Int):Ek F0 c (v,tx l,s)=some ((aCx (Wo c (v,l,s))).1,(aCx (Wo c (v,l,s))).2,()):=by
 rw[am3]
 dsimp only
 rw[az (by omega) (by omega) (by omega),ae,au6,Wg,AI,axi hl hs,ai]
 unfold Wo
 dsimp only
 by_cases h0:l=[]
 ·rw[aL h0,af,ah (fun h=>h.1 h0)]
  rfl
 ·rw[aR h0,aa]
  cases hq:X4 c (v,l,s) with
  |true=>rw[ak ⟨h0,rfl⟩];rfl
  |false=>rw[ah (fun h=>by cases h.2)];rfl
theorem aDL {c:Int×Int}{v:Int}{l:List UInt8}{s:List Int}(h:X4 c (v,l,s)=true):(v==0)=decide (l=[]):=by
 unfold X4 at h
 simp only[aJ,cH]at h
 obtain⟨_,h1,h2,_⟩:=h
 by_cases h0:l=[]
 ·subst h0
  rw[←h2]
  rfl
 ·have:=aoL h1 h0
  rw[aR h0]
  exact cp.2 (by omega)
theorem axk {v:Int}{l:List UInt8}{s:List Int}(hl:l.length≤1073741824)(hs:s.length≤1073741824)(c:Int×Int):EH F0 c (v,tx l,s)=some ((aCx (Wo c (v,l,s))).1,(aCx (Wo c (v,l,s))).2,()):=by
 rw[an9,aoK (q:=(v,tx l,s)) hs,ai]
 dsimp only
 rw[ast hl hs,ai]
 unfold Wo
 dsimp only
 cases hq:X4 c (v,l,s) with
 |false=>rw[ah (fun h=>by cases h.2)];rfl
 |true =>
  rw[aK,aa,aDL hq]
  by_cases h0:l=[]
  ·rw[aL h0,af,ah (fun h=>h.1 h0)]
   rfl
  ·rw[aR h0,aa,ak ⟨h0,rfl⟩]
   rfl
def cG (c:Int×Int)(view:Int):Int:=if bO c=true∧0≤view then view%c.1 else -1
def Wp (c:Int×Int)(view s:Int):Int:=if bO c=true∧0≤view∧0≤s∧s≤c.1-1 then (view%c.1+s)%c.1 else -1
def bX (c:Int×Int)(view i:Int):Int:=if bO c=true∧0≤view∧0≤i∧i≤c.1-1 then (i+c.1-view%c.1)%c.1 else -1
def P9 (c:Int×Int)(view i:Int):Int:=if bX c view i≤0 then -1 else Wp c view ((bX c view i-1)/c.2)
theorem uF {a b:Int}(h:0≤a):Int.tmod a b=a%b:=alq h
theorem ne0 {n:Int}(h:4≤n):(!(n==0))=true:=by rw[cp.2 (show n≠0 by omega)];rfl
theorem alf {lo hi x:Int}:iH lo hi x=decide (lo≤x∧x≤hi):=by
 unfold iH
 by_cases h1:lo≤x<;>by_cases h2:x≤hi<;>simp[h1,h2]
theorem au8 {n:Int}(h1:4≤n)(view:Int):0≤view%n∧view%n<n:=⟨ahk _ (by omega),alr _ (by omega)⟩
theorem KB (c:Int×Int)(view:Int):mH F0 c view=some (cG c view,()):=by
 rw[auh,jg,ai]
 unfold cG
 cases hc:bO c with
 |false=>rfl
 |true =>
  have hn:=cO hc
  by_cases hv:view<0
  ·rw[aL hv,ah (fun h=>by omega)]
   rfl
  ·rw[aR hv,aK,aa,aa,ne0 hn.1,ae,ak ⟨rfl,by omega⟩,uF (by omega)]
theorem IF (c:Int×Int)(view:Int):tf F0 c view=some (cG c view,()):=by
 rw[auI,gx,ai]
 unfold cG
 cases hc:bO c with
 |false=>rfl
 |true =>
  have hn:=cO hc
  by_cases hv:view<0
  ·rw[aL hv,ah (fun h=>by omega)]
   rfl
  ·rw[aR hv,aK,aa,aa,ne0 hn.1,ae,ak ⟨rfl,by omega⟩,uF (by omega)]
theorem Wq {n:Int}(h1:4≤n)(h2:n≤7):aj (n-1)=n-1:=aH (by omega) (by omega)
theorem aGf (c:Int×Int)(view s:Int):W4 F0 c view s=some (Wp c view s,()):=by
 rw[aul,jg,ai]
 unfold Wp
 cases hc:bO c with
 |false=>rfl
 |true =>
  have hn:=cO hc
  have hm:=au8 hn.1 view
  by_cases hv:view<0
  ·rw[aL hv,ah (fun h=>by omega)]
   rfl
  ·rw[aR hv,aK,aa,aa,dz,ai,Wq hn.1 hn.2.1,alf]
   by_cases hs:0≤s∧s≤c.1-1
   ·rw[aL hs,aK,aa,ne0 hn.1,ae,ae,ak ⟨rfl,by omega,hs.1,hs.2⟩,uF (a:=view) (by omega),aH (by omega) (by omega),uF (by omega)]
   ·rw[aR hs,ah (fun h=>hs ⟨h.2.2.1,h.2.2.2⟩)]
    rfl
theorem aDM (c:Int×Int)(view s:Int):Xc F0 c view s=some (Wp c view s,()):=by
 rw[auL,gx,ai]
 unfold Wp
 cases hc:bO c with
 |false=>rfl
 |true =>
  have hn:=cO hc
  have hm:=au8 hn.1 view
  by_cases hv:view<0
  ·rw[aL hv,ah (fun h=>by omega)]
   rfl
  ·rw[aR hv,aK,aa,aa,cg,ai,Wq hn.1 hn.2.1,alf]
   by_cases hs:0≤s∧s≤c.1-1
   ·rw[aL hs,aK,aa,ne0 hn.1,ae,ae,ak ⟨rfl,by omega,hs.1,hs.2⟩,uF (a:=view) (by omega),aH (by omega) (by omega),uF (by omega)]
   ·rw[aR hs,ah (fun h=>hs ⟨h.2.2.1,h.2.2.2⟩)]
    rfl
theorem Wr (c:Int×Int)(view i:Int):Iy F0 c view i=some (bX c view i,()):=by
 rw[auk,jg,ai]
 unfold bX
 cases hc:bO c with
 |false=>rfl
 |true =>
  have hn:=cO hc
  have hm:=au8 hn.1 view
  by_cases hv:view<0
  ·rw[aL hv,ah (fun h=>by omega)]
   rfl
  ·rw[aR hv,aK,aa,aa,dz,ai,Wq hn.1 hn.2.1,alf]
   by_cases hs:0≤i∧i≤c.1-1
   ·rw[aL hs,aK,aa,ne0 hn.1,ae,ae,ak ⟨rfl,by omega,hs.1,hs.2⟩,uF (a:=view) (by omega),aH (n:=i+c.1) (by omega) (by omega),aH (by omega) (by omega),uF (by omega)]
   ·rw[aR hs,ah (fun h=>hs ⟨h.2.2.1,h.2.2.2⟩)]
    rfl
theorem IG (c:Int×Int)(view i:Int):IA F0 c view i=some (bX c view i,()):=by
 rw[auK,gx,ai]
 unfold bX
 cases hc:bO c with
 |false=>rfl
 |true =>
  have hn:=cO hc
  have hm:=au8 hn.1 view
  by_cases hv:view<0
  ·rw[aL hv,ah (fun h=>by omega)]
   rfl
  ·rw[aR hv,aK,aa,aa,cg,ai,Wq hn.1 hn.2.1,alf]
   by_cases hs:0≤i∧i≤c.1-1
   ·rw[aL hs,aK,aa,ne0 hn.1,ae,ae,ak ⟨rfl,by omega,hs.1,hs.2⟩,uF (a:=view) (by omega),aH (n:=i-view%c.1) (by omega) (by omega),aH (by omega) (by omega),uF (by omega),
     show i-view%c.1+c.1=i+c.1-view%c.1 by omega]
   ·rw[aR hs,ah (fun h=>hs ⟨h.2.2.1,h.2.2.2⟩)]
    rfl
theorem Xj (c:Int×Int)(view i:Int):-1≤bX c view i∧bX c view i≤6:=by
 unfold bX
 split
 ·rename_i h
  have hn:=cO h.1
  have h1:=ahk (i+c.1-view%c.1) (show c.1≠0 by omega)
  have h2:=alr (i+c.1-view%c.1) (show 0<c.1 by omega)
  omega
 ·omega
theorem aiA {c:Int×Int}{view i:Int}(h:0≤bX c view i):bO c=true:=by
 unfold bX at h
 split at h
 ·rename_i hh;exact hh.1
 ·omega
theorem aGg {a b:Int}(h1:0≤a)(h2:a≤6)(h3:1≤b):0≤a/b∧a/b≤6:=⟨Int.ediv_nonneg h1 (by omega),Int.le_trans (Int.ediv_le_self b h1) h2⟩
theorem aGh (c:Int×Int)(view i:Int):W5 F0 c view i=some (P9 c view i,()):=by
 rw[azL,Wr,ai]
 unfold P9
 have hs:=Xj c view i
 by_cases h0:bX c view i≤0
 ·rw[aL (show(bX c view i,()).1≤0 from h0),af,ak h0]
 ·have hn:=cO (aiA (c:=c) (view:=view) (i:=i) (by omega))
  have hd:=aGg (a:=bX c view i-1) (b:=c.2) (by omega) (by omega) hn.2.2.1
  rw[aR (show ¬(bX c view i,()).1≤0 from h0),aa,ah h0,show(!(c.2==0))=true by rw[cp.2 (show c.2≠0 by omega)];rfl,ae]
  dsimp only
  rw[aH (n:=bX c view i-1) (by omega) (by omega),art (show 0≤bX c view i-1 by omega),aH (by omega) (by omega),aGf,ai]
theorem aCy (c:Int×Int)(view i:Int):Xd F0 c view i=some (P9 c view i,()):=by
 rw[azM,IG,ai]
 unfold P9
 have hs:=Xj c view i
 by_cases h0:bX c view i≤0
 ·rw[aL (show(bX c view i,()).1<1 by show bX c view i<1;omega),af,ak h0]
 ·have hn:=cO (aiA (c:=c) (view:=view) (i:=i) (by omega))
  have hd:=aGg (a:=bX c view i-1) (b:=c.2) (by omega) (by omega) hn.2.2.1
  rw[aR (show ¬(bX c view i,()).1<1 by show ¬bX c view i<1;omega),aa,ah h0,show(!(c.2==0))=true by rw[cp.2 (show c.2≠0 by omega)];rfl,ae]
  dsimp only
  rw[aH (n:=bX c view i-1) (by omega) (by omega),art (show 0≤bX c view i-1 by omega),aH (by omega) (by omega),aDM,ai]
def asu (a b:List Int):List Int:=b.foldl Wm (a.foldl Wm [])
theorem ny:∀(l out:List Int),(l.foldl Wm out).length≤out.length+l.length
 |[],out=>by simp
 |x::l,out=>by
  have h1:=ny l (Wm out x)
  have h2:=aoI out x
  rw[List.foldl_cons,ba]
  omega
theorem aDN (a b:List Int):(asu a b).length≤a.length+b.length:=by
 unfold asu
 have h1:=ny b (a.foldl Wm [])
 have h2:=ny a []
 rw[bA]at h2
 omega
theorem Xk {γ:Type}(X:Nat→Int→List Int→Option γ)(l out:List Int)(R:Option γ)(hlen:out.length+l.length≤1048576)(hs:∀n k xs (h:k<l.length),xs.length≤1048575→X (n+1) (k:Int) xs=X n ((k+1:Nat):Int) (Wm xs l[k]))
  (he:∀n,X (n+1) (l.length:Int) (l.foldl Wm out)=R) (n:Nat) (hn:l.length<n):X n 0 out=R:=by
 refine dp X l.length (fun k xs=>xs=(l.take k).foldl Wm out) R (fun n k xs hk h=>.inr ⟨Wm xs l[k],hs n k xs hk ?_,?_⟩) (fun n xs h=>?_) n 0 out (aV _) rfl (by omega)
 ·have:=ny (l.take k) out
  rw[h]
  rw[bQ]at this
  omega
 ·rw[jA hk,List.foldl_append,←h]
  rfl
 ·rw[nF]at h
  rw[h]
  exact he n
theorem axl {a b:List Int}(h:a.length+b.length≤1048576):Hs F0 a b=some (asu a b,()):=by
 rw[ajT]
 have hl:=ny a []
 rw[bA]at hl
 refine Xk (fun n i xs=>y4 F0 (BA F0) n (sx a b i xs)) a [] _ (by rw[bA];omega) (fun n k xs hk hx=>?_) (fun n=>?_) _ (by rw[ch];omega)
 ·rw[Ge,aW hk,af,av hk,ae,bC hk,aa5 (by omega),ai,ao (by omega)]
 ·rw[Ge,aI,aa,aaD]
  refine Xk (fun n i xs=>y3 F0 (Bz F0) n (sw b i xs)) b (a.foldl Wm []) _ (by omega) (fun n k xs hk hx=>?_) (fun n=>?_) _ (by rw[ch];omega)
  ·rw[Gc,aW hk,af,av hk,ae,bC hk,aa5 (by omega),ai,ao (by omega)]
  ·rw[Gc,aI,aa,aaC]
   rfl
theorem au9 {a b:List Int}(h:a.length+b.length≤1048576):HX F0 a b=some (asu a b,()):=by
 rw[akJ]
 have hl:=ny a []
 rw[bA]at hl
 refine Xk (fun n i xs=>Ac F0 (BZ F0) n (td b a (a.length:Int) i xs)) a [] _ (by rw[bA];omega) (fun n k xs hk hx=>?_) (fun n=>?_) _ (by rw[ch];omega)
 ·rw[GF,aW hk,af,av hk,ae,bC hk,aiw (by omega),ai,ao (by omega)]
 ·rw[GF,aI,aa,aaX]
  refine Xk (fun n i xs=>Ab F0 (BY F0) n (ta b (b.length:Int) i xs)) b (a.foldl Wm []) _ (by omega) (fun n k xs hk hx=>?_) (fun n=>?_) _ (by rw[ch];omega)
  ·rw[GD,aW hk,af,av hk,ae,bC hk,aiw (by omega),ai,ao (by omega)]
  ·rw[GD,aI,aa,aaW]
   rfl
theorem mb {i n:Int}(h0:0≤i)(h:i<n):cl i n=true:=by simp[cl];omega
end Go.Am.Tryz
