/- Lemmas for the claim. No condition. -/
import Derived.Test.YtfapcfpkbahneaaGreatDoorQlVJL2
set_option linter.all false
namespace Go.Am.Tryz
open Go.Am
theorem aiF {l:nD}(h4:aa4 l){list:List fy}(hl:list.length≤1048576):xB F0 l list=some (rM l list,rL l list,()):=by
 rw[aoi,Wj (by have:=h4.1;omega) (by have:=h4.2;omega),ai]
 refine dp (fun n i (z:List Int×nD)=>DB F0 (FM F0) n (wa list (list.length:Int) i z.1 [] [] z.2.1 z.2.2)) list.length (fun k z=>z.1=rL l (list.take k)∧z.2=rM l (list.take k)) _ (fun n k z hk hI=>.inr ⟨(z.1++[(lE z.2 list[k]).2],(lE z.2 list[k]).1),?_,?_⟩) (fun n z hI=>?_) F0.n 0 ([],l) (aV _) ⟨rfl,rfl⟩ (by rw[ch];omega)
 ·obtain⟨h1,h2⟩:=hI
  have q4:aa4 z.2:=by rw[h2];exact Xh h4
  have hz:z.1.length≤1048576:=by rw[h1,Rg,bQ];omega
  rw[Kp,aW hk,af,av hk,ae,ZO hk]
  try rw[aMy]
  rw[aoG (l:=(z.2.1,z.2.2)) (by have:=q4.1;show z.2.1.length≤_;omega) (by have:=q4.2;show z.2.2.length≤_;omega),ai]
  simp only
  rw[az (a:=z.1.length) (b:=[(lE (z.2.1,z.2.2) list[k]).2].length) (k:=8) (by omega) (by omega) (by simp only[ba,bA];omega),ae,ao (by omega)]
 ·obtain⟨h1,h2⟩:=hI
  have ht:list.take (k+1)=list.take k++[list[k]]:=by rw[KW,oO hk];rfl
  refine⟨?_,?_⟩
  ·rw[ht,Rh,←h1,←h2]
   rfl
  ·rw[ht,Wl,←h2]
 ·obtain⟨h1,h2⟩:=hI
  rw[nF]at h1 h2
  rw[Kp,aI,aa,adJ,h1,h2]
theorem aAg {l:List UInt8}(hl:l.length≤1073741824):wX F0 (tx l)=some ((cD l).1.flatMap (·.2),()):=by
 rw[aq1,Re hl,ai]
 have hlen:=rK l
 have dS:=Rc l
 generalize hss:(cD l).1=ss at hlen dS
 refine dp (fun n i xs=>H6 F0 (Kj F0) n (Ah (ss.length:Int) i xs ss)) ss.length (fun k xs=>xs=(ss.take k).flatMap (·.2)) _ (fun n k xs hk hI=>.inr ⟨_,?_,rfl⟩) (fun n xs hI=>?_) F0.n 0 [] (aV _) rfl (by rw[ch];omega)
 ·have h1:=(dS _ (dr hk)).2.2.1
  have hx:=adZ (ss:=ss.take k) fun x hx=>dS x (abG hx)
  rw[←hI,bQ]at hx
  rw[MS,aW hk,af,av hk,ae,ZO hk,az (a:=xs.length) (b:=ss[k].2.length) (k:=32) (by omega) (by omega) (by omega),ae,ao (by omega),hI]
  have hf:(ss.take (k+1)).flatMap (·.2)=(ss.take k).flatMap (·.2)++ss[k].2:=by
   rw[show ss.take (k+1)=ss.take k++[ss[k]] by rw[KW,oO hk];rfl,List.flatMap_append]
   simp
  rw[hf]
 ·rw[nF]at hI
  rw[MS,aI,aa,agq,hI]
def ao3 (b:ByteArray):List fy:=(cD b.data.toList).1.flatMap (·.2)
theorem Qe (b:ByteArray):(ao3 b).length≤60:=by
 have h1:=adZ (Rc b.data.toList)
 have h2:=rK b.data.toList
 unfold ao3
 omega
theorem axG {b:ByteArray}(h:b.size≤1048576):wF F0 b=some (ao3 b,()):=aDJ (Tv h)
theorem asE {b:ByteArray}(h:b.size≤1048576):wX F0 b=some (ao3 b,()):=aAg (Tv h)
theorem abe:aa4 au3:=⟨rfl,rfl⟩
def wy (c:Int×Int)(r:aD):nD:=if nz c r=true then rM au3 (ao3 r.2.2.2.1.2.2.2) else ([],[])
theorem aDY {r:aD}(h:aoS r)(c:Int×Int):JI F0 c r=some (wy c r,()):=by
 have ht:=Qe r.2.2.2.1.2.2.2
 rw[aqC,iT h,ai,ZN,ai,axG h.s.2,ai,aoH abe (cT (Qe _) (by omega)),ai]
 unfold wy
 cases nz c r<;>rfl
theorem aAh {r:aD}(h:aoS r)(c:Int×Int):oF F0 c r=some (wy c r,()):=by
 have ht:=Qe r.2.2.2.1.2.2.2
 rw[aq2,eL h,ai,Wk,ai,asE h.s.2,ai,aiF abe (cT (Qe _) (by omega)),ai]
 unfold wy
 cases nz c r<;>rfl
def axH (c:Int):Bool:=(c==0) || (c==4)
abbrev xO:=List Int×Int×Int
def Rp (c:xO):Prop:=c.1.length≤1048576∧0≤c.2.1∧c.2.1≤1048576
theorem avk (n:Int):0≤aj ((BitVec.ofInt 64 n &&& BitVec.ofInt 64 255).toNat:Int)∧aj ((BitVec.ofInt 64 n &&& BitVec.ofInt 64 255).toNat:Int)≤255:=by
 have h:(BitVec.ofInt 64 n &&& BitVec.ofInt 64 255).toNat≤255:=by
  rw[BitVec.toNat_and]
  exact cT Nat.and_le_right (by decide)
 rw[aH (by omega) (by omega)]
 omega
theorem aCF {c:xO}(h:Rp c):∃(v:Int) (c':xO),kP F0 c=some ((v,()),c',())∧0≤v∧v≤255∧Rp c':=by
 rw[amm]
 by_cases hlt:c.2.1<(c.1.length:Int)
 ·rw[aL hlt,af,show cl c.2.1 (c.1.length:Int)=true by simp[cl];exact⟨h.2.1,hlt⟩,ae]
  have hl:=h.1
  have h0:=h.2.1
  refine⟨_,_,rfl,(avk _).1,(avk _).2,h.1,?_,?_⟩
  ·show 0≤aj (c.2.1+1)
   rw[aH (by omega) (by omega)]
   omega
  ·show aj (c.2.1+1)≤1048576
   rw[aH (by omega) (by omega)]
   omega
 ·rw[aR hlt,aa]
  exact⟨_,_,rfl,(avk _).1,(avk _).2,h⟩
theorem avl {a n:Int}(h0:0≤a)(hn:0<n):0≤Int.tmod a n∧Int.tmod a n<n:=by
 rw[alq h0]
 exact⟨ahk _ (by omega),alr _ hn⟩
theorem ao4 {c:xO}(h:Rp c){n:Int}(hn:0<n)(hn2:n≤256):∃(v:Int) (c':xO),ax F0 c n=some ((v,()),c',())∧0≤v∧v<n∧Rp c':=by
 obtain⟨v,c',h1,h2,h3,h4⟩:=aCF h
 rw[RR,aR (show ¬n≤0 by omega),aa,aL hn2,af,h1,ai,show(!(n==0))=true by rw[cp.2 (show n≠0 by omega)];rfl,ae]
 exact⟨_,_,rfl,(avl h2 hn).1,(avl h2 hn).2,h4⟩
theorem aAi {c:xO}(h:Rp c){l:List Int}(hn:0<l.length)(hn2:l.length≤256):∃(v:Int) (c':xO),jY F0 c l=some ((v,()),c',())∧v∈l∧Rp c':=by
 obtain⟨v,c',h1,h2,h3,h4⟩:=ao4 h (n:=(l.length:Int)) (by omega) (by omega)
 have hv:v.toNat<l.length:=by omega
 rw[acn,h1,ai,show cl v (l.length:Int)=true by simp[cl];exact⟨h2,h3⟩,ae]
 refine⟨_,_,rfl,?_,h4⟩
 have e:v=(v.toNat:Int):=by omega
 show aP l v 0∈l
 rw[e,bC hv]
 exact dr hv
theorem aIg {c:xO}(h:Rp c){n:Int}(hn:0<n)(hn2:n≤256):∃(v:Bool) (c':xO),nG F0 c n=some ((v,()),c',())∧Rp c':=by
 obtain⟨v,c',h1,h2,h3,h4⟩:=ao4 h hn hn2
 rw[amo,h1,ai]
 exact⟨_,_,rfl,h4⟩
theorem aKo {code:List Int}(h:code.length≤1048576):∃c':xO,I5 F0 code=some (((c',()),()))∧Rp c':=by
 rw[aqj]
 suffices hh:∀(j:Nat) (q:Int) (k n:Nat),k+j=code.length→j<n→∃q':Int,GU F0 (I4 F0) n (yb code q (k:Int) code)=some ((((code,0,q'):xO),()),()) by
  obtain⟨q',e⟩:=hh code.length (aj (26583+(code.length:Int))) 0 F0.n (w8 _) (by rw[ch];omega)
  exact⟨_,e,h,TU _,by show(0:Int)≤1048576;decide⟩
 intro j
 induction j with
 |zero =>
  intro q k n hk hn
  obtain⟨n,rfl⟩:∃m,n=m+1:=⟨n-1,by omega⟩
  obtain rfl:k=code.length:=by omega
  rw[Ld,aI,aa,Ol]
  exact⟨q,rfl⟩
 |succ j ih =>
  intro q k n hk hn
  obtain⟨n,rfl⟩:∃m,n=m+1:=⟨n-1,by omega⟩
  have hlt:k<code.length:=by omega
  rw[Ld,aW hlt,af]
  cases decide ((k:Int)<4000) with
  |false =>
   rw[aa,Ol]
   exact⟨q,rfl⟩
  |true =>
   rw[af,av hlt,ae,ao (by omega)]
   exact ih _ (k+1) n (by omega) (by omega)
theorem Rq (c x:UInt8)(l:List UInt8):parts c (x::l)=if x=c then []::parts c l else match parts c l with
  |p::ps=>(x::p)::ps
  |[]=>[[x]]:=by
 conv=>lhs;unfold parts
 cases parts c l<;>rfl
theorem agU {c:UInt8}:∀(a b:List UInt8),parts c (a++c::b)=parts c a++parts c b
 |[],b=>by
  rw[AI,Rq,ak rfl]
  rfl
 |x::a,b=>by
  rw[FT,Rq c x (a++c::b),Rq c x a]
  by_cases hx:x=c
  ·rw[ak hx,ak hx,agU a b]
   rfl
  ·rw[ah hx,ah hx,agU a b]
   have hne:=EP c a
   cases hp:parts c a with
   |nil=>exact absurd hp hne
   |cons p ps=>rfl
theorem axI {σ β:Type}{f:σ→List UInt8→Option (σ×β)}:∀{l m:List (List UInt8)} {s:σ} {r:List β},Av f s (l++m)=some r→∃r1 r2,Av f s l=some r1∧r=r1++r2∧r2.length=m.length
 |[],m,s,r,h=>⟨[],r,rfl,rfl,P7 h⟩
 |p::l,m,s,r,h=>by
  rw[FT]at h
  unfold Av at h ⊢
  cases hp:f s p with
  |none=>rw[hp]at h;cases h
  |some x =>
   obtain⟨s',b⟩:=x
   rw[hp]at h
   dsimp only at h ⊢
   cases hr:Av f s' (l++m) with
   |none=>rw[hr]at h;cases h
   |some r' =>
    rw[hr]at h
    cases h
    obtain⟨r1,r2,h1,h2,h3⟩:=axI hr
    rw[h1]
    exact⟨b::r1,r2,rfl,by rw[h2];rfl,h3⟩
theorem aAj {a t:List UInt8}(ht:(47:UInt8) ∉ t)(h:cr (a++47::t)=true):cr a=true∧∃x,(cD (a++47::t)).1=(cD a).1++[x]:=by
 have hne:a++47::t≠[]:=by simp
 unfold cr at h ⊢
 unfold cD at h ⊢
 rw[ah hne,agU,aoC ht]at h ⊢
 cases hp:parts 47 a with
 |nil=>exact absurd hp (EP 47 a)
 |cons p0 ps =>
  rw[hp,FT]at h
  rw[FT]
  dsimp only at h ⊢
  by_cases hc:¬p0=[]∨30<(ps++[t]).length
  ·rw[ak hc]at h
   cases h
  ·rw[ah hc]at h ⊢
   have h0:p0=[]:=av1 fun hn=>hc (.inl hn)
   have hl:¬30<(ps++[t]).length:=fun hn=>hc (.inr hn)
   rw[aM,dU]at hl
   cases hr:Av ER 0 (ps++[t]) with
   |none=>rw[hr]at h;cases h
   |some r =>
    obtain⟨r1,r2,h1,h2,h3⟩:=axI hr
    obtain⟨x,rfl⟩:∃x,r2=[x]:=by
     cases r2 with
     |nil=>cases h3
     |cons x r2 =>
      cases r2 with
      |nil=>exact⟨x,rfl⟩
      |cons _ _=>simp at h3
    by_cases ha:a=[]
    ·subst ha
     have:ps=[]:=by
      have:=hp
      unfold parts at this
      exact(xS this).2.symm
     subst this
     cases h1
     rw[ak rfl]
     exact⟨rfl,x,h2⟩
    ·rw[ah ha,ah (fun hn=>hn.elim (fun hn=>hn h0) (fun hn=>by omega)),h1]
     exact⟨rfl,x,h2⟩
def oK (l:List fy):List UInt8:=Lib.join (l.map txL) [44]
def Nb (l:List fy):List UInt8:=if l.all iG=true then oK l else []
theorem aIh {l:List fy}(h:l.all iG=true):∀x∈l.map txL,x.length≤90:=by
 intro x hx
 obtain⟨y,hy,rfl⟩:=IN.1 hx
 exact aoy (kj.1 h y hy)
theorem KI {l:List fy}(h:l.all iG=true):(oK l).length≤91*l.length:=by
 have:=aHS (aIh h) 44
 rw[tZ]at this
 exact this
theorem aef {l:List fy}{k:Nat}(hk:k<l.length):(l.take (k+1)).all iG=((l.take k).all iG&&iG l[k]):=by
 rw[KW,oO hk,List.all_append]
 simp
theorem NV {α β:Type}{l:List α}{f:α→β}{k:Nat}(hk:k<l.length):(l.take (k+1)).map f=(l.take k).map f++[f l[k]]:=by
 rw[KW,oO hk,aeO]
 rfl
theorem Ii {l:List fy}{k:Nat}(hk:k<l.length)(h:iG l[k]=false):l.all iG=false:=by
 rw[ary]
 exact⟨l[k],dr hk,by simp[h]⟩
theorem asF {x:fy}(h:iG x=true):aa2 x=txL x:=ak h
theorem axJ {l:List fy}(h:l.length≤1048576):Hm F0 l=some (tx (Nb l),()):=by
 rw[ajE]
 refine dp (fun n i (out:ByteArray)=>q0 F0 (sk F0) n (mJ l out i)) l.length (fun k out=>(l.take k).all iG=true∧out=tx (oK (l.take k))) _ (fun n k out hk ho=>?_) (fun n out ho=>?_) _ 0 _ (aV _) ⟨rfl,rfl⟩ (by rw[ch];omega)
 ·obtain⟨ha,rfl⟩:=ho
  have hj:=KI ha
  rw[bQ,als (by omega)]at hj
  rw[F8,aW hk,af,av hk,ae,ZO hk,P5,ai,acI]
  dsimp only
  cases hx:iG l[k]with
  |false =>
   left
   rw[eZ,af,Nb,Ii hk hx]
   rfl
  |true =>
   right
   have hl:=aoy hx
   refine⟨tx (oK (l.take (k+1))),?_,by rw[aef hk,ha,hx];rfl,rfl⟩
   rw[aK,aa,ae,ae,aoz,ai,ai,asF hx,show ByteArray.mk #[44]=tx [44] from rfl,gJ]
   dsimp only
   rw[iU (by rw[bP,bP,dU];omega),ae,iU (by rw[bP,bP,aM,dU];omega),ae,iU (by rw[bP,bP];omega),ae,gJ,gJ,ao (by omega)]
   by_cases h0:k=0
   ·subst h0
    rw[show decide (((0:Nat):Int)>0)=false from rfl,aa,show oK (l.take (0+1))=oK (l.take 0)++txL l[0] by rw[oK,NV hk];simp[oK,Lib.join_one,Lib.join_nil]]
   ·have hne:(l.take k).map txL≠[]:=by
     intro e
     have:=AJ List.length e
     rw[tZ,bQ,bA]at this
     omega
    rw[aL (show(k:Int)>0 by omega),af,show oK (l.take (k+1))=oK (l.take k)++[44]++txL l[k] by rw[oK,NV hk,aDu hne];rfl]
 ·obtain⟨ha,rfl⟩:=ho
  rw[nF]at ha ⊢
  rw[F8,aI,aa,aax,Nb,ak ha]
theorem aIi (l:List fy):((l.map fun x=>tx (txL x)).map fun b=>b.data.toList)=l.map txL:=by
 rw[List.map_map]
 exact List.map_congr_left fun n _=>iL _
theorem avm {l:List fy}(h:l.length≤524288):H8 F0 l=some (tx (Nb l),()):=by
 rw[akP]
 refine dp (fun n i (xs:List ByteArray)=>An F0 (tu F0) n (tt l (l.length:Int) i xs)) l.length (fun k xs=>(l.take k).all iG=true∧xs=(l.take k).map fun x=>tx (txL x)) _ (fun n k xs hk ho=>?_) (fun n xs ho=>?_) F0.n 0 [] (aV _) ⟨rfl,rfl⟩ (by rw[ch];omega)
 ·obtain⟨ha,rfl⟩:=ho
  rw[GK,aW hk,af,av hk,ae,ZO hk,B4,ai,adN]
  dsimp only
  cases hx:iG l[k]with
  |false =>
   left
   rw[eZ,af,Nb,Ii hk hx]
   rfl
  |true =>
   right
   refine⟨(l.take (k+1)).map fun x=>tx (txL x),?_,by rw[aef hk,ha,hx];rfl,rfl⟩
   rw[aK,aa,aiv,ai,asF hx,az (by omega) (by omega) (by rw[tZ,bQ,dU];omega),ae,ao (by omega),NV hk]
 ·obtain⟨ha,rfl⟩:=ho
  rw[nF]at ha ⊢
  rw[GK,aI,aa,aa0,show ByteArray.mk #[44]=tx [44] from rfl,agF (aIi l) (by rw[tZ];omega) (by have:=KI ha;unfold oK at this;omega),ai,Nb,ak ha]
  rfl
def Nc (up:List UInt8)(view:Int)(l:List fy):List UInt8:=up++[47]++Lib.itoa view++[124]++oK l
def Rr (up:List UInt8)(view:Int)(l:List fy):List UInt8:=if l.all iG=true∧cr (Nc up view l)=true then Nc up view l else []
theorem abf (up:List UInt8){view:Int}(hv:I64 view){l:List fy}(ha:l.all iG=true):(Nc up view l).length≤up.length+23+91*l.length:=by
 have:=KI ha
 have:=Ra hv
 simp only[Nc,aM,dU]
 omega
theorem ao5 {up:List UInt8}(hu:up.length≤1048576){view:Int}(hv:I64 view){l:List fy}(h:l.length≤1048576):kW F0 (tx up) view l=some (tx (Rr up view l),()):=by
 have hd:=Ra hv
 rw[amT]
 refine dp (fun n i (_:Unit)=>CH F0 (vn F0) n (vm (tx up) view l i)) l.length (fun k _=>(l.take k).all iG=true) _ (fun n k out hk ho=>?_) (fun n out ho=>?_) _ 0 () (aV _) rfl (by rw[ch];omega)
 ·rw[Jx,aW hk,af,av hk,ae,ZO hk,P5,ai,afu]
  dsimp only
  cases hx:iG l[k]with
  |false =>
   left
   rw[eZ,af,Rr,ah (by rw[Ii hk hx];simp)]
   rfl
  |true =>
   right
   exact⟨(),by rw[aK,aa,ao (by omega)],by rw[aef hk,ho,hx];rfl⟩
 ·rw[nF]at ho
  have hj:=KI ho
  have hn:=abf up hv ho
  rw[Jx,aI,aa,acJ,B2 hv,ai,axJ h,ai,Nb,ak ho,show ByteArray.mk #[47]=tx [47] from rfl,show ByteArray.mk #[124]=tx [124] from rfl]
  dsimp only
  rw[iU (by rw[bP,bP,dU];omega),ae,gJ,iU (by rw[bP,bP,aM,dU];omega),ae,gJ,iU (by rw[bP,bP,aM,aM,dU,dU];omega),ae,gJ,
   iU (by rw[bP,bP,aM,aM,aM,dU,dU];omega),ae,gJ,show up++[47]++Lib.itoa view++[124]++oK l=Nc up view l from rfl,Ri (by omega),ai,Rr]
  dsimp only
  cases hn:cr (Nc up view l) with
  |false=>rw[ah (by simp)];rfl
  |true=>rw[ak ⟨ho,rfl⟩];rfl
theorem axK {up:List UInt8}(hu:up.length≤1048576){view:Int}(hv:I64 view){l:List fy}(h:l.length≤2):EK F0 (tx up) view l=some (tx (Rr up view l),()):=by
 have hd:=Ra hv
 rw[aon]
 refine dp (fun n i (_:Unit)=>DG F0 (wj F0) n (wi (tx up) view l l (l.length:Int) i)) l.length (fun k _=>(l.take k).all iG=true) _ (fun n k out hk ho=>?_) (fun n out ho=>?_) _ 0 () (aV _) rfl (by rw[ch];omega)
 ·rw[Ks,aW hk,af,av hk,ae,ZO hk,B4,ai,agy]
  dsimp only
  cases hx:iG l[k]with
  |false =>
   left
   rw[eZ,af,Rr,ah (by rw[Ii hk hx];simp)]
   rfl
  |true =>
   right
   exact⟨(),by rw[aK,aa,ao (by omega)],by rw[aef hk,ho,hx];rfl⟩
 ·rw[nF]at ho
  have hj:=KI ho
  have hn:=abf up hv ho
  rw[Ks,aI,aa,adO,P4 hv,ai,avm (by omega),ai,Nb,ak ho,show ByteArray.mk #[47]=tx [47] from rfl,show ByteArray.mk #[124]=tx [124] from rfl]
  dsimp only
  rw[iU (by rw[bP,bP,dU];omega),ae,gJ,iU (by rw[bP,bP,aM,dU];omega),ae,gJ,iU (by rw[bP,bP,aM,aM,dU,dU];omega),ae,gJ,
   iU (by rw[bP,bP,aM,aM,aM,dU,dU];omega),ae,gJ,show up++[47]++Lib.itoa view++[124]++oK l=Nc up view l from rfl,M5 (by omega),ai,Rr]
  dsimp only
  rw[aR (show ¬((l.length:Int)>2) by omega),aa]
  cases hn:cr (Nc up view l) with
  |false=>rw[ah (by simp)];rfl
  |true=>rw[ak ⟨ho,rfl⟩];rfl
def Gd {α:Type}(X:Option α)(P:α→Prop):Prop:=∃v,X=some v∧P v
abbrev DrT (α:Type):=(α×Unit)×(xO×Unit)
def Dr {α:Type}(X:Option (DrT α))(Q:α→Prop):Prop:=Gd X fun z=>Q z.1.1∧Rp z.2.1
theorem Gd.bind {α β:Type}{X:Option α}{P:α→Prop}(h:Gd X P){f:α→Option β}{R:β→Prop}(hf:∀v,P v→Gd (f v) R):Gd (X.bind f) R:=by
 obtain⟨v,rfl,hv⟩:=h
 exact hf v hv
theorem Dr.bind {α β:Type}{X:Option (DrT α)}{Q:α→Prop}(h:Dr X Q){f:DrT α→Option β}{R:β→Prop}(hf:∀z:DrT α,Q z.1.1→Rp z.2.1→Gd (f z) R):Gd (X.bind f) R:=by
 obtain⟨z,rfl,h1,h2⟩:=h
 exact hf z h1 h2
theorem Gd.let {α β:Type}{X:Option α}{v:α}(h:X=some v){f:α→Option β}{R:β→Prop}(hf:Gd (f v) R):Gd (X.bind f) R:=by
 subst h
 exact hf
theorem Gd.ret {α:Type}{v:α}{P:α→Prop}(h:P v):Gd (some v) P:=⟨v,rfl,h⟩
theorem Gd.br {α:Type}{c:Bool}{x y:Option α}{P:α→Prop}(h1:c=true→Gd x P)(h2:c=false→Gd y P):Gd (br c x y) P:=by
 cases c with
 |true=>exact h1 rfl
 |false=>exact h2 rfl
theorem Gd.ck {α:Type}{c:Bool}{x:Option α}{P:α→Prop}(h1:c=true)(h2:Gd x P):Gd (ck c x) P:=by
 subst h1
 exact h2
theorem Gd.br0 {α:Type}{c:Bool}{x y:Option α}{P:α→Prop}(h:c=false)(h2:Gd y P):Gd (Am.br c x y) P:=by
 subst h
 exact h2
theorem ali {ζ β:Type}(X:Nat→Int→ζ→Option β)(L:Nat)(I:Nat→ζ→Prop)(P:β→Prop)
  (hs:∀n k z,k<L→I k z→(∀z',I (k+1) z'→Gd (X n ((k+1:Nat):Int) z') P)→Gd (X (n+1) (k:Int) z) P) (he:∀n z,I L z→Gd (X (n+1) (L:Int) z) P) :
  ∀n k z,k≤L→I k z→L-k<n→Gd (X n (k:Int) z) P:=by
 intro n
 induction n with
 |zero=>intro k z _ _ h;omega
 |succ n ih =>
  intro k z hk hI hn
  by_cases h:k=L
  ·subst h
   exact he n z hI
  ·exact hs n k z (by omega) hI fun z' hI'=>ih (k+1) z' (by omega) hI' (by omega)
theorem alj {c:xO}(h:Rp c):Dr (α:=Int) (kP F0 c) fun v=>0≤v∧v≤255:=by
 obtain⟨v,c',e,h1,h2,h3⟩:=aCF h
 exact⟨_,e,⟨h1,h2⟩,h3⟩
theorem aIj {x y z w:Int}(x0:0≤x)(x1:x≤255)(y0:0≤y)(y1:y≤255)(z0:0≤z)(z1:z≤255)(w0:0≤w)(w1:w≤255):0≤aj (aj (aj (aj (x*16777216)+aj (y*65536))+aj (z*256))+w):=by
 rw[aH (n:=x*16777216) (by omega) (by omega),aH (n:=y*65536) (by omega) (by omega),aH (n:=z*256) (by omega) (by omega),aH (n:=x*16777216+y*65536) (by omega) (by omega),aH (n:=x*16777216+y*65536+z*256) (by omega) (by omega),aH (by omega) (by omega)]
 omega
theorem iJ {c:xO}(h:Rp c){n:Int}(hn:0<n)(hn2:n≤9223372036854775807):Dr (α:=Int) (ax F0 c n) fun v=>0≤v∧v<n:=by
 by_cases aMz:n≤256
 ·obtain⟨v,c',e,h1,h2,h3⟩:=ao4 h hn aMz
  exact⟨_,e,⟨h1,h2⟩,h3⟩
 ·unfold Dr
  rw[RR]
  refine Gd.br0 (aR (by omega)) (Gd.br0 (aR aMz) ?_)
  refine Dr.bind (alj h) fun x hx cx=>Dr.bind (alj cx) fun y hy cy=>Dr.bind (alj cy) fun z hz cz=>Dr.bind (alj cz) fun w hw cw=>Gd.ck ?_ (Gd.ret ⟨?_,cw⟩)
  ·rw[cp.2 (show n≠0 by omega)]
   rfl
  ·exact avl (aIj hx.1 hx.2 hy.1 hy.2 hz.1 hz.2 hw.1 hw.2) hn
theorem alk {c:xO}(h:Rp c){n:Int}(hn:0<n)(hn2:n≤256):Dr (α:=Bool) (nG F0 c n) fun _=>True:=by
 obtain⟨v,c',e,h3⟩:=aIg h hn hn2
 exact⟨_,e,trivial,h3⟩
theorem abg {c:xO}(h:Rp c){l:List Int}(hn:0<l.length)(hn2:l.length≤256):Dr (α:=Int) (jY F0 c l) fun v=>v∈l:=by
 obtain⟨v,c',e,h1,h3⟩:=aAi h hn hn2
 exact⟨_,e,h1,h3⟩
theorem aKp {code:List Int}(h:code.length≤1048576):Gd (I5 F0 code) fun z=>Rp z.1.1:=by
 obtain⟨c,e,hc⟩:=aKo h
 exact⟨_,e,hc⟩
theorem aMA {x y z w:Int}(x0:0≤x)(x1:x<4)(y0:0≤y)(y1:y<4)(z0:z∈[(0:Int),5,60,100,1000])(w0:0≤w)(w1:w<3):iG (x,y,z,w)=true:=by
 simp only[gU,as9,or_false]at z0
 simp only[iG,inB,aJ,cH]
 rcases z0 with rfl|rfl|rfl|rfl|rfl<;>omega
theorem asG {c:xO}(h:Rp c):Dr (α:=fy) (mK F0 c) fun v=>iG v=true:=by
 unfold Dr
 rw[XN]
 refine Dr.bind (iJ h (n:=4) (by omega) (by omega)) fun x hx cx=>Dr.bind (iJ cx (n:=4) (by omega) (by omega)) fun y hy cy=>Dr.bind (abg cy (l:=[0,5,60,100,1000]) (by decide) (by decide)) fun z hz cz=>Dr.bind (iJ cz (n:=3) (by omega) (by omega)) fun w hw cw=>Gd.ret ⟨?_,cw⟩
 exact aMA hx.1 hx.2 hy.1 hy.2 hz hw.1 hw.2
theorem asH {up:List UInt8}{view:Int}(hv:I64 view)(l:List fy):(Rr up view l).length≤up.length+23+91*l.length:=by
 unfold Rr
 split
 ·rename_i h;exact abf up hv h.1
 ·exact aV _
theorem ao6 {l h n:Int}(h0:0≤l)(h1:l≤h)(h2:h≤n):RN l h n=true:=by simp[RN,h0,h1,h2]
theorem ao7 (l:List UInt8):∀(k:Nat),k≤l.length→(gZ l k=0∧∀j,j<k→l.getD j 0≠47)∨(0<gZ l k∧gZ l k≤k∧l.getD (gZ l k-1) 0=47∧∀j,gZ l k≤j→j<k→l.getD j 0≠47)
 |0,_=>.inl ⟨rfl,fun j h=>absurd h (RH _)⟩
 |k+1,hk=>by
  have aJt:∀b:UInt8,((b.toNat:Int) != 47)=true↔b≠47:=by
   intro b
   rw[DO]
   constructor
   ·rintro h rfl
    exact h rfl
   ·intro h h2
    refine h (UInt8.toNat_inj.1 ?_)
    show b.toNat=47
    omega
  unfold gZ
  split
  ·rename_i h
   rw[aJt]at h
   rcases ao7 l k (by omega) with ⟨h1,h2⟩|⟨h1,h2,h3,h4⟩
   ·refine .inl ⟨h1,fun j hj=>?_⟩
    by_cases e:j=k
    ·rw[e];exact h
    ·exact h2 j (by omega)
   ·refine .inr ⟨h1,by omega,h3,fun j hj1 hj2=>?_⟩
    by_cases e:j=k
    ·rw[e];exact h
    ·exact h4 j hj1 (by omega)
  ·rename_i h
   rw[aJt]at h
   refine .inr ⟨aeP _,b9 _,av1 fun hn=>h hn,fun j h1 h2=>by omega⟩
theorem aGp {l:List UInt8}(h:cr l=true)(h0:l≠[]):∃t,(47:UInt8) ∉ t∧l=upL l++47::t:=by
 have hp:0<gZ l l.length:=by
  obtain⟨t,rfl⟩:=aoR h h0
  exact agS _ (aeP _)
 rcases ao7 l l.length (b9 _) with ⟨h1,_⟩|⟨_,h2,h3,h4⟩
 ·omega
 ·have hlt:gZ l l.length-1<l.length:=by omega
  have hu:upL l=l.take (gZ l l.length-1):=by unfold upL;rw[ak h]
  refine⟨l.drop (gZ l l.length),fun hm=>?_,?_⟩
  ·obtain⟨j,hj,e⟩:=ahh hm
   rw[List.getElem_drop]at e
   rw[bo]at hj
   refine h4 (gZ l l.length+j) (by omega) (by omega) ?_
   rw[RF,oO (by omega)]
   exact e
  ·rw[hu]
   conv=>lhs;rw[←as2 (gZ l l.length-1) l]
   congr 1
   rw[X8 hlt]
   rw[RF,oO hlt]at h3
   rw[show l[gZ l l.length-1]=47 from h3,show gZ l l.length-1+1=gZ l l.length by omega]
theorem aGq {l:List UInt8}(h:cr l=true):cr (upL l)=true:=by
 by_cases h0:l=[]
 ·subst h0;rfl
 ·obtain⟨t,ht,e⟩:=aGp h h0
  exact(aAj ht (e▸h)).1
theorem agV (c:UInt8):∀l:List UInt8,l.length+1=((parts c l).map fun p=>p.length+1).sum
 |[]=>rfl
 |x::l=>by
  have ih:=agV c l
  rw[Rq]
  split
  ·rw[ua,aly,←ih,ba,bA]
   omega
  ·have hne:=EP c l
   cases hp:parts c l with
   |nil=>exact absurd hp hne
   |cons p ps =>
    rw[hp]at ih
    rw[ua,aly]at ih ⊢
    rw[ba,ba]
    omega
theorem aAk {α:Type}{f:α→Nat}{b:Nat}:∀{l:List α},(∀x∈l,f x≤b)→(l.map f).sum≤b*l.length
 |[],_=>aV _
 |x::l,h=>by
  have h1:=h x IL
  have h2:=aAk fun y hy=>h y (pW x hy)
  rw[ua,aly,ba,Nat.mul_succ]
  omega
theorem agW {σ β:Type}{f:σ→List UInt8→Option (σ×β)}{Q:List UInt8→Prop}(hQ:∀s p s' b,f s p=some (s',b)→Q p):∀{P:List (List UInt8)} {s:σ} {r:List β},Av f s P=some r→∀p∈P,Q p
 |[],_,_,_,p,hp=>by cases hp
 |q::P,s,r,h,p,hp=>by
  unfold Av at h
  cases hf:f s q with
  |none=>rw[hf]at h;cases h
  |some y =>
   obtain⟨s',b⟩:=y
   rw[hf]at h
   dsimp only at h
   cases hr:Av f s' P with
   |none=>rw[hr]at h;cases h
   |some r' =>
    rcases gU.1 hp with rfl|hp
    ·exact hQ _ _ _ _ hf
    ·exact agW hQ hr p hp
theorem aIk {l:List UInt8}(h:(X3 l).2=true):l.length≤90:=by
 unfold X3 at h
 split at h
 ·rename_i hc
  rw[←hc.2]
  exact aoy hc.1
 ·cases h
theorem aGr {l:List UInt8}(h:(l6 l).2=true):l.length≤91*(l6 l).1.length:=by
 unfold l6 at h ⊢
 split at h
 ·rename_i h0
  rw[ak h0,h0]
  exact b9 _
 ·rename_i h0
  rw[ah h0]
  cases hr:Av txF () (parts 44 l) with
  |none=>rw[hr]at h;cases h
  |some r =>
   have hl:=P7 hr
   have hs:=agV 44 l
   have:=aAk (f:=fun p:List UInt8=>p.length+1) (b:=91) (l:=parts 44 l) (agW (f:=txF) (Q:=fun p=>p.length+1≤91) (fun s p s' b hf=>by
    unfold txF at hf
    split at hf
    ·rename_i hc
     have:=aIk hc
     omega
    ·cases hf) hr)
   dsimp only
   omega
theorem aIl {l:List UInt8}(h:(gj l).2=true):l.length≤6:=by
 unfold gj at h
 split at h
 ·cases h
 ·rename_i hc
  omega
theorem aKq (l:List UInt8)(c:UInt8):l.length≤(l.takeWhile (· != c)).length+((l.dropWhile (· != c)).drop 1).length+1:=by
 have h:=AJ List.length (List.takeWhile_append_dropWhile (p:=(· != c)) (l:=l))
 rw[aM]at h
 rw[bo]
 omega
theorem aGs {last:Int}{p:List UInt8}{s':Int}{b:ZK}(h:ER last p=some (s',b)):p.length≤189:=by
 unfold ER at h
 split at h
 ·rename_i hc
  have h1:=aIl hc.2.1
  have h2:=aGr hc.2.2.1
  have h3:=hc.2.2.2.2.2
  have h4:=aKq p 124
  unfold fw at h1 h2 h3
  dsimp only at h1 h2 h3
  omega
 ·cases h
theorem aIm {l:List UInt8}(h:cr l=true):l.length≤5700:=by
 by_cases h0:l=[]
 ·rw[h0]
  exact aV _
 unfold cr cD at h
 rw[ah h0]at h
 have hs:=agV 47 l
 cases hp:parts 47 l with
 |nil=>rw[hp]at h;cases h
 |cons p0 ps =>
  rw[hp]at h hs
  dsimp only at h
  split at h
  ·cases h
  ·rename_i hc
   have h00:p0=[]:=av1 fun hn=>hc (.inl hn)
   have hl:¬30<ps.length:=fun hn=>hc (.inr hn)
   cases hr:Av ER 0 ps with
   |none=>rw[hr]at h;cases h
   |some r =>
    have:=aAk (f:=fun p:List UInt8=>p.length+1) (b:=190) (l:=ps) (agW (f:=ER) (Q:=fun p=>p.length+1≤190) (fun s p s' b hf=>by have:=aGs hf;omega) hr)
    rw[ua,aly,h00,bA]at hs
    omega
def NW:Nat→Int→List Int
 |0,v=>[v]
 |k+1,v=>if v<128 then [v] else (v%128+128)::NW k (v/128)
def ay (v:Int):List Int:=if 0≤v∧v≤2147483647 then NW 4 v else []
theorem ao8:∀(k:Nat) (v:Int),1≤(NW k v).length∧(NW k v).length≤k+1
 |0,v=>⟨b9 _,b9 _⟩
 |k+1,v=>by
  unfold NW
  have:=ao8 k (v/128)
  split
  ·exact⟨b9 _,by rw[dU];omega⟩
  ·rw[ba]
   omega
theorem ao9:∀(k:Nat) (v:Int),0≤v→v<128 ^ (k+1)→∀x∈NW k v,0≤x∧x≤255
 |0,v,h0,h1,x,hx=>by
  rw[lZ.1 hx]
  have:(128:Int) ^ (0+1)=128:=rfl
  omega
 |k+1,v,h0,h1,x,hx=>by
  unfold NW at hx
  split at hx
  ·rw[lZ.1 hx]
   omega
  ·rcases gU.1 hx with rfl|hx
   ·omega
   ·refine ao9 k (v/128) (by omega) ?_ x hx
    have e:(128:Int) ^ (k+1+1)=128 ^ (k+1)*128:=RI _ _
    omega
theorem cI (v:Int):(ay v).length≤5:=by
 unfold ay
 split
 ·exact(ao8 4 v).2
 ·exact aV _
theorem gn (v:Int):∀x∈ay v,0≤x∧x≤255:=by
 unfold ay
 split
 ·rename_i h
  have h5:(128:Int) ^ (4+1)=34359738368:=by decide
  exact ao9 4 v h.1 (by omega)
 ·intro x hx
  cases hx
theorem axL:∀(j k:Nat) (v n:Int) (rest:List Int),j+k=4→0≤v→v<128 ^ (j+1)→(k≠0→v≠0)→0≤n→n+v*128 ^ k≤2147483647→Qc (j+1) (NW j v++rest) k n=some (n+v*128 ^ k,k+(NW j v).length)
 |0,k,v,n,rest,hjk,h0,h1,hz,hn,hm=>by
  have e1:(128:Int) ^ (0+1)=128:=rfl
  unfold NW Qc
  rw[List.singleton_append]
  dsimp only
  rw[ak (by omega),ah (fun h=>h.elim (fun h=>hz h.1 h.2) (fun h=>by omega))]
  rfl
 |j+1,k,v,n,rest,hjk,h0,h1,hz,hn,hm=>by
  unfold NW
  have hp:=Rm (k:=k) (by omega)
  have ek:(128:Int) ^ (k+1)=128 ^ k*128:=RI _ _
  have ej:(128:Int) ^ (j+1+1)=128 ^ (j+1)*128:=RI _ _
  split
  ·rename_i hv
   unfold Qc
   rw[List.singleton_append]
   dsimp only
   rw[ak hv,ah (fun h=>h.elim (fun h=>hz h.1 h.2) (fun h=>by omega))]
   rfl
  ·rename_i hv
   unfold Qc
   rw[FT]
   dsimp only
   have hr:0≤v%128∧v%128<128:=⟨ahk _ (by omega),alr _ (by omega)⟩
   rw[ah (by omega),show(v%128+128)%128=v%128 by omega]
   have aGt:v*128 ^ k=v%128*128 ^ k+v/128*128 ^ (k+1):=by
    rw[ek]
    have:v=v%128+128*(v/128):=(Int.emod_add_mul_ediv v 128).symm
    generalize (128:Int) ^ k=P at *
    calc v*P=(v%128+128*(v/128))*P:=by rw[←this]
     _=v%128*P+v/128*(P*128):=by rw[Int.add_mul,Int.mul_comm 128,Int.mul_assoc,Int.mul_comm 128]
   have hq:=aoT (d:=v%128) (P:=128 ^ k) hr.1 (by omega) hp.1
   have:=axL j (k+1) (v/128) (n+v%128*128 ^ k) rest (by omega) (by omega) (by omega) (fun _=>by omega) (by omega) (by rw[Int.add_assoc,←aGt];exact hm)
   rw[this,Int.add_assoc,←aGt,ba]
   congr 2
   omega
theorem aeg {pre rest:List Int}{v:Int}(h0:0≤v)(h1:v≤2147483647):rO (pre++(ay v++rest)) pre.length=some (v,pre.length+(ay v).length):=by
 have h5:(128:Int) ^ (4+1)=34359738368:=by decide
 unfold rO ay
 rw[List.drop_left,ak ⟨h0,h1⟩,axL 4 0 v 0 rest rfl h0 (by omega) (fun h=>absurd rfl h) (TU _) (by have:(128:Int) ^ 0=1:=rfl;omega)]
 have:(128:Int) ^ 0=1:=rfl
 dsimp only
 rw[this,Int.mul_one,Int.zero_add,w8]
def gA (s:ByteArray):List Int:=ay (s.size:Int)++bytesOf s
theorem Wx (s:ByteArray):(bytesOf s).length=s.size:=by
 unfold bytesOf
 rw[tZ]
 rfl
theorem aq8 (s:ByteArray):∀x∈bytesOf s,0≤x∧x≤255:=by
 intro x hx
 obtain⟨b,_,rfl⟩:=IN.1 hx
 have:=UInt8.toNat_lt b
 omega
theorem aD0 (s:ByteArray):strOf (bytesOf s)=s:=by
 unfold strOf bytesOf
 rw[List.map_map]
 have:(s.data.toList.map ((fun n:Int=>UInt8.ofNat n.toNat)∘fun b:UInt8=>(b.toNat:Int)))=s.data.toList:=by
  rw[List.map_congr_left (g:=id)]
  ·exact List.map_id _
  ·intro b _
   show UInt8.ofNat ((b.toNat:Int).toNat)=b
   rw[kH]
   exact UInt8.ofNat_toNat
 rw[this]
theorem aGu {pre rest:List Int}{s:ByteArray}(h:s.size≤1048576):aa9 (pre++(gA s++rest)) pre.length=some (s,pre.length+(gA s).length):=by
 have hl:=Wx s
 unfold aa9 gA
 rw[iK,aeg (by omega) (by omega)]
 dsimp only
 rw[ah ?_]
 ·congr 1
  refine A4 ?_ ?_
  ·show strOf _=s
   have e:((pre++(ay (s.size:Int)++(bytesOf s++rest))).take (pre.length+(ay (s.size:Int)).length+((s.size:Int)).toNat)).drop (pre.length+(ay (s.size:Int)).length)=bytesOf s:=by
    rw[kH,←iK,←iK,←aM,←hl,←aM,List.take_left,List.drop_left]
   rw[e,aD0]
  ·show _=pre.length+(ay _++bytesOf s).length
   rw[aM,hl,kH,TS]
 ·rw[aM,aM,aM,hl]
  omega
theorem kG {pre rest:List Int}{v:Int}(h0:0≤v)(h1:v≤2147483647):aT (pre++(ay v++rest)) (pre.length,true)=(v,(pre++ay v).length,true):=by
 unfold aT
 rw[aeg h0 h1,aM]
 rfl
theorem Rs {pre rest:List Int}{s:ByteArray}(h:s.size≤1048576):dE (pre++(gA s++rest)) (pre.length,true)=(s,(pre++gA s).length,true):=by
 unfold dE
 rw[aGu h,aM]
 rfl
def jN (l:List Int):List Int:=l.flatMap ay
def aiG (v:Int):Prop:=0≤v∧v≤2147483647
theorem apa:∀(l pre rest xs:List Int) (f:Nat) (i n:Int),(∀x∈l,aiG x)→n=i+l.length→l.length<f→kq (pre++(jN l++rest)) n f i (pre.length,true) xs=(xs++l,(pre++jN l).length,true)
 |[],pre,rest,xs,f+1,i,n,_,hn,_=>by
  unfold kq
  rw[ah (fun h=>by have:=h.1;simp at hn;omega)]
  simp[jN]
 |x::l,pre,rest,xs,f+1,i,n,hl,hn,hf=>by
  have hx:=hl x IL
  unfold kq
  rw[ba]at hn hf
  rw[ak ⟨by omega,rfl⟩]
  have e:pre++(jN (x::l)++rest)=pre++(ay x++(jN l++rest)):=by
   simp[jN]
  rw[e,kG hx.1 hx.2]
  dsimp only
  have e2:pre++(ay x++(jN l++rest))=(pre++ay x)++(jN l++rest):=by simp
  rw[e2,apa l (pre++ay x) rest (xs++[x]) f (i+1) n (fun y hy=>hl y (pW _ hy)) (by omega) (by omega)]
  simp[jN]
def Ax (l:List Int):List Int:=ay (l.length:Int)++jN l
theorem apb (k:Nat)(v:Int):1≤(NW k v).length:=(ao8 k v).1
theorem agX:∀{l:List Int},(∀x∈l,aiG x)→l.length≤(jN l).length∧(jN l).length≤5*l.length
 |[],_=>⟨b9 _,b9 _⟩
 |x::l,h=>by
  have hx:=h x IL
  have ih:=agX fun y hy=>h y (pW _ hy)
  have h1:1≤(ay x).length∧(ay x).length≤5:=by
   refine⟨?_,cI x⟩
   unfold ay
   rw[ak (show 0≤x∧x≤2147483647 from hx)]
   exact apb 4 x
  have e:jN (x::l)=ay x++jN l:=rfl
  rw[e,aM,ba]
  omega
theorem asI {pre rest l:List Int}(hl:∀x∈l,aiG x)(h:l.length≤1048576):A2 (pre++(Ax l++rest)) (pre.length,true)=(l,(pre++Ax l).length,true):=by
 unfold A2 Ax
 rw[iK,kG (by omega) (by omega)]
 dsimp only
 have e:pre++(ay (l.length:Int)++(jN l++rest))=(pre++ay (l.length:Int))++(jN l++rest):=by simp
 have:=agX hl
 rw[e,apa l (pre++ay (l.length:Int)) rest [] _ 0 _ hl (by omega) (by simp only[aM];omega)]
 simp
def kr (q:di):List Int:=ay q.1++(gA q.2.1++Ax q.2.2)
structure aIn (q:di):Prop where
 v:aiG q.1
 n:q.2.1.size≤1048576
 w:q.2.2.length≤1048576
 m:∀x∈q.2.2,aiG x
theorem apc {pre rest:List Int}{q:di}(h:aIn q):wZ (pre++(kr q++rest)) (pre.length,true)=(q,(pre++kr q).length,true):=by
 unfold wZ kr
 have e1:pre++(ay q.1++(gA q.2.1++Ax q.2.2)++rest)=pre++(ay q.1++(gA q.2.1++(Ax q.2.2++rest))):=by simp
 have e2:pre++(ay q.1++(gA q.2.1++(Ax q.2.2++rest)))=(pre++ay q.1)++(gA q.2.1++(Ax q.2.2++rest)):=by simp
 have e3:pre++(ay q.1++(gA q.2.1++(Ax q.2.2++rest)))=(pre++ay q.1++gA q.2.1)++(Ax q.2.2++rest):=by simp
 have h1:aT (pre++(ay q.1++(gA q.2.1++(Ax q.2.2++rest)))) (pre.length,true)=(q.1,(pre++ay q.1).length,true):=kG h.v.1 h.v.2
 have h2:dE (pre++(ay q.1++(gA q.2.1++(Ax q.2.2++rest)))) ((pre++ay q.1).length,true)=(q.2.1,(pre++ay q.1++gA q.2.1).length,true):=by
  rw[e2]
  exact Rs h.n
 have h3:A2 (pre++(ay q.1++(gA q.2.1++(Ax q.2.2++rest)))) ((pre++ay q.1++gA q.2.1).length,true)=(q.2.2,(pre++ay q.1++gA q.2.1++Ax q.2.2).length,true):=by
  rw[e3]
  exact asI h.m h.w
 rw[e1,h1]
 dsimp only
 rw[h2]
 dsimp only
 rw[h3]
 simp
theorem aCG {a b:ByteArray}(h:(a.toList==b.toList)=true):a=b:=by
 have:=Wg a.data.toList b.data.toList
 rw[←ahK,←ahK,h]at this
 rw[ahK a,ahK b,tY this.symm]
theorem Xn {a b:di}(h:gS a b=true):a=b:=by
 simp only[gS,aJ,bB,cH]at h
 exact A4 h.1 (A4 (aCG (bB.2 h.2.1)) h.2.2)
theorem aD1 {a b:fy}(h:agR a b=true):a=b:=by
 simp only[agR,aJ,bB]at h
 exact A4 h.1 (A4 h.2.1 (A4 h.2.2.1 h.2.2.2.1))
theorem avn {a b:dk}(h:pN a b=true):a=b:=by
 simp only[pN,aJ]at h
 exact A4 (aCG h.1) (Xn h.2)
theorem abh {a b:cX}(h:tw a b=true):a=b:=by
 simp only[tw,aJ]at h
 obtain⟨h1,h2,h3,h4,h5,h6,h7⟩:=h
 exact A4 (bB.1 h1) (A4 (bB.1 h2) (A4 (avn h3) (A4 (Xn h4) (A4 (Xn h5) (A4 (bB.1 h6) (aD1 h7))))))
theorem axM (a:di):gS a a=true:=by simp[gS]
theorem ZQ (a:bH):iI a a=true:=by simp[iI,axM]
theorem Xo {n:Int}{s:List Int}(h:nx n s=true):∀x∈s,0≤x∧x<n:=by
 intro x hx
 obtain⟨k,hk,rfl⟩:=ahh hx
 have:=kj.1 h k (kJ.2 hk)
 rw[RF,oO hk]at this
 simp only[aJ,cH]at this
 exact⟨this.1,this.2.1⟩
theorem aAl {n:Int}{s:List Int}(h:nx n s=true){k:Nat}(hk:k+1<s.length):s[k]<s[k+1]:=by
 have:=kj.1 h (k+1) (kJ.2 hk)
 rw[show k+1-1=k from rfl,RF,RF,oO hk,oO (by omega)]at this
 simp only[aJ,mh,cH]at this
 rcases this.2.2 with h1|h1
 ·omega
 ·exact h1
theorem axN {n:Int}{s:List Int}(h:nx n s=true):∀(k:Nat) (hk:k<s.length),(k:Int)≤s[k]
 |0,hk=>(Xo h _ (dr hk)).1
 |k+1,hk=>by
  have h1:=axN h k (by omega)
  have h2:=aAl h hk
  omega
theorem agY {n:Int}{s:List Int}(h:nx n s=true):(s.length:Int)≤max n 0:=by
 rcases arw s.length with h0|h0
 ·omega
 ·have h1:=axN h (s.length-1) (by omega)
  have h2:=(Xo h s[s.length-1] (dr _)).2
  omega
theorem pO {b:ByteArray}(h:cr b.data.toList=true):b.size≤5700:=aIm h
theorem abi {c:Int×Int}{q:di}(h:fN c q=true):bO c=true∧cr q.2.1.data.toList=true∧bu q.2.1.data.toList=q.1∧(q.2.1.data.toList=[]→q.2.2=[])∧(q.2.1.data.toList≠[]→nx c.1 q.2.2=true∧(q.2.2.length:Int)≥Kz c):=by
 unfold fN X4 at h
 simp only[aJ,cH]at h
 obtain⟨h1,h2,h3,h4⟩:=h
 refine⟨h1,h2,h3,fun h0=>?_,fun h0=>?_⟩
 ·rw[ak h0]at h4
  exact tY h4
 ·rw[ah h0]at h4
  simp only[aJ,cH]at h4
  exact h4
theorem ZR {v:Int}(h0:0≤v)(h1:v≤1000000):aiG v:=⟨h0,by omega⟩
theorem tC {c:Int×Int}{q:di}(h:fN c q=true):aIn q∧q.2.2.length≤7∧q.2.1.size≤5700:=by
 obtain⟨h1,h2,h3,h4,h5⟩:=abi h
 have hn:=cO h1
 have hs:=pO h2
 have hv:=P8 q.2.1.data.toList
 by_cases h0:q.2.1.data.toList=[]
 ·have hw:=h4 h0
  refine⟨⟨ZR (by omega) (by omega),by omega,by rw[hw];exact aV _,fun x hx=>by rw[hw]at hx;cases hx⟩,by rw[hw];exact aV _,hs⟩
 ·obtain⟨hw,_⟩:=h5 h0
  have hl:=agY hw
  refine⟨⟨ZR (by omega) (by omega),by omega,by omega,fun x hx=>?_⟩,by omega,hs⟩
  have:=Xo hw x hx
  exact ZR (by omega) (by omega)
theorem KJ (b:ByteArray):ed b=true↔b.data.toList=[]:=by
 unfold ed
 have:=Wg b.data.toList []
 rw[←ahK,show tx []=al from rfl]at this
 rw[this,cH]
theorem aeh {c:Int×Int}{p:di}(h:jh c p=true):bO c=true∧1≤p.1∧p.1≤60∧nx c.1 p.2.2=true∧p.2.2≠[]∧cr p.2.1.data.toList=true∧(p.2.1.data.toList≠[]→bu p.2.1.data.toList=p.1):=by
 unfold jh at h
 simp only[aJ,mh,iH,cH,arz,bB,cp]at h
 obtain⟨h1,⟨h2,h3⟩,h4,h5,h6⟩:=h
 refine⟨h1,h2,h3,h4,fun e=>h5 (by rw[e];rfl),?_,fun h0=>?_⟩
 ·rcases h6 with h6|h6
  ·rw[(KJ _).1 h6]
   exact aoM
  ·exact h6.1
 ·rcases h6 with h6|h6
  ·exact absurd ((KJ _).1 h6) h0
  ·exact h6.2
theorem Xp {c:Int×Int}{q:di}(h:jh c q=true):aIn q∧q.2.2.length≤7∧q.2.1.size≤5700:=by
 obtain⟨h1,h2,h3,h4,_,h5,_⟩:=aeh h
 have hn:=cO h1
 have hs:=pO h5
 have hl:=agY h4
 refine⟨⟨ZR (by omega) (by omega),by omega,by omega,fun x hx=>?_⟩,by omega,hs⟩
 have:=Xo h4 x hx
 exact ZR (by omega) (by omega)
def Ij (m:cX):List Int :=
 ay m.1++(if m.1=1 then gA m.2.2.1.1++kr m.2.2.1.2 else if m.1=2 then kr m.2.2.2.1 else if m.1=3 then ay m.2.1++(ay m.2.2.2.2.2.1++kr m.2.2.2.2.1)
  else ay m.2.2.2.2.2.2.1++(ay m.2.2.2.2.2.2.2.1++(ay m.2.2.2.2.2.2.2.2.1++ay m.2.2.2.2.2.2.2.2.2)))
theorem aei {v:Int}(h:aiG v)(rest:List Int):jm (ay v++rest)=(v,(ay v).length,true):=by
 have:=kG (pre:=[]) (rest:=rest) h.1 h.2
 exact this
theorem aGv {c:Int×Int}{m:cX}(h:en c m=true):aed (Ij m)=(m,(Ij m).length,true):=by
 unfold en at h
 simp only[aJ]at h
 obtain⟨hc,hs,hk⟩:=h
 have hn:=abh hs
 obtain⟨aKr,view,⟨bn,bq⟩,part,qc,dm,tx⟩:=m
 dsimp only at hk hn ⊢
 by_cases k1:aKr=1
 ·subst k1
  rw[ak (by rfl)]at hk
  simp only[gD,aJ]at hk
  have hq:=(tC hk.1).1
  have hb:=pO hk.2.1
  have e:Ij (1,view,(bn,bq),part,qc,dm,tx)=ay 1++(gA bn++(kr bq++[])):=by simp[Ij]
  have e2:ay 1++(gA bn++(kr bq++[]))=(ay 1++gA bn)++(kr bq++[]):=by simp
  have r0:=aei (v:=1) (ZR (by decide) (by decide)) (gA bn++(kr bq++[]))
  have r1:dE (ay 1++(gA bn++(kr bq++[]))) ((ay 1).length,true)=(bn,(ay 1++gA bn).length,true):=Rs (by omega)
  have r2:wZ (ay 1++(gA bn++(kr bq++[]))) ((ay 1++gA bn).length,true)=(bq,(ay 1++gA bn++kr bq).length,true):=by
   rw[e2]
   exact apc hq
  rw[e]
  unfold aed aIc
  rw[r0]
  dsimp only
  rw[ak (by rfl),r1]
  dsimp only
  rw[r2]
  rw[←hn]
  simp[named]
 ·by_cases k2:aKr=2
  ·subst k2
   rw[ah (by decide),ak (by rfl)]at hk
   simp only[aJ]at hk
   have hq:=(Xp hk.1).1
   obtain⟨pv,pn,pw⟩:=part
   have e:Ij (2,view,(bn,bq),(pv,pn,pw),qc,dm,tx)=ay 2++(ay pv++(gA pn++(Ax pw++[]))):=by simp[Ij,kr]
   have e2:ay 2++(ay pv++(gA pn++(Ax pw++[])))=(ay 2++ay pv)++(gA pn++(Ax pw++[])):=by simp
   have e3:ay 2++(ay pv++(gA pn++(Ax pw++[])))=(ay 2++ay pv++gA pn)++(Ax pw++[]):=by simp
   have r0:=aei (v:=2) (ZR (by decide) (by decide)) (ay pv++(gA pn++(Ax pw++[])))
   have r1:aT (ay 2++(ay pv++(gA pn++(Ax pw++[])))) ((ay 2).length,true)=(pv,(ay 2++ay pv).length,true):=kG hq.v.1 hq.v.2
   have r2:dE (ay 2++(ay pv++(gA pn++(Ax pw++[])))) ((ay 2++ay pv).length,true)=(pn,(ay 2++ay pv++gA pn).length,true):=by
    rw[e2]
    exact Rs hq.n
   have r3:A2 (ay 2++(ay pv++(gA pn++(Ax pw++[])))) ((ay 2++ay pv++gA pn).length,true)=(pw,(ay 2++ay pv++gA pn++Ax pw).length,true):=by
    rw[e3]
    exact asI hq.m hq.w
   rw[e]
   unfold aed aId
   rw[r0]
   dsimp only
   rw[ah (by decide),ak (by rfl),r1]
   dsimp only
   rw[r2]
   dsimp only
   rw[r3]
   rw[←hn]
   simp[named]
  ·by_cases k3:aKr=3
   ·subst k3
    rw[ah (by decide),ah (by decide),ak (by rfl)]at hk
    simp only[aJ,iH,cH]at hk
    obtain⟨⟨v0,v1⟩,hq,⟨w0,w1⟩⟩:=hk
    have hcn:=cO hc
    rw[Wq hcn.1 hcn.2.1]at w1
    have hq:=(tC hq).1
    have hw:aiG dm:=ZR w0 (by omega)
    have e:Ij (3,view,(bn,bq),part,qc,dm,tx)=ay 3++(ay view++(ay dm++(kr qc++[]))):=by simp[Ij]
    have e2:ay 3++(ay view++(ay dm++(kr qc++[])))=(ay 3++ay view)++(ay dm++(kr qc++[])):=by simp
    have e3:ay 3++(ay view++(ay dm++(kr qc++[])))=(ay 3++ay view++ay dm)++(kr qc++[]):=by simp
    have r0:=aei (v:=3) (ZR (by decide) (by decide)) (ay view++(ay dm++(kr qc++[])))
    have r1:aT (ay 3++(ay view++(ay dm++(kr qc++[])))) ((ay 3).length,true)=(view,(ay 3++ay view).length,true):=kG (by omega) (by omega)
    have r2:aT (ay 3++(ay view++(ay dm++(kr qc++[])))) ((ay 3++ay view).length,true)=(dm,(ay 3++ay view++ay dm).length,true):=by
     rw[e2]
     exact kG hw.1 hw.2
    have r3:wZ (ay 3++(ay view++(ay dm++(kr qc++[])))) ((ay 3++ay view++ay dm).length,true)=(qc,(ay 3++ay view++ay dm++kr qc).length,true):=by
     rw[e3]
     exact apc hq
    rw[e]
    unfold aed aIe
    rw[r0]
    dsimp only
    rw[ah (by decide),ah (by decide),ak (by rfl),r1]
    dsimp only
    rw[r2]
    dsimp only
    rw[r3]
    rw[←hn]
    simp[named]
   ·rw[ah (by simpa using k1),ah (by simpa using k2),ah (by simpa using k3)]at hk
    simp only[aJ,bB]at hk
    obtain⟨k4,hx⟩:=hk
    subst k4
    obtain⟨t1,t2,t3,t4⟩:=tx
    obtain⟨⟨a0,a1⟩,⟨b0,b1⟩,⟨c0,c1⟩,⟨d0,d1⟩⟩:=xE hx
    dsimp only at a0 a1 b0 b1 c0 c1 d0 d1
    have e:Ij (4,view,(bn,bq),part,qc,dm,t1,t2,t3,t4)=ay 4++(ay t1++(ay t2++(ay t3++(ay t4++[])))):=by simp[Ij]
    have e2:ay 4++(ay t1++(ay t2++(ay t3++(ay t4++[]))))=(ay 4++ay t1)++(ay t2++(ay t3++(ay t4++[]))):=by simp
    have e3:ay 4++(ay t1++(ay t2++(ay t3++(ay t4++[]))))=(ay 4++ay t1++ay t2)++(ay t3++(ay t4++[])):=by simp
    have e4:ay 4++(ay t1++(ay t2++(ay t3++(ay t4++[]))))=(ay 4++ay t1++ay t2++ay t3)++(ay t4++[]):=by simp
    have r0:=aei (v:=4) (ZR (by decide) (by decide)) (ay t1++(ay t2++(ay t3++(ay t4++[]))))
    have r1:aT (ay 4++(ay t1++(ay t2++(ay t3++(ay t4++[]))))) ((ay 4).length,true)=(t1,(ay 4++ay t1).length,true):=kG a0 (by omega)
    have r2:aT (ay 4++(ay t1++(ay t2++(ay t3++(ay t4++[]))))) ((ay 4++ay t1).length,true)=(t2,(ay 4++ay t1++ay t2).length,true):=by
     rw[e2]
     exact kG b0 (by omega)
    have r3:aT (ay 4++(ay t1++(ay t2++(ay t3++(ay t4++[]))))) ((ay 4++ay t1++ay t2).length,true)=(t3,(ay 4++ay t1++ay t2++ay t3).length,true):=by
     rw[e3]
     exact kG c0 (by omega)
    have r4:aT (ay 4++(ay t1++(ay t2++(ay t3++(ay t4++[]))))) ((ay 4++ay t1++ay t2++ay t3).length,true)=(t4,(ay 4++ay t1++ay t2++ay t3++ay t4).length,true):=by
     rw[e4]
     exact kG d0 (by omega)
    rw[e]
    unfold aed aIf
    rw[r0]
    dsimp only
    rw[ah (by decide),ah (by decide),ah (by decide),ak (by rfl),r1]
    dsimp only
    rw[r2]
    dsimp only
    rw[r3]
    dsimp only
    rw[r4]
    rw[←hn]
    simp[named]
theorem aD2 {c:Int×Int}{m:cX}(h:en c m=true):tK c (Ij m)=(m,true):=by
 unfold tK fin
 rw[aGv h]
 dsimp only
 rw[ak ⟨rfl,rfl,h⟩]
theorem fJ {a b:List Int}(ha:∀x∈a,0≤x∧x≤255)(hb:∀x∈b,0≤x∧x≤255):∀x∈a++b,0≤x∧x≤255:=fun x hx=>(kI.1 hx).elim (ha x) (hb x)
theorem abj (s:ByteArray):∀x∈gA s,0≤x∧x≤255:=fJ (gn _) (aq8 s)
theorem axO (l:List Int):∀x∈jN l,0≤x∧x≤255:=fun x hx=>by
 obtain⟨y,_,h⟩:=List.mem_flatMap.1 hx
 exact gn y x h
theorem Ru (q:di):∀x∈kr q,0≤x∧x≤255:=fJ (gn _) (fJ (abj _) (fJ (gn _) (axO _)))
theorem Wy (s:ByteArray):(gA s).length≤s.size+5:=by
 have:=cI (s.size:Int)
 unfold gA
 rw[aM,Wx]
 omega
theorem Wz {q:di}(h:aIn q):(kr q).length≤q.2.1.size+5*q.2.2.length+15:=by
 have h1:=cI q.1
 have h2:=Wy q.2.1
 have h3:=cI (q.2.2.length:Int)
 have h4:=(agX h.m).2
 unfold kr Ax
 rw[aM,aM,aM]
 omega
theorem apd {c:Int×Int}{m:cX}(h:en c m=true):(Ij m).length≤12000∧(∀x∈Ij m,0≤x∧x≤255)∧1≤(Ij m).length:=by
 unfold en at h
 simp only[aJ]at h
 obtain⟨hc,_,hk⟩:=h
 have hp:=cI m.1
 have pos:m.1=1∨m.1=2∨m.1=3∨m.1=4:=by
  by_cases k1:m.1=1
  ·exact .inl k1
  ·by_cases k2:m.1=2
   ·exact .inr (.inl k2)
   ·by_cases k3:m.1=3
    ·exact .inr (.inr (.inl k3))
    ·rw[ah (by simpa using k1),ah (by simpa using k2),ah (by simpa using k3)]at hk
     simp only[aJ,bB]at hk
     exact .inr (.inr (.inr hk.1))
 have one:1≤(ay m.1).length:=by
  unfold ay
  rw[ak (by omega)]
  exact apb 4 _
 unfold Ij
 refine⟨?_,fJ (gn _) ?_,by rw[aM];omega⟩
 ·rw[aM]
  rcases pos with k|k|k|k
  ·rw[ak (by simpa using k)]at hk
   simp only[gD,aJ]at hk
   have hq:=tC hk.1
   have hb:=pO hk.2.1
   have h1:=Wy m.2.2.1.1
   have h2:=Wz hq.1
   rw[ak k,aM]
   omega
  ·rw[ah (by simp[k]),ak (by simpa using k)]at hk
   simp only[aJ]at hk
   have hq:=Xp hk.1
   have h2:=Wz hq.1
   rw[ah (by omega),ak k]
   omega
  ·rw[ah (by simp[k]),ah (by simp[k]),ak (by simpa using k)]at hk
   simp only[aJ]at hk
   have hq:=tC hk.2.1
   have h1:=cI m.2.1
   have h3:=cI m.2.2.2.2.2.1
   have h2:=Wz hq.1
   rw[ah (by omega),ah (by omega),ak k,aM,aM]
   omega
  ·have h1:=cI m.2.2.2.2.2.2.1
   have h2:=cI m.2.2.2.2.2.2.2.1
   have h3:=cI m.2.2.2.2.2.2.2.2.1
   have h4:=cI m.2.2.2.2.2.2.2.2.2
   rw[ah (by omega),ah (by omega),ah (by omega),aM,aM,aM]
   omega
 ·split
  ·exact fJ (abj _) (Ru _)
  ·split
   ·exact Ru _
   ·split
    ·exact fJ (gn _) (fJ (gn _) (Ru _))
    ·exact fJ (gn _) (fJ (gn _) (fJ (gn _) (gn _)))
def eo (s:bH):List Int:=ay s.1++(ay s.2.1++(kr s.2.2.1++gA s.2.2.2))
theorem fD {c:Int×Int}{s:bH}(h:bS c s=true):(0≤s.1∧s.1≤60)∧(0≤s.2.1∧s.2.1≤60)∧fN c s.2.2.1=true∧cr s.2.2.2.data.toList=true:=by
 simp only[bS,iH,aJ,cH]at h
 exact h
theorem aD3 {c:Int×Int}{s:bH}(h:bS c s=true):KH (eo s)=(s,(eo s).length,true):=by
 obtain⟨⟨a0,a1⟩,⟨b0,b1⟩,hq,hn⟩:=fD h
 have hq:=(tC hq).1
 have hs:=pO hn
 obtain⟨v,l,q,d⟩:=s
 dsimp only at a0 a1 b0 b1 hq hs ⊢
 have e:eo (v,l,q,d)=ay v++(ay l++(kr q++(gA d++[]))):=by simp[eo]
 have e2:ay v++(ay l++(kr q++(gA d++[])))=(ay v++ay l)++(kr q++(gA d++[])):=by simp
 have e3:ay v++(ay l++(kr q++(gA d++[])))=(ay v++ay l++kr q)++(gA d++[]):=by simp
 have r0:=aei (v:=v) ⟨a0,by omega⟩ (ay l++(kr q++(gA d++[])))
 have r1:aT (ay v++(ay l++(kr q++(gA d++[])))) ((ay v).length,true)=(l,(ay v++ay l).length,true):=kG b0 (by omega)
 have r2:wZ (ay v++(ay l++(kr q++(gA d++[])))) ((ay v++ay l).length,true)=(q,(ay v++ay l++kr q).length,true):=by
  rw[e2]
  exact apc hq
 have r3:dE (ay v++(ay l++(kr q++(gA d++[])))) ((ay v++ay l++kr q).length,true)=(d,(ay v++ay l++kr q++gA d).length,true):=by
  rw[e3]
  exact Rs (by omega)
 rw[e]
 unfold KH
 rw[r0]
 dsimp only
 rw[r1]
 dsimp only
 rw[r2]
 dsimp only
 rw[r3]
 simp
theorem aAm {c:Int×Int}{s:bH}(h:bS c s=true):oJ c (eo s)=(s,true):=by
 unfold oJ
 rw[aD3 h]
 dsimp only
 rw[ak ⟨rfl,rfl,h⟩]
theorem Qf {c:Int×Int}{s:bH}(h:bS c s=true):1≤(eo s).length∧(eo s).length≤12000:=by
 obtain⟨⟨a0,a1⟩,_,hq,hn⟩:=fD h
 have hq:=tC hq
 have hs:=pO hn
 have h1:=cI s.1
 have h2:=cI s.2.1
 have h3:=Wz hq.1
 have h4:=Wy s.2.2.2
 have one:1≤(ay s.1).length:=by
  unfold ay
  rw[ak (by omega)]
  exact apb 4 _
 unfold eo
 rw[aM,aM,aM]
 omega
theorem axP (s:bH):∀x∈eo s,0≤x∧x≤255:=fJ (gn _) (fJ (gn _) (fJ (Ru _) (abj _)))
def eN (s:bH):List Int:=ay ((eo s).length:Int)++(eo s++[10])
def dQ (l:List bH):List Int:=l.flatMap eN
theorem axQ (s:bH):∀x∈eN s,0≤x∧x≤255:=fJ (gn _) (fJ (axP s) fun x hx=>by rw[lZ.1 hx];omega)
theorem agZ {c:Int×Int}{s:bH}(h:bS c s=true):1≤(eN s).length∧(eN s).length≤12010:=by
 have h1:=Qf h
 have h2:=cI ((eo s).length:Int)
 unfold eN
 rw[aM,aM,dU]
 omega
theorem aD4 {c:Int×Int}{s:bH}(h:bS c s=true)(pre rest:List Int):GM c (pre++(eN s++rest)) pre.length=some (s,(pre++eN s).length):=by
 have hl:=Qf h
 have e:pre++(eN s++rest)=pre++(ay ((eo s).length:Int)++(eo s++(10::rest))):=by simp[eN]
 have hg:=aeg (pre:=pre) (rest:=eo s++(10::rest)) (v:=((eo s).length:Int)) (by omega) (by omega)
 rw[e,B8 hg]
 have e2:pre++(ay ((eo s).length:Int)++(eo s++(10::rest)))=(pre++ay ((eo s).length:Int))++(eo s++(10::rest)):=by simp
 have aOG:Ww (pre++(ay ((eo s).length:Int)++(eo s++(10::rest)))) (pre.length+(ay ((eo s).length:Int)).length) (pre.length+(ay ((eo s).length:Int)).length+((eo s).length:Int).toNat)=eo s:=by
  unfold Ww
  rw[e2,kH,←aM,←iK,←aM,List.take_left,List.drop_left]
 have Qr:(pre++(ay ((eo s).length:Int)++(eo s++(10::rest)))).getD (pre.length+(ay ((eo s).length:Int)).length+((eo s).length:Int).toNat) 0=10:=by
  rw[e2,kH,←aM,←iK,←aM,RF,List.getElem?_append_right (b9 _),Nat.sub_self]
  rfl
 rw[aOG,Qr,aAm h,ah ?_,ah (by decide),ak rfl,kH]
 ·simp only[eN,aM,dU]
  congr 2
  omega
 ·simp only[aM,ba]
  omega
theorem asJ:∀(i k:Nat) (v:Int) (j q:Nat) (n:Int),k<(NW i v).length→0≤v→Qc j ((NW i v).take k) q n=none
 |i,0,v,j,q,n,_,_=>by
  rw[List.take_zero]
  cases j<;>rfl
 |0,k+1,v,j,q,n,hk,_=>by
  unfold NW at hk
  rw[dU]at hk
  omega
 |i+1,k+1,v,j,q,n,hk,hv=>by
  unfold NW at hk ⊢
  split at hk
  ·rw[dU]at hk
   omega
  ·rename_i ad8
   rw[ah ad8,List.take_succ_cons]
   cases j with
   |zero=>rfl
   |succ j =>
    unfold Qc
    rw[ba]at hk
    have:=ahk v (show(128:Int)≠0 by decide)
    rw[ah (by omega)]
    exact asJ i k (v/128) j (q+1) _ (by omega) (by omega)
theorem aAn {c:Int×Int}{s:bH}(h:bS c s=true)(pre:List Int){k:Nat}(hk:k<(eN s).length):GM c (pre++(eN s).take k) pre.length=none:=by
 have hl:=Qf h
 by_cases hp:k<(ay ((eo s).length:Int)).length
 ·refine B9 ?_
  unfold rO
  rw[List.drop_left]
  have e:(eN s).take k=(ay ((eo s).length:Int)).take k:=by
   unfold eN
   rw[ayR (by omega)]
  rw[e]
  have hb:ay ((eo s).length:Int)=NW 4 ((eo s).length:Int):=by
   unfold ay
   rw[ak (by omega)]
  rw[hb]at hp ⊢
  rw[asJ 4 k _ 5 0 0 hp (by omega)]
 ·have e:(eN s).take k=ay ((eo s).length:Int)++(eo s++[10]).take (k-(ay ((eo s).length:Int)).length):=by
   unfold eN
   rw[as8,ahf (by omega)]
  have hlen:(eN s).length=(ay ((eo s).length:Int)).length+((eo s).length+1):=by
   simp[eN]
  have hg:=aeg (pre:=pre) (rest:=(eo s++[10]).take (k-(ay ((eo s).length:Int)).length)) (v:=((eo s).length:Int)) (by omega) (by omega)
  rw[e,B8 hg,ak ?_]
  rw[aM,aM,bQ,aM,dU]
  omega
theorem aD5 {c:Int×Int}(pre:List Int):GM c pre pre.length=none:=by
 refine B9 ?_
 unfold rO
 rw[TR]
 rfl
def aKs (c:Int×Int)(t:List Int):Prop:=t=[]∨∃s k,bS c s=true∧k<(eN s).length∧t=(eN s).take k
theorem aiH {c:Int×Int}{t:List Int}(ht:aKs c t):∀(l:List bH) (pre:List Int) (f:Nat) (s:bH),(∀x∈l,bS c x=true)→l.length<f →
  ET c (pre++(dQ l++t)) f s pre.length=(l.getLastD s,(pre++dQ l).length)
 |[],pre,f+1,s,_,_=>by
  have hn:GM c (pre++(dQ []++t)) pre.length=none:=by
   rcases ht with rfl|⟨x,k,h1,h2,rfl⟩
   ·have:pre++(dQ []++[])=pre:=by simp[dQ]
    rw[this]
    exact aD5 pre
   ·exact aAn h1 pre h2
  rw[ji hn]
  simp[dQ]
 |x::l,pre,f+1,s,hl,hf=>by
  have hx:=hl x IL
  have e:pre++(dQ (x::l)++t)=pre++(eN x++(dQ l++t)):=by simp[dQ]
  have e2:pre++(eN x++(dQ l++t))=(pre++eN x)++(dQ l++t):=by simp
  have e3:(pre++dQ (x::l)).length=(pre++eN x++dQ l).length:=by simp[dQ]
  rw[ba]at hf
  rw[e,Ca (aD4 hx pre (dQ l++t)),e2,e3,aiH ht l (pre++eN x) f x (fun y hy=>hl y (pW _ hy)) (by omega)]
  cases l<;>rfl
theorem ape {c:Int×Int}:∀{l:List bH},(∀x∈l,bS c x=true)→l.length≤(dQ l).length
 |[],_=>b9 _
 |x::l,h=>by
  have h1:=agZ (h x IL)
  have h2:=ape fun y hy=>h y (pW _ hy)
  have e:dQ (x::l)=eN x++dQ l:=rfl
  rw[e,aM,ba]
  omega
theorem KK {c:Int×Int}{t:List Int}(ht:aKs c t){l:List bH}(hl:∀x∈l,bS c x=true):fx c (dQ l++t)=(l.getLastD mc,(dQ l).length):=by
 have:=aiH ht l [] ((dQ l++t).length+1) mc hl (by have:=ape hl;rw[aM];omega)
 rw[AI,AI]at this
 exact this
theorem apf {c:Int×Int}:∀{l:List bH} (k:Nat),(∀x∈l,bS c x=true)→∃i t,i≤l.length∧aKs c t∧(dQ l).take k=dQ (l.take i)++t∧(dQ (l.take i)).length≤k∧∀j,j≤l.length→(dQ (l.take j)).length≤k→j≤i∨dQ (l.take j)=dQ (l.take i)
 |[],k,_=>⟨0,[],b9 _,.inl rfl,by simp[dQ],aV _,fun j hj _=>.inl hj⟩
 |x::l,k,h=>by
  have hx:=h x IL
  have hlen:=agZ hx
  have e:dQ (x::l)=eN x++dQ l:=rfl
  by_cases hk:k<(eN x).length
  ·refine⟨0,(eN x).take k,aV _,.inr ⟨x,k,hx,hk,rfl⟩,?_,aV _,fun j hj hjk=>?_⟩
   ·rw[e,ayR (by omega)]
    rfl
   ·cases j with
    |zero=>exact .inl (b9 _)
    |succ j =>
     rw[List.take_succ_cons]at hjk
     have e2:dQ (x::l.take j)=eN x++dQ (l.take j):=rfl
     rw[e2,aM]at hjk
     omega
  ·obtain⟨i,t,h1,h2,h3,h4,h5⟩:=apf (k-(eN x).length) fun y hy=>h y (pW x hy)
   have e2:∀j,dQ ((x::l).take (j+1))=eN x++dQ (l.take j):=fun j=>rfl
   refine⟨i+1,t,by rw[ba];omega,h2,?_,?_,fun j hj hjk=>?_⟩
   ·rw[e,e2,as8,ahf (by omega),h3,iK]
   ·rw[e2,aM]
    omega
   ·cases j with
    |zero=>exact .inl (aV _)
    |succ j =>
     rw[e2,aM]at hjk
     rw[ba]at hj
     rcases h5 j (by omega) (by omega) with h6|h6
     ·exact .inl (by omega)
     ·exact .inr (by rw[e2,e2,h6])
theorem aAo {α β γ:Type}(X:Nat→Int→List β→Option γ)(a:List α)(f:α→β)(R:Option γ)
  (hs:∀n k xs (h:k<a.length),xs.length=k→X (n+1) (k:Int) xs=X n ((k+1:Nat):Int) (xs++[f a[k]])) (he:∀n,X (n+1) (a.length:Int) (a.map f)=R) (n:Nat) (hn:a.length<n):X n 0 []=R:=by
 refine dp X a.length (fun k xs=>xs=(a.take k).map f) R (fun n k xs hk h=>.inr ⟨_,hs n k xs hk (by rw[h,tZ,bQ];omega),?_⟩) (fun n xs h=>?_) n 0 [] (aV _) rfl (by omega)
 ·rw[jA hk,aeO,h]
  rfl
 ·rw[h,nF]
  exact he n
theorem aiI {α γ:Type}(X:Nat→Int→List α→Option γ)(a:List α)(R:Option γ)
  (hs:∀n k xs (h:k<a.length),xs.length=k→X (n+1) (k:Int) xs=X n ((k+1:Nat):Int) (xs++[a[k]])) (he:∀n,X (n+1) (a.length:Int) a=R) (n:Nat) (hn:a.length<n):X n 0 []=R :=
 aAo X a id R hs (fun n=>by rw[List.map_id];exact he n) n hn
theorem alm {α γ:Type}(X:Nat→Int→List α→Option γ)(a:List α)(p:α→Bool)(R:Option γ)
  (hs:∀n k xs (h:k<a.length),xs.length≤k→X (n+1) (k:Int) xs=X n ((k+1:Nat):Int) (if p a[k]=true then xs++[a[k]] else xs)) (he:∀n,X (n+1) (a.length:Int) (a.filter p)=R) (n:Nat) (hn:a.length<n):X n 0 []=R:=by
 refine dp X a.length (fun k xs=>xs=(a.take k).filter p) R (fun n k xs hk h=>.inr ⟨_,hs n k xs hk (by rw[h];exact cT (av2 _ _) (by rw[bQ];omega)),?_⟩) (fun n xs h=>?_) n 0 [] (aV _) rfl (by omega)
 ·rw[jA hk,List.filter_append,h]
  cases hp:p a[k]<;>simp[hp]
 ·rw[h,nF]
  exact he n
theorem w6 {q:di}(h:q.2.2.length≤1048576):jH F0 q=some (q,()):=by
 rw[amK,az (a:=0) (by omega) (by omega) (by omega),ae]
 rfl
theorem nL {q:di}(h:q.2.2.length≤1048576):ia F0 q=some (q,()):=by
 rw[ajz,az (a:=0) (by omega) (by omega) (by omega),ae]
 rfl
theorem xH {q:di}(h:q.2.2.length≤1048576):iE F0 q=some (q,()):=aoK (by omega)
theorem Ay {q:di}(h:q.2.2.length≤1048576):fQ F0 q=some (q,()):=by
 rw[af8,oI (by omega),ai]
theorem Nd {s:bH}(h:ko s):nW F0 s=some (s,()):=by
 rw[ajy,w6 h.1.2,ai]
theorem Ik {s:bH}(h:ko s):lS F0 s=some (s,()):=by
 rw[af7,xH h.1.2,ai]
theorem aej {l:List di}(h:l.length≤1048576)(hq:∀q∈l,uG q):ib F0 l=some (l,()):=by
 rw[afm]
 refine aiI (fun n k xs=>u4 F0 (yE F0) n (p5 l k xs)) l _ (fun n k xs hk hx=>?_) (fun n=>?_) _ (by rw[ch];omega)
 ·rw[Ec,aW hk,af,av hk,ae,bC hk,nL (hq _ (dr hk)).2,ai,az (by omega) (by omega) (by simp only[ba,bA];omega),ae,ao (by omega)]
 ·rw[Ec,aI,aa,XJ]
theorem ZS {l:List di}(h:l.length≤1048576)(hq:∀q∈l,uG q):fq F0 l=some (l,()):=by
 rw[adj]
 refine aiI (fun n k xs=>sS F0 (wN F0) n (oq l (l.length:Int) k xs)) l _ (fun n k xs hk hx=>?_) (fun n=>?_) _ (by rw[ch];omega)
 ·rw[AS,aW hk,af,av hk,ae,bC hk,Ay (hq _ (dr hk)).2,ai,az (by omega) (by omega) (by simp only[ba,bA];omega),ae,ao (by omega)]
 ·rw[AS,aI,aa,VE]
theorem Nf {d:List Int×Int}(h:d.1.length≤1048576):jr F0 d=some (d,()):=by
 rw[ajA,az (a:=0) (by omega) (by omega) (by omega),ae]
 rfl
theorem Il {d:List Int×Int}(h:d.1.length≤1048576):lT F0 d=some (d,()):=by
 rw[af9,az (a:=0) (by omega) (by omega) (by omega),ae]
 rfl
theorem WA {l:List fy}(h:l.length≤1048576):jv F0 l=some (l,()):=by
 rw[akp,az (a:=0) (by omega) (by omega) (by omega),ae]
 rfl
theorem aAp {b:dk}(h:b.2.2.2.length≤1048576):Lv F0 b=some (b,()):=by
 rw[amL,w6 h,ai]
theorem aq9 {b:dk}(h:b.2.2.2.length≤1048576):zP F0 b=some (b,()):=by
 rw[adk,xH h,ai]
theorem aiJ {m:cX}(h:gz m):yG F0 m=some (m,()):=by
 rw[ajB,aAp h.2.1.2,ai,nL h.2.2.1.2,ai,w6 h.2.2.2.2,ai]
theorem aiK {m:cX}(h:gz m):zQ F0 m=some (m,()):=by
 rw[akq,aq9 h.2.1.2,ai,Ay h.2.2.1.2,ai,xH h.2.2.2.2,ai]
theorem aek {l:List km}(h:l.length≤1048576)(hm:∀q∈l,gz q.2):ug F0 l=some (l,()):=by
 rw[afn]
 refine aiI (fun n k xs=>u9 F0 (yH F0) n (p6 l k xs)) l _ (fun n k xs hk hx=>?_) (fun n=>?_) _ (by rw[ch];omega)
 ·rw[Ed,aW hk,af,av hk,ae,ae,bC hk,aiJ (hm _ (dr hk)),ai,az (by omega) (by omega) (by simp only[ba,bA];omega),ae,ao (by omega)]
 ·rw[Ed,aI,aa,XK]
theorem ara {l:List km}(h:l.length≤1048576)(hm:∀q∈l,gz q.2):zR F0 l=some (l,()):=by
 rw[adm]
 refine aiI (fun n k xs=>sX F0 (wP F0) n (ot l (l.length:Int) k xs)) l _ (fun n k xs hk hx=>?_) (fun n=>?_) _ (by rw[ch];omega)
 ·rw[AT,aW hk,af,av hk,ae,bC hk,aiK (hm _ (dr hk)),ai,az (by omega) (by omega) (by simp only[ba,bA];omega),ae,ao (by omega)]
 ·rw[AT,aI,aa,VG]
structure aD6 (r:aD):Prop where
 l:aoS r
 d:dC r.2.2.2.2.2.2.1.1
theorem eO {r:aD}(h:aD6 r):bh F0 r=some (r,()):=by
 rw[ajC,Nd h.l.s,ai,az (a:=0) (by omega) (by omega) (by have:=h.l.p;omega),ae,aej h.l.t h.l.tq,ai,Nf h.d.1,ai,aek h.l.h h.l.hm,ai]
 rfl
theorem eP {r:aD}(h:aD6 r):aE F0 r=some (r,()):=by
 rw[akr,Ik h.l.s,ai,WA h.l.p,ai,ZS h.l.t h.l.tq,ai,Il h.d.1,ai,ara h.l.h h.l.hm,ai]
theorem ael {x:ph}(h:x.2.length≤1048576):uv F0 x=some (x,()):=by
 rw[aga,az (a:=0) (by omega) (by omega) (by omega),ae]
 rfl
structure NX (w:an):Prop where
 l:KG w
 b:∀r∈w.2.2.1,dC r.2.2.2.2.2.2.1.1
theorem NX.rep {w:an}(h:NX w){r:aD}(hr:r∈w.2.2.1):aD6 r:=⟨h.l.rl r hr,h.b r hr⟩
theorem lX {w:an}(h:NX w):aS F0 w=some (w,()):=by
 have h1:=h.l.l
 have h2:=h.l.r
 have h3:=h.l.n
 have h4:=h.l.s
 rw[ado,oI (by omega),ai,az (a:=0) (by omega) (by omega) (by omega),ae]
 refine aiI (fun n k xs=>sZ F0 (wR F0) n (ov w w.2.2.1 (w.2.2.1.length:Int) k 0 0 w.1.1 w.1.2 [] [] [] [] w.2.1 xs [] ([]++w.2.2.2.2))) w.2.2.1 _ (fun n k xs hk hx=>?_) (fun n=>?_) _ (by rw[ch];omega)
 ·rw[AW,aW hk,af,av hk,ae,bC hk,eP (h.rep (dr hk)),ai,az (by omega) (by omega) (by simp only[ba,bA];omega),ae,ao (by omega)]
 ·rw[AW,aI,aa,VJ]
  refine aiI (fun n k xs=>sY F0 (wQ F0) n (ou w.2.2.2.1 (w.2.2.2.1.length:Int) k 0 0 w.1.1 w.1.2 [] [] [] [] w.2.1 w.2.2.1 xs ([]++w.2.2.2.2))) w.2.2.2.1 _ (fun n k xs hk hx=>?_) (fun n=>?_) _ (by rw[ch];omega)
  ·rw[AU,aW hk,af,av hk,ae,bC hk,ael (h.l.nb _ (dr hk)).1,ai,az (by omega) (by omega) (by simp only[ba,bA];omega),ae,ao (by omega)]
  ·rw[AU,aI,aa,VI]
   rfl
theorem aiL {w:an}(h:NX w):yL F0 w=some (w,()):=by
 have h1:=h.l.l
 have h2:=h.l.r
 have h3:=h.l.n
 have h4:=h.l.s
 rw[ajD,az (a:=0) (by omega) (by omega) (by omega),ae,az (a:=0) (by omega) (by omega) (by omega),ae]
 refine aiI (fun n k xs=>yK F0 (Bs F0) n (si w k 0 0 w.1.1 w.1.2 [] [] [] [] ([]++w.2.1) xs [] ([]++w.2.2.2.2))) w.2.2.1 _ (fun n k xs hk hx=>?_) (fun n=>?_) _ (by rw[ch];omega)
 ·rw[F5,aW hk,af,av hk,ae,bC hk,eO (h.rep (dr hk)),ai,az (by omega) (by omega) (by simp only[ba,bA];omega),ae,ao (by omega)]
 ·rw[F5,aI,aa,aav]
  refine aiI (fun n k xs=>yJ F0 (Br F0) n (sh w k 0 0 w.1.1 w.1.2 [] [] [] [] ([]++w.2.1) w.2.2.1 xs ([]++w.2.2.2.2))) w.2.2.2.1 _ (fun n k xs hk hx=>?_) (fun n=>?_) _ (by rw[ch];omega)
  ·have hb:=(h.l.nb _ (dr hk)).1
   rw[F4,aW hk,af,av hk,ae,ae,bC hk,az (a:=0) (by omega) (by omega) (by omega),ae,az (by omega) (by omega) (by simp only[ba,bA];omega),ae,ao (by omega)]
   rfl
  ·rw[F4,aI,aa,aau]
   rfl
theorem Xq {n:Int}(h0:0≤n)(h1:n≤255):IntKind.wrap .u8 n=n:=by
 simp[IntKind.wrap,IntKind.signed,IntKind.bits]
 omega
theorem axR:∀(k:Nat) (v:Int) (xs:List Int) (n:Nat),0≤v→v<128 ^ (k+1)→xs.length+k≤1000→k<n→k≤4→CQ F0 (Fp F0) n (vt v xs)=some (xs++NW k v,())
 |0,v,xs,n,h0,h1,hx,hn,hk=>by
  obtain⟨n,rfl⟩:∃m,n=m+1:=⟨n-1,by omega⟩
  have e1:(128:Int) ^ (0+1)=128:=rfl
  rw[JB,aR (show ¬v>127 by omega),aa,LI,az (by omega) (by omega) (by first|omega|(simp only[aM,ba,bA];omega)|(rw[bo,bQ];omega)),ae,Xq h0 (by omega)]
  rfl
 |k+1,v,xs,n,h0,h1,hx,hn,hk=>by
  obtain⟨n,rfl⟩:∃m,n=m+1:=⟨n-1,by omega⟩
  have hp:=Rm (k:=k) (by omega)
  have e1:(128:Int) ^ (k+1)=128 ^ k*128:=RI _ _
  have e2:(128:Int) ^ (k+1+1)=128 ^ (k+1)*128:=RI _ _
  rw[JB]
  unfold NW
  by_cases hv:v<128
  ·rw[aR (show ¬v>127 by omega),aa,LI,az (by omega) (by omega) (by first|omega|(simp only[aM,ba,bA];omega)|(rw[bo,bQ];omega)),ae,Xq h0 (by omega),ak hv]
  ·rw[aL (show v>127 by omega),af,az (by omega) (by omega) (by first|omega|(simp only[aM,ba,bA];omega)|(rw[bo,bQ];omega)),ae,art h0,aH (n:=v/128) (by omega) (by omega),alq h0,
    aH (n:=v%128+128) (by omega) (by omega),Xq (by omega) (by omega),axR k (v/128) (xs++[v%128+128]) n (by omega) (by omega) (by rw[aM,dU];omega) (by omega) (by omega),ah hv,iK]
   rfl
theorem axS:∀(k:Nat) (v:Int) (xs:List Int) (n:Nat),0≤v→v<128 ^ (k+1)→xs.length+k≤1000→k<n→k≤4→uq F0 (vN F0) n (o8 v xs)=some (xs++NW k v,())
 |0,v,xs,n,h0,h1,hx,hn,hk=>by
  obtain⟨n,rfl⟩:∃m,n=m+1:=⟨n-1,by omega⟩
  have e1:(128:Int) ^ (0+1)=128:=rfl
  rw[n9,aR (show ¬v≥128 by omega),aa,qo,az (by omega) (by omega) (by first|omega|(simp only[aM,ba,bA];omega)|(rw[bo,bQ];omega)),ae,Xq h0 (by omega)]
  rfl
 |k+1,v,xs,n,h0,h1,hx,hn,hk=>by
  obtain⟨n,rfl⟩:∃m,n=m+1:=⟨n-1,by omega⟩
  have hp:=Rm (k:=k) (by omega)
  have e1:(128:Int) ^ (k+1)=128 ^ k*128:=RI _ _
  have e2:(128:Int) ^ (k+1+1)=128 ^ (k+1)*128:=RI _ _
  rw[n9]
  unfold NW
  by_cases hv:v<128
  ·rw[aR (show ¬v≥128 by omega),aa,qo,az (by omega) (by omega) (by first|omega|(simp only[aM,ba,bA];omega)|(rw[bo,bQ];omega)),ae,Xq h0 (by omega),ak hv]
  ·rw[aL (show v≥128 by omega),af,az (by omega) (by omega) (by first|omega|(simp only[aM,ba,bA];omega)|(rw[bo,bQ];omega)),ae,art h0,aH (n:=v/128) (by omega) (by omega),alq h0,
    aH (n:=v%128+128) (by omega) (by omega),Xq (by omega) (by omega),axS k (v/128) (xs++[v%128+128]) n (by omega) (by omega) (by rw[aM,dU];omega) (by omega) (by omega),ah hv,iK]
   rfl
theorem j9 (v:Int):e8 F0 v=some (ay v,()):=by
 have h5:(128:Int) ^ (4+1)=34359738368:=by decide
 rw[am0,dz,ai,ad7]
 unfold ay
 by_cases hv:0≤v∧v≤2147483647
 ·rw[aL hv,aK,aa,ak hv,axR 4 v [] F0.n hv.1 (by omega) (by simp) (by rw[ch];omega) (by omega)]
  rfl
 ·rw[aR hv,eZ,af,ah hv]
theorem nM (v:Int):fH F0 v=some (ay v,()):=by
 have h5:(128:Int) ^ (4+1)=34359738368:=by decide
 rw[VB,cg,ai,ad7]
 unfold ay
 by_cases hv:0≤v∧v≤2147483647
 ·rw[aL hv,aK,aa,ak hv,axS 4 v [] F0.n hv.1 (by omega) (by simp) (by rw[ch];omega) (by omega)]
  rfl
 ·rw[aR hv,eZ,af,ah hv]
theorem Ng {s:ByteArray}(h:s.size≤1048576):nY F0 s=some (gA s,()):=by
 have:=cI (s.size:Int)
 have hl:=Wx s
 rw[ajR,j9,ai,aL (show(s.size:Int)≤F0.mem by rw[aFM];omega),ae,az (by omega) (by omega) (by first|omega|(simp only[aM,ba,bA];omega)|(rw[bo,bQ];omega)),ae]
 rfl
theorem Im {s:ByteArray}(h:s.size≤1048576):oA F0 s=some (gA s,()):=by
 have:=cI (s.size:Int)
 rw[akx,nM,ai,aKb (by first|omega|(simp only[aM,ba,bA];omega)|(rw[bo,bQ];omega)),ae]
 rfl
theorem Az (l:List Int):(jN l).length≤5*l.length:=by
 induction l with
 |nil=>exact b9 _
 |cons x l ih =>
  have:=cI x
  show(ay x++jN l).length≤_
  rw[aM,ba]
  omega
theorem aAq (l:List Int)(x:Int):jN (l++[x])=jN l++ay x:=by simp[jN]
theorem avo {γ:Type}(X:Nat→Int→List Int→Option γ)(l pre:List Int)(R:Option γ)(hl:l.length≤1048576)(hp:pre.length≤1048576)
  (hs:∀n k xs (h:k<l.length),xs.length≤10485760→X (n+1) (k:Int) xs=X n ((k+1:Nat):Int) (xs++ay l[k])) (he:∀n,X (n+1) (l.length:Int) (pre++jN l)=R) (n:Nat) (hn:l.length<n):X n 0 pre=R:=by
 refine dp X l.length (fun k xs=>xs=pre++jN (l.take k)) R (fun n k xs hk h=>.inr ⟨_,hs n k xs hk (by
  have:=Az (l.take k)
  rw[bQ]at this
  rw[h,aM];omega),?_⟩) (fun n xs h=>?_) n 0 pre (aV _) (by simp[jN]) (by omega)
 ·rw[jA hk,aAq,h,iK]
 ·rw[h,nF]
  exact he n
theorem WB {l:List Int}(h:l.length≤1048576):sF F0 l=some (jN l,()):=by
 rw[aj0]
 refine avo (fun n k xs=>zf F0 (BC F0) n (sE l k xs)) l [] _ h (by simp) (fun n k xs hk hx=>?_) (fun n=>?_) _ (by rw[ch];omega)
 ·have:=cI l[k]
  rw[Gj,aW hk,af,av hk,ae,bC hk,j9,ai,az (by omega) (by omega) (by first|omega|(simp only[aM,ba,bA];omega)|(rw[bo,bQ];omega)),ae,ao (by omega)]
 ·rw[Gj,aI,aa,aaG]
  rfl
theorem EU {l:List Int}(h:l.length≤1048576):lu F0 l=some (jN l,()):=by
 rw[aky]
 refine avo (fun n k xs=>zY F0 (BV F0) n (s6 l (l.length:Int) k xs)) l [] _ h (by simp) (fun n k xs hk hx=>?_) (fun n=>?_) _ (by rw[ch];omega)
 ·have:=cI l[k]
  rw[GB,aW hk,af,av hk,ae,bC hk,nM,ai,az (by omega) (by omega) (by first|omega|(simp only[aM,ba,bA];omega)|(rw[bo,bQ];omega)),ae,ao (by omega)]
 ·rw[GB,aI,aa,aaT]
  rfl
def qcB (c:Int×Int)(q:di):List Int:=if fN c q=true then kr q else []
theorem Nh {s:ByteArray}(h:s.size≤1048576):(gA s).length≤1048581:=by have:=Wy s;omega
theorem WC {q:di}(h:uG q)(c:Int×Int):su F0 c q=some (qcB c q,()):=by
 have h1:=cI q.1
 have h2:=Nh h.1
 have h3:=cI (q.2.2.length:Int)
 have hq:=h.2
 rw[ajS,Rk h,ai]
 unfold qcB
 cases hc:fN c q with
 |false=>rw[eZ,af,ah (by decide)]
 |true =>
  have hb:=tC hc
  rw[aK,aa,ak rfl,j9,ai,Ng h.1,ai,az (by omega) (by omega) (by first|omega|(simp only[aM,ba,bA];omega)|(rw[bo,bQ];omega)),ae,j9,ai,az (by omega) (by omega) (by first|omega|(simp only[aM,ba,bA];omega)|(rw[bo,bQ];omega)),ae]
  refine avo (fun n k xs=>yX F0 (Bw F0) n (sr k q.1 q.2.1 q.2.2 xs)) q.2.2 _ _ h.2 (by have:=Wy q.2.1;simp only[aM];omega) (fun n k xs hk hx=>?_) (fun n=>?_) _ (by rw[ch];omega)
  ·have:=cI q.2.2[k]
   rw[Gb,aW hk,af,av hk,ae,bC hk,j9,ai,az (by omega) (by omega) (by first|omega|(simp only[aM,ba,bA];omega)|(rw[bo,bQ];omega)),ae,ao (by omega)]
  ·rw[Gb,aI,aa,aaB]
   simp[kr,Ax]
theorem Rv {q:di}(h:uG q)(c:Int×Int):s9 F0 c q=some (qcB c q,()):=by
 have h1:=cI q.1
 have h2:=Nh h.1
 have h3:=cI (q.2.2.length:Int)
 have h4:=Az q.2.2
 have hq:=h.2
 rw[akz,Qa h,ai]
 unfold qcB
 cases hc:fN c q with
 |false=>rw[eZ,af,ah (by decide)]
 |true =>
  rw[aK,aa,ak rfl,nM,ai,Im h.1,ai,az (by omega) (by omega) (by first|omega|(simp only[aM,ba,bA];omega)|(rw[bo,bQ];omega)),ae,nM,ai,az (by omega) (by omega) (by first|omega|(simp only[aM,ba,bA];omega)|(rw[bo,bQ];omega)),ae,EU h.2,ai,az (by omega) (by omega) (by first|omega|(simp only[aM,ba,bA];omega)|(rw[bo,bQ];omega)),ae]
  simp[kr,Ax]
theorem ag0 {c:Int×Int}{q:di}:(qcB c q).length≤6000:=by
 unfold qcB
 split
 ·rename_i h
  have:=tC h
  have:=Wz this.1
  omega
 ·exact aV _
def ag1 (c:Int×Int)(s:bH):List Int:=if bS c s=true then eo s else []
theorem arb {s:bH}(h:ko s)(c:Int×Int):yY F0 c s=some (ag1 c s,()):=by
 have h1:=cI s.1
 have h2:=cI s.2.1
 have h3:=ag0 (c:=c) (q:=s.2.2.1)
 have h4:=Nh h.2
 rw[acM,B7 h,ai]
 unfold ag1
 cases hc:bS c s with
 |false=>rw[eZ,af,ah (by decide)]
 |true =>
  have hq:=(fD hc).2.2.1
  rw[aK,aa,ak rfl,j9,ai,j9,ai,az (by omega) (by omega) (by first|omega|(simp only[aM,ba,bA];omega)|(rw[bo,bQ];omega)),ae,WC h.1,ai,az (by omega) (by omega) (by first|omega|(simp only[aM,ba,bA];omega)|(rw[bo,bQ];omega)),ae,Ng h.2,ai,az (by omega) (by omega) (by first|omega|(simp only[aM,ba,bA];omega)|(rw[bo,bQ];omega)),ae]
  simp[eo,qcB,hq]
theorem apg {s:bH}(h:ko s)(c:Int×Int):z7 F0 c s=some (ag1 c s,()):=by
 have h1:=Az [s.1,s.2.1]
 have h3:=ag0 (c:=c) (q:=s.2.2.1)
 have h4:=Nh h.2
 simp only[ba,bA]at h1
 rw[adr,ES h,ai]
 unfold ag1
 cases hc:bS c s with
 |false=>rw[eZ,af,ah (by decide)]
 |true =>
  have hq:=(fD hc).2.2.1
  rw[aK,aa,ak rfl,EU (by simp),ai,Rv h.1,ai,az (by omega) (by omega) (by first|omega|(simp only[aM,ba,bA];omega)|(rw[bo,bQ];omega)),ae,Im h.2,ai,az (by omega) (by omega) (by first|omega|(simp only[aM,ba,bA];omega)|(rw[bo,bQ];omega)),ae]
  simp[eo,qcB,hq,jN]
def WD (c:Int×Int)(s:bH):List Int:=if bS c s=true then eN s else []
theorem arc {s:bH}(h:ko s)(c:Int×Int):yZ F0 c s=some (WD c s,()):=by
 rw[acO,arb h,ai]
 unfold WD ag1
 cases hc:bS c s with
 |false=>rfl
 |true =>
  have hl:=Qf hc
  have hp:=cI ((eo s).length:Int)
  simp only[ik]
  rw[show(((eo s).length:Int)==0)=false from cp.2 (by omega),aa,j9,ai,az (by omega) (by omega) (by first|omega|(simp only[aM,ba,bA];omega)|(rw[bo,bQ];omega)),ae,az (by omega) (by omega) (by first|omega|(simp only[aM,ba,bA];omega)|(rw[bo,bQ];omega)),ae]
  simp[eN]
theorem aph {s:bH}(h:ko s)(c:Int×Int):z8 F0 c s=some (WD c s,()):=by
 rw[adt,apg h,ai]
 unfold WD ag1
 cases hc:bS c s with
 |false=>rfl
 |true =>
  have hl:=Qf hc
  have hp:=cI ((eo s).length:Int)
  simp only[ik]
  rw[show(((eo s).length:Int)==0)=false from cp.2 (by omega),aa,nM,ai,az (by omega) (by omega) (by first|omega|(simp only[aM,ba,bA];omega)|(rw[bo,bQ];omega)),ae,az (by omega) (by omega) (by first|omega|(simp only[aM,ba,bA];omega)|(rw[bo,bQ];omega)),ae]
  simp[eN]
def aem (c:Int×Int)(m:cX):List Int:=if en c m=true then Ij m else []
theorem api {c:Int×Int}{m:cX}(h:en c m=true):(m.1=1∧fN c m.2.2.1.2=true)∨m.1=2∨(m.1=3∧fN c m.2.2.2.2.1=true)∨m.1=4:=by
 unfold en at h
 simp only[aJ]at h
 obtain⟨hc,_,hk⟩:=h
 by_cases k1:m.1=1
 ·rw[ak (by simpa using k1)]at hk
  simp only[gD,aJ]at hk
  exact .inl ⟨k1,hk.1⟩
 ·by_cases k2:m.1=2
  ·exact .inr (.inl k2)
  ·by_cases k3:m.1=3
   ·rw[ah (by simpa using k1),ah (by simpa using k2),ak (by simpa using k3)]at hk
    simp only[aJ]at hk
    exact .inr (.inr (.inl ⟨k3,hk.2.1⟩))
   ·rw[ah (by simpa using k1),ah (by simpa using k2),ah (by simpa using k3)]at hk
    simp only[aJ,bB]at hk
    exact .inr (.inr (.inr hk.1))
theorem avp {m:cX}(h:gz m)(c:Int×Int):C3 F0 c m=some (aem c m,()):=by
 rw[afO,II h,ai]
 unfold aem
 cases hc:en c m with
 |false=>rw[eZ,af,ah (by decide)]
 |true =>
  have hp:=cI m.1
  rw[aK,aa,ak rfl,j9,ai]
  unfold Ij
  rcases api hc with ⟨k,hq⟩|k|⟨k,hq⟩|k
  ·have h1:=Nh h.1
   have h2:=ag0 (c:=c) (q:=m.2.2.1.2)
   rw[show(m.1==1)=true by simpa using k,af,Ng h.1,ai,az (by omega) (by omega) (by first|omega|(simp only[aM,ba,bA];omega)|(rw[bo,bQ];omega)),ae,WC h.2.1,ai,az (by omega) (by omega) (by first|omega|(simp only[aM,ba,bA];omega)|(rw[bo,bQ];omega)),ae,ak k]
   simp[qcB,hq]
  ·have h1:=cI m.2.2.2.1.1
   have h2:=Nh h.2.2.1.1
   have h3:=cI (m.2.2.2.1.2.2.length:Int)
   have h4:=Az m.2.2.2.1.2.2
   have h5:=h.2.2.1.2
   rw[show(m.1==1)=false by simp[k],aa,show(m.1==2)=true by simp[k],af,j9,ai,az (by omega) (by omega) (by first|omega|(simp only[aM,ba,bA];omega)|(rw[bo,bQ];omega)),ae,Ng h.2.2.1.1,ai,az (by omega) (by omega) (by first|omega|(simp only[aM,ba,bA];omega)|(rw[bo,bQ];omega)),ae,j9,ai,
    az (by omega) (by omega) (by first|omega|(simp only[aM,ba,bA];omega)|(rw[bo,bQ];omega)),ae,WB h5,ai,az (by omega) (by omega) (by first|omega|(simp only[aM,ba,bA];omega)|(rw[bo,bQ];omega)),ae,ah (by omega),ak k]
   simp[kr,Ax]
  ·have h1:=Az [m.2.1,m.2.2.2.2.2.1]
   have h2:=ag0 (c:=c) (q:=m.2.2.2.2.1)
   simp only[ba,bA]at h1
   rw[show(m.1==1)=false by simp[k],aa,show(m.1==2)=false by simp[k],aa,show(m.1==3)=true by simp[k],af,WB (by simp),ai,az (by omega) (by omega) (by first|omega|(simp only[aM,ba,bA];omega)|(rw[bo,bQ];omega)),ae,WC h.2.2.2,ai,az (by omega) (by omega) (by first|omega|(simp only[aM,ba,bA];omega)|(rw[bo,bQ];omega)),ae,ah (by omega),ah (by omega),ak k]
   simp[jN,qcB,hq]
  ·have h1:=Az [m.2.2.2.2.2.2.1,m.2.2.2.2.2.2.2.1,m.2.2.2.2.2.2.2.2.1,m.2.2.2.2.2.2.2.2.2]
   simp only[ba,bA]at h1
   rw[show(m.1==1)=false by simp[k],aa,show(m.1==2)=false by simp[k],aa,show(m.1==3)=false by simp[k],aa,WB (by simp),ai,az (by omega) (by omega) (by first|omega|(simp only[aM,ba,bA];omega)|(rw[bo,bQ];omega)),ae,ah (by omega),ah (by omega),ah (by omega)]
   simp[jN]
theorem ZT {m:cX}(h:gz m)(c:Int×Int):uy F0 c m=some (aem c m,()):=by
 rw[agd,KE h,ai]
 unfold aem
 cases hc:en c m with
 |false=>rw[eZ,af,ah (by decide)]
 |true =>
  have hp:=cI m.1
  rw[aK,aa,ak rfl,nM,ai]
  unfold Ij
  rcases api hc with ⟨k,hq⟩|k|⟨k,hq⟩|k
  ·have h1:=Nh h.1
   have h2:=ag0 (c:=c) (q:=m.2.2.1.2)
   rw[show(m.1==1)=true by simpa using k,af,Im h.1,ai,az (by omega) (by omega) (by first|omega|(simp only[aM,ba,bA];omega)|(rw[bo,bQ];omega)),ae,Rv h.2.1,ai,az (by omega) (by omega) (by first|omega|(simp only[aM,ba,bA];omega)|(rw[bo,bQ];omega)),ae,ak k]
   simp[qcB,hq]
  ·have h1:=cI m.2.2.2.1.1
   have h2:=Nh h.2.2.1.1
   have h3:=cI (m.2.2.2.1.2.2.length:Int)
   have h4:=Az m.2.2.2.1.2.2
   have h5:=h.2.2.1.2
   rw[show(m.1==1)=false by simp[k],aa,show(m.1==2)=true by simp[k],af,nM,ai,az (by omega) (by omega) (by first|omega|(simp only[aM,ba,bA];omega)|(rw[bo,bQ];omega)),ae,Im h.2.2.1.1,ai,az (by omega) (by omega) (by first|omega|(simp only[aM,ba,bA];omega)|(rw[bo,bQ];omega)),ae,nM,ai,
    az (by omega) (by omega) (by first|omega|(simp only[aM,ba,bA];omega)|(rw[bo,bQ];omega)),ae,EU h5,ai,az (by omega) (by omega) (by first|omega|(simp only[aM,ba,bA];omega)|(rw[bo,bQ];omega)),ae,ah (by omega),ak k]
   simp[kr,Ax]
  ·have h1:=Az [m.2.1,m.2.2.2.2.2.1]
   have h2:=ag0 (c:=c) (q:=m.2.2.2.2.1)
   simp only[ba,bA]at h1
   rw[show(m.1==1)=false by simp[k],aa,show(m.1==2)=false by simp[k],aa,show(m.1==3)=true by simp[k],af,EU (by simp),ai,az (by omega) (by omega) (by first|omega|(simp only[aM,ba,bA];omega)|(rw[bo,bQ];omega)),ae,Rv h.2.2.2,ai,az (by omega) (by omega) (by first|omega|(simp only[aM,ba,bA];omega)|(rw[bo,bQ];omega)),ae,ah (by omega),ah (by omega),ak k]
   simp[jN,qcB,hq]
  ·have h1:=Az [m.2.2.2.2.2.2.1,m.2.2.2.2.2.2.2.1,m.2.2.2.2.2.2.2.2.1,m.2.2.2.2.2.2.2.2.2]
   simp only[ba,bA]at h1
   rw[show(m.1==1)=false by simp[k],aa,show(m.1==2)=false by simp[k],aa,show(m.1==3)=false by simp[k],aa,EU (by simp),ai,az (by omega) (by omega) (by first|omega|(simp only[aM,ba,bA];omega)|(rw[bo,bQ];omega)),ae,ah (by omega),ah (by omega),ah (by omega)]
   simp[jN]
def xP (a b:Int):Int:=if b>a then b else a
def FQ (a b:Int):Int:=if a<b then a else b
theorem Cb (a b:Int):eD F0 a b=some (xP a b,()):=by
 rw[YC]
 unfold xP
 by_cases h:a>b
 ·rw[aL h,af,ah (by omega)]
 ·rw[aR h,aa]
  by_cases h2:b>a
  ·rw[ak h2]
  ·rw[ah h2,show a=b by omega]
theorem Xr (a b:Int):bV F0 a b=some (FQ a b,()):=by
 rw[aqw]
 unfold FQ
 by_cases h:a<b
 ·rw[aL h,af,ak h]
 ·rw[aR h,aa,ah h]
theorem aGw {b:ByteArray}(h:b.size≤1048576):qQ F0 b=some ((cD b.data.toList).1,(cD b.data.toList).2,()):=Xg (Tv h)
theorem aD7 {b:ByteArray}(h:b.size≤1048576):rm F0 b=some ((cD b.data.toList).1,(cD b.data.toList).2,()):=Re (Tv h)
def Xs (a b:di):di:=if a.1>b.1 then a else b
theorem axT {a b:di}(ha:uG a)(hb:uG b):Ho F0 a b=some (Xs a b,()):=by
 rw[ajK,w6 ha.2,ai,w6 hb.2,ai]
 unfold Xs
 by_cases h:a.1>b.1
 ·rw[aL h,af,ak h]
 ·rw[aR h,aa,ah h]
theorem avq {a b:di}(ha:uG a)(hb:uG b):HS F0 a b=some (Xs a b,()):=by
 rw[akB,xH ha.2,ai,xH hb.2,ai]
 unfold Xs
 by_cases h:a.1>b.1
 ·rw[aL h,af,ak h]
 ·rw[aR h,aa,ah h]
def WE (ss:List ZK):Bool:=decide (3≤ss.length)&&(((ss.getD (ss.length-1) (0,[])).1==aj ((ss.getD (ss.length-2) (0,[])).1+1))&&((ss.getD (ss.length-2) (0,[])).1==aj ((ss.getD (ss.length-3) (0,[])).1+1)))
def Xt (b:ByteArray):Bool:=WE (cD b.data.toList).1
def upB (b:ByteArray):ByteArray:=tx (upL b.data.toList)
theorem aIo (l:List UInt8):(upL l).length≤l.length:=by
 unfold upL
 split
 ·rw[bQ];omega
 ·exact aV _
theorem KL (b:ByteArray):(upB b).size≤b.size:=by
 unfold upB
 rw[bP]
 exact aIo _
theorem aD8 {b:ByteArray}(h:b.size≤1048576):ea F0 (tx (upL b.data.toList))=some (bu (upL b.data.toList),()):=by
 have:=pM (b:=upB b) (cT (KL b) h)
 rw[show(upB b).data.toList=upL b.data.toList from iL _]at this
 exact this
theorem aAr {b:ByteArray}(h:b.size≤1048576):fa F0 (tx (upL b.data.toList))=some (bu (upL b.data.toList),()):=by
 have:=rN (b:=upB b) (cT (KL b) h)
 rw[show(upB b).data.toList=upL b.data.toList from iL _]at this
 exact this
def kg (b:ByteArray):ByteArray×Bool:=if Xt b=true then (upB (upB b),true) else (al,false)
theorem aiM {β:Type}{ss:List ZK}(hl:ss.length≤30)(x y:Option β) :
  br (decide ((ss.length:Int)<3)) y (ck (cl (aj ((ss.length:Int)-1)) (ss.length:Int)) (ck (cl (aj ((ss.length:Int)-2)) (ss.length:Int)) (br ((aP ss (aj ((ss.length:Int)-1)) (0,[])).1 != (aj ((aP ss (aj ((ss.length:Int)-2)) (0,[])).1+1))) y
   (ck (cl (aj ((ss.length:Int)-2)) (ss.length:Int)) (ck (cl (aj ((ss.length:Int)-3)) (ss.length:Int)) (br ((aP ss (aj ((ss.length:Int)-2)) (0,[])).1 != (aj ((aP ss (aj ((ss.length:Int)-3)) (0,[])).1+1))) y x))))))=if WE ss=true then x else y:=by
 unfold WE
 by_cases h:3≤ss.length
 ·rw[aR (show ¬(ss.length:Int)<3 by omega),aa,aL h,jB]
  have e1:aj ((ss.length:Int)-1)=((ss.length-1:Nat):Int):=by rw[aH (by omega) (by omega)];omega
  have e2:aj ((ss.length:Int)-2)=((ss.length-2:Nat):Int):=by rw[aH (by omega) (by omega)];omega
  have e3:aj ((ss.length:Int)-3)=((ss.length-3:Nat):Int):=by rw[aH (by omega) (by omega)];omega
  rw[e1,e2,e3,av (by omega),ae,av (by omega),ae,av (by omega),ae,ae,mm,mm,mm]
  cases h1:((ss.getD (ss.length-1) (0,[])).1==aj ((ss.getD (ss.length-2) (0,[])).1+1))<;>cases h2:((ss.getD (ss.length-2) (0,[])).1==aj ((ss.getD (ss.length-3) (0,[])).1+1))<;>simp only[bne,h1,h2]<;>rfl
 ·rw[aL (show(ss.length:Int)<3 by omega),af,aR h]
  rfl
theorem axU {b:ByteArray}(h:b.size≤1048576):Hp F0 b=some ((kg b).1,(kg b).2,()):=by
 have hu:mu F0 (tx (upL b.data.toList))=some (upB (upB b),()):=ad5 (b:=upB b) (cT (KL b) h)
 rw[ajM,aGw h,ai,aiM (rK _),ad5 h,ai,hu,ai]
 unfold kg Xt
 cases hs:WE (cD b.data.toList).1 with
 |true =>
  have:(cD b.data.toList).2=true:=by
   cases h2:(cD b.data.toList).2 with
   |true=>rfl
   |false=>rw[Wn h2]at hs;cases hs
  rw[this]
  rfl
 |false=>cases (cD b.data.toList).2<;>rfl
theorem avr {b:ByteArray}(h:b.size≤1048576):HT F0 b=some ((kg b).1,(kg b).2,()):=by
 have hu:sN F0 (tx (upL b.data.toList))=some (upB (upB b),()):=ad6 (b:=upB b) (cT (KL b) h)
 rw[akD,aD7 h,ai,aiM (rK _),ad6 h,ai,hu,ai]
 unfold kg Xt
 cases hs:WE (cD b.data.toList).1<;>rfl
def see (c:Int×Int)(s:bH)(q:di):bH :=
 if bS c s=true∧fN c q=true then (s.1,xP s.2.1 (bu (upL q.2.1.data.toList)),Xs q s.2.2.1,if (kg q.2.1).2=true∧aAe (kg q.2.1).1 s.2.2.2=true then (kg q.2.1).1 else s.2.2.2) else s
theorem aen (b:ByteArray):(kg b).1.size≤b.size:=by
 unfold kg
 split
 ·exact cT (KL _) (KL _)
 ·exact aV _
theorem avs {s:bH}{q:di}(hs:ko s)(hq:uG q)(c:Int×Int):OS F0 c s q=some (see c s q,()):=by
 have h2:=aen q.2.1
 rw[awY,Nd hs,ai,B7 hs,ai,Rk hq,ai,axT hq hs.1,ai,ad5 hq.1,ai,aD8 hq.1,ai,Cb,ai,axU hq.1,ai,axC (cT h2 hq.1) hs.2,ai]
 unfold see xP
 cases bS c s<;>cases fN c q<;>cases (kg q.2.1).2<;>cases aAe (kg q.2.1).1 s.2.2.2<;>simp[af,aa]
theorem apj {s:bH}{q:di}(hs:ko s)(hq:uG q)(c:Int×Int):PG F0 c s q=some (see c s q,()):=by
 have h2:=aen q.2.1
 rw[aw4,Ik hs,ai,ES hs,ai,Qa hq,ai,avq hq hs.1,ai,ad6 hq.1,ai,aAr hq.1,ai,avr hq.1,ai,avh (cT h2 hq.1) hs.2,ai]
 unfold see xP
 cases bS c s<;>cases fN c q<;>cases (kg q.2.1).2<;>cases aAe (kg q.2.1).1 s.2.2.2<;>simp[af,aa]
def oL (c:Int×Int)(s:bH)(b:dk):Bool:=bS c s&&(gD c b&&(decide (bu b.1.data.toList>s.1)&&decide (b.2.1≥s.2.1)))
theorem aiN {s:bH}{b:dk}(hs:ko s)(h1:b.1.size≤1048576)(h2:uG b.2)(c:Int×Int):yU F0 c s b=some (oL c s b,()):=by
 rw[ajQ,B7 hs,ai,M9 h1 h2,ai,pM h1,ai]
 unfold oL
 cases bS c s<;>cases gD c b<;>cases decide (bu b.1.data.toList>s.1)<;>rfl
theorem avt {s:bH}{b:dk}(hs:ko s)(h1:b.1.size≤1048576)(h2:uG b.2)(c:Int×Int):HW F0 c s b=some (oL c s b,()):=by
 rw[akH,ES hs,ai,Ie h1 h2,ai,rN h1,ai]
 unfold oL
 cases bS c s<;>cases gD c b<;>cases decide (bu b.1.data.toList>s.1)<;>rfl
def axV (c:Int×Int)(s:bH)(b:dk):bH×Bool:=if oL c s b=true then ((bu b.1.data.toList,s.2),true) else (s,false)
theorem aGx {s:bH}{b:dk}(hs:ko s)(h1:b.1.size≤1048576)(h2:uG b.2)(c:Int×Int):OT F0 c s b=some ((axV c s b).1,(axV c s b).2,()):=by
 rw[aui,Nd hs,ai,aiN hs h1 h2,ai,pM h1,ai]
 unfold axV
 cases oL c s b<;>rfl
theorem aD9 {s:bH}{b:dk}(hs:ko s)(h1:b.1.size≤1048576)(h2:uG b.2)(c:Int×Int):Xb F0 c s b=some ((axV c s b).1,(axV c s b).2,()):=by
 rw[auG,Ik hs,ai,avt hs h1 h2,ai,rN h1,ai]
 unfold axV
 cases oL c s b<;>rfl
abbrev pj:=List Int×Int
def Ni (d:pj)(b:List Int):pj×Bool:=if gm d=true∧d.1.length+b.length≤100000 then ((d.1++b,d.2),true) else (d,false)
theorem ef {d:pj}:gm d=true↔d.1.length≤100000∧0≤d.2∧d.2≤d.1.length:=by
 unfold gm iH
 simp only[aJ,cH]
 omega
theorem aAs {d:pj}{b:List Int}(hd:d.1.length≤1048576)(hb:b.length≤1048576):LK F0 d b=some ((Ni d b).1,(Ni d b).2,()):=by
 rw[am1,Nf hd,ai,az (by omega) (by omega) (by first|omega|(simp only[aM,ba,bA];omega)|(rw[bo,bQ];omega)),ae,KC,ai,KC,ai,ai]
 unfold Ni
 cases h:gm d with
 |false=>rfl
 |true =>
  have h1:=ef.1 h
  by_cases h2:d.1.length+b.length≤100000
  ·have:gm (d.1++b,d.2)=true:=ef.2 ⟨by dsimp only;rw[aM];exact h2,h1.2.1,by dsimp only;rw[aM];omega⟩
   rw[this,ak ⟨rfl,h2⟩]
   rfl
  ·have:gm (d.1++b,d.2)=false:=by
    cases h3:gm (d.1++b,d.2) with
    |false=>rfl
    |true =>
     have:=(ef.1 h3).1
     dsimp only at this
     rw[aM]at this
     exact absurd this h2
   rw[this,ah (fun h=>h2 h.2)]
   rfl
theorem axW {d:pj}{b:List Int}(hd:d.1.length≤1048576)(hb:b.length≤1048576):MH F0 d b=some ((Ni d b).1,(Ni d b).2,()):=by
 rw[an5,Il hd,ai,az (by omega) (by omega) (by first|omega|(simp only[aM,ba,bA];omega)|(rw[bo,bQ];omega)),ae,M7,ai,aH (by omega) (by omega)]
 unfold Ni
 cases h:gm d with
 |false=>rfl
 |true =>
  by_cases h2:d.1.length+b.length≤100000
  ·rw[aR (show ¬(d.1.length:Int)+b.length>100000 by omega),ak ⟨rfl,h2⟩]
   rfl
  ·rw[aL (show(d.1.length:Int)+b.length>100000 by omega),ah (fun h=>h2 h.2)]
   rfl
def po (d:pj):pj:=if gm d=true then (d.1,(d.1.length:Int)) else d
theorem aGy {d:pj}(hd:d.1.length≤1048576):W6 F0 d=some (po d,()):=by
 rw[auo,Nf hd,ai,KC,ai]
 unfold po
 cases gm d<;>rfl
theorem aEa {d:pj}(hd:d.1.length≤1048576):W9 F0 d=some (po d,()):=by
 rw[auA,Il hd,ai,M7,ai]
 unfold po
 cases gm d<;>rfl
def KM (d:pj)(keep:Int):Int:=d.2+xP 0 (FQ keep ((d.1.length:Int)-d.2))
def gF (d:pj)(keep:Int):pj:=if gm d=true then (d.1.take (KM d keep).toNat,KM d keep) else d
theorem aeo {d:pj}(h:gm d=true)(keep:Int):d.2≤KM d keep∧KM d keep≤d.1.length:=by
 have:=ef.1 h
 unfold KM xP FQ
 split<;>split<;>omega
theorem aAt {d:pj}(hd:d.1.length≤1048576)(keep:Int):Ma F0 d keep=some (gF d keep,()):=by
 rw[anw,Nf hd,ai,KC,ai,Xr,ai,Cb,ai]
 unfold gF
 cases h:gm d with
 |false=>rfl
 |true =>
  have h1:=ef.1 h
  have h2:=aeo h keep
  have e1:aj ((d.1.length:Int)-d.2)=(d.1.length:Int)-d.2:=aH (by omega) (by omega)
  have e2:aj (d.2+xP 0 (FQ keep ((d.1.length:Int)-d.2)))=KM d keep:=aH (by unfold KM at h2;omega) (by unfold KM at h2;omega)
  rw[aK,aa,ak rfl]
  dsimp only
  rw[e1,e2,ao6 (by omega) (by omega) h2.2,ae,az (a:=0) (by omega) (by omega) (by first|omega|(simp only[aM,ba,bA];omega)|(rw[bo,bQ];omega)),ae]
  rfl
theorem aiO {d:pj}(hd:d.1.length≤1048576)(keep:Int):EM F0 d keep=some (gF d keep,()):=by
 rw[aor,Il hd,ai,M7,ai]
 unfold gF
 cases h:gm d with
 |false=>rfl
 |true =>
  have h1:=ef.1 h
  have h2:=aeo h keep
  have e1:aj ((d.1.length:Int)-d.2)=(d.1.length:Int)-d.2:=aH (by omega) (by omega)
  have e2:aj (d.2+(if (d.1.length:Int)-d.2<(if 0>keep then 0 else keep) then (d.1.length:Int)-d.2 else (if 0>keep then 0 else keep)))=KM d keep:=by
   have:d.2+(if (d.1.length:Int)-d.2<(if 0>keep then 0 else keep) then (d.1.length:Int)-d.2 else (if 0>keep then 0 else keep))=KM d keep:=by
    unfold KM xP FQ
    split<;>split<;>split<;>split<;>omega
   rw[this]
   exact aH (by omega) (by omega)
  rw[af,ak rfl]
  dsimp only
  rw[e1,e2,show okT (KM d keep) (d.1.length:Int)=true by simp[okT];omega,ae]
def apk (s:bH):Int:=FQ 60 (xP (xP s.1 (aj (s.2.2.1.1+1))) 1)
def aGz (c:Int×Int)(r:aD):aD:=(r.1,apk (fx c r.2.2.2.2.2.2.1.1).1,0,(fx c r.2.2.2.2.2.2.1.1).1,[],[],(r.2.2.2.2.2.2.1.1.take (fx c r.2.2.2.2.2.2.1.1).2,((fx c r.2.2.2.2.2.2.1.1).2:Int)),[])
theorem axX (c:Int×Int){b:List Int}(hb:dC b):∀(f:Nat) (s:bH) (a:Nat),a≤b.length→(ET c b f s a).2≤b.length
 |0,s,a,ha=>ha
 |f+1,s,a,ha=>by
  cases h:GM c b a with
  |none=>rw[ji h];exact ha
  |some z =>
   obtain⟨s',a'⟩:=z
   rw[Ca h]
   exact axX c hb f s' a' (axF hb ha h).2.1
theorem WG (c:Int×Int){b:List Int}(hb:dC b):(fx c b).2≤b.length:=axX c hb _ _ _ (aV _)
theorem aGA {r:aD}(h:aD6 r){c:Int×Int}(hr:nz c r=true):Pg F0 c r=some (aGz c r,()):=by
 have hl:=WG c h.d
 have hd:=h.d.1
 rw[auq,iT h.l,ai,hr,aK,aa,avi h.d,ai,Cb,ai,Cb,ai,Xr,ai]
 dsimp only
 rw[ao6 (by omega) (by omega) (by omega),ae,az (a:=0) (by omega) (by omega) (by first|omega|(simp only[aM,ba,bA];omega)|(rw[bo,bQ];omega)),ae]
 rfl
theorem aEb {r:aD}(h:aD6 r){c:Int×Int}(hr:nz c r=true):P2 F0 c r=some (aGz c r,()):=by
 have hl:=WG c h.d
 have hd:=h.d.1
 rw[auR,eL h.l,ai,hr,aK,aa,NT h.d,ai]
 dsimp only
 rw[ao6 (by omega) (by omega) (by omega),ae,az (a:=0) (by omega) (by omega) (by first|omega|(simp only[aM,ba,bA];omega)|(rw[bo,bQ];omega)),ae]
 rfl
end Go.Am.Tryz
