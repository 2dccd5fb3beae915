/- Lemmas for the claim. No condition. -/
import Derived.Test.YtfapcfpkbahneaaGreatDoorQlVJL5
set_option linter.all false
namespace Go.Am.Tryz
open Go.Am
theorem aKJ (code:List Int)(i:Int):∃v,adS F0 code i=some (v,())\/i<0:=by
 rw[azP];by_cases h:i<(code.length:Int)
 ·by_cases h0:i<0
  ·exact⟨0,.inr h0⟩
  ·rw[aL h,af,show cl i (code.length:Int)=true by simp[cl];omega,ae];exact⟨_,.inl rfl⟩
 ·rw[aR h,aa];exact⟨_,.inl rfl⟩
theorem aIN (code:List Int){i:Int}(h:0<=i):∃v,adS F0 code i=some (v,()):=by
 obtain⟨v,h1|h1⟩:=aKJ code i
 ·exact⟨v,h1⟩
 ·omega
theorem aBb {b:List Int}(h:dC b)(k:Nat):dC (b.take k):=⟨cT (by rw[bQ];omega) h.1,fun x hx=>h.2 x (abG hx)⟩
theorem aBc {d:pj}(h:dC d.1)(keep:Int):dC (gF d keep).1:=by
 unfold gF;split
 ·exact aBb h _
 ·exact h
theorem aG6 {d:pj}(h:d.2=(d.1.length:Int))(keep:Int):(gF d keep).1=d.1:=by
 unfold gF;split
 ·rename_i hd;have:=(aeo hd keep).1;show d.1.take _=_;exact ahf (by omega)
 ·rfl
theorem cJ.last {c:Int×Int}{r:aD}(h:cJ c r):fx c r.2.2.2.2.2.2.1.1=(r.2.2.2.1,r.2.2.2.2.2.2.1.1.length):=by obtain⟨l,a,b,d⟩:=h;have hn:=KK (c:=c) (t:=[]) (.inl rfl) a;rw[gE]at hn;rw[b,hn,d]
theorem aEu {g:an}(h:aQ g)(hk:pV g)(code:List Int):eJ F0 (jz F0) F0.n (dO code 0 g.1.1 g.1.2 g.2.1 g.2.2.1 g.2.2.2.1 g.2.2.2.2 (dP g))=some (true,()):=by
 have hlen:=xI g;have h7:=h.le7;obtain⟨v,hv⟩:=aIN code (i:=4) (by omega);refine dp (fun n k (z:Unit)=>eJ F0 (jz F0) n (dO code k g.1.1 g.1.2 g.2.1 g.2.2.1 g.2.2.2.1 g.2.2.2.2 (dP g))) (dP g).length (fun _ _=>True) _ (fun n k z hkk hI=>.inr ⟨(),?_,trivial⟩) (fun n z hI=>?_) F0.n 0 () (aV _) trivial (by rw[ch];omega)
 ·obtain⟨j,e,hj⟩:=aDT hkk;have hm:=dr hj;have hg:=h.g _ hm;have hkp:=hk _ hm;have hbt:=hg.bt;have hl:=aBc hbt.2 v;rw[tJ,aW hkk,af,av hkk,ae,bC hkk,e,av hj,ae,bC hj,hv,ai,aiO hbt.2.1,ai,show((g.1.1,g.1.2):Int×Int)=g.1 from rfl,NT hl,ai,aDX hg.l hbt.2,ai,hkp.ok hg.ok,NU (ao2 g.1 hl),ai];dsimp only;rw[aK,aa,ao (by omega)];by_cases h1:(((g.2.2.1[j]).2.2.2.2.2.2.2.length:Int)==0)=true
  ·rw[h1,af];by_cases h2:((g.2.2.1[j]).2.2.2.2.2.2.1.2==((g.2.2.1[j]).2.2.2.2.2.2.1.1.length:Int))=true
   ·rw[h2,af,aG6 (eq_of_beq h2),hkp.last];dsimp only;rw[ZQ,aK,aa]
   ·rw[DN.2 h2,aa]
  ·rw[DN.2 h1,aa]
 ·rw[tJ,aI,aa,NS]
theorem abA (code:List Int):oH F0 code=some (true,()):=by
 rw[TM,awQ,ai];by_cases h:(code.length:Int)>1048576
 ·rw[aL h,af]
 ·rw[aR h,aa];obtain⟨⟨w,list,u⟩,e1,hn,hl,hd⟩:=aEs (code:=code) (by omega);obtain⟨c,liars,rfl,hg⟩:=hn;dsimp only at hl hd;obtain⟨Tx,hA⟩:=aEr hg (list:=list) (by omega) hd;have hG:=ays (list:=list) hg;rw[e1,ai];have n1:ur F0 (X5 c liars).1 (X5 c liars).2.1=some (X5 c liars,true,()):=ars hg;have n2:lQ F0 (X5 c liars).1 (X5 c liars).2.1=some (X5 c liars,true,()):=RE hg;rw[n1,ai,n2,ai];dsimp only;rw[abJ,aK,aa,aa,hA,ai,Na hG.w.l,ai];exact aEu hG (ayD list (aKI c liars)) code
end Go.Am.Tryz
