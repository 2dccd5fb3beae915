/- No condition. -/
import Derived.Test.YtpkabclplaibaaaGreatDoorQwYJG7
set_option linter.all false
set_option maxRecDepth 100000
namespace Go.Am.Tryz
open Go.Am Go.Proofs Go.Proofs.Tryz
noncomputable section
variable {U:Type} (F:nY) (J:Ex->St->Option U) (n:Nat)
def SW:Nat->Option Hint:=look [(900001,{live:=[],mat:=[(1,0,ew)]})]
def Ek (x:bS):=bL ax F SW f166 [(ew,true)] [(ew,true)] 2 (x,())
def afk (x:bS):Ek F x=ck (dV F 0 x.2.length 1) (some ((x.1,[]++x.2),())):=by kernel_rfl
def Nd:Any:=.one ⟨[(ew,true)],[(ew,true)],2,fun x=>Ek F0 x.1⟩
def afl:bb 166 Nd:=aC ax trivial func166 SW (by kernel_rfl)
def ib:=[(99,gE),(165,PV),(166,Nd)]
def ic:Nat->Option Hint:=look [(3,{live:=[1,2,3,18,19,20],A9:=[(2,2,3,.int .i64),(2,3,42,ca),(2,4,95,ew),(2,5,91,cA),(3,3,42,ca),(3,4,95,ew)],xl:=[1,2,3],rl:=[2]}),(8,{live:=[2,3,33,34,35],xl:=[2,3],rl:=[2]}),(900001,{live:=[],mat:=[(1,0,gq)]})]
def mZ (i:List bS)(j k l m o a:Int)(p:List Int)(b:List bq)(c:List bS)(d:List bK)(e:List Int)(f:List bq)(g:List bS)(h:List bK):= dN 48 [bX 2,bX 3,(33,jN 95 (ew) i),(34,bd j),(35,bd k)] [(2,[aq l,aq m,.own 1000000 none,.own 1000001 none,.own 1000002 none,.own 1000003 none]),(3,[aq o,aq a,.own 1000004 none,.own 1000005 none,.own 1000006 none,.own 1000007 none])] [aF 1000000 3 (.int .i64) p,aF 1000001 42 ca b,aF 1000002 95 ew c,aF 1000003 91 cA d,aF 1000004 3 (.int .i64) e,aF 1000005 42 ca f,aF 1000006 95 ew g,aF 1000007 91 cA h]
def Hl (i j k a:Int)(l:List Int)(b:List bq)(c:List bS)(d:List bK)(e:List Int)(f:List bq)(g:List bS)(h:List bK):= dN 48 [bX 2,bX 3] [(2,[aq i,aq j,.own 1000000 none,.own 1000001 none,.own 1000002 none,.own 1000003 none]),(3,[aq k,aq a,.own 1000004 none,.own 1000005 none,.own 1000006 none,.own 1000007 none])] [aF 1000000 3 (.int .i64) l,aF 1000001 42 ca b,aF 1000002 95 ew c,aF 1000003 91 cA d,aF 1000004 3 (.int .i64) e,aF 1000005 42 ca f,aF 1000006 95 ew g,aF 1000007 91 cA h]
def sg (a:St):Option U:=ek ib F ic [.r,.r,.r,.l,.r,.b,.i] f104 J n a
def vJ:=iR ib F ic [.r,.r,.r,.l,.r,.b] f104 fc 2
def na (w:l1)(i:List bq)(j k l m o a:Int)(p:List Int)(b:List bq)(c:List bS)(d:List bK)(e:List Int)(f:List bq)(g:List bS)(h:List bK):= dN 48 [(1,.v (.c (.Qd false (gq) w 0))),bX 2,bX 3,(18,jN 42 (ca) i),(19,bd j),(20,bd k)] [(2,[aq l,aq m,.own 1000000 none,.own 1000001 none,.own 1000002 none,.own 1000003 none]),(3,[aq o,aq a,.own 1000004 none,.own 1000005 none,.own 1000006 none,.own 1000007 none])] [aF 1000000 3 (.int .i64) p,aF 1000001 42 ca b,aF 1000002 95 ew c,aF 1000003 91 cA d,aF 1000004 3 (.int .i64) e,aF 1000005 42 ca f,aF 1000006 95 ew g,aF 1000007 91 cA h]
def Hm (w:l1)(i j k a:Int)(l:List Int)(b:List bq)(c:List bS)(d:List bK)(e:List Int)(f:List bq)(g:List bS)(h:List bK):= dN 48 [(1,.v (.c (.Qd false (gq) w 0))),bX 2,bX 3] [(2,[aq i,aq j,.own 1000000 none,.own 1000001 none,.own 1000002 none,.own 1000003 none]),(3,[aq k,aq a,.own 1000004 none,.own 1000005 none,.own 1000006 none,.own 1000007 none])] [aF 1000000 3 (.int .i64) l,aF 1000001 42 ca b,aF 1000002 95 ew c,aF 1000003 91 cA d,aF 1000004 3 (.int .i64) e,aF 1000005 42 ca f,aF 1000006 95 ew g,aF 1000007 91 cA h]
def sh (a:St):Option U:=ek ib F ic [.r,.r,.l,.r,.b,.i] f104 J n a
def vK:=iR ib F ic [.r,.r,.l,.r,.b] f104 fc 2
def BE (c:List bS)(k a l m o d:Int)(p:List Int)(e:List bq)(f:List bS)(g:List bK)(h:List Int)(i:List bq)(b:List bS)(j:List bK):sg F J (n+1) (mZ c k a l m o d p e f g h i b j)=br (decide (a<k)) (ck (bG a (c.length:Int)) ((Ek F0 (aL c a (0,[]))).bind fun q=>ck (dV F b.length [q.1].length 32) (sg F J n (mZ c k (al (a+1)) l m o d p e f g h i (b++[q.1]) j)))) (J (.exit 2) (Hl l m o d p e f g h i b j)):=by kernel_rfl
def BF (w:l1)(c:List bq)(k a l m o d:Int)(p:List Int)(e:List bq)(f:List bS)(g:List bK)(h:List Int)(b:List bq)(i:List bS)(j:List bK):sh F J (n+1) (na w c k a l m o d p e f g h b i j)=br (decide (a<k)) (ck (bG a (c.length:Int)) ((IG F0 (aL c a ca.az)).bind fun q=>ck (dV F b.length [q.1].length 208) (sh F J n (na w c k (al (a+1)) l m o d p e f g h (b++[q.1]) i j)))) (J (.exit 0) (Hm w l m o d p e f g h b i j)):=by kernel_rfl
def VL (j k f a:Int)(l:List Int)(g:List bq)(h:List bS)(i:List bK)(b:List Int)(c:List bq)(d:List bS)(e:List bK):vJ F (.exit 2) (Hl j k f a l g h i b c d e)=some (((f,a),b,c,d,e),()):=by kernel_rfl
def VM (w:l1)(i j k a:Int)(l:List Int)(b:List bq)(c:List bS)(d:List bK)(e:List Int)(f:List bq)(g:List bS)(h:List bK):vK F (.exit 0) (Hm w i j k a l b c d e f g h)=sg F (vJ F) F.n (mZ w.2.2.2.1 (w.2.2.2.1.length:Int) 0 i j k a l b c d e f g h):=by kernel_rfl
def qJ (w:l1):=bL ib F ic f104 fc fc 2 (w,())
def ac3 (w:l1):qJ F w=(fR F0 w.2.1).bind fun a=>ck (dV F 0 w.2.2.2.2.length 32) (sh F (vK F) F.n (na w w.2.2.1 (w.2.2.1.length:Int) 0 0 0 w.1.1 w.1.2 [] [] [] [] a.1 [] [] ([]++w.2.2.2.2))):=by kernel_rfl
def vL:Any:=.one ⟨fc,fc,2,fun x=>qJ F0 x.1⟩
def Nf:bb 104 vL:=aC ib ⟨lO,aiS,afl,trivial⟩ func104 ic (by kernel_rfl)
def VN:=[(167,jA)]
def si (s:ByteArray):=bL VN F ad f168 df iY 2 (s,())
def aiT (s:ByteArray):si F s=(e9 F0 (s.size:Int)).bind fun a=>ck (okB F a.1.length s.size) (some (a.1++bytesOf s,())):=by kernel_rfl
def CC:Any:=.one ⟨df,iY,2,fun x=>si F0 x.1⟩
def SX:bb 168 CC:=aC VN ⟨p2,trivial⟩ func168 ad (by kernel_rfl)
def AK:=[(167,jA)]
def AL:Nat->Option Hint:=look [(3,{live:=[3,6,7,8],mat:=[(3,5,.int .u8)],xl:=[3],rl:=[2]})]
def sj (a:List Int)(b c:Int)(d:List Int):= dN 18 [(3,.v (.c (.own 1000000 none))),(6,jN 3 (.int .i64) a),(7,bd b),(8,bd c)] [] [aF 1000000 5 (.int .u8) d]
def Ng (a:List Int):= dN 18 [(3,.v (.c (.own 1000000 none)))] [] [aF 1000000 5 (.int .u8) a]
def AM (a:St):Option U:=ek AK F AL [.r,.r,.l,.r,.b,.i] f170 J n a
def CD:=iR AK F AL [.r,.r,.l,.r,.b] f170 iY 2
def Hn (b:List Int)(d a:Int)(c:List Int):AM F J (n+1) (sj b d a c)=br (decide (a<d)) (ck (bG a (b.length:Int)) ((e9 F0 (aL b a 0)).bind fun e=>ck (dV F c.length e.1.length 1) (AM F J n (sj b d (al (a+1)) (c++e.1))))) (J (.exit 0) (Ng c)):=by kernel_rfl
def aaw (a:List Int):CD F (.exit 0) (Ng a)=some (a,()):=by kernel_rfl
def nc (a:List Int):=bL AK F AL f170 pt iY 2 (a,())
def aiU (a:List Int):nc F a=AM F (CD F) F.n (sj a (a.length:Int) 0 []):=by kernel_rfl
def CE:Any:=.one ⟨pt,iY,2,fun x=>nc F0 x.1⟩
def SY:bb 170 CE:=aC AK ⟨p2,trivial⟩ func170 AL (by kernel_rfl)
def VO:=[(167,jA),(168,CC),(170,CE),(227,tr)]
def AN (c:D1)(q:D9):=bL VO F ad f169 LQ iY 2 (c,q,())
def aiV (c:D1)(q:D9):AN F c q=(wD F0 c q).bind fun f=>br (!f.1) (some ([],())) ((e9 F0 q.1).bind fun a=>(si F0 q.2.1).bind fun b=>ck (dV F a.1.length b.1.length 1) ((e9 F0 (q.2.2.length:Int)).bind fun d=>ck (dV F (a.1++b.1).length d.1.length 1) ((nc F0 q.2.2).bind fun e=>ck (dV F ((a.1++b.1)++d.1).length e.1.length 1) (some (((a.1++b.1)++d.1)++e.1,()))))):=by kernel_rfl
def PW:Any:=.one ⟨LQ,iY,2,fun x=>AN F0 x.1 x.2.1⟩
def aiW:bb 169 PW:=aC VO ⟨p2,SX,SY,Is,trivial⟩ func169 ad (by kernel_rfl)
def SZ:=[(149,Aj),(167,jA),(168,CC),(169,PW),(170,CE)]
def El (c:D1)(m:T2):=bL SZ F ad f105 agC iY 2 (c,m,())
def afm (c:D1)(m:T2):El F c m=(iD F0 c m).bind fun l=>br (!l.1) (some ([],())) ((e9 F0 m.1).bind fun a=>br (m.1==1) ((si F0 m.2.2.1.1).bind fun e=>ck (dV F a.1.length e.1.length 1) ((AN F0 c m.2.2.1.2).bind fun h=>ck (dV F (a.1++e.1).length h.1.length 1) (some ((a.1++e.1)++h.1,())))) (br (m.1==2) ((e9 F0 m.2.2.2.1.1).bind fun b=>ck (dV F a.1.length b.1.length 1) ((si F0 m.2.2.2.1.2.1).bind fun d=>ck (dV F (a.1++b.1).length d.1.length 1) ((e9 F0 (m.2.2.2.1.2.2.length:Int)).bind fun f=>ck (dV F ((a.1++b.1)++d.1).length f.1.length 1) ((nc F0 m.2.2.2.1.2.2).bind fun i=>ck (dV F (((a.1++b.1)++d.1)++f.1).length i.1.length 1) (some ((((a.1++b.1)++d.1)++f.1)++i.1,())))))) (br (m.1==3) ((nc F0 [m.2.1,m.2.2.2.2.2.1]).bind fun g=>ck (dV F a.1.length g.1.length 1) ((AN F0 c m.2.2.2.2.1).bind fun j=>ck (dV F (a.1++g.1).length j.1.length 1) (some ((a.1++g.1)++j.1,())))) ((nc F0 [m.2.2.2.2.2.2.1,m.2.2.2.2.2.2.2.1,m.2.2.2.2.2.2.2.2.1,m.2.2.2.2.2.2.2.2.2]).bind fun k=>ck (dV F a.1.length k.1.length 1) (some (a.1++k.1,())))))):=by kernel_rfl
def Nh:Any:=.one ⟨agC,iY,2,fun x=>El F0 x.1 x.2.1⟩
def afn:bb 105 Nh:=aC SZ ⟨N1,p2,SX,aiW,SY,trivial⟩ func105 ad (by kernel_rfl)
def Ni:=[(39,dH),(93,b9),(104,vL),(105,Nh)]
def Nj:Nat->Option Hint:=look [(5,{live:=[2,4,5,15,16,17],A9:=[(4,2,3,.int .i64),(4,3,42,ca),(4,4,95,ew),(4,5,91,cA)],xl:=[4,5],rl:=[4]})]
def ks (o:List A7)(p q w a:Int)(b:List Int)(c:List bq)(d:List bS)(e:List bK)(r s t f:Int)(u:List Int)(g:List bq)(h:List bS)(i:List bK)(j:List Int)(k:List bq)(l:List bS)(m:List bK):= dN 55 [bX 2,bX 4,bX 5,(15,jN 125 (w5) o),(16,bd p),(17,bd q)] [(2,[aq w,aq a,.ro false 3 (.int .i64) b,.ro false 42 (ca) c,.ro false 95 (ew) d,.ro false 91 (cA) e]),(4,[aq r,aq s,.own 1000000 none,.own 1000001 none,.own 1000002 none,.own 1000003 none]),(5,[aq t,aq f,.own 1000004 none,.own 1000005 none,.own 1000006 none,.own 1000007 none])] [aF 1000000 3 (.int .i64) u,aF 1000001 42 ca g,aF 1000002 95 ew h,aF 1000003 91 cA i,aF 1000004 3 (.int .i64) j,aF 1000005 42 ca k,aF 1000006 95 ew l,aF 1000007 91 cA m]
def VP (i j k a:Int)(l:List Int)(b:List bq)(c:List bS)(d:List bK)(e:List Int)(f:List bq)(g:List bS)(h:List bK):= dN 55 [bX 4,bX 5] [(4,[aq i,aq j,.own 1000000 none,.own 1000001 none,.own 1000002 none,.own 1000003 none]),(5,[aq k,aq a,.own 1000004 none,.own 1000005 none,.own 1000006 none,.own 1000007 none])] [aF 1000000 3 (.int .i64) l,aF 1000001 42 ca b,aF 1000002 95 ew c,aF 1000003 91 cA d,aF 1000004 3 (.int .i64) e,aF 1000005 42 ca f,aF 1000006 95 ew g,aF 1000007 91 cA h]
def qU (a:St):Option U:=ek Ni F Nj [.r,.r,.r,.l,.r,.b,.i] f46 J n a
def N4:=iR Ni F Nj [.r,.r,.r,.l,.r,.b] f46 fc 2
def PX (b:List A7)(l a w d:Int)(r:List Int)(s:List bq)(t:List bS)(u:List bK)(m o p e:Int)(q:List Int)(f:List bq)(g:List bS)(h:List bK)(i:List Int)(j:List bq)(c:List bS)(k:List bK):qU F J (n+1) (ks b l a w d r s t u m o p e q f g h i j c k)=br (decide (a<l)) (ck (bG a (b.length:Int)) ((El F0 (w,d) (aL b a w5.az).2).bind fun v=>br (decide ((v.1.length:Int)>0)) ((bw F0 (aL b a w5.az).1 0 (al (w-1))).bind fun x=>br x.1 (br (decide ((c.length:Int)<60)) (ck (dV F c.length [((aL b a w5.az).1,v.1)].length 32) (qU F J n (ks b l (al (a+1)) w d r s t u m o p e q f g h i j (c++[((aL b a w5.az).1,v.1)]) k))) (qU F J n (ks b l (al (a+1)) w d r s t u m o p e q f g h i j c k))) (qU F J n (ks b l (al (a+1)) w d r s t u m o p e q f g h i j c k))) (qU F J n (ks b l (al (a+1)) w d r s t u m o p e q f g h i j c k)))) (J (.exit 0) (VP m o p e q f g h i j c k)):=by kernel_rfl
def aiX (j k f a:Int)(l:List Int)(g:List bq)(h:List bS)(i:List bK)(b:List Int)(c:List bq)(d:List bS)(e:List bK):N4 F (.exit 0) (VP j k f a l g h i b c d e)=some (((f,a),b,c,d,e),()):=by kernel_rfl
def WU (w:l1)(a:D24):=bL Ni F Nj f46 agK fc 2 (w,a,())
def ar3 (w:l1)(b:D24):WU F w b=(qJ F0 w).bind fun a=>(b2 F0 w).bind fun c=>br (!c.1) (some (a.1,())) (qU F (N4 F) F.n (ks b (b.length:Int) 0 w.1.1 w.1.2 w.2.1 w.2.2.1 w.2.2.2.1 w.2.2.2.2 0 0 a.1.1.1 a.1.1.2 [] [] [] [] a.1.2.1 a.1.2.2.1 a.1.2.2.2.1 a.1.2.2.2.2)):=by kernel_rfl
def Zd:Any:=.one ⟨agK,fc,2,fun x=>WU F0 x.1 x.2.1⟩
def ar4:bb 46 Zd:=aC Ni ⟨fa,cM,Nf,afn,trivial⟩ func46 Nj (by kernel_rfl)
def PY:=[(59,pC),(65,r1),(98,av),(103,oB)]
def AO (a:List Int):=bL PY F ad f47 iY apO 0 (a,())
def ac4 (c:List Int):AO F c=(pB F0 c).bind fun d=>(r0 F0 d.1.1).bind fun a=>(af F0 a.2.1 6).bind fun b=>(kg F0 b.2.1 a.1.1.1).bind fun e=>some (a.1.1,al (b.1.1-1),e.1.1,()):=by kernel_rfl
def KS:Any:=.one ⟨iY,apO,0,fun x=>AO F0 x.1⟩
def ac5:bb 47 KS:=aC PY ⟨CW,F5,ay,Fg,trivial⟩ func47 ad (by kernel_rfl)
def Ze:=[(73,nR)]
def Nk (a:Int)(m:T2):=bL Ze F ad f106 ay7 alz 2 (a,m,())
def amd (a:Int)(m:T2):Nk F a m=br (m.1==4) (some ([],())) (br (m.1==2) (br (m.2.2.2.1.2.1.toList==aj.toList) (some ([],())) ((j7 F0 m.2.2.2.1.2.2 a).bind fun b=>br (!b.1) (some ([],())) (some ([(m.2.2.2.1.1,m.2.2.2.1.2.1,a)],())))) (br (m.1==1) (br (m.2.2.1.2.2.1.toList==aj.toList) (some ([],())) ((j7 F0 m.2.2.1.2.2.2 a).bind fun b=>br (!b.1) (some ([],())) (some ([(m.2.2.1.2.1,m.2.2.1.2.2.1,a)],())))) (br (m.2.2.2.2.1.2.1.toList==aj.toList) (some ([],())) ((j7 F0 m.2.2.2.2.1.2.2 a).bind fun b=>br (!b.1) (some ([],())) (some ([(m.2.2.2.2.1.1,m.2.2.2.2.1.2.1,a)],())))))):=by kernel_rfl
def S0:Any:=.one ⟨ay7,alz,2,fun x=>Nk F0 x.1 x.2.1⟩
def ame:bb 106 S0:=aC Ze ⟨Ao,trivial⟩ func106 ad (by kernel_rfl)
def Nl:Nat->Option Hint:=look [(2,{live:=[0,3,7,8],rl:=[4]})]
def Em (s:List bK)(c d v:Int)(a:ByteArray)(b:Int):= dN 19 [(0,jN 91 (cA) s),bX 3,(7,bd c),(8,bd d)] [(3,[aq v,.str a,aq b])] []
def Zf (a:Int):= bD 19 [(4,bd a)]
def VQ   := bD 19 []
def Nn (a:St):Option U:=ek ax F Nl [.r,.l,.r,.b,.i] f171 J n a
def En:=iR ax F Nl [.r,.l,.r,.b] f171 dq 1
def PZ (s:List bK)(d a v:Int)(b:ByteArray)(c:Int):Nn F J (n+1) (Em s d a v b c)=br (decide (a<d)) (ck (bG a (s.length:Int)) (br ((v==(aL s a cA.az).1)&&((b.toList==(aL s a cA.az).2.1.toList)&&((c==(aL s a cA.az).2.2)&&true))) (J .ret (Zf a)) (Nn F J n (Em s d (al (a+1)) v b c)))) (J (.exit 0) (VQ)):=by kernel_rfl
def amf (a:Int):En F .ret (Zf a)=some (a,()):=by kernel_rfl
def aiY: En F (.exit 0) (VQ)=some (-1,()):=by kernel_rfl
abbrev ay8:List (Ty×Bool):=[(K39,false),(cA,true)]
def WV (s:D39)(v:bK):=bL ax F Nl f171 ay8 dq 1 (s,v,())
def ar5 (s:D39)(v:bK):WV F s v=Nn F (En F) F.n (Em s (s.length:Int) 0 v.1 v.2.1 v.2.2):=by kernel_rfl
def Zg:Any:=.one ⟨ay8,dq,1,fun x=>WV F0 x.1 x.2.1⟩
def ar6:bb 171 Zg:=aC ax trivial func171 Nl (by kernel_rfl)
def pg:=[(171,Zg)]
def fh (s:D39)(v:bK):=bL pg F ad f107 ay8 aM 1 (s,v,())
def Gk (s:D39)(v:bK):fh F s v=(WV F0 s v).bind fun a=>some (decide (a.1>=0),()):=by kernel_rfl
def me:Any:=.one ⟨ay8,aM,1,fun x=>fh F0 x.1 x.2.1⟩
def Gl:bb 107 me:=aC pg ⟨ar6,trivial⟩ func107 ad (by kernel_rfl)
def nd:=[(54,gQ),(73,nR),(104,vL),(106,S0),(107,me)]
def ng:Nat->Option Hint:=look [(5,{live:=[1,6,7,20,21,22],A9:=[(6,2,3,.int .i64),(6,3,42,ca),(6,4,95,ew),(6,5,91,cA)],xl:=[6,7],rl:=[6]}),(8,{live:=[1,6,7,20,21,22,29,30,31],xl:=[1,6,7,20,21,22],rl:=[6]})]
def lR (j:Int)(k:List A7)(l m o p q r s a:Int)(t:List bK)(b:List Int)(c:List bq)(d:List bS)(e:List bK)(f:List Int)(g:List bq)(h:List bS)(i:List bK):= dN 55 [(1,bd j),bX 6,bX 7,(20,jN 125 (w5) k),(21,bd l),(22,bd m),(29,.v (.c (.own 1000000 none))),(30,bd o),(31,bd p)] [(6,[aq q,aq r,.own 1000001 none,.own 1000002 none,.own 1000003 none,.own 1000004 none]),(7,[aq s,aq a,.own 1000005 none,.own 1000006 none,.own 1000007 none,.own 1000008 none])] [aF 1000000 91 cA t,aF 1000001 3 (.int .i64) b,aF 1000002 42 ca c,aF 1000003 95 ew d,aF 1000004 91 cA e,aF 1000005 3 (.int .i64) f,aF 1000006 42 ca g,aF 1000007 95 ew h,aF 1000008 91 cA i]
def S1 (i:Int)(j:List A7)(k l m o p a:Int)(q:List Int)(b:List bq)(c:List bS)(d:List bK)(e:List Int)(f:List bq)(g:List bS)(h:List bK):= dN 55 [(1,bd i),bX 6,bX 7,(20,jN 125 (w5) j),(21,bd k),(22,bd l)] [(6,[aq m,aq o,.own 1000000 none,.own 1000001 none,.own 1000002 none,.own 1000003 none]),(7,[aq p,aq a,.own 1000004 none,.own 1000005 none,.own 1000006 none,.own 1000007 none])] [aF 1000000 3 (.int .i64) q,aF 1000001 42 ca b,aF 1000002 95 ew c,aF 1000003 91 cA d,aF 1000004 3 (.int .i64) e,aF 1000005 42 ca f,aF 1000006 95 ew g,aF 1000007 91 cA h]
def sk (a:St):Option U:=ek nd F ng [.r,.r,.r,.l,.r,.b,.i,.r,.r,.l,.b,.r,.r,.b,.i] f48 J n a
def KT:Ex->St->Option U:=S8 Tryz.prog (look nd) F ng [.r,.r,.l,.b,.r,.r,.b] (sub [.r,.r,.r,.l,.r,.b,.i] (dE f48)) (itk Tryz.prog (look nd) F ng (sub [.r,.r,.r,.l,.r,.b,.i] (dE f48)) J n)
def AP (i:Int)(j:List A7)(k l m o p a:Int)(q:List Int)(b:List bq)(c:List bS)(d:List bK)(e:List Int)(f:List bq)(g:List bS)(h:List bK):= dN 55 [(1,bd i),bX 6,bX 7,(20,jN 125 (w5) j),(21,bd k),(22,bd l)] [(6,[aq m,aq o,.own 1000000 none,.own 1000001 none,.own 1000002 none,.own 1000003 none]),(7,[aq p,aq a,.own 1000004 none,.own 1000005 none,.own 1000006 none,.own 1000007 none])] [aF 1000000 3 (.int .i64) q,aF 1000001 42 ca b,aF 1000002 95 ew c,aF 1000003 91 cA d,aF 1000004 3 (.int .i64) e,aF 1000005 42 ca f,aF 1000006 95 ew g,aF 1000007 91 cA h]
def S2 (i j k a:Int)(l:List Int)(b:List bq)(c:List bS)(d:List bK)(e:List Int)(f:List bq)(g:List bS)(h:List bK):= dN 55 [bX 6,bX 7] [(6,[aq i,aq j,.own 1000000 none,.own 1000001 none,.own 1000002 none,.own 1000003 none]),(7,[aq k,aq a,.own 1000004 none,.own 1000005 none,.own 1000006 none,.own 1000007 none])] [aF 1000000 3 (.int .i64) l,aF 1000001 42 ca b,aF 1000002 95 ew c,aF 1000003 91 cA d,aF 1000004 3 (.int .i64) e,aF 1000005 42 ca f,aF 1000006 95 ew g,aF 1000007 91 cA h]
def IH (a:St):Option U:=ek nd F ng [.r,.r,.r,.l,.r,.b,.i] f48 J n a
def AQ:=iR nd F ng [.r,.r,.r,.l,.r,.b] f48 fc 2
def No (l:Int)(m:List A7)(o p q a r s t d:Int)(c:List bK)(e:List Int)(f:List bq)(g:List bS)(h:List bK)(i:List Int)(j:List bq)(k:List bS)(b:List bK):sk F J (n+1) (lR l m o p q a r s t d c e f g h i j k b)=br (decide (a<q)) (ck (bG a (c.length:Int)) ((fh F0 b (aL c a cA.az)).bind fun u=>br (!u.1) (br (decide ((b.length:Int)<300)) (ck (dV F b.length [(aL c a cA.az)].length 32) (sk F J n (lR l m o p q (al (a+1)) r s t d c e f g h i j k (b++[(aL c a cA.az)])))) (sk F J n (lR l m o p q (al (a+1)) r s t d c e f g h i j k b))) (sk F J n (lR l m o p q (al (a+1)) r s t d c e f g h i j k b)))) (J (.exit 2) (S1 l m o p r s t d e f g h i j k b)):=by kernel_rfl
def Np (k:Int)(b:List A7)(l a m o p c:Int)(q:List Int)(d:List bq)(e:List bS)(f:List bK)(g:List Int)(h:List bq)(i:List bS)(j:List bK):IH F J (n+1) (AP k b l a m o p c q d e f g h i j)=br (decide (a<l)) (ck (bG a (b.length:Int)) ((Nk F0 k (aL b a w5.az).2).bind fun r=>sk F (KT F J n) F.n (lR k b l a (r.1.length:Int) 0 m o p c r.1 q d e f g h i j))) (J (.exit 0) (S2 m o p c q d e f g h i j)):=by kernel_rfl
def afo (i:Int)(j:List A7)(k l m o p a:Int)(q:List Int)(b:List bq)(c:List bS)(d:List bK)(e:List Int)(f:List bq)(g:List bS)(h:List bK):KT F J n (.exit 2) (S1 i j k l m o p a q b c d e f g h)=IH F J n (AP i j k (al (l+1)) m o p a q b c d e f g h):=by kernel_rfl
def afp (j k f a:Int)(l:List Int)(g:List bq)(h:List bS)(i:List bK)(b:List Int)(c:List bq)(d:List bS)(e:List bK):AQ F (.exit 0) (S2 j k f a l g h i b c d e)=some (((f,a),b,c,d,e),()):=by kernel_rfl
def QP (w:l1)(a:Int)(b:D24):=bL nd F ng f48 apO fc 2 (w,a,b,())
def aoB (w:l1)(b:Int)(c:D24):QP F w b c=(qJ F0 w).bind fun a=>(gm F0 w).bind fun d=>(j7 F0 d.1 b).bind fun e=>br (!e.1) (some (a.1,())) (IH F (AQ F) F.n (AP b c (c.length:Int) 0 0 0 a.1.1.1 a.1.1.2 [] [] [] [] a.1.2.1 a.1.2.2.1 a.1.2.2.2.1 a.1.2.2.2.2)):=by kernel_rfl
def VR:Any:=.one ⟨apO,fc,2,fun x=>QP F0 x.1 x.2.1 x.2.2.1⟩
def aoC:bb 48 VR:=aC nd ⟨lN,Ao,Nf,ame,Gl,trivial⟩ func48 ng (by kernel_rfl)
def Nq:=[(59,pC),(65,r1)]
def vg (a:List Int):=bL Nq F ad f49 iY fc 0 (a,())
def aax (a:List Int):vg F a=(pB F0 a).bind fun b=>(r0 F0 b.1.1).bind fun c=>some (c.1.1,()):=by kernel_rfl
def Ho:Any:=.one ⟨iY,fc,0,fun x=>vg F0 x.1⟩
def aay:bb 49 Ho:=aC Nq ⟨CW,F5,trivial⟩ func49 ad (by kernel_rfl)
def agT:=[(56,rA),(109,Cp),(110,rQ)]
def WW (w:l1)(a:D24):=bL agT F ad f51 agK fc 2 (w,a,())
def ar7 (w:l1)(b:D24):WW F w b=(y0 F0 w).bind fun a=>(hA F0 w).bind fun c=>br (!c.1) (some (a.1,())) ((mw F0 a.1 b).bind fun d=>some (d.1.1,())):=by kernel_rfl
def Zh:Any:=.one ⟨agK,fc,2,fun x=>WW F0 x.1 x.2.1⟩
def ar8:bb 51 Zh:=aC agT ⟨FQ,Sp,F1,trivial⟩ func51 ad (by kernel_rfl)
def vh:Nat->Option Hint:=look [(4,{live:=[0,1,5],rl:=[4]})]
def ph (a b:List Int)(i:Int):= bD 26 [(0,jN 3 (.int .i64) a),(1,jN 3 (.int .i64) b),(5,bd i)]
def ac6 (a:Bool):= bD 26 [(4,ED a)]
def KU   := bD 26 []
def vi (a:St):Option U:=ek ax F vh [.r,.r,.l,.r,.b,.i] f53 J n a
def AR:=iR ax F vh [.r,.r,.l,.r,.b] f53 aM 1
def Fh (a b:List Int)(i:Int):vi F J (n+1) (ph a b i)=br (decide (i<(a.length:Int))) (ck (bG i (a.length:Int)) (ck (bG i (b.length:Int)) (br ((aL a i 0) != (aL b i 0)) (J .ret (ac6 false)) (vi F J n (ph a b (al (i+1))))))) (J (.exit 0) (KU)):=by kernel_rfl
def XL: AR F (.exit 0) (KU)=some (true,()):=by kernel_rfl
def og (a b:List Int):=bL ax F vh f53 an5 aM 1 (a,b,())
def afq (a b:List Int):og F a b=br ((a.length:Int) != (b.length:Int)) (some (false,())) (vi F (AR F) F.n (ph a b 0)):=by kernel_rfl
def pj:Any:=.one ⟨an5,aM,1,fun x=>og F0 x.1 x.2.1⟩
def CF:bb 53 pj:=aC ax trivial func53 vh (by kernel_rfl)
def AS:Nat->Option Hint:=look [(4,{live:=[0,1,5],rl:=[4]})]
def sn (a b:List D4)(i:Int):= bD 26 [(0,jN 99 (K4) a),(1,jN 99 (K4) b),(5,bd i)]
def afr (a:Bool):= bD 26 [(4,ED a)]
def Nr   := bD 26 []
def AT (a:St):Option U:=ek ax F AS [.r,.r,.l,.r,.b,.i] f172 J n a
def CG:=iR ax F AS [.r,.r,.l,.r,.b] f172 aM 1
def Hp (a b:List D4)(i:Int):AT F J (n+1) (sn a b i)=br (decide (i<(a.length:Int))) (ck (bG i (a.length:Int)) (ck (bG i (b.length:Int)) (br (!(((aL a i K4.az).1==(aL b i K4.az).1)&&(((aL a i K4.az).2.1==(aL b i K4.az).2.1)&&(((aL a i K4.az).2.2.1==(aL b i K4.az).2.2.1)&&(((aL a i K4.az).2.2.2==(aL b i K4.az).2.2.2)&&true))))) (J .ret (afr false)) (AT F J n (sn a b (al (i+1))))))) (J (.exit 0) (Nr)):=by kernel_rfl
def aaz: CG F (.exit 0) (Nr)=some (true,()):=by kernel_rfl
def II (a b:D5):=bL ax F AS f172 [(K5,false),(K5,false)] aM 1 (a,b,())
def aiZ (a b:D5):II F a b=br ((a.length:Int) != (b.length:Int)) (some (false,())) (AT F (CG F) F.n (sn a b 0)):=by kernel_rfl
def P0:Any:=.one ⟨[(K5,false),(K5,false)],aM,1,fun x=>II F0 x.1 x.2.1⟩
def ai0:bb 172 P0:=aC ax trivial func172 AS (by kernel_rfl)
def S3:=[(53,pj)]
def Eo (a b:D9):=bL S3 F ad f244 Bh aM 1 (a,b,())
def afs (a b:D9):Eo F a b=br (a.1==b.1) (br (a.2.1.toList==b.2.1.toList) ((og F0 a.2.2 b.2.2).bind fun c=>some (c.1,())) (some (false,()))) (some (false,())):=by kernel_rfl
def Ns:Any:=.one ⟨Bh,aM,1,fun x=>Eo F0 x.1 x.2.1⟩
def aft:bb 244 Ns:=aC S3 ⟨CF,trivial⟩ func244 ad (by kernel_rfl)
def so:=[(244,Ns)]
def sq:Nat->Option Hint:=look [(4,{live:=[0,1,5],rl:=[4]})]
def nh (a b:List D9)(i:Int):= bD 27 [(0,jN 29 (K9) a),(1,jN 29 (K9) b),(5,bd i)]
def aaA (a:Bool):= bD 27 [(4,ED a)]
def Hq   := bD 27 []
def sr (a:St):Option U:=ek so F sq [.r,.r,.l,.r,.b,.i] f173 J n a
def vM:=iR so F sq [.r,.r,.l,.r,.b] f173 aM 1
def BG (a b:List D9)(i:Int):sr F J (n+1) (nh a b i)=br (decide (i<(a.length:Int))) (ck (bG i (a.length:Int)) (ck (bG i (b.length:Int)) ((Eo F0 (aL a i K9.az) (aL b i K9.az)).bind fun c=>br (!c.1) (J .ret (aaA false)) (sr F J n (nh a b (al (i+1))))))) (J (.exit 0) (Hq)):=by kernel_rfl
def VS: vM F (.exit 0) (Hq)=some (true,()):=by kernel_rfl
def AU (a b:D14):=bL so F sq f173 [(K14,false),(K14,false)] aM 1 (a,b,())
def ac7 (a b:D14):AU F a b=br ((a.length:Int) != (b.length:Int)) (some (false,())) (sr F (vM F) F.n (nh a b 0)):=by kernel_rfl
def KV:Any:=.one ⟨[(K14,false),(K14,false)],aM,1,fun x=>AU F0 x.1 x.2.1⟩
def ac8:bb 173 KV:=aC so ⟨aft,trivial⟩ func173 sq (by kernel_rfl)
def Ep (a b:D15):=bL ax F ad f174 [(K15,true),(K15,true)] aM 1 (a,b,())
def afu (a b:D15):Ep F a b=br ((strOf a.1).toList==(strOf b.1).toList) (some (a.2==b.2,())) (some (false,())):=by kernel_rfl
def Nt:Any:=.one ⟨[(K15,true),(K15,true)],aM,1,fun x=>Ep F0 x.1 x.2.1⟩
def afv:bb 174 Nt:=aC ax trivial func174 ad (by kernel_rfl)
def AW:=[(159,yz),(172,P0),(173,KV),(174,Nt),(175,B7)]
def AX:Nat->Option Hint:=look [(4,{live:=[2,3,5],rl:=[4]})]
def sv (i a c d e f g:Int)(h:ByteArray)(j:List Int)(k:ByteArray)(l:List D4)(m:List D9)(o:List Int)(D:Int)(p:List A7)(b q r s t u:Int)(v:ByteArray)(w:List Int)(x:ByteArray)(y:List D4)(z:List D9)(A:List Int)(B:Int)(C:List A7):= dN 102 [bX 2,bX 3,(5,bd i)] [(2,[aq a,aq c,aq d,aq e,aq f,aq g,.str h,.ro false 3 (.int .i64) j,.str k,.ro false 99 (K4) l,.ro false 29 (K9) m,.ro false 5 (.int .u8) o,aq D,.ro false 125 (w5) p]),(3,[aq b,aq q,aq r,aq s,aq t,aq u,.str v,.ro false 3 (.int .i64) w,.str x,.ro false 99 (K4) y,.ro false 29 (K9) z,.ro false 5 (.int .u8) A,aq B,.ro false 125 (w5) C])] []
def P1 (a:Bool):= bD 102 [(4,ED a)]
def Nu   := bD 102 []
def AY (a:St):Option U:=ek AW F AX [.r,.r,.l,.r,.b,.i] f108 J n a
def CH:=iR AW F AX [.r,.r,.l,.r,.b] f108 aM 1
def Hr (i a e f g h j:Int)(k:ByteArray)(l:List Int)(m:ByteArray)(o:List D4)(p:List D9)(q:List Int)(D:Int)(c:List A7)(b r s t u v:Int)(w:ByteArray)(x:List Int)(y:ByteArray)(z:List D4)(A:List D9)(B:List Int)(C:Int)(d:List A7):AY F J (n+1) (sv i a e f g h j k l m o p q D c b r s t u v w x y z A B C d)=br (decide (i<(c.length:Int))) (ck (bG i (c.length:Int)) (ck (bG i (d.length:Int)) (br ((aL c i w5.az).1 != (aL d i w5.az).1) (J .ret (P1 false)) (ck (bG i (c.length:Int)) (ck (bG i (d.length:Int)) ((hz F0 (aL c i w5.az).2 (aL d i w5.az).2).bind fun E=>br (!E.1) (J .ret (P1 false)) (AY F J n (sv (al (i+1)) a e f g h j k l m o p q D c b r s t u v w x y z A B C d)))))))) (J (.exit 0) (Nu)):=by kernel_rfl
def aaB: CH F (.exit 0) (Nu)=some (true,()):=by kernel_rfl
def IJ (a b:bq):=bL AW F AX f108 [(ca,true),(ca,true)] aM 1 (a,b,())
def ai1 (a b:bq):IJ F a b=br (a.1 != b.1) (some (false,())) (br (a.2.1 != b.2.1) (some (false,())) (br (a.2.2.1 != b.2.2.1) (some (false,())) ((th F0 a.2.2.2.1 b.2.2.2.1).bind fun c=>br (!c.1) (some (false,())) ((II F0 a.2.2.2.2.1 b.2.2.2.2.1).bind fun d=>br (!d.1) (some (false,())) ((AU F0 a.2.2.2.2.2.1 b.2.2.2.2.2.1).bind fun e=>br (!e.1) (some (false,())) ((Ep F0 a.2.2.2.2.2.2.1 b.2.2.2.2.2.2.1).bind fun f=>br (!f.1) (some (false,())) (br ((a.2.2.2.2.2.2.2.length:Int) != (b.2.2.2.2.2.2.2.length:Int)) (some (false,())) (AY F (CH F) F.n (sv 0 a.1 a.2.1 a.2.2.1 a.2.2.2.1.1 a.2.2.2.1.2.1 a.2.2.2.1.2.2.1.1 a.2.2.2.1.2.2.1.2.1 a.2.2.2.1.2.2.1.2.2 a.2.2.2.1.2.2.2 a.2.2.2.2.1 a.2.2.2.2.2.1 a.2.2.2.2.2.2.1.1 a.2.2.2.2.2.2.1.2 a.2.2.2.2.2.2.2 b.1 b.2.1 b.2.2.1 b.2.2.2.1.1 b.2.2.2.1.2.1 b.2.2.2.1.2.2.1.1 b.2.2.2.1.2.2.1.2.1 b.2.2.2.1.2.2.1.2.2 b.2.2.2.1.2.2.2 b.2.2.2.2.1 b.2.2.2.2.2.1 b.2.2.2.2.2.2.1.1 b.2.2.2.2.2.2.1.2 b.2.2.2.2.2.2.2))))))))):=by kernel_rfl
def P2:Any:=.one ⟨[(ca,true),(ca,true)],aM,1,fun x=>IJ F0 x.1 x.2.1⟩
def ai2:bb 108 P2:=aC AW ⟨OY,ai0,ac8,afv,RP,trivial⟩ func108 AX (by kernel_rfl)
end
end Go.Am.Tryz
namespace Go.Am.Tryz
open Go.Am Go.Proofs Go.Proofs.Tryz
noncomputable section
variable {U:Type} (F:nY) (J:Ex->St->Option U) (n:Nat)
def eC:=[(53,pj),(108,P2)]
def eD:Nat->Option Hint:=look [(4,{live:=[2,3,5],xl:=[2,3],rl:=[4]}),(9,{live:=[2,3,6],xl:=[2,3],rl:=[4]}),(14,{live:=[2,3,7],rl:=[4]})]
def iK (i a c:Int)(d:List Int)(e:List bq)(f:List bS)(g:List bK)(b h:Int)(j:List Int)(k:List bq)(l:List bS)(m:List bK):= dN 122 [bX 2,bX 3,(7,bd i)] [(2,[aq a,aq c,.ro false 3 (.int .i64) d,.ro false 42 (ca) e,.ro false 95 (ew) f,.ro false 91 (cA) g]),(3,[aq b,aq h,.ro false 3 (.int .i64) j,.ro false 42 (ca) k,.ro false 95 (ew) l,.ro false 91 (cA) m])] []
def aaC (a:Bool):= bD 122 [(4,ED a)]
def Hs   := bD 122 []
def lS (a:St):Option U:=ek eC F eD [.r,.r,.r,.r,.l,.r,.b,.i] f50 J n a
def ni:=iR eC F eD [.r,.r,.r,.r,.l,.r,.b] f50 aM 1
def iL (i a c:Int)(d:List Int)(e:List bq)(f:List bS)(g:List bK)(b h:Int)(j:List Int)(k:List bq)(l:List bS)(m:List bK):= dN 122 [bX 2,bX 3,(6,bd i)] [(2,[aq a,aq c,.ro false 3 (.int .i64) d,.ro false 42 (ca) e,.ro false 95 (ew) f,.ro false 91 (cA) g]),(3,[aq b,aq h,.ro false 3 (.int .i64) j,.ro false 42 (ca) k,.ro false 95 (ew) l,.ro false 91 (cA) m])] []
def KW (a:Bool):= bD 122 [(4,ED a)]
def Ht (a c:Int)(d:List Int)(e:List bq)(f:List bS)(g:List bK)(b h:Int)(i:List Int)(j:List bq)(k:List bS)(l:List bK):= dN 122 [bX 2,bX 3] [(2,[aq a,aq c,.ro false 3 (.int .i64) d,.ro false 42 (ca) e,.ro false 95 (ew) f,.ro false 91 (cA) g]),(3,[aq b,aq h,.ro false 3 (.int .i64) i,.ro false 42 (ca) j,.ro false 95 (ew) k,.ro false 91 (cA) l])] []
def lT (a:St):Option U:=ek eC F eD [.r,.r,.r,.l,.r,.b,.i] f50 J n a
def nj:=iR eC F eD [.r,.r,.r,.l,.r,.b] f50 aM 1
def nk (i a c:Int)(d:List Int)(e:List bq)(f:List bS)(g:List bK)(b h:Int)(j:List Int)(k:List bq)(l:List bS)(m:List bK):= dN 122 [bX 2,bX 3,(5,bd i)] [(2,[aq a,aq c,.ro false 3 (.int .i64) d,.ro false 42 (ca) e,.ro false 95 (ew) f,.ro false 91 (cA) g]),(3,[aq b,aq h,.ro false 3 (.int .i64) j,.ro false 42 (ca) k,.ro false 95 (ew) l,.ro false 91 (cA) m])] []
def aaD (a:Bool):= bD 122 [(4,ED a)]
def Hu (a c:Int)(d:List Int)(e:List bq)(f:List bS)(g:List bK)(b h:Int)(i:List Int)(j:List bq)(k:List bS)(l:List bK):= dN 122 [bX 2,bX 3] [(2,[aq a,aq c,.ro false 3 (.int .i64) d,.ro false 42 (ca) e,.ro false 95 (ew) f,.ro false 91 (cA) g]),(3,[aq b,aq h,.ro false 3 (.int .i64) i,.ro false 42 (ca) j,.ro false 95 (ew) k,.ro false 91 (cA) l])] []
def sw (a:St):Option U:=ek eC F eD [.r,.r,.l,.r,.b,.i] f50 J n a
def vN:=iR eC F eD [.r,.r,.l,.r,.b] f50 aM 1
def BH (i a e:Int)(f:List Int)(g:List bq)(h:List bS)(c:List bK)(b j:Int)(k:List Int)(l:List bq)(m:List bS)(d:List bK):lS F J (n+1) (iK i a e f g h c b j k l m d)=br (decide (i<(c.length:Int))) (ck (bG i (c.length:Int)) (ck (bG i (d.length:Int)) (br (!(((aL c i cA.az).1==(aL d i cA.az).1)&&(((aL c i cA.az).2.1.toList==(aL d i cA.az).2.1.toList)&&(((aL c i cA.az).2.2==(aL d i cA.az).2.2)&&true)))) (J .ret (aaC false)) (lS F J n (iK (al (i+1)) a e f g h c b j k l m d))))) (J (.exit 4) (Hs)):=by kernel_rfl
def BI (i a e:Int)(f:List Int)(g:List bq)(c:List bS)(h:List bK)(b j:Int)(k:List Int)(l:List bq)(d:List bS)(m:List bK):lT F J (n+1) (iL i a e f g c h b j k l d m)=br (decide (i<(c.length:Int))) (ck (bG i (c.length:Int)) (ck (bG i (d.length:Int)) (br ((aL c i (0,[])).1 != (aL d i (0,[])).1) (J .ret (KW false)) (ck (bG i (c.length:Int)) (ck (bG i (d.length:Int)) (br (!((strOf (aL c i (0,[])).2).toList==(strOf (aL d i (0,[])).2).toList)) (J .ret (KW false)) (lT F J n (iL (al (i+1)) a e f g c h b j k l d m)))))))) (J (.exit 2) (Ht a e f g c h b j k l d m)):=by kernel_rfl
def BJ (i a e:Int)(f:List Int)(c:List bq)(g:List bS)(h:List bK)(b j:Int)(k:List Int)(d:List bq)(l:List bS)(m:List bK):sw F J (n+1) (nk i a e f c g h b j k d l m)=br (decide (i<(c.length:Int))) (ck (bG i (c.length:Int)) (ck (bG i (d.length:Int)) ((IJ F0 (aL c i ca.az) (aL d i ca.az)).bind fun o=>br (!o.1) (J .ret (aaD false)) (sw F J n (nk (al (i+1)) a e f c g h b j k d l m))))) (J (.exit 0) (Hu a e f c g h b j k d l m)):=by kernel_rfl
def VT: ni F (.exit 4) (Hs)=some (true,()):=by kernel_rfl
def VU (a c:Int)(d:List Int)(e:List bq)(f:List bS)(g:List bK)(b h:Int)(i:List Int)(j:List bq)(k:List bS)(l:List bK):nj F (.exit 2) (Ht a c d e f g b h i j k l)=lS F (ni F) F.n (iK 0 a c d e f g b h i j k l):=by kernel_rfl
def VV (a c:Int)(d:List Int)(e:List bq)(f:List bS)(g:List bK)(b h:Int)(i:List Int)(j:List bq)(k:List bS)(l:List bK):vN F (.exit 0) (Hu a c d e f g b h i j k l)=lT F (nj F) F.n (iL 0 a c d e f g b h i j k l):=by kernel_rfl
def qV (a b:l1):=bL eC F eD f50 [(gq,true),(gq,true)] aM 1 (a,b,())
def ac9 (a b:l1):qV F a b=br (!((a.1.1==b.1.1)&&((a.1.2==b.1.2)&&true))) (some (false,())) ((og F0 a.2.1 b.2.1).bind fun c=>br (!c.1) (some (false,())) (br ((a.2.2.1.length:Int) != (b.2.2.1.length:Int)) (some (false,())) (br ((a.2.2.2.1.length:Int) != (b.2.2.2.1.length:Int)) (some (false,())) (br ((a.2.2.2.2.length:Int) != (b.2.2.2.2.length:Int)) (some (false,())) (sw F (vN F) F.n (nk 0 a.1.1 a.1.2 a.2.1 a.2.2.1 a.2.2.2.1 a.2.2.2.2 b.1.1 b.1.2 b.2.1 b.2.2.1 b.2.2.2.1 b.2.2.2.2)))))):=by kernel_rfl
def KX:Any:=.one ⟨[(gq,true),(gq,true)],aM,1,fun x=>qV F0 x.1 x.2.1⟩
def ada:bb 50 KX:=aC eC ⟨CF,ai2,trivial⟩ func50 eD (by kernel_rfl)
def S4:=[(6,abI),(38,M7),(39,dH),(42,BB),(43,M9),(44,ym),(45,Na),(46,Zd),(47,KS),(48,VR),(49,Ho),(50,KX),(51,Zh),(52,Ke),(53,pj),(54,gQ),(55,uP),(56,rA),(57,Ga)]
def Er (a:List Int):=bL S4 F ad f5 iY aM 1 (a,())
def afw (c:List Int):Er F c=(akq F0 c).bind fun k=>br k.1 (some (true,())) ((pe F0 c).bind fun d=>(Eg F0 d.1 d.2.1).bind fun e=>(ko F0 d.1 d.2.1).bind fun l=>(Eh F0 c).bind fun b=>(WU F0 b.1 b.2.1).bind fun g=>(AO F0 c).bind fun a=>(QP F0 a.1 a.2.1 a.2.2.1).bind fun f=>(vg F0 c).bind fun j=>br (!(e.2.1==l.2.1)) (some (false,())) ((WW F0 b.1 b.2.1).bind fun m=>(qV F0 g.1 m.1).bind fun o=>br (!o.1) (some (false,())) ((vA F0 a.1 a.2.1 a.2.2.1).bind fun p=>(qV F0 f.1 p.1).bind fun q=>br (!q.1) (some (false,())) ((gm F0 j.1).bind fun r=>(wv F0 j.1).bind fun s=>(og F0 r.1 s.1).bind fun t=>br (!t.1) (some (false,())) ((b2 F0 b.1).bind fun u=>(hA F0 b.1).bind fun v=>br (!(u.1==v.1)) (some (false,())) (br e.2.1 ((b2 F0 e.1).bind fun w=>br (!w.1) (some (false,())) ((Ef F0 e.1).bind fun x=>br (!x.1) (some (false,())) ((gm F0 e.1).bind fun y=>(E2 F0 d.1).bind fun z=>br (decide ((y.1.length:Int)<z.1)) (some (false,())) ((b2 F0 b.1).bind fun h=>br (!h.1) (some (decide ((f.1.2.2.2.2.length:Int)>=(a.1.2.2.2.2.length:Int)),())) ((b2 F0 g.1).bind fun i=>br i.1 (some (decide ((f.1.2.2.2.2.length:Int)>=(a.1.2.2.2.2.length:Int)),())) (some (false,()))))))) ((b2 F0 b.1).bind fun h=>br (!h.1) (some (decide ((f.1.2.2.2.2.length:Int)>=(a.1.2.2.2.2.length:Int)),())) ((b2 F0 g.1).bind fun i=>br i.1 (some (decide ((f.1.2.2.2.2.length:Int)>=(a.1.2.2.2.2.length:Int)),())) (some (false,())))))))))):=by kernel_rfl
def adb:Any:=.one ⟨iY,aM,1,fun x=>Er F0 x.1⟩
def afx:bb 5 adb:=aC S4 ⟨atT,afa,fa,VF,afc,ON,afe,ar4,ac5,aoC,aay,ada,ar8,YJ,CF,lN,Kd,FQ,Vb,trivial⟩ func5 ad (by kernel_rfl)
end
end Go.Am.Tryz
