/- No condition. -/
import Derived.Test.YtpkabclplaibaaaGreatDoorQjYJG5
set_option linter.all false
set_option maxRecDepth 100000
namespace Go.Am.Tryz
open Go.Am Go.Proofs Go.Proofs.Tryz
noncomputable section
variable {U:Type} (F:nP) (J:Ex->St->Option U) (n:Nat)
def G1:Nat->Option Hint:=look [(2,{live:=[0,1,7,8,9],rl:=[4]})]
def ph (a:Int)(s b:List Int)(c d:Int):= bk 35 [(0,a7 a),(1,mU 3 (.int .i64) s),(7,mU 3 (.int .i64) b),(8,a7 c),(9,a7 d)]
def yi (a:Bool):= bk 35 [(4,vE a)]
def QA   := bk 35 []
def yj (a:St):Option U:=eo ax F G1 [.r,.l,.r,.b,.i] f90 J n a
def yk:=jx ax F G1 [.r,.l,.r,.b] f90 aI 1
def KZ (c:Int)(s b:List Int)(d a:Int):yj F J (n+1) (ph c s b d a)=br (decide (a<d)) (ck (bh a (b.length:Int)) (br (decide ((aJ b a 0)<0)) (J .ret (yi false)) (br (decide ((aJ b a 0)>=c)) (J .ret (yi false)) (br (decide (a>0)) (ck (bh (ak (a-1)) (s.length:Int)) (br (decide ((aJ s (ak (a-1)) 0)>=(aJ b a 0))) (J .ret (yi false)) (yj F J n (ph c s b d (ak (a+1)))))) (yj F J n (ph c s b d (ak (a+1)))))))) (J (.exit 0) (QA)):=by kernel_rfl
def afP (a:Bool):yk F .ret (yi a)=some (a,()):=by kernel_rfl
def acr: yk F (.exit 0) (QA)=some (true,()):=by kernel_rfl
def uE (a:Int)(s:List Int):=bM ax F G1 f90 avl aI 1 (a,s,())
def alo (a:Int)(s:List Int):uE F a s=yj F (yk F) F.n (ph a s s (s.length:Int) 0):=by kernel_rfl
def yl:Any:=.one ⟨avl,aI,1,fun x=>uE F0 x.1 x.2.1⟩
def Mf:a8 90 yl:=aG ax trivial func90 G1 (by kernel_rfl)
def WL:=[(89,e2)]
def Dy (c:D1):=bM WL F ab f91 EZ c8 1 (c,())
def aiY (c:D1):Dy F c=(hR F0 c).bind fun a=>br (!a.1) (some (0,())) (some (ak (Int.tdiv (ak (c.1-1)) 3),())):=by kernel_rfl
def EJ:Any:=.one ⟨EZ,c8,1,fun x=>Dy F0 x.1⟩
def S5:a8 91 EJ:=aG WL ⟨il,trivial⟩ func91 ab (by kernel_rfl)
def OK: Option (Args gS):=bM ax F ab f284 [] gS 2 (())
def afQ: OK F= some ((0,ai,[]),()):=by kernel_rfl
def ND:Any:=.one ⟨[],gS,2,fun x=>OK F0⟩
def afR:a8 284 ND:=aG ax trivial func284 ab (by kernel_rfl)
def hz:Nat->Option Hint:=look [(4,{live:=[0,1,12,13],rl:=[4]})]
def fG (a b:List Int)(c d:Int):= bk 26 [(0,mU 3 (.int .i64) a),(1,mU 3 (.int .i64) b),(12,a7 c),(13,a7 d)]
def sv (a:Bool):= bk 26 [(4,vE a)]
def rL   := bk 26 []
def hA (a:St):Option U:=eo ax F hz [.r,.r,.l,.r,.b,.i] f286 J n a
def fH:=jx ax F hz [.r,.r,.l,.r,.b] f286 aI 1
def oD (b c:List Int)(d a:Int):hA F J (n+1) (fG b c d a)=br (decide (a<d)) (ck (bh a (b.length:Int)) (ck (bh a (c.length:Int)) (br ((aJ b a 0) != (aJ c a 0)) (J .ret (sv false)) (hA F J n (fG b c d (ak (a+1))))))) (J (.exit 0) (rL)):=by kernel_rfl
def JI (a:Bool):fH F .ret (sv a)=some (a,()):=by kernel_rfl
def IN: fH F (.exit 0) (rL)=some (true,()):=by kernel_rfl
def fX (a b:List Int):=bM ax F hz f286 adY aI 1 (a,b,())
def NF (a b:List Int):fX F a b=br ((a.length:Int) != (b.length:Int)) (some (false,())) (hA F (fH F) F.n (fG a b (a.length:Int) 0)):=by kernel_rfl
def ki:Any:=.one ⟨adY,aI,1,fun x=>fX F0 x.1 x.2.1⟩
def ve:a8 286 ki:=aG ax trivial func286 hz (by kernel_rfl)
def WM:=[(286,ki)]
def lW (a b:D9):=bM WM F ab f232 E3 aI 1 (a,b,())
def S6 (a b:D9):lW F a b=br (a.1==b.1) (br (a.2.1.toList==b.2.1.toList) ((fX F0 a.2.2 b.2.2).bind fun c=>some (c.1,())) (some (false,()))) (some (false,())):=by kernel_rfl
def nk:Any:=.one ⟨E3,aI,1,fun x=>lW F0 x.1 x.2.1⟩
def ym:a8 232 nk:=aG WM ⟨ve,trivial⟩ func232 ab (by kernel_rfl)
def WN:=[(141,yh)]
def e3 (s:ByteArray):=bM WN F ab f94 dc aI 1 (s,())
def aiZ (s:ByteArray):e3 F s=(Bf F0 s).bind fun a=>some (a.2.1,()):=by kernel_rfl
def e4:Any:=.one ⟨dc,aI,1,fun x=>e3 F0 x.1⟩
def iq:a8 94 e4:=aG WN ⟨Me,trivial⟩ func94 ab (by kernel_rfl)
def WO:=[(141,yh)]
def pj (s:ByteArray):=bM WO F ab f95 dc c8 1 (s,())
def ai0 (s:ByteArray):pj F s=(Bf F0 s).bind fun a=>br ((a.1.length:Int)==0) (some (0,())) (ck (bh (ak ((a.1.length:Int)-1)) (a.1.length:Int)) (some ((aJ a.1 (ak ((a.1.length:Int)-1)) (0,[])).1,()))):=by kernel_rfl
def tV:Any:=.one ⟨dc,c8,1,fun x=>pj F0 x.1⟩
def IP:a8 95 tV:=aG WO ⟨Me,trivial⟩ func95 ab (by kernel_rfl)
def WQ:=[(89,e2),(91,EJ)]
def K0 (c:D1):=bM WQ F ab f57 EZ c8 1 (c,())
def ai1 (c:D1):K0 F c=(hR F0 c).bind fun a=>br (!a.1) (some (0,())) ((Dy F0 c).bind fun b=>some (ak (c.1-b.1),())):=by kernel_rfl
def QB:Any:=.one ⟨EZ,c8,1,fun x=>K0 F0 x.1⟩
def ai2:a8 57 QB:=aG WQ ⟨il,S5,trivial⟩ func57 ab (by kernel_rfl)
def aec:=[(57,QB),(89,e2),(90,yl),(94,e4),(95,tV),(232,nk),(284,ND)]
def Bg (c:D1)(q:D9):=bM aec F ab f227 PK aI 1 (c,q,())
def aoJ (c:D1)(q:D9):Bg F c q=(hR F0 c).bind fun a=>br (!a.1) (some (false,())) ((OK F0).bind fun b=>(lW F0 q b.1).bind fun d=>br d.1 (some (true,())) (br (decide (q.1>=1)) ((e3 F0 q.2.1).bind fun e=>br e.1 ((pj F0 q.2.1).bind fun f=>br (q.1==f.1) ((uE F0 c.1 q.2.2).bind fun g=>br g.1 ((K0 F0 c).bind fun h=>some (decide ((q.2.2.length:Int)>=h.1),())) (some (false,()))) (some (false,()))) (some (false,()))) (some (false,())))):=by kernel_rfl
def Ct:Any:=.one ⟨PK,aI,1,fun x=>Bg F0 x.1 x.2.1⟩
def OL:a8 227 Ct:=aG aec ⟨ai2,il,Mf,iq,IP,ym,afR,trivial⟩ func227 ab (by kernel_rfl)
def WR:=[(93,b6),(94,e4),(227,Ct)]
def vf (c:D1)(s:D13):=bM WR F ab f160 adX aI 1 (c,s,())
def ai3 (c:D1)(s:D13):vf F c s=(bz F0 s.1 0 60).bind fun a=>br a.1 ((bz F0 s.2.1 0 60).bind fun b=>br b.1 ((Bg F0 c s.2.2.1).bind fun d=>br d.1 ((e3 F0 s.2.2.2).bind fun e=>some (e.1,())) (some (false,()))) (some (false,()))) (some (false,())):=by kernel_rfl
def EK:Any:=.one ⟨adX,aI,1,fun x=>vf F0 x.1 x.2.1⟩
def S7:a8 160 EK:=aG WR ⟨cV,iq,OL,trivial⟩ func160 ab (by kernel_rfl)
def Cu (a b:D4):=bM ax F ab f237 avm aI 1 (a,b,())
def acs (a b:D4):Cu F a b=br (decide (a.1<b.1)) (some (true,())) (br (a.1==b.1) (some (decide (a.2.2.2<b.2.2.2),())) (some (false,()))):=by kernel_rfl
def La:Any:=.one ⟨avm,aI,1,fun x=>Cu F0 x.1 x.2.1⟩
def acu:a8 237 La:=aG ax trivial func237 ab (by kernel_rfl)
def Cv:=[(228,nL),(237,La)]
def Cw:Nat->Option Hint:=look [(2,{live:=[0,5,6,7],xl:=[0],rl:=[2]})]
def nm (p a:List D4)(b c:Int):= bk 33 [(0,mU 99 (K4) p),(5,mU 99 (K4) a),(6,a7 b),(7,a7 c)]
def EL (a:Bool):= bk 33 [(2,vE a)]
def NG (p:List D4):= bk 33 [(0,mU 99 (K4) p)]
def sw (a:St):Option U:=eo Cv F Cw [.r,.l,.r,.b,.i] f161 J n a
def tW:=jx Cv F Cw [.r,.l,.r,.b] f161 aI 1
def IQ (p b:List D4)(c a:Int):sw F J (n+1) (nm p b c a)=br (decide (a<c)) (ck (bh a (b.length:Int)) ((vd F0 (aJ b a K4.aw)).bind fun d=>br (!d.1) (J .ret (EL false)) (br (decide (a>0)) (ck (bh (ak (a-1)) (p.length:Int)) ((Cu F0 (aJ p (ak (a-1)) K4.aw) (aJ b a K4.aw)).bind fun e=>br (!e.1) (J .ret (EL false)) (sw F J n (nm p b c (ak (a+1)))))) (sw F J n (nm p b c (ak (a+1))))))) (J (.exit 0) (NG p)):=by kernel_rfl
def acv (a:Bool):tW F .ret (EL a)=some (a,()):=by kernel_rfl
def aaf (p:List D4):tW F (.exit 0) (NG p)=some (decide ((p.length:Int)<=12),()):=by kernel_rfl
def Lb (p:D5):=bM Cv F Cw f161 n2 aI 1 (p,())
def ai4 (p:D5):Lb F p=sw F (tW F) F.n (nm p p (p.length:Int) 0):=by kernel_rfl
def QC:Any:=.one ⟨n2,aI,1,fun x=>Lb F0 x.1⟩
def ai5:a8 161 QC:=aG Cv ⟨yc,acu,trivial⟩ func161 Cw (by kernel_rfl)
def WS:=[(89,e2),(90,yl),(93,b6),(94,e4),(95,tV)]
def Dz (c:D1)(p:D9):=bM WS F ab f226 PK aI 1 (c,p,())
def ai6 (c:D1)(p:D9):Dz F c p=(hR F0 c).bind fun b=>br b.1 ((bz F0 p.1 1 60).bind fun d=>br d.1 (br (p.2.1.toList==ai.toList) ((uE F0 c.1 p.2.2).bind fun a=>br a.1 (some (decide ((p.2.2.length:Int)>0),())) (some (false,()))) ((e3 F0 p.2.1).bind fun e=>br e.1 ((pj F0 p.2.1).bind fun f=>br (f.1==p.1) ((uE F0 c.1 p.2.2).bind fun a=>br a.1 (some (decide ((p.2.2.length:Int)>0),())) (some (false,()))) (some (false,()))) (some (false,())))) (some (false,()))) (some (false,())):=by kernel_rfl
def EM:Any:=.one ⟨PK,aI,1,fun x=>Dz F0 x.1 x.2.1⟩
def S8:a8 226 EM:=aG WS ⟨il,Mf,cV,iq,IP,trivial⟩ func226 ab (by kernel_rfl)
def Cx (x:Int):=bM ax F ab f314 c8 aI 1 (x,())
def NH (x:Int):Cx F x=some (x != x,()):=by kernel_rfl
def Lc:Any:=.one ⟨c8,aI,1,fun x=>Cx F0 x.1⟩
def acw:a8 314 Lc:=aG ax trivial func314 ab (by kernel_rfl)
def Ld:=[(314,Lc)]
def tX (x y:Int):=bM Ld F ab f288 amw c8 1 (x,y,())
def X3 (x y:Int):tX F x y=(Cx F0 x).bind fun b=>(Cx F0 y).bind fun a=>br b.1 (br a.1 (some (0,())) (some (-1,()))) (br a.1 (some (1,())) (br (decide (x<y)) (some (-1,())) (br (decide (x>y)) (some (1,())) (some (0,()))))):=by kernel_rfl
def Fx:Any:=.one ⟨amw,c8,1,fun x=>tX F0 x.1 x.2.1⟩
def X4:a8 288 Fx:=aG Ld ⟨acw,trivial⟩ func288 ab (by kernel_rfl)
def rh (x:ByteArray):=bM ax F ab f315 dc aI 1 (x,())
def Fy (x:ByteArray):rh F x=some (!(x.toList==x.toList),()):=by kernel_rfl
def DA:Any:=.one ⟨dc,aI,1,fun x=>rh F0 x.1⟩
def Vg:a8 315 DA:=aG ax trivial func315 ab (by kernel_rfl)
def DB:=[(315,DA)]
def mr (x y:ByteArray):=bM DB F ab f289 Km c8 1 (x,y,())
def Q2 (x y:ByteArray):mr F x y=(rh F0 x).bind fun b=>(rh F0 y).bind fun a=>br b.1 (br a.1 (some (0,())) (some (-1,()))) (br a.1 (some (1,())) (br (Op.bytesLess x.toList y.toList) (some (-1,())) (br (!(Op.bytesLess x.toList y.toList || (x.toList==y.toList))) (some (1,())) (some (0,()))))):=by kernel_rfl
def yn:Any:=.one ⟨Km,c8,1,fun x=>mr F0 x.1 x.2.1⟩
def Q3:a8 289 yn:=aG DB ⟨Vg,trivial⟩ func289 ab (by kernel_rfl)
def Fz:=[(288,Fx),(289,yn)]
def oE (a b:D9):=bM Fz F ab f238 E3 c8 1 (a,b,())
def S9 (a b:D9):oE F a b=(tX F0 a.1 b.1).bind fun c=>br (c.1 != 0) (some (c.1,())) ((mr F0 a.2.1 b.2.1).bind fun d=>some (d.1,())):=by kernel_rfl
def Ae:Any:=.one ⟨E3,c8,1,fun x=>oE F0 x.1 x.2.1⟩
def Ta:a8 238 Ae:=aG Fz ⟨X4,Q3,trivial⟩ func238 ab (by kernel_rfl)
def yo:=[(226,EM),(238,Ae)]
def yp:Nat->Option Hint:=look [(2,{live:=[1,2,7,8,9],xl:=[1],rl:=[4]})]
def lv (b d:List D9)(e f c a:Int):= ei 36 [(1,mU 29 (K9) b),cl 2,(7,mU 29 (K9) d),(8,a7 e),(9,a7 f)] [(2,[ar c,ar a])] []
def Bh (a:Bool):= bk 36 [(4,vE a)]
def Le (a:List D9):= bk 36 [(1,mU 29 (K9) a)]
def pn (a:St):Option U:=eo yo F yp [.r,.l,.r,.b,.i] f162 J n a
def ri:=jx yo F yp [.r,.l,.r,.b] f162 aI 1
def FA (b d:List D9)(f a c e:Int):pn F J (n+1) (lv b d f a c e)=br (decide (a<f)) (ck (bh a (d.length:Int)) ((Dz F0 (c,e) (aJ d a K9.aw)).bind fun g=>br (!g.1) (J .ret (Bh false)) (br (decide (a>0)) (ck (bh (ak (a-1)) (b.length:Int)) ((oE F0 (aJ b (ak (a-1)) K9.aw) (aJ d a K9.aw)).bind fun h=>br (decide (h.1>=0)) (J .ret (Bh false)) (pn F J n (lv b d f (ak (a+1)) c e)))) (pn F J n (lv b d f (ak (a+1)) c e))))) (J (.exit 0) (Le b)):=by kernel_rfl
def aag (a:Bool):ri F .ret (Bh a)=some (a,()):=by kernel_rfl
def X5 (a:List D9):ri F (.exit 0) (Le a)=some (decide ((a.length:Int)<=20),()):=by kernel_rfl
def G3 (c:D1)(a:D14):=bM yo F yp f162 avn aI 1 (c,a,())
def afS (c:D1)(a:D14):G3 F c a=pn F (ri F) F.n (lv a a (a.length:Int) 0 c.1 c.2):=by kernel_rfl
def NI:Any:=.one ⟨avn,aI,1,fun x=>G3 F0 x.1 x.2.1⟩
def afT:a8 162 NI:=aG yo ⟨S8,Ta,trivial⟩ func162 yp (by kernel_rfl)
def WT:=[(93,b6)]
def Lf (d:D15):=bM WT F ab f163 E5 aI 1 (d,())
def ai7 (d:D15):Lf F d=br (decide ((d.1.length:Int)<=100000)) ((bz F0 d.2 0 (d.1.length:Int)).bind fun a=>some (a.1,())) (some (false,())):=by kernel_rfl
def QD:Any:=.one ⟨E5,aI,1,fun x=>Lf F0 x.1⟩
def ai8:a8 163 QD:=aG WT ⟨cV,trivial⟩ func163 ab (by kernel_rfl)
def aah:Nat->Option Hint:=look [(900008,{live:=[],mat:=[(1,0,K22)]})]
def OM (m:Zq):=bM ax F aah f224 u3 u3 0 (m,())
def alp (m:Zq):OM F m=br (m.1==1) (some ((m.1,0,m.2.2.1,(0,ai,[]),(0,ai,[]),0,0,0,0,0),())) (br (m.1==2) (some ((m.1,0,(ai,0,ai,[]),m.2.2.2.1,(0,ai,[]),0,0,0,0,0),())) (br (m.1==3) (some ((m.1,m.2.1,(ai,0,ai,[]),(0,ai,[]),m.2.2.2.2.1,m.2.2.2.2.2.1,0,0,0,0),())) (br (m.1==4) (some ((m.1,0,(ai,0,ai,[]),(0,ai,[]),(0,ai,[]),0,m.2.2.2.2.2.2),())) (some ((m.1,0,(ai,0,ai,[]),(0,ai,[]),(0,ai,[]),0,0,0,0,0),()))))):=by kernel_rfl
def Tb:Any:=.one ⟨u3,u3,0,fun x=>OM F0 x.1⟩
def alq:a8 224 Tb:=aG ax trivial func224 aah (by kernel_rfl)
def NJ:=[(232,nk)]
def yq (a b:D16):=bM NJ F ab f281 avo aI 1 (a,b,())
def aai (a b:D16):yq F a b=br (a.1.toList==b.1.toList) ((lW F0 a.2 b.2).bind fun c=>some (c.1,())) (some (false,())):=by kernel_rfl
def IS:Any:=.one ⟨avo,aI,1,fun x=>yq F0 x.1 x.2.1⟩
def aaj:a8 281 IS:=aG NJ ⟨ym,trivial⟩ func281 ab (by kernel_rfl)
def QE:=[(286,ki)]
def Cy (a b:D9):=bM QE F ab f282 E3 aI 1 (a,b,())
def acx (a b:D9):Cy F a b=br (a.1==b.1) (br (a.2.1.toList==b.2.1.toList) ((fX F0 a.2.2 b.2.2).bind fun c=>some (c.1,())) (some (false,()))) (some (false,())):=by kernel_rfl
def Lg:Any:=.one ⟨E3,aI,1,fun x=>Cy F0 x.1 x.2.1⟩
def acy:a8 282 Lg:=aG QE ⟨ve,trivial⟩ func282 ab (by kernel_rfl)
def Tc:=[(232,nk),(281,IS),(282,Lg)]
def G4 (a b:Zq):=bM Tc F ab f223 avp aI 1 (a,b,())
def afU (a b:Zq):G4 F a b=br (a.1==b.1) (br (a.2.1==b.2.1) ((yq F0 a.2.2.1 b.2.2.1).bind fun c=>br c.1 ((Cy F0 a.2.2.2.1 b.2.2.2.1).bind fun d=>br d.1 ((lW F0 a.2.2.2.2.1 b.2.2.2.2.1).bind fun e=>br e.1 (br (a.2.2.2.2.2.1==b.2.2.2.2.2.1) (some ((a.2.2.2.2.2.2.1==b.2.2.2.2.2.2.1)&&((a.2.2.2.2.2.2.2.1==b.2.2.2.2.2.2.2.1)&&((a.2.2.2.2.2.2.2.2.1==b.2.2.2.2.2.2.2.2.1)&&((a.2.2.2.2.2.2.2.2.2==b.2.2.2.2.2.2.2.2.2)&&true))),())) (some (false,()))) (some (false,()))) (some (false,()))) (some (false,()))) (some (false,()))) (some (false,())):=by kernel_rfl
def NK:Any:=.one ⟨avp,aI,1,fun x=>G4 F0 x.1 x.2.1⟩
def afV:a8 223 NK:=aG Tc ⟨ym,aaj,acy,trivial⟩ func223 ab (by kernel_rfl)
def dL:Nat->Option Hint:=look [(2,{live:=[0,1,5],rl:=[4]})]
def dh (s:ByteArray)(c i:Int):= bk 19 [(0,XD s),(1,.v (.c (.int .u8 c))),(5,a7 i)]
def ko (a:Int):= bk 19 [(4,a7 a)]
def yr   := bk 19 []
def dM (a:St):Option U:=eo ax F dL [.r,.l,.r,.b,.i] f338 J n a
def e8:=jx ax F dL [.r,.l,.r,.b] f338 c8 1
def ir (s:ByteArray)(c i:Int):dM F J (n+1) (dh s c i)=br (decide (i>=0)) (ck (bh i (s.size:Int)) (br ((kc s i)==c) (J .ret (ko i)) (dM F J n (dh s c (ak (i-1)))))) (J (.exit 0) (yr)):=by kernel_rfl
def yt (a:Int):e8 F .ret (ko a)=some (a,()):=by kernel_rfl
def hD (s:ByteArray)(c:Int):=bM ax F dL f338 VT c8 1 (s,c,())
def Bi (s:ByteArray)(c:Int):hD F s c=dM F (e8 F) F.n (dh s c (ak ((s.size:Int)-1))):=by kernel_rfl
def kp:Any:=.one ⟨VT,c8,1,fun x=>hD F0 x.1 x.2.1⟩
def Bj:a8 338 kp:=aG ax trivial func338 dL (by kernel_rfl)
def vg:=[(338,kp)]
def nY (s:ByteArray)(c:Int):=bM vg F ab f313 VT c8 1 (s,c,())
def Mg (s:ByteArray)(c:Int):nY F s c=(hD F0 s c).bind fun a=>some (a.1,()):=by kernel_rfl
def rM:Any:=.one ⟨VT,c8,1,fun x=>nY F0 x.1 x.2.1⟩
def Mh:a8 313 rM:=aG vg ⟨Bj,trivial⟩ func313 ab (by kernel_rfl)
def aed:=[(94,e4),(313,rM)]
def NL (s:ByteArray):=bM aed F ab f283 dc dc 1 (s,())
def aoK (s:ByteArray):NL F s=(e3 F0 s).bind fun b=>br (!b.1) (some (ai,())) (br (s.toList==ai.toList) (some (ai,())) ((nY F0 s 47).bind fun a=>ck (Oy 0 a.1 (s.size:Int)) (some (s.extract (0:Int).toNat a.1.toNat,())))):=by kernel_rfl
def WU:Any:=.one ⟨dc,dc,1,fun x=>NL F0 x.1⟩
def aoL:a8 283 WU:=aG aed ⟨iq,Mh,trivial⟩ func283 ab (by kernel_rfl)
def Td:=[(94,e4),(227,Ct),(283,WU)]
def G5 (c:D1)(b:D16):=bM Td F ab f225 avq aI 1 (c,b,())
def afW (c:D1)(b:D16):G5 F c b=(Bg F0 c b.2).bind fun a=>br a.1 (br (!(b.1.toList==ai.toList)) ((e3 F0 b.1).bind fun d=>br d.1 ((NL F0 b.1).bind fun e=>some (e.1.toList==b.2.2.1.toList,())) (some (false,()))) (some (false,()))) (some (false,())):=by kernel_rfl
def NM:Any:=.one ⟨avq,aI,1,fun x=>G5 F0 x.1 x.2.1⟩
def afX:a8 225 NM:=aG Td ⟨iq,OL,aoL,trivial⟩ func225 ab (by kernel_rfl)
def aak:=[(89,e2),(93,b6),(223,NK),(224,Tb),(225,NM),(226,EM),(227,Ct),(228,nL)]
def kj (c:D1)(m:Zq):=bM aak F ab f149 amx aI 1 (c,m,())
def alr (c:D1)(m:Zq):kj F c m=(hR F0 c).bind fun a=>br (!a.1) (some (false,())) ((OM F0 m).bind fun b=>(G4 F0 m b.1).bind fun d=>br (!d.1) (some (false,())) (br (m.1==1) ((G5 F0 c m.2.2.1).bind fun e=>some (e.1,())) (br (m.1==2) ((Dz F0 c m.2.2.2.1).bind fun f=>br f.1 (some (!(m.2.2.2.1.2.1.toList==ai.toList),())) (some (false,()))) (br (m.1==3) ((bz F0 m.2.1 1 60).bind fun g=>br g.1 ((Bg F0 c m.2.2.2.2.1).bind fun h=>br h.1 ((bz F0 m.2.2.2.2.2.1 0 (ak (c.1-1))).bind fun i=>some (i.1,())) (some (false,()))) (some (false,()))) (br (m.1==4) ((vd F0 m.2.2.2.2.2.2).bind fun j=>some (j.1,())) (some (false,()))))))):=by kernel_rfl
def IT:Any:=.one ⟨amx,aI,1,fun x=>kj F0 x.1 x.2.1⟩
def WV:a8 149 IT:=aG aak ⟨il,cV,afV,alq,afX,S8,OL,yc,trivial⟩ func149 ab (by kernel_rfl)
def G6:=[(89,e2),(93,b6),(149,IT),(160,EK),(161,QC),(162,NI),(163,QD)]
def G7:Nat->Option Hint:=look [(4,{live:=[2,3,64,65,66],rl:=[4]})]
def yu (q:List Rh)(s t c a r b d e f g:Int)(h:ByteArray)(i:List Int)(j:ByteArray)(k:List D4)(l:List D9)(m:List Int)(o:Int)(p:List Rh):= ei 92 [cl 2,cl 3,(64,mU 125 (RT) q),(65,a7 s),(66,a7 t)] [(2,[ar c,ar a]),(3,[ar r,ar b,ar d,ar e,ar f,ar g,.str h,.ro false 3 (.int .i64) i,.str j,.ro false 99 (K4) k,.ro false 29 (K9) l,.ro false 5 (.int .u8) m,ar o,.ro false 125 (RT) p])] []
def yv (a:Bool):= bk 92 [(4,vE a)]
def QF   := bk 92 []
def G8 (a:St):Option U:=eo G6 F G7 [.r,.r,.l,.r,.b,.i] f92 J n a
def yw:=jx G6 F G7 [.r,.r,.l,.r,.b] f92 aI 1
def Lh (b:List Rh)(e a c d r f g h i j:Int)(k:ByteArray)(l:List Int)(m:ByteArray)(o:List D4)(p:List D9)(q:List Int)(s:Int)(t:List Rh):G8 F J (n+1) (yu b e a c d r f g h i j k l m o p q s t)=br (decide (a<e)) (ck (bh a (b.length:Int)) ((kj F0 (c,d) (aJ b a RT.aw).2).bind fun u=>br (!u.1) (J .ret (yv false)) ((bz F0 (aJ b a RT.aw).1 0 (ak (c-1))).bind fun v=>br (!v.1) (J .ret (yv false)) (br ((aJ b a RT.aw).1==r) (J .ret (yv false)) (G8 F J n (yu b e (ak (a+1)) c d r f g h i j k l m o p q s t)))))) (J (.exit 0) (QF)):=by kernel_rfl
def afY (a:Bool):yw F .ret (yv a)=some (a,()):=by kernel_rfl
def acz: yw F (.exit 0) (QF)=some (true,()):=by kernel_rfl
def Bk (c:D1)(r:bL):=bM G6 F G7 f92 Gv aI 1 (c,r,())
def als (c:D1)(r:bL):Bk F c r=(hR F0 c).bind fun a=>br (!a.1) (some (false,())) ((bz F0 r.1 0 (ak (c.1-1))).bind fun b=>br (!b.1) (some (false,())) ((bz F0 r.2.1 1 60).bind fun d=>br (!d.1) (some (false,())) ((bz F0 r.2.2.1 0 60).bind fun e=>br (!e.1) (some (false,())) ((vf F0 c r.2.2.2.1).bind fun f=>br (!f.1) (some (false,())) ((Lb F0 r.2.2.2.2.1).bind fun g=>br (!g.1) (some (false,())) ((G3 F0 c r.2.2.2.2.2.1).bind fun h=>br (!h.1) (some (false,())) ((Lf F0 r.2.2.2.2.2.2.1).bind fun i=>br (!i.1) (some (false,())) (br (decide ((r.2.2.2.2.2.2.2.length:Int)>30)) (some (false,())) (G8 F (yw F) F.n (yu r.2.2.2.2.2.2.2 (r.2.2.2.2.2.2.2.length:Int) 0 c.1 c.2 r.1 r.2.1 r.2.2.1 r.2.2.2.1.1 r.2.2.2.1.2.1 r.2.2.2.1.2.2.1.1 r.2.2.2.1.2.2.1.2.1 r.2.2.2.1.2.2.1.2.2 r.2.2.2.1.2.2.2 r.2.2.2.2.1 r.2.2.2.2.2.1 r.2.2.2.2.2.2.1.1 r.2.2.2.2.2.2.1.2 r.2.2.2.2.2.2.2)))))))))):=by kernel_rfl
def yx:Any:=.one ⟨Gv,aI,1,fun x=>Bk F0 x.1 x.2.1⟩
def Mi:a8 92 yx:=aG G6 ⟨il,cV,WV,S7,ai5,afT,ai8,trivial⟩ func92 G7 (by kernel_rfl)
def Cz:=[(93,b6)]
def CA:Nat->Option Hint:=look [(4,{live:=[0,3],mat:=[(3,5,.int .u8)],xl:=[0,3],rl:=[2]})]
def tY (a:Int)(b:List Int):= ei 23 [(0,a7 a),(3,.v (.c (.own 1000000 none)))] [] [aP 1000000 5 (.int .u8) b]
def NN (a:Int)(b:List Int):= ei 23 [(0,a7 a),(3,.v (.c (.own 1000000 none)))] [] [aP 1000000 5 (.int .u8) b]
def CB (a:St):Option U:=eo Cz F CA [.r,.r,.r,.l,.b,.i] f167 J n a
def EN:=jx Cz F CA [.r,.r,.r,.l,.b] f167 uv 2
def IU (a:Int)(b:List Int):CB F J (n+1) (tY a b)=br (decide (a>=128)) (ck (fA F b.length [IntKind.wrap .u8 (ak ((Int.tmod a 128)+128))].length 1) (CB F J n (tY (ak (Int.tdiv a 128)) (b++[IntKind.wrap .u8 (ak ((Int.tmod a 128)+128))])))) (J (.exit 0) (NN a b)):=by kernel_rfl
def Li (a:Int)(b:List Int):EN F (.exit 0) (NN a b)=ck (fA F b.length [IntKind.wrap .u8 (a)].length 1) (some (b++[IntKind.wrap .u8 (a)],())):=by kernel_rfl
def Lj (a:Int):=bM Cz F CA f167 c8 uv 2 (a,())
def ai9 (a:Int):Lj F a=(bz F0 a 0 2147483647).bind fun b=>br (!b.1) (some ([],())) (CB F (EN F) F.n (tY a [])):=by kernel_rfl
def QG:Any:=.one ⟨c8,uv,2,fun x=>Lj F0 x.1⟩
def aja:a8 167 QG:=aG Cz ⟨cV,trivial⟩ func167 CA (by kernel_rfl)
def CC:=[(93,b6),(167,QG)]
def CD:Nat->Option Hint:=look [(5,{live:=[0,1,7,8],rl:=[4,5,6]})]
def tZ (b:List Int)(a c i:Int):= bk 55 [(0,mU 5 (.int .u8) b),(1,a7 a),(7,a7 c),(8,a7 i)]
def EO (a b:Int)(c:Bool):= bk 55 [(4,a7 a),(5,a7 b),(6,vE c)]
def Bl   := bk 55 []
def CE (a:St):Option U:=eo CC F CD [.r,.r,.r,.l,.r,.b,.i] f221 J n a
def ua:=jx CC F CD [.r,.r,.r,.l,.r,.b] f221 amy 1
def IV (b:List Int)(a c i:Int):CE F J (n+1) (tZ b a c i)=br (decide (i<5)) (br (decide ((ak (a+i))<(b.length:Int))) (ck (bh (ak (a+i)) (b.length:Int)) (ck (decide (0<=(ak (7*i)))) (br (decide ((ak (aJ b (ak (a+i)) 0))<128)) ((Lj F0 (ak (c+(ak ((Int.tmod (ak (aJ b (ak (a+i)) 0)) 128)*2 ^ (min (ak (7*i)).toNat 64)))))).bind fun d=>br ((d.1.length:Int) != (ak (i+1))) (J .ret (EO 0 0 false)) (J .ret (EO (ak (c+(ak ((Int.tmod (ak (aJ b (ak (a+i)) 0)) 128)*2 ^ (min (ak (7*i)).toNat 64))))) (ak ((ak (a+i))+1)) true))) (CE F J n (tZ b a (ak (c+(ak ((Int.tmod (ak (aJ b (ak (a+i)) 0)) 128)*2 ^ (min (ak (7*i)).toNat 64))))) (ak (i+1))))))) (J (.exit 0) (Bl))) (J (.exit 0) (Bl)):=by kernel_rfl
def NO (a b:Int)(c:Bool):ua F .ret (EO a b c)=some (a,b,c,()):=by kernel_rfl
def Lk: ua F (.exit 0) (Bl)=some (0,0,false,()):=by kernel_rfl
def vh (b:List Int)(a:Int):=bM CC F CD f221 ad0 amy 1 (b,a,())
def ajb (b:List Int)(a:Int):vh F b a=(bz F0 a 0 (ak ((b.length:Int)-1))).bind fun c=>br (!c.1) (some (0,0,false,())) (CE F (ua F) F.n (tZ b a 0 0)):=by kernel_rfl
def EP:Any:=.one ⟨ad0,amy,1,fun x=>vh F0 x.1 x.2.1⟩
def Te:a8 221 EP:=aG CC ⟨cV,aja,trivial⟩ func221 CD (by kernel_rfl)
def Ll:=[(221,EP)]
def bs (r:D33):=fR Ll F ab f145 gl 0 .cur c8 gl 1 (r,())
def X6 (r:D33):bs F r=(vh F0 r.1 r.2.1).bind fun a=>br r.2.2 (some ((0,()),(r.1,r.2.1,true),())) (br (!a.2.2.1) (some ((0,()),(r.1,r.2.1,true),())) (some ((a.1,()),(r.1,a.2.1,r.2.2),()))):=by kernel_rfl
def gU:Any:=.two ⟨gl,0,.cur,c8,1,gl,fun x=>bs F0 x.1⟩
def mu:a8 145 gU:=jy Ll ⟨Te,trivial⟩ func145 ab (by kernel_rfl)
def Tf:=[(221,EP)]
def mv (b:List Int)(a:Int):=bM Tf F ab f222 ad0 avs 1 (b,a,())
def afZ (b:List Int)(c:Int):mv F b c=(vh F0 b c).bind fun a=>br (!a.2.2.1) (some (ai,0,false,())) (br (decide (a.1>(ak ((b.length:Int)-a.2.1)))) (some (ai,0,false,())) (ck (Oy a.2.1 (ak (a.2.1+a.1)) (b.length:Int)) (some (strOf ((b.take (ak (a.2.1+a.1)).toNat).drop a.2.1.toNat),ak (a.2.1+a.1),true,())))):=by kernel_rfl
def Bm:Any:=.one ⟨ad0,avs,1,fun x=>mv F0 x.1 x.2.1⟩
def QH:a8 222 Bm:=aG Tf ⟨Te,trivial⟩ func222 ab (by kernel_rfl)
def IW:=[(222,Bm)]
def fm (r:D33):=fR IW F ab f146 gl 0 .cur dc gl 1 (r,())
def Vh (r:D33):fm F r=(mv F0 r.1 r.2.1).bind fun a=>br r.2.2 (some ((ai,()),(r.1,r.2.1,true),())) (br (!a.2.2.1) (some ((ai,()),(r.1,r.2.1,true),())) (some ((a.1,()),(r.1,a.2.1,r.2.2),()))):=by kernel_rfl
def jQ:Any:=.two ⟨gl,0,.cur,dc,1,gl,fun x=>fm F0 x.1⟩
def rV:a8 146 jQ:=jy IW ⟨QH,trivial⟩ func146 ab (by kernel_rfl)
def mw:=[(145,gU)]
def mx:Nat->Option Hint:=look [(4,{live:=[0,3,4,5],mat:=[(3,3,.int .i64)],xl:=[3],rl:=[2]})]
def jR (d i:Int)(a:List Int)(b:Int)(c:Bool)(e:List Int):St:={nt:=26,tm:=[(0,.v (.c (.ptr 4000000 0))),(3,.v (.c (.own 1000000 none))),(4,a7 d),(5,a7 i)],bx:=[(4000000,[.ro true 5 (.int .u8) a,ar b,.bool c])],bl:=[aP 1000000 3 (.int .i64) e],sp:=.v (.c (.ptr 4000000 0))}
def iO (a:List Int)(b:Int)(c:Bool)(d:List Int):St:={nt:=26,tm:=[(3,.v (.c (.own 1000000 none)))],bx:=[(4000000,[.ro true 5 (.int .u8) a,ar b,.bool c])],bl:=[aP 1000000 3 (.int .i64) d],sp:=.v (.c (.ptr 4000000 0))}
def my (a:St):Option U:=eo mw F mx [.r,.r,.r,.l,.r,.b,.i] f148 J n a
def po:=L7 mw F mx [.r,.r,.r,.l,.r,.b] f148 .cur pP gl 2
def vi (f i:Int)(d:List Int)(e:Int)(a:Bool)(c:List Int):my F J (n+1) (jR f i d e a c)=br (decide (i<f)) (br (!a) ((bs F0 (d,e,a)).bind fun b=>ck (fA F c.length [b.1.1].length 8) (my F J n (jR f (ak (i+1)) b.2.1.1 b.2.1.2.1 b.2.1.2.2 (c++[b.1.1])))) (J (.exit 0) (iO d e a c))) (J (.exit 0) (iO d e a c)):=by kernel_rfl
def ON (a:List Int)(b:Int)(c:Bool)(d:List Int):po F (.exit 0) (iO a b c d)=some ((d,()),(a,b,c),()):=by kernel_rfl
def lx (r:D33):=fR mw F mx f148 gl 0 .cur pP gl 2 (r,())
def Vi (r:D33):lx F r=(bs F0 r).bind fun a=>my F (po F) F.n (jR a.1.1 0 a.2.1.1 a.2.1.2.1 a.2.1.2.2 []):=by kernel_rfl
def pq:Any:=.two ⟨gl,0,.cur,pP,2,gl,fun x=>lx F0 x.1⟩
def FB:a8 148 pq:=jy mw ⟨mu,trivial⟩ func148 mx (by kernel_rfl)
end
end Go.Am.Tryz
namespace Go.Am.Tryz
open Go.Am Go.Proofs Go.Proofs.Tryz
noncomputable section
variable {U:Type} (F:nP) (J:Ex->St->Option U) (n:Nat)
def NP:=[(145,gU),(146,jQ),(148,pq)]
def ly (r:D33):=fR NP F ab f147 gl 0 .cur gS gl 2 (r,())
def aal (r:D33):ly F r=(bs F0 r).bind fun a=>(fm F0 a.2.1).bind fun b=>(lx F0 b.2.1).bind fun c=>some (((a.1.1,b.1.1,c.1.1),()),c.2.1,()):=by kernel_rfl
def uF:Any:=.two ⟨gl,0,.cur,gS,2,gl,fun x=>ly F0 x.1⟩
def Lm:a8 147 uF:=jy NP ⟨mu,rV,FB,trivial⟩ func147 ab (by kernel_rfl)
def aam:=[(145,gU),(146,jQ),(147,uF),(148,pq),(149,IT)]
def IX (c:D1)(b:List Int):=bM aam F ab f74 PS avt 2 (c,b,())
def alu (c:D1)(b:List Int):IX F c b=(bs F0 (b,0,false)).bind fun a=>br (a.1.1==1) ((fm F0 a.2.1).bind fun i=>(ly F0 i.2.1).bind fun e=>br e.2.1.2.2 (some ((0,0,(ai,0,ai,[]),(0,ai,[]),(0,ai,[]),0,0,0,0,0),false,())) (br (e.2.1.2.1 != (b.length:Int)) (some ((0,0,(ai,0,ai,[]),(0,ai,[]),(0,ai,[]),0,0,0,0,0),false,())) ((kj F0 c (a.1.1,0,(i.1.1,e.1.1),(0,ai,[]),(0,ai,[]),0,0,0,0,0)).bind fun d=>br (!d.1) (some ((0,0,(ai,0,ai,[]),(0,ai,[]),(0,ai,[]),0,0,0,0,0),false,())) (some ((a.1.1,0,(i.1.1,e.1.1),(0,ai,[]),(0,ai,[]),0,0,0,0,0),true,()))))) (br (a.1.1==2) ((bs F0 a.2.1).bind fun j=>(fm F0 j.2.1).bind fun k=>(lx F0 k.2.1).bind fun f=>br f.2.1.2.2 (some ((0,0,(ai,0,ai,[]),(0,ai,[]),(0,ai,[]),0,0,0,0,0),false,())) (br (f.2.1.2.1 != (b.length:Int)) (some ((0,0,(ai,0,ai,[]),(0,ai,[]),(0,ai,[]),0,0,0,0,0),false,())) ((kj F0 c (a.1.1,0,(ai,0,ai,[]),(j.1.1,k.1.1,f.1.1),(0,ai,[]),0,0,0,0,0)).bind fun d=>br (!d.1) (some ((0,0,(ai,0,ai,[]),(0,ai,[]),(0,ai,[]),0,0,0,0,0),false,())) (some ((a.1.1,0,(ai,0,ai,[]),(j.1.1,k.1.1,f.1.1),(0,ai,[]),0,0,0,0,0),true,()))))) (br (a.1.1==3) ((bs F0 a.2.1).bind fun l=>(bs F0 l.2.1).bind fun m=>(ly F0 m.2.1).bind fun g=>br g.2.1.2.2 (some ((0,0,(ai,0,ai,[]),(0,ai,[]),(0,ai,[]),0,0,0,0,0),false,())) (br (g.2.1.2.1 != (b.length:Int)) (some ((0,0,(ai,0,ai,[]),(0,ai,[]),(0,ai,[]),0,0,0,0,0),false,())) ((kj F0 c (a.1.1,l.1.1,(ai,0,ai,[]),(0,ai,[]),g.1.1,m.1.1,0,0,0,0)).bind fun d=>br (!d.1) (some ((0,0,(ai,0,ai,[]),(0,ai,[]),(0,ai,[]),0,0,0,0,0),false,())) (some ((a.1.1,l.1.1,(ai,0,ai,[]),(0,ai,[]),g.1.1,m.1.1,0,0,0,0),true,()))))) (br (a.1.1==4) ((bs F0 a.2.1).bind fun o=>(bs F0 o.2.1).bind fun p=>(bs F0 p.2.1).bind fun q=>(bs F0 q.2.1).bind fun h=>br h.2.1.2.2 (some ((0,0,(ai,0,ai,[]),(0,ai,[]),(0,ai,[]),0,0,0,0,0),false,())) (br (h.2.1.2.1 != (b.length:Int)) (some ((0,0,(ai,0,ai,[]),(0,ai,[]),(0,ai,[]),0,0,0,0,0),false,())) ((kj F0 c (a.1.1,0,(ai,0,ai,[]),(0,ai,[]),(0,ai,[]),0,o.1.1,p.1.1,q.1.1,h.1.1)).bind fun d=>br (!d.1) (some ((0,0,(ai,0,ai,[]),(0,ai,[]),(0,ai,[]),0,0,0,0,0),false,())) (some ((a.1.1,0,(ai,0,ai,[]),(0,ai,[]),(0,ai,[]),0,o.1.1,p.1.1,q.1.1,h.1.1),true,()))))) (br a.2.1.2.2 (some ((0,0,(ai,0,ai,[]),(0,ai,[]),(0,ai,[]),0,0,0,0,0),false,())) (br (a.2.1.2.1 != (b.length:Int)) (some ((0,0,(ai,0,ai,[]),(0,ai,[]),(0,ai,[]),0,0,0,0,0),false,())) ((kj F0 c (a.1.1,0,(ai,0,ai,[]),(0,ai,[]),(0,ai,[]),0,0,0,0,0)).bind fun d=>br (!d.1) (some ((0,0,(ai,0,ai,[]),(0,ai,[]),(0,ai,[]),0,0,0,0,0),false,())) (some ((a.1.1,0,(ai,0,ai,[]),(0,ai,[]),(0,ai,[]),0,0,0,0,0),true,())))))))):=by kernel_rfl
def IY:Any:=.one ⟨PS,avt,2,fun x=>IX F0 x.1 x.2.1⟩
def WW:a8 74 IY:=aG aam ⟨mu,rV,Lm,FB,WV,trivial⟩ func74 ab (by kernel_rfl)
def fY:=[(74,IY),(89,e2),(90,yl),(91,EJ),(92,yx),(93,b6),(94,e4),(95,tV)]
def fZ:Nat->Option Hint:=look [(5,{live:=[1,3,54,55,56],xl:=[1,3],rl:=[2]}),(11,{live:=[1,3,73,74,75],xl:=[1,3],rl:=[2]}),(18,{live:=[3,99,100,101],rl:=[2]})]
def lz (b:List b3)(d e c a:Int):= ei 127 [cl 3,(99,mU 91 (dC) b),(100,a7 d),(101,a7 e)] [(3,[ar c,ar a])] []
def rj (a:Bool):= bk 127 [(2,vE a)]
def Ln   := bk 127 []
def pr (a:St):Option U:=eo fY F fZ [.r,.r,.r,.r,.r,.l,.r,.b,.i] f39 J n a
def lA:=jx fY F fZ [.r,.r,.r,.r,.r,.l,.r,.b] f39 aI 1
def lB (h:List cI)(i j w a:Int)(b:List Int)(d:List bL)(e:List cI)(f:List b3)(c g:Int):= ei 127 [cl 1,cl 3,(73,mU 95 (iT) h),(74,a7 i),(75,a7 j)] [(1,[ar w,ar a,.ro false 3 (.int .i64) b,.ro false 42 (cC) d,.ro false 95 (iT) e,.ro false 91 (dC) f]),(3,[ar c,ar g])] []
def Bn (a:Bool):= bk 127 [(2,vE a)]
def Lo (w a:Int)(b:List Int)(d:List bL)(e:List cI)(f:List b3)(c g:Int):= ei 127 [cl 1,cl 3] [(1,[ar w,ar a,.ro false 3 (.int .i64) b,.ro false 42 (cC) d,.ro false 95 (iT) e,.ro false 91 (dC) f]),(3,[ar c,ar g])] []
def pt (a:St):Option U:=eo fY F fZ [.r,.r,.r,.r,.l,.r,.b,.i] f39 J n a
def lC:=jx fY F fZ [.r,.r,.r,.r,.l,.r,.b] f39 aI 1
def lD (h:List bL)(i j w a:Int)(b:List Int)(d:List bL)(e:List cI)(f:List b3)(c g:Int):= ei 127 [cl 1,cl 3,(54,mU 42 (cC) h),(55,a7 i),(56,a7 j)] [(1,[ar w,ar a,.ro false 3 (.int .i64) b,.ro false 42 (cC) d,.ro false 95 (iT) e,.ro false 91 (dC) f]),(3,[ar c,ar g])] []
def Bo (a:Bool):= bk 127 [(2,vE a)]
def Lp (w a:Int)(b:List Int)(d:List bL)(e:List cI)(f:List b3)(c g:Int):= ei 127 [cl 1,cl 3] [(1,[ar w,ar a,.ro false 3 (.int .i64) b,.ro false 42 (cC) d,.ro false 95 (iT) e,.ro false 91 (dC) f]),(3,[ar c,ar g])] []
def pw (a:St):Option U:=eo fY F fZ [.r,.r,.r,.l,.r,.b,.i] f39 J n a
def lE:=jx fY F fZ [.r,.r,.r,.l,.r,.b] f39 aI 1
def FC (b:List b3)(d a c e:Int):pr F J (n+1) (lz b d a c e)=br (decide (a<d)) (ck (bh a (b.length:Int)) ((bz F0 (aJ b a dC.aw).2.2 0 (ak (c-1))).bind fun f=>br (!f.1) (J .ret (rj false)) ((e3 F0 (aJ b a dC.aw).2.1).bind fun g=>br (!g.1) (J .ret (rj false)) ((pj F0 (aJ b a dC.aw).2.1).bind fun h=>br (h.1 != (aJ b a dC.aw).1) (J .ret (rj false)) (pr F J n (lz b d (ak (a+1)) c e)))))) (J (.exit 4) (Ln)):=by kernel_rfl
def FD (b:List cI)(j a w e:Int)(f:List Int)(g:List bL)(h:List cI)(i:List b3)(c d:Int):pt F J (n+1) (lB b j a w e f g h i c d)=br (decide (a<j)) (ck (bh a (b.length:Int)) ((IX F0 (c,d) (aJ b a (0,[])).2).bind fun k=>br (!k.2.1) (J .ret (Bn false)) ((bz F0 (aJ b a (0,[])).1 0 (ak (c-1))).bind fun l=>br (!l.1) (J .ret (Bn false)) (pt F J n (lB b j (ak (a+1)) w e f g h i c d))))) (J (.exit 2) (Lo w e f g h i c d)):=by kernel_rfl
def FE (b:List bL)(j a w e:Int)(f:List Int)(g:List bL)(h:List cI)(i:List b3)(c d:Int):pw F J (n+1) (lD b j a w e f g h i c d)=br (decide (a<j)) (ck (bh a (b.length:Int)) ((Bk F0 (c,d) (aJ b a cC.aw)).bind fun k=>br (!k.1) (J .ret (Bo false)) (br ((aJ b a cC.aw).1 != a) (J .ret (Bo false)) (pw F J n (lD b j (ak (a+1)) w e f g h i c d))))) (J (.exit 0) (Lp w e f g h i c d)):=by kernel_rfl
def aan (a:Bool):lA F .ret (rj a)=some (a,()):=by kernel_rfl
def X7: lA F (.exit 4) (Ln)=some (true,()):=by kernel_rfl
def aao (a:Bool):lC F .ret (Bn a)=some (a,()):=by kernel_rfl
def X8 (w d:Int)(e:List Int)(f:List bL)(g:List cI)(a:List b3)(c b:Int):lC F (.exit 2) (Lo w d e f g a c b)=pr F (lA F) F.n (lz a (a.length:Int) 0 c b):=by kernel_rfl
def aap (a:Bool):lE F .ret (Bo a)=some (a,()):=by kernel_rfl
def X9 (w b:Int)(d:List Int)(e:List bL)(a:List cI)(f:List b3)(c g:Int):lE F (.exit 0) (Lp w b d e a f c g)=pt F (lC F) F.n (lB a (a.length:Int) 0 w b d e a f c g):=by kernel_rfl
def dd (w:iU):=bM fY F fZ f39 eI aI 1 (w,())
def af0 (w:iU):dd F w=(hR F0 w.1).bind fun a=>br (!a.1) (some (false,())) ((uE F0 w.1.1 w.2.1).bind fun b=>br (!b.1) (some (false,())) ((Dy F0 w.1).bind fun c=>br (decide ((w.2.1.length:Int)>c.1)) (some (false,())) (br ((w.2.2.1.length:Int) != w.1.1) (some (false,())) (br (decide ((w.2.2.2.1.length:Int)>60)) (some (false,())) (br (decide ((w.2.2.2.2.length:Int)>300)) (some (false,())) (pw F (lE F) F.n (lD w.2.2.1 (w.2.2.1.length:Int) 0 w.1.1 w.1.2 w.2.1 w.2.2.1 w.2.2.2.1 w.2.2.2.2 w.1.1 w.1.2))))))):=by kernel_rfl
def et:Any:=.one ⟨eI,aI,1,fun x=>dd F0 x.1⟩
def gF:a8 39 et:=aG fY ⟨WW,il,Mf,S5,Mi,cV,iq,IP,trivial⟩ func39 fZ (by kernel_rfl)
def hE:Nat->Option Hint:=look [(2,{live:=[0,1,7,8],rl:=[4]})]
def fI (s:List Int)(v a b:Int):= bk 19 [(0,mU 3 (.int .i64) s),(1,a7 v),(7,a7 a),(8,a7 b)]
def sx (a:Int):= bk 19 [(4,a7 a)]
def rN   := bk 19 []
def hF (a:St):Option U:=eo ax F hE [.r,.l,.r,.b,.i] f220 J n a
def fJ:=jx ax F hE [.r,.l,.r,.b] f220 c8 1
def oF (s:List Int)(v b a:Int):hF F J (n+1) (fI s v b a)=br (decide (a<b)) (ck (bh a (s.length:Int)) (br (v==(aJ s a 0)) (J .ret (sx a)) (hF F J n (fI s v b (ak (a+1)))))) (J (.exit 0) (rN)):=by kernel_rfl
def JJ (a:Int):fJ F .ret (sx a)=some (a,()):=by kernel_rfl
def IZ: fJ F (.exit 0) (rN)=some (-1,()):=by kernel_rfl
def jS (s:List Int)(v:Int):=bM ax F hE f220 VQ c8 1 (s,v,())
def NQ (s:List Int)(v:Int):jS F s v=hF F (fJ F) F.n (fI s v (s.length:Int) 0):=by kernel_rfl
def sy:Any:=.one ⟨VQ,c8,1,fun x=>jS F0 x.1 x.2.1⟩
def NR:a8 220 sy:=aG ax trivial func220 hE (by kernel_rfl)
def rO:=[(220,sy)]
def gp (s:List Int)(v:Int):=bM rO F ab f144 VQ aI 1 (s,v,())
def I0 (s:List Int)(v:Int):gp F s v=(jS F0 s v).bind fun a=>some (decide (a.1>=0),()):=by kernel_rfl
def oG:Any:=.one ⟨VQ,aI,1,fun x=>gp F0 x.1 x.2.1⟩
def I1:a8 144 oG:=aG rO ⟨NR,trivial⟩ func144 ab (by kernel_rfl)
def WX:=[(144,oG)]
def DC (s:List Int)(i:Int):=bM WX F ab f73 VQ aI 1 (s,i,())
def ajc (s:List Int)(i:Int):DC F s i=(gp F0 s i).bind fun a=>some (a.1,()):=by kernel_rfl
def ER:Any:=.one ⟨VQ,aI,1,fun x=>DC F0 x.1 x.2.1⟩
def Tg:a8 73 ER:=aG WX ⟨I1,trivial⟩ func73 ab (by kernel_rfl)
def CF:=[(73,ER)]
def CG:Nat->Option Hint:=look [(3,{live:=[1,3,7,8],mat:=[(3,3,.int .i64)],xl:=[3],rl:=[2]})]
def iZ (f g w a:Int)(b:List Int)(c:List bL)(d:List cI)(e:List b3)(h:List Int):= ei 22 [cl 1,(3,.v (.c (.own 1000000 none))),(7,a7 f),(8,a7 g)] [(1,[ar w,ar a,.ro false 3 (.int .i64) b,.ro false 42 (cC) c,.ro false 95 (iT) d,.ro false 91 (dC) e])] [aP 1000000 3 (.int .i64) h]
def NS (a:List Int):= ei 22 [(3,.v (.c (.own 1000000 none)))] [] [aP 1000000 3 (.int .i64) a]
def nM (a:St):Option U:=eo CF F CG [.r,.r,.l,.r,.b,.i] f54 J n a
def ub:=jx CF F CG [.r,.r,.l,.r,.b] f54 pP 2
def I2 (d a w e:Int)(c:List Int)(f:List bL)(g:List cI)(h:List b3)(b:List Int):nM F J (n+1) (iZ d a w e c f g h b)=br (decide (a<d)) ((DC F0 c a).bind fun i=>br (!i.1) (ck (fA F b.length [a].length 8) (nM F J n (iZ d (ak (a+1)) w e c f g h (b++[a])))) (nM F J n (iZ d (ak (a+1)) w e c f g h b))) (J (.exit 0) (NS b)):=by kernel_rfl
def aaq (a:List Int):ub F (.exit 0) (NS a)=some (a,()):=by kernel_rfl
def lX (w:iU):=bM CF F CG f54 eI pP 2 (w,())
def ajd (w:iU):lX F w=nM F (ub F) F.n (iZ (w.2.2.1.length:Int) 0 w.1.1 w.1.2 w.2.1 w.2.2.1 w.2.2.2.1 w.2.2.2.2 []):=by kernel_rfl
def nn:Any:=.one ⟨eI,pP,2,fun x=>lX F0 x.1⟩
def yy:a8 54 nn:=aG CF ⟨Tg,trivial⟩ func54 CG (by kernel_rfl)
def nZ (s a:ByteArray):=bM ax F ab f280 Km aI 1 (s,a,())
def Mj (s a:ByteArray):nZ F s a=br (decide ((s.size:Int)>=(a.size:Int))) (ck (Oy 0 (a.size:Int) (s.size:Int)) (some ((s.extract (0:Int).toNat (a.size:Int).toNat).toList==a.toList,()))) (some (false,())):=by kernel_rfl
def rP:Any:=.one ⟨Km,aI,1,fun x=>nZ F0 x.1 x.2.1⟩
def Mk:a8 280 rP:=aG ax trivial func280 ab (by kernel_rfl)
def FF:=[(280,rP)]
def yz (s a:ByteArray):=bM FF F ab f219 Km aI 1 (s,a,())
def Th (s a:ByteArray):yz F s a=(nZ F0 s a).bind fun b=>some (b.1,()):=by kernel_rfl
def Af:Any:=.one ⟨Km,aI,1,fun x=>yz F0 x.1 x.2.1⟩
def Ti:a8 219 Af:=aG FF ⟨Mk,trivial⟩ func219 ab (by kernel_rfl)
def Tj:=[(94,e4),(219,Af)]
def yA (s t:ByteArray):=bM Tj F ab f143 Km aI 1 (s,t,())
def af1 (s t:ByteArray):yA F s t=(e3 F0 s).bind fun a=>br a.1 ((e3 F0 t).bind fun b=>br b.1 ((yz F0 s t).bind fun c=>br c.1 (br ((s.size:Int)==(t.size:Int)) (some (true,())) (ck (bh (t.size:Int) (s.size:Int)) (some ((kc s (t.size:Int))==47,())))) (some (false,()))) (some (false,()))) (some (false,())):=by kernel_rfl
def NT:Any:=.one ⟨Km,aI,1,fun x=>yA F0 x.1 x.2.1⟩
def af2:a8 143 NT:=aG Tj ⟨iq,Ti,trivial⟩ func143 ab (by kernel_rfl)
def aar:=[(143,NT)]
def OO (s t:ByteArray):=bM aar F ab f72 Km aI 1 (s,t,())
def alv (s t:ByteArray):OO F s t=(yA F0 s t).bind fun a=>br a.1 (some (true,())) ((yA F0 t s).bind fun b=>some (b.1,())):=by kernel_rfl
def Tk:Any:=.one ⟨Km,aI,1,fun x=>OO F0 x.1 x.2.1⟩
def alw:a8 72 Tk:=aG aar ⟨af2,trivial⟩ func72 ab (by kernel_rfl)
def gG:=[(39,et),(54,nn),(72,Tk)]
def gH:Nat->Option Hint:=look [(4,{live:=[1,11,12,13],rl:=[2]}),(7,{live:=[1,4,11,12,13,18,19,20],xl:=[1,11,12,13],rl:=[2]})]
def jT (a h i j k w b:Int)(c:List Int)(d:List bL)(e:List cI)(f:List b3)(l g:List Int):= ei 42 [cl 1,(4,a7 a),(11,.v (.c (.own 1000000 none))),(12,a7 h),(13,a7 i),(18,.v (.c (.own 1000001 none))),(19,a7 j),(20,a7 k)] [(1,[ar w,ar b,.ro false 3 (.int .i64) c,.ro false 42 (cC) d,.ro false 95 (iT) e,.ro false 91 (dC) f])] [aP 1000000 3 (.int .i64) l,aP 1000001 3 (.int .i64) g]
def Lq (a:Bool):= bk 42 [(2,vE a)]
def I3 (f g w a:Int)(b:List Int)(c:List bL)(d:List cI)(e:List b3)(h:List Int):= ei 42 [cl 1,(11,.v (.c (.own 1000000 none))),(12,a7 f),(13,a7 g)] [(1,[ar w,ar a,.ro false 3 (.int .i64) b,.ro false 42 (cC) c,.ro false 95 (iT) d,.ro false 91 (dC) e])] [aP 1000000 3 (.int .i64) h]
def np (a:St):Option U:=eo gG F gH [.r,.r,.l,.r,.b,.i,.r,.r,.l,.b,.r,.r,.b,.i] f28 J n a
def jU:Ex->St->Option U:=JG Tryz.prog (look gG) F gH [.r,.r,.l,.b,.r,.r,.b] (sub [.r,.r,.l,.r,.b,.i] (cr f28)) (itk Tryz.prog (look gG) F gH (sub [.r,.r,.l,.r,.b,.i] (cr f28)) J n)
def jV (f g w a:Int)(b:List Int)(c:List bL)(d:List cI)(e:List b3)(h:List Int):= ei 42 [cl 1,(11,.v (.c (.own 1000000 none))),(12,a7 f),(13,a7 g)] [(1,[ar w,ar a,.ro false 3 (.int .i64) b,.ro false 42 (cC) c,.ro false 95 (iT) d,.ro false 91 (dC) e])] [aP 1000000 3 (.int .i64) h]
def yB (a:Bool):= bk 42 [(2,vE a)]
def I4   := bk 42 []
def nq (a:St):Option U:=eo gG F gH [.r,.r,.l,.r,.b,.i] f28 J n a
def oH:=jx gG F gH [.r,.r,.l,.r,.b] f28 aI 1
def DD (a i j k c w e:Int)(f:List Int)(b:List bL)(g:List cI)(h:List b3)(l d:List Int):np F J (n+1) (jT a i j k c w e f b g h l d)=br (decide (c<k)) (ck (bh c (d.length:Int)) (ck (bh a (b.length:Int)) (ck (bh (aJ d c 0) (b.length:Int)) ((OO F0 (aJ b a cC.aw).2.2.2.1.2.2.2 (aJ b (aJ d c 0) cC.aw).2.2.2.1.2.2.2).bind fun m=>br (!m.1) (J .ret (Lq false)) (np F J n (jT a i j k (ak (c+1)) w e f b g h l d)))))) (J (.exit 2) (I3 i j w e f b g h l)):=by kernel_rfl
def DE (h a w c:Int)(d:List Int)(e:List bL)(f:List cI)(g:List b3)(b:List Int):nq F J (n+1) (jV h a w c d e f g b)=br (decide (a<h)) (ck (bh a (b.length:Int)) ((lX F0 ((w,c),d,e,f,g)).bind fun i=>np F (jU F J n) F.n (jT (aJ b a 0) h a (i.1.length:Int) 0 w c d e f g b i.1))) (J (.exit 0) (I4)):=by kernel_rfl
def Ya (a:Bool):jU F J n .ret (Lq a)=J .ret (yB a):=by kernel_rfl
def Vj (f g w a:Int)(b:List Int)(c:List bL)(d:List cI)(e:List b3)(h:List Int):jU F J n (.exit 2) (I3 f g w a b c d e h)=nq F J n (jV f (ak (g+1)) w a b c d e h):=by kernel_rfl
def Yb (a:Bool):oH F .ret (yB a)=some (a,()):=by kernel_rfl
def Vk: oH F (.exit 0) (I4)=some (true,()):=by kernel_rfl
def sz (w:iU):=bM gG F gH f28 eI aI 1 (w,())
def acA (w:iU):sz F w=(dd F0 w).bind fun b=>br (!b.1) (some (false,())) ((lX F0 w).bind fun a=>nq F (oH F) F.n (jV (a.1.length:Int) 0 w.1.1 w.1.2 w.2.1 w.2.2.1 w.2.2.2.1 w.2.2.2.2 a.1)):=by kernel_rfl
def yC:Any:=.one ⟨eI,aI,1,fun x=>sz F0 x.1⟩
def NU:a8 28 yC:=aG gG ⟨gF,yy,alw,trivial⟩ func28 gH (by kernel_rfl)
def eM:=[(39,et),(73,ER)]
def eN:Nat->Option Hint:=look [(4,{live:=[1,11,12,13],rl:=[2]}),(7,{live:=[1,4,11,12,13,18,19,20],xl:=[1,11,12,13],rl:=[2]})]
def c4 (i:List b3)(j k:Int)(l:List b3)(m o w b:Int)(c:List Int)(d:List bL)(e:List cI)(f:List b3)(a:Int)(g:ByteArray)(h:Int):= ei 53 [cl 1,cl 4,(11,mU 91 (dC) i),(12,a7 j),(13,a7 k),(18,mU 91 (dC) l),(19,a7 m),(20,a7 o)] [(1,[ar w,ar b,.ro false 3 (.int .i64) c,.ro false 42 (cC) d,.ro false 95 (iT) e,.ro false 91 (dC) f]),(4,[ar a,.str g,ar h])] []
def FG (a:Bool):= bk 53 [(2,vE a)]
def DF (f:List b3)(g h w a:Int)(b:List Int)(c:List bL)(d:List cI)(e:List b3):= ei 53 [cl 1,(11,mU 91 (dC) f),(12,a7 g),(13,a7 h)] [(1,[ar w,ar a,.ro false 3 (.int .i64) b,.ro false 42 (cC) c,.ro false 95 (iT) d,.ro false 91 (dC) e])] []
def dN (a:St):Option U:=eo eM F eN [.r,.r,.l,.r,.b,.i,.r,.r,.l,.b,.r,.r,.b,.i] f29 J n a
def gV:Ex->St->Option U:=JG Tryz.prog (look eM) F eN [.r,.r,.l,.b,.r,.r,.b] (sub [.r,.r,.l,.r,.b,.i] (cr f29)) (itk Tryz.prog (look eM) F eN (sub [.r,.r,.l,.r,.b,.i] (cr f29)) J n)
def gW (f:List b3)(g h w a:Int)(b:List Int)(c:List bL)(d:List cI)(e:List b3):= ei 53 [cl 1,(11,mU 91 (dC) f),(12,a7 g),(13,a7 h)] [(1,[ar w,ar a,.ro false 3 (.int .i64) b,.ro false 42 (cC) c,.ro false 95 (iT) d,.ro false 91 (dC) e])] []
def rW (a:Bool):= bk 53 [(2,vE a)]
def DG   := bk 53 []
def jW (a:St):Option U:=eo eM F eN [.r,.r,.l,.r,.b,.i] f29 J n a
def kK:=jx eM F eN [.r,.r,.l,.r,.b] f29 aI 1
def yD (k:List b3)(l m:Int)(c:List b3)(o b w f:Int)(d:List Int)(g:List bL)(h:List cI)(i:List b3)(a:Int)(j:ByteArray)(e:Int):dN F J (n+1) (c4 k l m c o b w f d g h i a j e)=br (decide (b<o)) (ck (bh b (c.length:Int)) ((DC F0 d e).bind fun p=>br (!p.1) (br (e==(aJ c b dC.aw).2.2) (br (a==(aJ c b dC.aw).1) (br (!(j.toList==(aJ c b dC.aw).2.1.toList)) (J .ret (FG false)) (dN F J n (c4 k l m c o (ak (b+1)) w f d g h i a j e))) (dN F J n (c4 k l m c o (ak (b+1)) w f d g h i a j e))) (dN F J n (c4 k l m c o (ak (b+1)) w f d g h i a j e))) (dN F J n (c4 k l m c o (ak (b+1)) w f d g h i a j e)))) (J (.exit 2) (DF k l m w f d g h i)):=by kernel_rfl
def yE (b:List b3)(d a w e:Int)(f:List Int)(g:List bL)(h:List cI)(c:List b3):jW F J (n+1) (gW b d a w e f g h c)=br (decide (a<d)) (ck (bh a (b.length:Int)) (dN F (gV F J n) F.n (c4 b d a c (c.length:Int) 0 w e f g h c (aJ b a dC.aw).1 (aJ b a dC.aw).2.1 (aJ b a dC.aw).2.2))) (J (.exit 0) (DG)):=by kernel_rfl
def Tl (a:Bool):gV F J n .ret (FG a)=J .ret (rW a):=by kernel_rfl
def Q4 (f:List b3)(g h w a:Int)(b:List Int)(c:List bL)(d:List cI)(e:List b3):gV F J n (.exit 2) (DF f g h w a b c d e)=jW F J n (gW f g (ak (h+1)) w a b c d e):=by kernel_rfl
def Tm (a:Bool):kK F .ret (rW a)=some (a,()):=by kernel_rfl
def Q5: kK F (.exit 0) (DG)=some (true,()):=by kernel_rfl
def nr (w:iU):=bM eM F eN f29 eI aI 1 (w,())
def Yc (w:iU):nr F w=(dd F0 w).bind fun a=>br (!a.1) (some (false,())) (jW F (kK F) F.n (gW w.2.2.2.2 (w.2.2.2.2.length:Int) 0 w.1.1 w.1.2 w.2.1 w.2.2.1 w.2.2.2.1 w.2.2.2.2)):=by kernel_rfl
def rX:Any:=.one ⟨eI,aI,1,fun x=>nr F0 x.1⟩
def I5:a8 29 rX:=aG eM ⟨gF,Tg,trivial⟩ func29 eN (by kernel_rfl)
def cd:=[(39,et),(54,nn),(74,IY)]
def cg:Nat->Option Hint:=look [(5,{live:=[1,3,18,19,20],mat:=[(3,27,K9)],wk:=[3],xl:=[1,3],rl:=[2]}),(10,{live:=[1,3,36,37,38],xl:=[3],rl:=[2]}),(20,{live:=[3,68,69,70],rl:=[2]}),(23,{live:=[3,11,68,69,70,74,75,76],xl:=[3,68,69,70],rl:=[2]})]
def eU (d e f g a:Int)(b:ByteArray)(c:List Int)(h:List D9):= ei 94 [(3,.v (.c (.own 1000000 none))),cl 11,(68,.v (.c (.own 1000000 none))),(69,a7 d),(70,a7 e),(74,.v (.c (.own 1000000 none))),(75,a7 f),(76,a7 g)] [(11,[ar a,.str b,.ro false 3 (.int .i64) c])] [(1000000,some ⟨27,K9,h,false,true⟩)]
def FH (a:Bool):= bk 94 [(2,vE a)]
def DH (a b:Int)(c:List D9):= ei 94 [(3,.v (.c (.own 1000000 none))),(68,.v (.c (.own 1000000 none))),(69,a7 a),(70,a7 b)] [] [(1000000,some ⟨27,K9,c,false,true⟩)]
def gq (a:St):Option U:=eo cd F cg [.r,.r,.r,.r,.r,.l,.r,.b,.i,.r,.r,.l,.b,.r,.r,.b,.i] f30 J n a
def gX:Ex->St->Option U:=JG Tryz.prog (look cd) F cg [.r,.r,.l,.b,.r,.r,.b] (sub [.r,.r,.r,.r,.r,.l,.r,.b,.i] (cr f30)) (itk Tryz.prog (look cd) F cg (sub [.r,.r,.r,.r,.r,.l,.r,.b,.i] (cr f30)) J n)
def eV (a b:Int)(c:List D9):= ei 94 [(3,.v (.c (.own 1000000 none))),(68,.v (.c (.own 1000000 none))),(69,a7 a),(70,a7 b)] [] [(1000000,some ⟨27,K9,c,false,true⟩)]
def rY (a:Bool):= bk 94 [(2,vE a)]
def DI   := bk 94 []
def gr (a:St):Option U:=eo cd F cg [.r,.r,.r,.r,.r,.l,.r,.b,.i] f30 J n a
def gY:=jx cd F cg [.r,.r,.r,.r,.r,.l,.r,.b] f30 aI 1
def c5 (f:List cI)(g h w a:Int)(b:List Int)(c:List bL)(d:List cI)(e:List b3)(i:List D9):= ei 94 [cl 1,(3,.v (.c (.own 1000000 none))),(36,mU 95 (iT) f),(37,a7 g),(38,a7 h)] [(1,[ar w,ar a,.ro false 3 (.int .i64) b,.ro false 42 (cC) c,.ro false 95 (iT) d,.ro false 91 (dC) e])] [(1000000,some ⟨27,K9,i,false,true⟩)]
def px (a:List D9):= ei 94 [(3,.v (.c (.own 1000000 none)))] [] [(1000000,some ⟨27,K9,a,false,true⟩)]
def dO (a:St):Option U:=eo cd F cg [.r,.r,.r,.r,.l,.r,.b,.i] f30 J n a
def eW:=jx cd F cg [.r,.r,.r,.r,.l,.r,.b] f30 aI 1
def gZ (g h w a:Int)(b:List Int)(c:List bL)(d:List cI)(e:List b3)(i:List D9)(f:List Int):= ei 94 [cl 1,(3,.v (.c (.own 1000000 none))),(18,.v (.c (.own 1000001 none))),(19,a7 g),(20,a7 h)] [(1,[ar w,ar a,.ro false 3 (.int .i64) b,.ro false 42 (cC) c,.ro false 95 (iT) d,.ro false 91 (dC) e])] [(1000000,some ⟨27,K9,i,false,true⟩),aP 1000001 3 (.int .i64) f]
def DJ (w a:Int)(b:List Int)(c:List bL)(d:List cI)(e:List b3)(f:List D9):= ei 94 [cl 1,(3,.v (.c (.own 1000000 none)))] [(1,[ar w,ar a,.ro false 3 (.int .i64) b,.ro false 42 (cC) c,.ro false 95 (iT) d,.ro false 91 (dC) e])] [(1000000,some ⟨27,K9,f,false,true⟩)]
def jX (a:St):Option U:=eo cd F cg [.r,.r,.r,.l,.r,.b,.i] f30 J n a
def kL:=jx cd F cg [.r,.r,.r,.l,.r,.b] f30 aI 1
def yF (e f g b a:Int)(d:ByteArray)(h:List Int)(c:List D9):gq F J (n+1) (eU e f g b a d h c)=br (decide (b<g)) (ck (bh b (c.length:Int)) (br (a==(aJ c b K9.aw).1) (br (!(d.toList==(aJ c b K9.aw).2.1.toList)) (J .ret (FH false)) (gq F J n (eU e f g (ak (b+1)) a d h c))) (gq F J n (eU e f g (ak (b+1)) a d h c)))) (J (.exit 7) (DH e f c)):=by kernel_rfl
def yG (c a:Int)(b:List D9):gr F J (n+1) (eV c a b)=br (decide (a<c)) (ck (bh a (b.length:Int)) (gq F (gX F J n) F.n (eU c a (b.length:Int) 0 (aJ b a K9.aw).1 (aJ b a K9.aw).2.1 (aJ b a K9.aw).2.2 b))) (J (.exit 5) (DI)):=by kernel_rfl
def yH (d:List cI)(f a w e:Int)(g:List Int)(h:List bL)(i:List cI)(j:List b3)(b:List D9):dO F J (n+1) (c5 d f a w e g h i j b)=br (decide (a<f)) (ck (bh a (d.length:Int)) ((IX F0 (w,e) (aJ d a (0,[])).2).bind fun c=>br (c.1.1==1) (ck (fA F b.length [c.1.2.2.1.2].length 48) (dO F J n (c5 d f (ak (a+1)) w e g h i j (b++[c.1.2.2.1.2])))) (br (c.1.1==3) (ck (fA F b.length [c.1.2.2.2.2.1].length 48) (dO F J n (c5 d f (ak (a+1)) w e g h i j (b++[c.1.2.2.2.2.1])))) (dO F J n (c5 d f (ak (a+1)) w e g h i j b))))) (J (.exit 2) (px b)):=by kernel_rfl
def yI (i a w e:Int)(f:List Int)(b:List bL)(g:List cI)(h:List b3)(d:List D9)(c:List Int):jX F J (n+1) (gZ i a w e f b g h d c)=br (decide (a<i)) (ck (bh a (c.length:Int)) (ck (bh (aJ c a 0) (b.length:Int)) (ck (fA F d.length [(aJ b (aJ c a 0) cC.aw).2.2.2.1.2.2.1].length 48) (jX F J n (gZ i (ak (a+1)) w e f b g h (d++[(aJ b (aJ c a 0) cC.aw).2.2.2.1.2.2.1]) c))))) (J (.exit 0) (DJ w e f b g h d)):=by kernel_rfl
def Tn (a:Bool):gX F J n .ret (FH a)=J .ret (rY a):=by kernel_rfl
def Q6 (a b:Int)(c:List D9):gX F J n (.exit 7) (DH a b c)=gr F J n (eV a (ak (b+1)) c):=by kernel_rfl
def To (a:Bool):gY F .ret (rY a)=some (a,()):=by kernel_rfl
def Q7: gY F (.exit 5) (DI)=some (true,()):=by kernel_rfl
def Q8 (a:List D9):eW F (.exit 2) (px a)=gr F (gY F) F.n (eV (a.length:Int) 0 a):=by kernel_rfl
def Q9 (w b:Int)(c:List Int)(d:List bL)(a:List cI)(e:List b3)(f:List D9):kL F (.exit 0) (DJ w b c d a e f)=dO F (eW F) F.n (c5 a (a.length:Int) 0 w b c d a e f):=by kernel_rfl
def ns (w:iU):=bM cd F cg f30 eI aI 1 (w,())
def Yd (w:iU):ns F w=(dd F0 w).bind fun b=>br (!b.1) (some (false,())) ((lX F0 w).bind fun a=>jX F (kL F) F.n (gZ (a.1.length:Int) 0 w.1.1 w.1.2 w.2.1 w.2.2.1 w.2.2.2.1 w.2.2.2.2 [] a.1)):=by kernel_rfl
def rZ:Any:=.one ⟨eI,aI,1,fun x=>ns F0 x.1⟩
def I6:a8 30 rZ:=aG cd ⟨gF,yy,WW,trivial⟩ func30 cg (by kernel_rfl)
def rk:Nat->Option Hint:=look [(3,{live:=[0,1,2],F4:=[(0,0,3,.int .i64),(0,1,3,.int .i64),(1,0,3,.int .i64)],xl:=[0,1],rl:=[0]})]
def fo (i:Int)(d a b c:List Int):= ei 15 [cl 0,cl 1,(2,a7 i)] [(0,[.own 1000000 none,.own 1000001 none]),(1,[.own 1000002 none,.own 1000003 none])] [aP 1000000 3 (.int .i64) d,aP 1000001 3 (.int .i64) a,aP 1000002 3 (.int .i64) b,aP 1000003 3 (.int .i64) c]
def FI (d a b c:List Int):= ei 15 [cl 0,cl 1] [(0,[.own 1000000 none,.own 1000001 none]),(1,[.own 1000002 none,.own 1000003 none])] [aP 1000000 3 (.int .i64) d,aP 1000001 3 (.int .i64) a,aP 1000002 3 (.int .i64) b,aP 1000003 3 (.int .i64) c]
def hV (a:St):Option U:=eo ax F rk [.r,.r,.l,.r,.b,.i] f79 J n a
def iu:=jx ax F rk [.r,.r,.l,.r,.b] f79 km 2
def Ag (i:Int)(d b a c:List Int):hV F J (n+1) (fo i d b a c)=br (decide (i<4)) (ck (fA F a.length [100].length 8) (hV F J n (fo (ak (i+1)) d b (a++[100]) c))) (J (.exit 0) (FI d b a c)):=by kernel_rfl
def Tp (d c a b:List Int):iu F (.exit 0) (FI d c a b)=some ((a,b),()):=by kernel_rfl
def py: Option (Args km):=bM ax F rk f79 [] km 2 (())
def aas: py F= ck (okM F 4 4 8) (hV F (iu F) F.n (fo 0 [] [] [] (List.replicate (4:Int).toNat 0))):=by kernel_rfl
def uG:Any:=.one ⟨[],km,2,fun x=>py F0⟩
def Lr:a8 79 uG:=aG ax trivial func79 rk (by kernel_rfl)
def G9:=[(141,yh)]
def Ha:Nat->Option Hint:=look [(4,{live:=[5,13,14,15],mat:=[(5,99,K4)],xl:=[5],rl:=[2]})]
def yJ (b c:Int)(d:List D4)(a:List D6):= ei 25 [(5,.v (.c (.own 1000000 none))),(13,.v (.c (.own 1000001 none))),(14,a7 b),(15,a7 c)] [] [aP 1000000 99 K4 d,aP 1000001 163 K6 a]
def QI (a:List D4):= ei 25 [(5,.v (.c (.own 1000000 none)))] [] [aP 1000000 99 K4 a]
def Hb (a:St):Option U:=eo G9 F Ha [.r,.r,.r,.l,.r,.b,.i] f77 J n a
def I7:=jx G9 F Ha [.r,.r,.r,.l,.r,.b] f77 n2 2
def Ls (d a:Int)(c:List D4)(b:List D6):Hb F J (n+1) (yJ d a c b)=br (decide (a<d)) (ck (bh a (b.length:Int)) (ck (fA F c.length (aJ b a (0,[])).2.length 32) (Hb F J n (yJ d (ak (a+1)) (c++(aJ b a (0,[])).2) b)))) (J (.exit 0) (QI c)):=by kernel_rfl
def acB (a:List D4):I7 F (.exit 0) (QI a)=some (a,()):=by kernel_rfl
def Bp (s:ByteArray):=bM G9 F Ha f77 dc n2 2 (s,())
def alx (s:ByteArray):Bp F s=(Bf F0 s).bind fun a=>Hb F (I7 F) F.n (yJ (a.1.length:Int) 0 [] a.1):=by kernel_rfl
def I8:Any:=.one ⟨dc,n2,2,fun x=>Bp F0 x.1⟩
def WY:a8 77 I8:=aG G9 ⟨Me,trivial⟩ func77 Ha (by kernel_rfl)
def CH (l:List Int):=bM ax F ab f99 pP pP 2 (l,())
def NV (l:List Int):CH F l=ck (fA F 0 l.length 8) (some ([]++l,())):=by kernel_rfl
def Lt:Any:=.one ⟨pP,pP,2,fun x=>CH F0 x.1⟩
def acC:a8 99 Lt:=aG ax trivial func99 ab (by kernel_rfl)
def Lu:=[(99,Lt)]
def jh (l:D10):=bM Lu F ab f150 km km 2 (l,())
def Ye (l:D10):jh F l=(CH F0 l.1).bind fun a=>(CH F0 l.2).bind fun b=>some ((a.1,b.1),()):=by kernel_rfl
def r0:Any:=.one ⟨km,km,2,fun x=>jh F0 x.1⟩
def I9:a8 150 r0:=aG Lu ⟨acC,trivial⟩ func150 ab (by kernel_rfl)
end
end Go.Am.Tryz
