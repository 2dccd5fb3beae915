/- No condition. -/
import Derived.WalkKit
import Derived.KernelRfl
import Derived.Deep.Quiet
import Derived.OrdersHeld
import Derived.Deep.RegionHeld3
set_option linter.all false
namespace Go.Am
abbrev aD:= @Bool.and_eq_true
abbrev aW:= @List.length_append
abbrev aT:= @decide_eq_false
abbrev aS:= @decide_eq_true
abbrev bG:= @List.length_cons
abbrev ah:= @if_neg
abbrev aX:= @Nat.zero_le
abbrev an:= @if_pos
abbrev cp:= @List.length_take
abbrev ej:= @List.length_singleton
abbrev aR:= @Nat.le_trans
abbrev bd:= @List.length_nil
abbrev bJ:= @decide_eq_true_eq
abbrev bX:= @beq_eq_false_iff_ne
abbrev aZ:= @Bool.not_true
abbrev b7:= @List.length_drop
abbrev fy:= @Option.isSome_iff_exists
abbrev cB:= @List.getElem_mem
abbrev bu:= @Nat.le_refl
abbrev mO:= @List.getElem?_eq_getElem
abbrev oQ:= @List.getElem?_eq_some_iff
abbrev rG:= @Array.getElem?_eq_some_iff
abbrev eE:= @Option.some.inj
abbrev h7:= @List.mem_singleton
abbrev fL:= @List.all_eq_true
abbrev dK:= @List.mem_cons
abbrev fM:= @List.mem_append
abbrev cH:= @beq_iff_eq
abbrev gO:= @List.append_nil
abbrev jr:= @List.take_length
abbrev gP:= @List.mem_range
abbrev rH:= @List.mem_cons_of_mem
abbrev gQ:= @Bool.not_false
abbrev mP:= @List.append_assoc
abbrev kl:= @Bool.or_eq_true
abbrev oR:= @Int.toNat_natCast
abbrev vq:= @Array.toArray_toList
abbrev Mp:= @Array.getD_eq_getD_getElem?
abbrev y6:= @Nat.mul_le_mul_right
abbrev n1:= @List.length_map
abbrev kO:= @Bool.true_and
abbrev C1:= @Nat.lt_of_lt_of_le
abbrev Vz:= @List.eq_nil_of_length_eq_zero
abbrev C2:= @of_decide_eq_true
abbrev vr:= @List.nil_append
abbrev rI:= @List.map_cons
abbrev VA:= @List.getD_eq_getElem?_getD
abbrev C3:= @beq_self_eq_true
abbrev VB:= @List.mem_of_find?_eq_some
abbrev HB:= @Bool.eq_false_iff
abbrev EX:= @List.cons_append
abbrev JK:= @List.getElem?_take
abbrev JL:= @List.mem_cons_self
abbrev uO:= @List.cons.inj
abbrev fz:= @if_false
abbrev Ps:= @Bool.or_eq_false_iff
abbrev JM:= @List.take_add_one
abbrev uP:= @Nat.zero_add
abbrev y7:= @Bool.false_or
abbrev Ri:= @bne_eq_false_iff_eq
abbrev adx:= @List.drop_eq_getElem_cons
abbrev VC:= @List.mem_of_mem_take
abbrev Rj:= @Nat.pos_of_ne_zero
abbrev gg:= @if_true
abbrev al0:= @Int.tmod_eq_emod_of_nonneg
abbrev Rk:= @List.length_set
abbrev JN:= @List.mem_map
abbrev al1:= @Classical.byContradiction
abbrev C4:= @bne_iff_ne
abbrev HC:= @Nat.add_mul
abbrev ady:= @List.getElem?_drop
abbrev adz:= @Nat.eq_zero_or_pos
abbrev Rl:= @Nat.add_assoc
abbrev apM:= @Int.tdiv_eq_ediv_of_nonneg
abbrev YU:= @Nat.not_lt_zero
abbrev Mq:= @Prod.mk.inj
abbrev adA:= @Array.toList_map
abbrev agw:= @Int.emod_lt_of_pos
abbrev Pt:= @Int.le_refl
abbrev YV:= @List.drop_zero
abbrev YW:= @Bool.false_and
abbrev YX:= @Bool.and_false
abbrev agx:= @Bool.not_eq_true'
abbrev auH:= @Array.getElem?_setIfInBounds
abbrev adB:= @List.find?_some
abbrev VD:= @Nat.add_zero
abbrev VE:= @Nat.lt_or_ge
abbrev apN:= @List.take_of_length_le
abbrev VF:= @Int.pow_succ
abbrev agy:= @List.not_mem_nil
abbrev al2:= @Bool.false_eq_true
abbrev al3:= @Array.any_eq_true'
abbrev apO:= @List.length_filter_le
abbrev agz:= @List.map_append
abbrev agA:= @Int.emod_nonneg
abbrev VG:= @Nat.one_mul
abbrev al4:= @List.all_eq_false
abbrev HD:= @BEq.comm
abbrev al5:= @List.length_range
abbrev adC:= @Nat.lt_irrefl
abbrev agB:= @Int.toNat_of_nonneg
abbrev agC:= @List.getElem_of_mem
abbrev anj:= @Nat.le_mul_of_pos_right
abbrev abo:= @List.drop_length
abbrev agD:= @List.find?_eq_none
abbrev Rm:= @Nat.sub_zero
abbrev agE:= @Option.toList_some
abbrev Au:= @congrArg
abbrev abp:= @Nat.min_eq_left
abbrev Av:= @Prod.ext
abbrev ank:= @List.take_append_drop
abbrev anl:= @List.set_getElem_self
abbrev agF:= @bne_self_eq_false
abbrev anm:= @List.getElem?_append
abbrev ann:= @List.mem_iff_getElem
abbrev ano:= @List.mem_of_getElem?
abbrev anp:= @List.mem_of_mem_drop
abbrev agG:= @Option.bind_some
abbrev Xg:= @Bool.true_or
abbrev ast:= @Array.getElem?_eq_getElem
abbrev asu:= @List.mem_or_eq_of_mem_set
abbrev anq:= @of_decide_eq_false
abbrev asv:= @decide_eq_false_iff_not
abbrev abq:= @Nat.beq_refl
abbrev asw:= @Array.getElem?_eq_none
abbrev abr:= @Nat.succ_pos
abbrev asx:= @List.drop_eq_nil_of_le
abbrev asy:= @ByteArray.size_extract
abbrev asz:= @Nat.div_lt_iff_lt_mul
abbrev anr:= @Nat.mod_eq_of_lt
abbrev ans:= @List.countP_cons
abbrev agH:= @List.sum_cons
abbrev agI:= @Nat.zero_mul
abbrev agJ:= @Nat.ne_of_lt
abbrev agK:= @Nat.le_of_eq
abbrev abt:= @Nat.mod_lt
inductive Ty where
 |int (k:IntKind)|bool|str|unit
 |pair (a b:Ty)
 |sl (e:TypeId) (t:Ty)
@[reducible] def Ty.D:Ty->Type
 |.int _=>Int|.bool=>Bool|.str=>ByteArray|.unit=>Unit|.pair a b=>a.D×b.D|.sl _ t=>List t.D
def Ty.aw:(t:Ty)->t.D
 |.int _=>(0:Int)|.bool=>false|.str=>ByteArray.empty|.unit=>()|.pair a b=>(a.aw,b.aw)|.sl _ _=>[]
def Ty.n:Ty->Nat
 |.int _|.bool|.str|.sl _ _=>1|.unit=>0|.pair a b=>a.n+b.n
def asA:IntKind->IntKind->Bool
 |.i8,.i8|.i16,.i16|.i32,.i32|.i64,.i64|.u8,.u8|.u16,.u16|.u32,.u32|.u64,.u64=>true|_,_=>false
def YY {a b:IntKind}(h:asA a b=true):a=b:=by cases a<;>cases b<;>first|rfl|cases h
def Ty.beq:Ty->Ty->Bool
 |.int k,.int l=>asA k l|.bool,.bool|.str,.str|.unit,.unit=>true|.pair a b,.pair c d=>a.beq c&&b.beq d|.sl e t,.sl f u=>Nat.beq e f&&t.beq u|_,_=>false
def Ty.beq_eq:∀{a b:Ty},a.beq b=true->a=b
 |.int k,.int l,h=>by rw[YY (show asA k l=true from h)]
 |.bool,.bool,_|.str,.str,_|.unit,.unit,_=>rfl|.pair a b,.pair c d,h=>by have g:(a.beq c&&b.beq d)=true:=h;rw[Bool.and_eq_true]at g;rw[Ty.beq_eq g.1,Ty.beq_eq g.2]
 |.sl e t,.sl f u,h=>by have g:(Nat.beq e f&&t.beq u)=true:=h;rw[Bool.and_eq_true]at g;rw[Nat.eq_of_beq_eq_true g.1,Ty.beq_eq g.2]
def apP:List Ty->Ty
 |[]=>.unit|[a]=>a|a::b::l=>.pair a (apP (b::l))
def ant (P:Program):Nat->TypeId->Option Ty
 |0,_=>none
 |n+1,t =>
  match P.underlying t with
  |some (.int k)=>some (.int k)|some .bool=>some .bool|some .string=>some .str|some (.slice e)=>(ant P n e).map (.sl e)|some (.struct a)=>(a.toList.mapM fun f=>ant P n f.type).map apP
  |some (.array m e)=>(ant P n e).map fun t=>apP (List.replicate m t)
  |_=>none
inductive AC where
 |none
 |int (k:IntKind) (n:Int)
 |bool (b:Bool)
 |str (s:ByteArray)
 |nil
 |ro (f:Bool) (e:TypeId) (t:Ty) (xs:List t.D)
 |own (id:Nat) (len:Option Int)
 |ptr (b:Nat) (off:Nat)
 |vt (id:Nat) (i:Int) (off:Nat)
 |Oc (f:Bool) (t:Ty) (x:t.D) (off:Nat)
 |fnp (g:Nat) (b:Nat)
 |any
inductive CV where
 |c (x:AC)
 |agg (l:List AC)
inductive AV where
 |v (x:CV)
 |Od (l:List CV)
def CV.cells:CV->List AC
 |.c x=>[x]|.agg l=>l
structure eC where
 e:TypeId
 t:Ty
 xs:List t.D
 f:Bool
 w:Bool
structure St where
 nt:Nat
 tm:List (Nat×AV)
 bx:List (Nat×List AC)
 bl:List (Nat×Option eC)
 sp:AV:=.v (.c .none)
 rob:List Nat:=[]
def look {U:Type}:List (Nat×U)->Nat->Option U
 |[],_=>none|(k,v)::l,n=>match Nat.beq k n with|true=>some v|false=>look l n
def St.get (st:St)(t:Nat):AV:=match look st.tm t with|some v=>v|none=>.v (.c .none)
def St.put (st:St)(d:Nat)(v:AV):St:={st with tm:=(d,v)::st.tm}
def St.nO (st:St)(id:Nat):Option eC:=match look st.bl id with|some b=>b|none=>none
def ck {U:Type}(c:Bool)(k:Option U):Option U:=match c with|true=>k|false=>none
def br {U:Type}(c:Bool)(x y:U):U:=match c with|true=>x|false=>y
def Rn:Value->AC
 |.int k n=>.int k n|.bool b=>.bool b|.string s=>.str s|.slice none 0 0=>.nil|_=>.none
def JO:Value->CV
 |.agg cs=>.agg (cs.toList.map Rn)|v=>.c (Rn v)
def St.ev (st:St):Operand->AV
 |.tmp t=>st.get t|.const v=>.v (JO v)|_=>.v (.c .none)
def St.dB (st:St)(o:Operand):CV:=match st.ev o with|.v x=>x|.Od _=>.c .none
def St.ac (st:St)(o:Operand):AC:=match st.dB o with|.c x=>x|.agg _=>.none
def CV.kn:CV->Bool
 |.c .none=>false|_=>true
def ex (f:Bool):(t:Ty)->t.D->List AC
 |.int k,x=>[.int k x]|.bool,x=>[.bool x]|.str,x=>[.str x]|.unit,_=>[]|.pair a b,x=>ex f a x.1++ex f b x.2|.sl e t,x=>[.ro f e t x]
def Ro {t u:Ty}(h:t=u)(x:List t.D):List u.D:=h▸x
def HE {U:Type}(xs:List U):Option Int->List U
 |none=>xs|some n=>xs.take n.toNat
def b8 (st:St)(e:TypeId)(t:Ty):AC->Option (List t.D)
 |.nil=>some []|.ro _ a u xs=>match Nat.beq a e with
  |true=>if h:u.beq t=true then some (Ro (Ty.beq_eq h) xs) else none|false=>none
 |.own id len=>match st.nO id with
  |some b=>match Nat.beq b.e e with
   |true=>if h:b.t.beq t=true then some (HE (Ro (Ty.beq_eq h) b.xs) len) else none|false=>none
  |none=>none
 |_=>none
def eOf (st:St):AC->TypeId
 |.ro _ e _ _=>e|.own id _=>match st.nO id with|some b=>b.e|none=>0
 |_=>0
def big (t:Ty):Bool:=Nat.ble 8 t.n
def im (st:St):(t:Ty)->List AC->Option (t.D×List AC)
 |.int k,.int l n::r=>if asA l k then some (n,r) else none|.bool,.bool b::r=>some (b,r)|.str,.str s::r=>some (s,r)|.unit,r=>some ((),r)|.pair a b,r=>match im st a r with
  |some (x,d)=>match im st b d with
   |some (y,f)=>some ((x,y),f)|none=>none
  |none=>none
 |.sl e t,c::r=>match b8 st e t c with
  |some xs=>some (xs,r)|none=>none
 |_,_=>none
@[reducible] def Args:List (Ty×Bool)->Type
 |[]=>Unit|a::l=>a.1.D×Args l
structure Con where
 ps:List (Ty×Bool)
 rs:List (Ty×Bool)
 m:Nat
 g:Args ps->Option (Args rs)
inductive PM where
 |rd|own (f:Bool)|box|cur
structure JD where
 ps:List (Ty×Bool)
 i:Nat
 pm:PM
 rs:List (Ty×Bool)
 m:Nat
 qs:List (Ty×Bool)
 g:Args ps->Option (Args rs×Args qs)
structure Idx where
 g:Nat
 a:Ty×Bool
 q:Ty
 p:a.1.D->q.D->Bool
structure Sel where
 ps:List (Ty×Bool)
 i:Nat
 a:Ty×Bool
 b:Ty×Bool
 q:Ty×Bool
 g:Args ps->Option (a.1.D×b.1.D×q.1.D)
def agL:(t:Ty)->t.D->Bool
 |.bool,x=>x|.int _,x=>x==0|_,_=>false
def aCU:(t:Ty)->t.D->t.D
 |.bool,_=>true|.int _,_=>(0:Int)|_,x=>x
def aCV:(t:Ty)->t.D->t.D
 |.bool,_=>false|_,x=>x
inductive Any where
 |one (c:Con)|two (c:JD)|sel (c:Sel)|idx (i:Idx)
 |ins (e:TypeId) (u:Ty)
 |del (e:TypeId) (u:Ty)
def axA {U:Type}(p:U->Bool):List U->Int->Int
 |[],_=>-1|x::l,i=>match p x with|true=>i|false=>axA p l (i+1)
def flat:Ty->Bool
 |.int _|.bool|.str|.unit=>true|.pair a b=>flat a&&flat b|.sl _ _=>false
def exR (id:Nat)(f:Bool):(t:Ty)->t.D->Nat->List AC×List (Nat×Option eC)
 |.int k,x,_=>([.int k x],[])|.bool,x,_=>([.bool x],[])|.str,x,_=>([.str x],[])|.unit,_,_=>([],[])|.pair a b,x,c=>((exR id f a x.1 c).1++(exR id f b x.2 (c+a.n)).1,(exR id f a x.1 c).2++(exR id f b x.2 (c+a.n)).2)|.sl e t,x,c=>([.own (id*64+c) none],[(id*64+c,some ⟨e,t,x,f || flat t,true⟩)])
structure nP where
 n:Nat
 mem:Int
 str:Int
@[reducible] def nP.JE (n:Nat):nP:=⟨n,140737488355328,9223372036854775807⟩
def aBi {U:Type}(d:BinOp)(c:IntKind)(a b:Int)(k:AC->Option U):Option U :=
 match d with
 |.add=>k (.int c (c.wrap (a+b)))|.sub=>k (.int c (c.wrap (a-b)))|.mul=>k (.int c (c.wrap (a*b)))|.quo=>ck (!(b==0)) (k (.int c (c.wrap (a.tdiv b))))|.rem=>ck (!(b==0)) (k (.int c (a.tmod b)))|.and=>k (.int c (c.wrap (BitVec.ofInt c.bits a &&& BitVec.ofInt c.bits b).toNat))|.or=>k (.int c (c.wrap (BitVec.ofInt c.bits a ||| BitVec.ofInt c.bits b).toNat))|.xor=>k (.int c (c.wrap (BitVec.ofInt c.bits a ^^^ BitVec.ofInt c.bits b).toNat))|.eql=>k (.bool (a==b))|.neq=>k (.bool (a != b))|.lss=>k (.bool (decide (a<b)))|.leq=>k (.bool (decide (a<=b)))|.gtr=>k (.bool (decide (a>b)))|.geq=>k (.bool (decide (a>=b)))|_=>none
def auJ {U:Type}(d:BinOp)(c:IntKind)(a b:Int)(k:AC->Option U):Option U :=
 match d with
 |.shl=>ck (decide (0<=b)) (k (.int c (c.wrap (a*2 ^ (min b.toNat c.bits)))))|.shr=>ck (decide (0<=b)) (k (.int c (a.fdiv (2 ^ (min b.toNat c.bits)))))|_=>none
def aBj {U:Type}(F:nP)(c:BinOp)(a b:ByteArray)(k:AC->Option U):Option U :=
 match c with
 |.add=>ck (decide (((a.size+b.size:Nat):Int)<=F.str)) (k (.str (a++b)))|.eql=>k (.bool (a.toList==b.toList))|.neq=>k (.bool (!(a.toList==b.toList)))|.lss=>k (.bool (Op.bytesLess a.toList b.toList))|.leq=>k (.bool (Op.bytesLess a.toList b.toList || a.toList==b.toList))|.gtr=>k (.bool (!(Op.bytesLess a.toList b.toList || a.toList==b.toList)))|.geq=>k (.bool (!(Op.bytesLess a.toList b.toList)))|_=>none
def az0 {U:Type}(P:Program)(F:nP)(c:BinOp)(e:TypeId)(x y:AC)(k:AC->Option U):Option U :=
 match x,y with
 |.int d a,.int f b=>match c with
  |.shl|.shr=>auJ c d a b k|_=>ck (asA d f) (aBi c d a b k)
 |.str a,.str b=>aBj F c a b k|.bool a,.bool b=>match P.underlying e,c with
  |some .bool,.eql=>k (.bool (a==b))|some .bool,.neq=>k (.bool (!(a==b)))|_,_=>none
 |_,_=>none
def eqFields (P:Program):List Field->Nat->List AC->List AC->Option Bool
 |[],_,[],[]=>some true
 | f :: d, i, a :: r, b :: s => match Nat.beq f.offset i && !(f.name == "_") with
  |true=>match eqFields P d (i+1) r s with
   |some c=>match P.underlying f.type,a,b with
    |some (.int _),.int k x,.int l y=>match asA k l with|true=>some ((x==y)&&c)|false=>none
    |some .string,.str x,.str y=>some ((x.toList==y.toList)&&c)|some .bool,.bool x,.bool y=>some ((x==y)&&c)|_,_,_=>none
   |none=>none
  |false=>none
 |_,_,_,_=>none
def agM (P:Program)(t:TypeId)(l m:List AC):Option Bool :=
 match P.underlying t with
 |some (.struct a)=>match P.stoodInHeld t || P.eqGuardType P.depth t with
  |false=>eqFields P a.toList 0 l m|true=>none
 |_=>none
def agN (st:St):AC->Option Int
 |.nil=>some 0|.ro _ _ _ xs=>some (xs.length:Int)|.own _ (some n)=>some n|.own id none=>match st.nO id with|some b=>some (b.xs.length:Int)|none=>none
 |.str s=>some (s.size:Int)|_=>none
def apR (P:Program)(t:TypeId)(f:Nat):Option Nat :=
 match P.underlying t with
 |some (.struct a)=>match a[f]? with
  |some x=>match P.cellsOf x.type with
   |0=>none|_=>some x.offset
  |none=>none
 |_=>none
def anu (P:Program)(t:TypeId)(f:Nat):Option (TypeId×Nat) :=
 match P.underlying t with
 |some (.struct a)=>match a[f]? with
  |some x=>some (x.type,x.offset)|none=>none
 |_=>none
def UX (P:Program)(t:TypeId):Option Bool :=
 match P.underlying t with
 |some (.struct _)|some (.array _ _)=>some true|some _=>some false|none=>none
def C5 (P:Program)(t:TypeId):Option TypeId :=
 match P.underlying t with
 |some (.slice e)=>some e|_=>none
def Eb {U:Type}:List U->Nat->U->List U
 |[],_,_=>[]|_::l,0,v=>v::l|x::l,n+1,v=>x::Eb l n v
def kb {U:Type}:List U->Nat->Option U
 |[],_=>none|x::_,0=>some x|_::l,n+1=>kb l n
def rJ {U:Type}:Nat->List U->List U
 |0,_=>[]|_+1,[]=>[]|n+1,x::l=>x::rJ n l
def rK {U:Type}:Nat->List U->List U
 |0,l=>l|_+1,[]=>[]|n+1,_::l=>rK n l
def F2 {U:Type}:List U->Nat->List U->List U
 |l,_,[]=>l|l,n,v::a=>F2 (Eb l n v) (n+1) a
def y4 (st:St):(t:Ty)->t.D->Nat×List AC->Option (t.D×(Nat×List AC))
 |.unit,x,s=>some (x,s)|.pair a b,x,s=>match y4 st a x.1 s with
  |some (y,f)=>match y4 st b x.2 f with
   |some (z,g)=>some ((y,z),g)|none=>none
  |none=>none
 |.int k,x,(0,c::r)=>match im st (.int k) [c]with|some (n,_)=>some (n,(0,r))|none=>none
 |.bool,x,(0,c::r)=>match im st .bool [c]with|some (n,_)=>some (n,(0,r))|none=>none
 |.str,x,(0,c::r)=>match im st .str [c]with|some (n,_)=>some (n,(0,r))|none=>none
 |.sl e t,x,(0,c::r)=>match im st (.sl e t) [c]with|some (n,_)=>some (n,(0,r))|none=>none
 |.int _,x,(0,[])=>some (x,(0,[]))|.bool,x,(0,[])=>some (x,(0,[]))|.str,x,(0,[])=>some (x,(0,[]))|.sl _ _,x,(0,[])=>some (x,(0,[]))|.int _,x,(d+1,l)=>some (x,(d,l))|.bool,x,(d+1,l)=>some (x,(d,l))|.str,x,(d+1,l)=>some (x,(d,l))|.sl _ _,x,(d+1,l)=>some (x,(d,l))
def St.df (st:St):AC->St
 |.own id _=>match st.nO id with
  |some b=>{st with bl:=(id,some {b with w:=false})::st.bl}
  |none=>st
 |_=>st
def St.freeze (st:St)(l:List AC):St:=l.foldl St.df st
def adD:List AC->Bool
 |[]=>true|.none::_=>false|_::l=>adD l
def asC (id:Nat):List AC->Bool
 |[]=>true|.own i _::l=> !Nat.beq i id&&asC id l|_::l=>asC id l
def bT:List AC->Bool
 |[]=>true|.ro f _ _ _::l=>f&&bT l|_::l=>bT l
def nQ (st:St):List AC->Bool
 |[]=>true|.own id _::l=>(match st.nO id with|some b=>b.f|none=>false)&&nQ st l
 |_::l=>nQ st l
def kc (s:ByteArray)(i:Int):Int:=((s.data.toList.getD i.toNat 0).toNat:Int)
def bytesOf (s:ByteArray):List Int:=s.data.toList.map fun b=>(b.toNat:Int)
def strOf (xs:List Int):ByteArray:=⟨(xs.map fun n=>UInt8.ofNat n.toNat).toArray⟩
def St.pk {U:Type}(st:St)(d:Option Tmp)(v:AV)(k:St->Option U):Option U :=
 match d with
 |none=>k st|some d=>ck (Nat.blt d st.nt) (k (st.put d v))
def St.lit (st:St)(o:Operand)(b:Bool):St :=
 match o with
 |.tmp t=>st.put t (.v (.c (.bool b)))|_=>st
section
variable (P:Program) (C:FuncId->Option Any) (F:nP) {U:Type}
def rR (t:TypeId):Option CV :=
 match P.info? t with
 |some i=>match i.zero with
  |some v=>some (JO v)|none=>none
 |none=>none
def St.row (st:St)(d:Tmp)(b:eC)(k:St->Option U):Option U :=
 match look st.bl (d*64) with
 |some _=>none|none=>ck (Nat.blt d st.nt) (k {(st.put d (.v (.c (.own (d*64) none)))) with bl:=(d*64,some b)::st.bl})
def LY:List Nat->Nat->Bool
 |[],_=>false|x::l,n=>match Nat.beq x n with|true=>true|false=>LY l n
def gR (st:St)(t:Ty):Nat->List (Nat×Operand)->Option (List t.D)
 |_,[]=>some []|i,(a,b)::l=>match Nat.beq i a with
  |true=>match im st t (st.dB b).cells with
   |some (x,[])=>match gR st t (i+1) l with
    |some xs=>some (x::xs)|none=>none
   |_=>none
  |false=>none
def bY (st:St):List (Nat×Operand)->List AC
 |[]=>[]|(_,a)::l=>(st.dB a).cells++bY st l
def agO (t:TypeId):Option (List (Nat×Nat)) :=
 match P.underlying t with
 |some (.struct a)=>a.toList.mapM fun f=>(P.info? f.type).map fun i=>(f.offset,i.size)
 |_=>none
def Aw (st:St)(b:List (Nat×Nat)):List AC->List (Nat×Operand)->Option (List AC)
 |acc,[]=>some acc|acc,(f,a)::l=>match kb b f with
  |some (off,size)=>match (st.dB a).kn&&Nat.beq size (st.dB a).cells.length&&Nat.ble (off+(st.dB a).cells.length) acc.length with
   |true=>Aw st b (F2 acc off (st.dB a).cells) l|false=>none
  |none=>none
def sF (st:St):AC->Option (List AC×Nat)
 |.ptr b off=>match look st.bx b with|some l=>some (l,off)|none=>none
 |.vt id i off=>match st.nO id with|some b=>some (ex b.f b.t (b.xs.getD i.toNat b.t.aw),off)|none=>none
 |.Oc f t x off=>some (ex f t x,off)|_=>none
def r7 (o:Option Operand)(st:St)(d:Int):Option Int :=
 match o with
 |none=>some d|some x=>match st.ac x with|.int _ n=>some n|_=>none
def js (st:St):List Operand->List AC
 |[]=>[]|o::l=>(st.dB o).cells++js st l
def imV (st:St)(a:Ty×Bool)(c:CV):Option a.1.D :=
 match c,a.2 with
 |.agg l,true=>match im st a.1 l with
  |some (x,[])=>some x|_=>none
 |.c c,false=>match im st a.1 [c]with
  |some (x,[])=>some x|_=>none
 |_,_=>none
def im1 (st:St)(a:Ty×Bool)(o:Operand):Option a.1.D:=imV st a (st.dB o)
def LZ (st:St):(ps:List (Ty×Bool))->List Operand->Option (Args ps)
 |[],[]=>some ()|a::l,b::os=>match im1 st a b with
  |some x=>match LZ st l os with
   |some y=>some (x,y)|none=>none
  |none=>none
 |_,_=>none
def Ax (st:St):(ps:List (Ty×Bool))->List CV->Option (Args ps)
 |[],[]=>some ()|a::l,b::os=>match imV st a b with
  |some x=>match Ax st l os with
   |some y=>some (x,y)|none=>none
  |none=>none
 |_,_=>none
def aN:List CV->List AC
 |[]=>[]|c::l=>c.cells++aN l
def ex1 (id:Nat)(f:Bool)(a:Ty×Bool)(x:a.1.D)(j:Nat):CV×List (Nat×Option eC) :=
 (match a.2 with|true=>.agg (exR id f a.1 x j).1|false=>.c (match (exR id f a.1 x j).1 with|[c]=>c|_=>.none),(exR id f a.1 x j).2)
def kt (id:Nat)(f:Bool):(rs:List (Ty×Bool))->Args rs->Nat->List CV×List (Nat×Option eC)
 |[],_,_=>([],[])|a::l,x,b=>((ex1 id f a x.1 b).1::(kt id f l x.2 (b+a.1.n)).1,(ex1 id f a x.1 b).2++(kt id f l x.2 (b+a.1.n)).2)
def fg:List (Nat×Option eC)->St->Bool
 |[],_=>true|(id,_)::l,st=>(match look st.bl id with|some _=>false|none=>true)&&fg l st
def dH:List (Ty×Bool)->Bool
 |[]=>true|a::l=>(a.2 || Nat.beq a.1.n 1)&&dH l
def HF:List CV->AV
 |[v]=>.v v|l=>.Od l
def exF (f:Bool):(rs:List (Ty×Bool))->Args rs->List CV
 |[],_=>[]|a::l,x=>(match a.2 with|true=>.agg (ex f a.1 x.1)|false=>.c (match ex f a.1 x.1 with|[c]=>c|_=>.none))::exF f l x.2
def Ul (con:Con)(st:St)(d:Option Tmp)(args:List Operand)(k:St->Option U):Option U :=
 match LZ st con.ps args with
 |some x=>(con.g x).bind fun r =>
  match d with
  |none=>none|some d=>match con.m with
   |0=>ck (Nat.blt d st.nt&&dH con.rs) (k ((st.freeze (js st args)).put d (HF (exF (nQ st (js st args)&&bT (js st args)) con.rs r))))|1=>ck (Nat.blt d st.nt&&dH con.rs) (k (st.put d (HF (exF true con.rs r))))
   |_ =>
    let q:=kt d true con.rs r 0
    ck (fg q.2 st&&Nat.blt d st.nt&&dH con.rs) (k {(st.put d (HF q.1)) with bl:=q.2++st.bl})
 |_=>none
def fN (st:St)(m:Nat):List Nat->List AC->Bool
 |_,[]=>true|seen,.own id len::l=>match st.nO id with
  |some b=>(b.f || Nat.beq m 0 || Nat.beq m 3)&&(match m with|2|3=>b.w&& !LY seen id&&(match len with|none=>true|some _=>false)|_=>true)&&fN st m (id::seen) l
  |none=>false
 |seen,.ro f _ _ _::l=>(match m with|2|3=>false|1=>f|_=>true)&&fN st m seen l
 |seen,_::l=>fN st m seen l
def uQ:List AC->Bool
 |[]=>true|.own _ _::_=>false|_::l=>uQ l
def Ec (st:St):Ty->List AC->Option (List AC)
 |.sl e _,.own id _::r=>match st.nO id with
  |some b=>match Nat.beq b.e e with|true=>some r|false=>none
  |none=>none
 |.sl _ t,.nil::r=>match Nat.beq t.n 0 with|true=>none|false=>some r
 |.int _,_::r|.bool,_::r|.str,_::r=>some r|.unit,r=>some r|.pair a b,r=>match Ec st a r with|some r=>Ec st b r|none=>none
 |_,_=>none
def vu (st:St):List (Ty×Bool)->List CV->Bool
 |[],[]=>true|a::l,b::os=>(match Ec st a.1 b.cells with|some []=>true|_=>false)&&vu st l os
 |_,_=>false
def pmM:Bool->Nat
 |true=>2|false=>3
def im2 (st:St)(pm:PM)(a:Ty×Bool)(o:Operand):Option a.1.D:=match pm with
 |.rd=>im1 st a o|.own f=>match fN st (pmM f) [] (st.dB o).cells&&vu st [a] [st.dB o]with|true=>im1 st a o|false=>none
 |.box=>match st.dB o with
  |.c (.ptr b 0)=>match look st.bx b with|some l=>imV st a (.agg l)|none=>none
  |_=>none
 |.cur=>match st.dB o with
  |.c (.ptr b 0)=>match look st.bx b with|some l=>(match uQ l with|true=>imV st a (.agg l)|false=>none)|none=>none
  |_=>none
def iJ (st:St)(pm:PM):Nat->(ps:List (Ty×Bool))->List Operand->Option (Args ps)
 |0,a::l,b::os=>match im2 st pm a b with
  |some x=>match LZ st l os with|some y=>some (x,y)|none=>none
  |none=>none
 |i+1,a::l,b::os=>match im1 st a b with
  |some x=>match iJ st pm i l os with|some y=>some (x,y)|none=>none
  |none=>none
 |_,_,_=>none
def fO (st:St)(pm:PM):Nat->List Operand->List AC
 |0,a::os=>(match pm with
  |.rd=>(st.dB a).cells|.own _|.cur=>[]|.box=>match st.dB a with|.c (.ptr b _)=>(match look st.bx b with|some l=>l|none=>[])|_=>[])++js st os
 |i+1,a::os=>(st.dB a).cells++fO st pm i os|_,[]=>[]
def akI (st:St)(i:Nat)(args:List Operand):CV:=match kb args i with|some a=>st.dB a|none=>.c .none
def St.gone (st:St):List AC->St
 |[]=>st|.own id _::l=>{st.gone l with bl:=(id,none)::(st.gone l).bl}
 |_::l=>st.gone l
def rS (f:Bool):(t:Ty)->t.D->List AC->List (Nat×Option eC)×List AC
 |.pair a b,x,l=>((rS f a x.1 l).1++(rS f b x.2 (rS f a x.1 l).2).1,(rS f b x.2 (rS f a x.1 l).2).2)|.unit,_,l=>([],l)|.sl e t,x,.own id _::l=>([(id,some ⟨e,t,x,f,true⟩)],l)|_,_,_::l=>([],l)|_,_,[]=>([],[])
def m2 (m:Nat):Bool:=Nat.beq m 2
def rdM:Nat->Option Bool
 |4=>some true|5=>some false|_=>none
def anv (f:Bool)(rs:List (Ty×Bool))(st:St)(d:Tmp)(r:Args rs)(k:St->Option U):Option U :=
 match rs,r with
 |[a],r=>match look st.bx d with
  |none=>ck (Nat.blt d st.nt&&a.2) (k {(st.put d (.v (.c (.ptr d 0)))) with bx:=(d,ex f a.1 r.1)::st.bx})
  |some _=>none
 |_,_=>none
def YZ (rs a:List (Ty×Bool))(m:Nat)(st:St)(c:CV)(d:Tmp)(r:Args rs×Args a)(k:St->Option U):Option U :=
 let q:=kt d (m2 m) rs r.1 0
 ck ((Nat.beq m 2 || Nat.beq m 3)&&fg q.2 st&&Nat.blt d st.nt&&dH rs) (match a,r with
  |[],_=>k {(st.put d (HF q.1)) with bl:=q.2++(st.gone c.cells).bl}
  |[p],r=>k {(st.put d (HF q.1)) with bl:=q.2++((rS (m2 m) p.1 r.2.1 c.cells).1++st.bl)}
  |_,_=>none)
def agb (rs a:List (Ty×Bool))(m:Nat)(st:St)(c:CV)(d:Tmp)(r:Args rs×Args a)(k:St->Option U):Option U :=
 match a,r,c with
 |[p],r,.c (.ptr b _)=>match m with
  |0=>ck (Nat.blt d st.nt&&dH rs) (k {(st.put d (HF (exF false rs r.1))) with bx:=(b,ex false p.1 r.2.1)::st.bx})
  |1=>ck (Nat.blt d st.nt&&dH rs) (k {(st.put d (HF (exF true rs r.1))) with bx:=(b,ex false p.1 r.2.1)::st.bx})
  |m =>
   let q:=kt d (m2 m) rs r.1 0
   ck ((Nat.beq m 2 || Nat.beq m 3)&&fg q.2 st&&Nat.blt d st.nt&&dH rs) (k {(st.put d (HF q.1)) with bl:=q.2++st.bl,bx:=(b,ex false p.1 r.2.1)::st.bx})
 |_,_,_=>none
def agc (rs e:List (Ty×Bool))(m:Nat)(st:St)(c:CV)(d:Tmp)(r:Args rs×Args e)(k:St->Option U):Option U :=
 match e,r,c with
 |[p],r,.c (.ptr b _)=>match look st.bx b with
  |some a=>match m with
   |0=>ck (Nat.blt d st.nt&&dH rs) (k {(st.put d (HF (exF false rs r.1))) with bx:=(b,ex (bT a) p.1 r.2.1)::st.bx})
   |1=>ck (Nat.blt d st.nt&&dH rs) (k {(st.put d (HF (exF (bT a) rs r.1))) with bx:=(b,ex (bT a) p.1 r.2.1)::st.bx})
   |m =>
    let q:=kt d (bT a) rs r.1 0
    ck (Nat.beq m 2&&fg q.2 st&&Nat.blt d st.nt&&dH rs) (k {(st.put d (HF q.1)) with bl:=q.2++st.bl,bx:=(b,ex (bT a) p.1 r.2.1)::st.bx})
  |none=>none
 |_,_,_=>none
def az1 (st:St)(con:JD)(args:List Operand):List AC:=match con.pm with
 |.cur=>(match con.m with|1|2=>[]|_=>fO st .cur con.i args)
 |pm=>fO st pm con.i args
def Y0 (con:JD)(st:St)(d:Option Tmp)(args:List Operand)(k:St->Option U):Option U :=
 let a:=st.freeze (az1 st con args)
 match iJ a con.pm con.i con.ps args with
 |some x=>(con.g x).bind fun r =>
  match d with
  |none=>none|some d=>match con.pm with
   |.rd=>match rdM con.m with
    |some f=>anv f con.rs a d r.1 k|none=>none
   |.own _=>YZ con.rs con.qs con.m a (akI a con.i args) d r k|.box=>agb con.rs con.qs con.m a (akI a con.i args) d r k|.cur=>agc con.rs con.qs con.m a (akI a con.i args) d r k
 |none=>none
def axC (a:Ty×Bool):CV:=match a.2 with|true=>.agg (List.replicate a.1.n .any)|false=>.c .none
def aBk (a:Ty×Bool)(c:CV):Bool:=match a.2,c with
 |true,.agg l=>Nat.beq l.length a.1.n&&adD l|true,.c _=>false|false,_=>true
def axD (a b q:Ty×Bool)(st:St)(c:CV)(d:Tmp)(n:b.1.D)(y:q.1.D)(k:St->Option U):Option U :=
 ck (Nat.blt d st.nt&&dH [b]&&fg (kt d true [b] (n,()) 0).2 st) (k {(st.put d (.Od (axC a::(kt d true [b] (n,()) 0).1))) with bl:=(kt d true [b] (n,()) 0).2++((rS true q.1 y c.cells).1++st.bl)})
def anw (con:Sel)(st:St)(d:Option Tmp)(args:List Operand)(k:St->Option U):Option U :=
 let a:=st.freeze (fO st (.own true) con.i args)
 match iJ a (.own true) con.i con.ps args with
 |some x=>(con.g x).bind fun r =>
  match d with
  |none=>none|some d=>br (agL con.b.1 r.2.1) (YZ [con.a,con.b] [] 2 a (akI a con.i args) d ((r.1,(aCU con.b.1 r.2.1,())),()) k) (axD con.a con.b con.q a (akI a con.i args) d (aCV con.b.1 r.2.1) r.2.2 k)
 |none=>none
def anx (i:Idx)(st:St)(d:Option Tmp)(args:List Operand)(k:St->Option U):Option U :=
 match args with
 |[s,f]=>match st.ac f with
  |.fnp g b=>match Nat.beq g i.g with
   |true=>match look st.bx b with
    |some l=>match im st i.q l with
     |some (y,[])=>match b8 st (eOf st (st.ac s)) i.a.1 (st.ac s) with
      |some xs=>st.pk d (.v (.c (.int .i64 (axA (fun x=>i.p x y) xs 0)))) k
      |none=>none
     |_=>none
    |none=>none
   |false=>none
  |_=>none
 |_=>none
def Xh (c:Bool)(st:St):Int->List Operand->Option Int
 |a,[]=>some a|a,d::l=>match st.ac d with
  |.int _ b=>Xh c st (match c with|true=>if b>a then b else a|false=>if b<a then b else a) l
  |_=>none
def Rp (st:St)(e:TypeId)(u:Ty):AC->Option (List u.D×Bool×St)
 |.nil=>some ([],true,st)|.own id none=>match st.nO id with
  |some b=>match b.w&&Nat.beq b.e e with
   |true=>if h:b.t.beq u=true then some (Ro (Ty.beq_eq h) b.xs,b.f,{st with bl:=(id,none)::st.bl}) else none
   |false=>none
  |none=>none
 |_=>none
def Um (st:St)(e:TypeId)(u:Ty):AC->Option (List u.D×Bool)
 |.own id len=>match b8 st e u (.own id len),st.nO id with
  |some a,some b=>some (a,b.f)|_,_=>none
 |.ro f c d a=>match b8 st e u (.ro f c d a) with
  |some a=>some (a,f)|none=>none
 |.nil=>some ([],true)|_=>none
def asE (e:TypeId)(u:Ty)(st:St)(d:Option Tmp)(args:List Operand)(k:St->Option U):Option U :=
 match d,args with
 |some d,[s,i,v]=>match st.ac i,st.ac v with
  |.int .i64 n,.own a none=>match st.nO a with
   |some b=>match b.w&&Nat.beq b.e e with
    |true=>if h:b.t.beq u=true then
      match Rp st e u (st.ac s) with
      |some (xs,f,c)=>match look c.bl a with
       |some (some _)=>ck (!Nat.beq u.n 0&&decide (0<=n)&&decide (n<=(xs.length:Int))&&decide (1<=(b.xs.length:Int))&&decide (((xs.length+b.xs.length:Nat):Int)<=1073741824))
         (c.row d ⟨e,u,xs.take n.toNat++Ro (Ty.beq_eq h) b.xs++xs.drop n.toNat,f&&(b.f || flat u),true⟩ k)
       |_=>none
      |none=>none
     else none
    |false=>none
   |none=>none
  |_,_=>none
 |_,_=>none
def asF (e:TypeId)(u:Ty)(st:St)(d:Option Tmp)(args:List Operand)(k:St->Option U):Option U :=
 match d,args with
 |some d,[s,i,a]=>match st.ac i,st.ac a with
  |.int .i64 n,.int .i64 m=>match Rp st e u (st.ac s) with
   |some (xs,f,b)=>ck (!Nat.beq u.n 0&&decide (0<=n)&&decide (n<=m)&&decide (m<=(xs.length:Int)))
     (b.row d ⟨e,u,xs.take n.toNat++xs.drop m.toNat,f,true⟩ k)
   |none=>none
  |_,_=>none
 |_,_=>none
def auL:CV->Bool
 |.c (.int .u8 0)=>true|_=>false
def Mr (st:St)(d:Tmp)(s x:AC)(t c e:TypeId)(u:Ty)(z:CV)(k:St->Option U):Option U :=
 match Rp st e u s with
 |some (xs,f,a)=>match x with
  |.str w=>if h:u.beq (.int .u8)=true then
    match P.underlying c with
    |some .string=>ck (Nat.beq (P.cellsOf e) 1&&Nat.beq (P.bytesOf e) 1&&auL z&&decide (((xs.length+w.size:Nat):Int)<=F.mem))
      (a.row d ⟨e,.int .u8,Ro (Ty.beq_eq h) xs++bytesOf w,f,true⟩ k)
    |_=>none
   else none
  |x=>match Um st e u x with
   |some (b,g) =>
    ck (Nat.beq t c&&Nat.beq (P.cellsOf e) u.n&&Nat.beq z.cells.length u.n&&z.kn&& !Nat.beq u.n 0&& !Nat.beq (P.bytesOf e) 0&&decide (((xs.length+b.length:Nat):Int)*(P.bytesOf e:Int)<=F.mem))
     (a.row d ⟨e,u,xs++b,f&&(g || flat u),true⟩ k)
   |none=>none
 |none=>none
def fa (o:Oper)(st:St)(k:St->Option U):Option U :=
 match o.op with
 |.move x|.assign x=>st.pk o.dst (st.ev x) k|.pick c a b=>match st.ac c with
  |.bool v=>br v ((st.lit c true).pk o.dst (st.ev a) k) ((st.lit c false).pk o.dst (st.ev b) k)|_=>none
 |.box t x=>match o.dst with
  |some d=>match LY st.rob d with
   |true=>match ant P 20 t with
    |some u=>match im st u (st.dB x).cells with
     |some (y,[])=>ck (Nat.blt d st.nt&&(st.dB x).kn&&nQ st (st.dB x).cells) (k ((st.freeze (st.dB x).cells).put d (.v (.c (.Oc (bT (st.dB x).cells) u y 0)))))|_=>none
    |none=>none
   |false=>match look st.bx d with
    |none=>ck (Nat.blt d st.nt&&(st.dB x).kn) (k {(st.put d (.v (.c (.ptr d 0)))) with bx:=(d,(st.dB x).cells)::st.bx})
    |some _=>none
  |none=>none
 |.alloc t=>match o.dst with
  |some d=>match look st.bx d with
   |none=>match rR P t with
    |some z=>ck (Nat.blt d st.nt&&z.kn) (k {(st.put d (.v (.c (.ptr d 0)))) with bx:=(d,z.cells)::st.bx})
    |none=>none
   |some _=>none
  |none=>none
 |.build t parts=>match rR P t,agO P t with
  |some z,some I=>match z.kn,Aw st I z.cells parts.toList with
   |true,some l=>st.pk o.dst (.v (.agg l)) k|_,_=>none
  |_,_=>none
 |.buildSlice t len parts=>match o.dst,C5 P t with
  |some d,some e=>match ant P 20 e with
   |some u=>match gR st u 0 parts.toList with
    |some xs=>match Nat.beq parts.toList.length len&&nQ st (bY st parts.toList)&&(Nat.beq (P.cellsOf e) u.n&& !Nat.beq u.n 0&&Nat.ble (len*u.n) 16777216&&(rR P e).isSome) with
     |true=>(st.freeze (bY st parts.toList)).row d ⟨e,u,xs,bT (bY st parts.toList),true⟩ k|false=>none
    |none=>none
   |none=>none
  |_,_=>none
 |.load t a=>match sF st (st.ac a) with
  |some (l,off) =>
   let q:=rJ (P.cellsOf t) (rK off l)
   match Nat.beq q.length (P.cellsOf t) with
   |true=>match UX P t with
    |some true=>st.pk o.dst (.v (.agg q)) k|some false=>match q with
     |[x]=>st.pk o.dst (.v (.c x)) k|_=>none
    |none=>none
   |false=>none
  |none=>none
 |.store t a x=>match (st.dB x).kn&&adD (st.dB x).cells&&Nat.beq (P.cellsOf t) (st.dB x).cells.length&&(P.info? t).isSome with
  |true=>match st.ac a with
   |.ptr b off=>match look st.bx b with
    |some l=>match Nat.ble (off+(st.dB x).cells.length) l.length with
     |true=>({st with bx:=(b,F2 l off (st.dB x).cells)::st.bx}).pk o.dst (.Od []) k
     |false=>none
    |none=>none
   |.vt id i off=>match st.nO id with
    |some b=>match b.w&&nQ st (st.dB x).cells&&asC id (st.dB x).cells with
     |true=>match y4 st b.t (b.xs.getD i.toNat b.t.aw) (off,(st.dB x).cells) with
      |some (y,(0,[])) =>
       let E:=st.freeze (st.dB x).cells
       ({E with bl:=(id,some {b with xs:=b.xs.set i.toNat y,f:=b.f&&bT (st.dB x).cells})::E.bl}).pk o.dst (.Od []) k
      |_=>none
     |false=>none
    |none=>none
   |_=>none
  |false=>none
 |.nilCheck x=>match st.ac x with
  |.ptr b off=>st.pk o.dst (.v (.c (.ptr b off))) k|_=>none
 |.binOp op G x y _=>match st.dB x,st.dB y with
  |.c a,.c b=>az0 P F op G a b fun r=>st.pk o.dst (.v (.c r)) k
  |.agg l,.agg m=>match op,agM P G l m with
   |.eql,some c=>st.pk o.dst (.v (.c (.bool c))) k|.neq,some c=>st.pk o.dst (.v (.c (.bool (!c)))) k|_,_=>none
  |_,_=>none
 |.unOp op _ x=>match op,st.ac x with
  |.not,.bool b=>st.pk o.dst (.v (.c (.bool (!b)))) k|.neg,.int j n=>st.pk o.dst (.v (.c (.int j (j.wrap (0-n))))) k|_,_=>none
 |.convert src dst x=>match P.underlying src,P.underlying dst,st.ac x with
  |some (.int _),some (.int j),.int _ n=>st.pk o.dst (.v (.c (.int j (j.wrap n)))) k|some .string,some .string,.str s=>st.pk o.dst (.v (.c (.str s))) k|some .string,some (.slice e),.str s=>match P.underlying e with
   |some (.int .u8)=>ck (decide ((s.size:Int)<=F.mem)) (st.pk o.dst (.v (.c (.ro true e (.int .u8) (bytesOf s)))) k)|_=>none
  |some (.slice e),some .string,c=>match P.underlying e,b8 st e (.int .u8) c with
   |some (.int .u8),some xs=>st.pk o.dst (.v (.c (.str (strOf xs)))) k|_,_=>none
  |_,_,_=>none
 |.makeSlice t a b=>match o.dst,C5 P t,st.ac a,st.ac b with
  |some d,some e,.int .i64 n,.int .i64 m=>match ant P 20 e,rR P e with
   |some u,some z=>match im st u z.cells with
    |some (x,[])=>ck (z.kn&&(Nat.beq (P.cellsOf e) u.n&& !Nat.beq u.n 0&& !Nat.beq (P.bytesOf e) 0)&&decide (0<=n)&&n==m&&decide (n*(P.bytesOf e:Int)<=F.mem))
      (st.row d ⟨e,u,List.replicate n.toNat x,true,true⟩ k)
    |_=>none
   |_,_=>none
  |_,_,_,_=>none
 |.slice t x p B none=>match P.underlying t with
  |some .string=>match st.ac x with
   |.str s=>match r7 p st 0,r7 B st (s.size:Int) with
    |some l,some h=>ck (decide (0<=l)&&decide (l<=h)&&decide (h<=(s.size:Int))) (st.pk o.dst (.v (.c (.str (s.extract l.toNat h.toNat)))) k)|_,_=>none
   |_=>none
  |some (.slice D)=>match st.ac x with
   |.ro f e u xs=>match r7 p st 0,r7 B st (xs.length:Int) with
    |some l,some h=>ck (Nat.beq (P.cellsOf D) u.n&& !Nat.beq u.n 0&&(p.isNone || !big u)&&(decide (0<=l)&&decide (l<=h)&&decide (h<=(xs.length:Int)))) (st.pk o.dst (.v (.c (.ro f e u ((xs.take h.toNat).drop l.toNat)))) k)|_,_=>none
   |.own id none=>match st.nO id,p with
    |some b,none=>match r7 B st (b.xs.length:Int) with
     |some h=>ck (Nat.beq (P.cellsOf D) b.t.n&&(decide (0<=h)&&decide (h<=(b.xs.length:Int)))) (st.pk o.dst (.v (.c (.own id (some h)))) k)|none=>none
    |some b,some p=>match r7 (some p) st 0,r7 B st (b.xs.length:Int) with
     |some l,some h=>ck (Nat.beq (P.cellsOf D) b.t.n&& !big b.t&&(decide (0<=l)&&decide (l<=h)&&decide (h<=(b.xs.length:Int))))
       (({st with bl:=(id,some {b with w:=false})::st.bl}).pk o.dst (.v (.c (.ro b.f b.e b.t ((b.xs.take h.toNat).drop l.toNat)))) k)
     |_,_=>none
    |none,_=>none
   |_=>none
  |_=>none
 |.fieldAddr t x f=>match apR P t f with
  |some q=>match st.ac x with
   |.ptr b off=>st.pk o.dst (.v (.c (.ptr b (off+q)))) k|.vt id i off=>match st.nO id with
    |some _=>st.pk o.dst (.v (.c (.vt id i (off+q)))) k|none=>none
   |.Oc K u y off=>st.pk o.dst (.v (.c (.Oc K u y (off+q)))) k|_=>none
  |none=>none
 |.indexAddr t x i=>match st.ac i with
  |.int _ n=>match P.underlying t with
   |some (.slice e)=>match st.ac x with
    |.own id len=>match st.nO id with
     |some b=>match agN st (.own id len) with
      |some m=>ck (Nat.beq (P.cellsOf e) b.t.n&&(decide (0<=n)&&decide (n<m))) (st.pk o.dst (.v (.c (.vt id n 0))) k)|none=>none
     |none=>none
    |.ro f _ u xs=>ck (Nat.beq (P.cellsOf e) u.n&& !Nat.beq u.n 0&&(decide (0<=n)&&decide (n<(xs.length:Int)))) (st.pk o.dst (.v (.c (.Oc f u (xs.getD n.toNat u.aw) 0))) k)|_=>none
   |some (.array m e)=>match st.ac x with
    |.ptr b off=>ck (!Nat.beq (P.cellsOf e) 0&&(decide (0<=n)&&decide (n<(m:Int)))) (st.pk o.dst (.v (.c (.ptr b (off+n.toNat*P.cellsOf e)))) k)|_=>none
   |_=>none
  |_=>none
 |.index t x i=>match P.underlying t,st.ac x,st.ac i with
  |some .string,.str s,.int _ n=>ck (decide (0<=n)&&decide (n<(s.size:Int))) (st.pk o.dst (.v (.c (.int .u8 (kc s n)))) k)|_,_,_=>none
 |.field t x f=>match anu P t f,st.dB x with
  |some (t,off),.agg l =>
   let q:=rJ (P.cellsOf t) (rK off l)
   match Nat.beq q.length (P.cellsOf t) with
   |true=>match UX P t with
    |some true=>st.pk o.dst (.v (.agg q)) k|some false=>match q with
     |[x]=>st.pk o.dst (.v (.c x)) k|_=>none
    |none=>none
   |false=>none
  |_,_=>none
 |.extract x i=>match st.ev x with
  |.Od l=>match kb l i with
   |some v=>st.pk o.dst (.v v) k|none=>none
  |_=>none
 |.call {callee:=.value (.func f),args,..}=>match C f with
  |some (.one A)=>Ul A st o.dst args.toList k|some (.two A)=>Y0 A st o.dst args.toList k|some (.sel A)=>anw A st o.dst args.toList k|some (.idx i)=>anx i st o.dst args.toList k|some (.ins e u)=>asE e u st o.dst args.toList k|some (.del e u)=>asF e u st o.dst args.toList k|none=>none
 |.call {callee:=.builtin .len,args,argTypes}=>match args.toList,argTypes.toList with
  |[x],[t]=>match P.underlying t,agN st (st.ac x) with
   |some .string,some n=>match st.ac x with|.str _=>st.pk o.dst (.v (.c (.int .i64 n))) k|_=>none
   |some (.slice _),some n=>match st.ac x with|.str _=>none|_=>st.pk o.dst (.v (.c (.int .i64 n))) k
   |_,_=>none
  |_,_=>none
 |.call {callee:=.builtin .max,args,..}=>match args.toList with
  |x::l=>match st.ac x with
   |.int j a=>match Xh true st a l with
    |some r=>st.pk o.dst (.v (.c (.int j r))) k|none=>none
   |_=>none
  |_=>none
 |.call {callee:=.builtin .min,args,..}=>match args.toList with
  |x::l=>match st.ac x with
   |.int j a=>match Xh false st a l with
    |some r=>st.pk o.dst (.v (.c (.int j r))) k|none=>none
   |_=>none
  |_=>none
 |.call {callee:=.builtin .append,args,argTypes}=>match o.dst,args.toList,argTypes.toList with
  |some d,[s,x],[t,t2]=>match C5 P t with
   |some e=>match ant P 20 e,rR P e with
    |some u,some z=>Mr P F st d (st.ac s) (st.ac x) t t2 e u z k|_,_=>none
   |none=>none
  |_,_,_=>none
 |.makeFunc (.func g) first L=>match first.toList,L.toList with
  |[],[x]=>match st.ac x with
   |.ptr b 0=>st.pk o.dst (.v (.c (.fnp g b))) k|_=>none
  |_,_=>none
 |_=>none
def vv (all:List Oper):List Oper->St->(St->Option U)->Option U
 |[],st,k=>k st|o::l,st,k=>match o.guard with
  |none=>fa P C F o st fun st=>vv all l st k
  |some (c,Rq)=>match kb all c with
   |some d=>match d.dst with
    |some a=>match st.get a with
     |.v (.c (.bool b)) =>
      let yes (st:St):Option U:=fa P C F o st fun st=>vv all l st k
      let no (st:St):Option U:=st.pk o.dst (.Od []) fun st=>vv all l st k
      br b (let st:=st.put a (.v (.c (.bool true)));match Rq with|true=>yes st|false=>no st)
         (let st:=st.put a (.v (.c (.bool false)));match Rq with|true=>no st|false=>yes st)
     |.Od []=>st.pk o.dst (.Od []) fun st=>vv all l st k
     |_=>none
    |none=>none
   |none=>none
def Oe (all:List Oper)(o:Oper)(st:St)(k:St->Option U):Option U :=
 match o.guard with
 |none=>fa P C F o st k|some (c,Rq)=>match kb all c with
  |some d=>match d.dst with
   |some a=>match st.get a with
    |.v (.c (.bool b)) =>
     br b (let st:=st.put a (.v (.c (.bool true)));match Rq with|true=>fa P C F o st k|false=>st.pk o.dst (.Od []) k)
        (let st:=st.put a (.v (.c (.bool false)));match Rq with|true=>st.pk o.dst (.Od []) k|false=>fa P C F o st k)
    |.Od []=>st.pk o.dst (.Od []) k|_=>none
   |none=>none
  |none=>none
def nR (o:Oper):Bool:=match o.op with
 |.move _|.assign _|.pick _ _ _|.load _ _|.nilCheck _|.binOp _ _ _ _ _|.unOp _ _ _|.fieldAddr _ _ _|.indexAddr _ _ _|.index _ _ _|.field _ _ _|.extract _ _|.build _ _|.slice _ _ _ _ _=>true|.convert _ dst _=>match P.underlying dst with|some (.slice _)=>false|_=>true
 |.call {callee:=.builtin .len,..}|.call {callee:=.builtin .min,..}|.call {callee:=.builtin .max,..}=>true|_=>false
def asG (o:Oper):Bool:=match o.op with
 |.call {callee:=.value (.func f),..}=>match C f with|some (.one _)=>true|_=>false
 |_=>false
def bp (o:Oper):Bool:=match o.guard,o.dst,o.op with
 |none,some _,.alloc t=>match rR P t with|some z=>z.kn|none=>false
 |none,some _,.buildSlice t len parts=>match C5 P t with
  |some e=>match ant P 20 e with
   |some u=>(flat u || Nat.beq len 0)&&Nat.beq parts.toList.length len&&(Nat.beq (P.cellsOf e) u.n&& !Nat.beq u.n 0&&Nat.ble (len*u.n) 16777216&&(rR P e).isSome)|none=>false
  |none=>false
 |_,_,_=>false
def anz (o:Oper):Bool:=match o.op with
 |.alloc _|.box _ _|.buildSlice _ _ _=>true|_=>false
def agP:Option Tmp->Option Tmp->Bool
 |some a,some b=>Nat.beq a b|_,_=>false
def F3 (o:Oper):Bool:=bp P o&&match o.op with|.buildSlice _ 0 _=>true|_=>false
def Xi (o:Oper):Option Tmp:=match o.op with
 |.call {callee:=.builtin .append,args,argTypes}=>match args.toList,argTypes.toList with
  |[.tmp t,_],[a,b]=>match Nat.beq a b with|true=>some t|false=>none
  |_,_=>none
 |_=>none
def Ms (ops:Array Oper)(o:Oper):Bool:=match Xi o with
 |some t=>(List.range ops.size).any fun x=>match ops[x]? with
  |some a=>F3 P a&&agP a.dst (some t)&&o.after.any fun e=>Region.binds .any e&&Nat.beq e.on x
  |none=>false
 |none=>false
def oS (ops:Array Oper)(o:Oper):Bool:=nR P o || bp P o || asG C o || anz o || Ms P ops o
def aDM (o:Oper):Bool:=match o.op with
 |.load _ _|.convert _ _ _=>true|_=>false
def HG (st:St)(o:Oper):Bool:=match o.op with
 |.load _ a=>match st.ac a with|.Oc _ _ _ _=>true|_=>false
 |.convert _ _ _=>false|_=>true
def auM (ops:List Oper)(st:St)(o:Oper):Bool:=match o.guard with
 |none=>false|some (a,Rq)=>match kb ops a with
  |some b=>match b.dst with
   |some c=>match st.get c,Rq with
    |.v (.c (.bool true)),false=>true|.v (.c (.bool false)),true=>true|.Od [],_=>true|_,_=>false
   |none=>false
  |none=>false
def St.drop (st:St)(t:Tmp):St:={st with tm:=st.tm.filter fun p=> !Nat.beq p.1 t}
def gx (ops:Array Oper)(a:Array Bool):List Nat->St->St
 |[],st=>st|i::l,st=>match ops[i]? with
  |some b=>match bp P b&& !a.getD i true,b.dst with
   |true,some d=>(gx ops a l st).drop d|_,_=>gx ops a l st
  |none=>gx ops a l st
def Y1 (o:Oper)(t:Tmp):Bool:=match o.op with
 |.buildSlice _ _ parts=>parts.toList.any fun p=>match p.2 with|.tmp s=>Nat.beq s t|_=>false
 |_=>false
def JP (st:St)(o:Oper):Bool:=match o.op with
 |.buildSlice t _ parts=>match C5 P t with
  |some e=>match ant P 20 e with
   |some u=>(gR st u 0 parts.toList).isSome|none=>false
  |none=>false
 |_=>true
def waits (ops:Array Oper)(b:Array Bool)(o:Oper):Bool:=o.after.any fun e=>Region.binds .any e&&match ops[e.on]? with|some a=> !bp P a&& !b.getD e.on true|none=>false
def agQ (ops:Array Oper)(b:Array Bool)(st:St):List Nat->Bool
 |[]=>true|y::l=>(match ops[y]? with|some a=> !bp P a || b.getD y true || waits P ops b a || JP P st a|none=>true)&&agQ ops b st l
def agR (ops:Array Oper):Bool:=(List.range ops.size).all fun x=>match ops[x]? with
 |some a=> !bp P a || (List.range ops.size).all fun y=>match ops[y]? with
  |some b=>match b.dst with
   |some t=> !Y1 a t || (!bp P b&&a.after.any fun e=>Region.binds .any e&&Nat.beq e.on y)
   |none=>true
  |none=>true
 |none=>true
def pI (ops:Array Oper)(nt:Nat):Bool:=agR P ops&&(List.range ops.size).all fun x=>match ops[x]? with
 |some a=> !bp P a || ((match a.dst with|some d=>Nat.blt d nt|none=>false)&&(List.range ops.size).all fun y=>Nat.beq y x || match ops[y]? with|some b=> !agP b.dst a.dst|none=>true)
 |none=>true
def mQ (ops:Array Oper)(a:Array Bool)(i:Nat):Nat->Oper->Bool
 |0,_=>false|n+1,b=>b.after.any fun e=>Region.binds .any e&&(e.on==i || (!a.getD e.on true&&match ops[e.on]? with|some c=>mQ ops a i n c|none=>false))
def Rr (o:Oper):Option Tmp:=match o.op with
 |.call {callee:=.value (.func f),args,..}=>match C f with
  |some (.two a)=>match a.pm with
   |.box|.cur=>match kb args.toList a.i with|some (.tmp t)=>some t|_=>none
   |_=>none
  |_=>none
 |.store _ (.tmp t) _=>some t|_=>none
def asH (ops:Array Oper)(c:Array Bool)(t:Tmp):Bool:=(List.range ops.size).all fun a=>match ops[a]? with
 |some b=>c.getD a true || !agP b.dst (some t)|none=>true
def Of (o:Oper):Bool:=match o.op with|.alloc _=>true|_=>false
def axE (ops:Array Oper)(c:Array Bool)(b:Oper)(t:Tmp):Bool:=(List.range ops.size).any fun x=>match ops[x]? with
 |some a=>bp P a&&Of a&&agP a.dst (some t)&& !c.getD x true&&b.after.any fun e=>Region.binds .any e&&Nat.beq e.on x
 |none=>false
def Ho (ops:Array Oper)(b:Array Bool)(st:St)(i:Nat)(ok:Nat->Bool):Bool:=(List.range ops.size).all fun c=>match ops[c]? with
 |some a=>oS P C ops a || b.getD c true || mQ ops b i 3 a || (match Rr C a with
  |some t=>(match st.get t with|.v (.c (.ptr d 0))=>ok d|_=>false)&&asH ops b t || axE P ops b a t
  |none=>false)
 |none=>true
def anA (ops:Array Oper)(a:Array Bool)(st:St)(i:Nat)(o:Oper):Bool:=match o.op with
 |.load _ x=>match st.ac x with
  |.ptr b _=>Ho P C ops a st i fun c=> !Nat.beq c b
  |.vt id _ _=>match st.nO id with
   |some b=>b.w&&Ho P C ops a st i fun _=>true
   |none=>false
  |_=>false
 |_=>false
def Y2 (ops:Array Oper)(b:Array Bool)(i:Nat):Bool :=
 (List.range ops.size).all fun c=>match ops[c]? with
  |some a=>oS P C ops a || b.getD c true || mQ ops b i 3 a|none=>true
def Rs (ops:Array Oper)(b:Array Bool)(st:St):List Nat->Option (Nat×Oper)
 |[]=>none|i::l=>match ops[i]? with
  |some a=>match nR P a&&Region.free .any ops b i&&(HG st a || Y2 P C ops b i || auM ops.toList st a || anA P C ops b st i a) with
   |true=>some (i,a)|false=>Rs ops b st l
  |none=>none
def jt (ops:Array Oper)(x:Nat):List Nat->Array Bool->Array Bool
 |[],l=>l|i::is,l=>match ops[i]? with
  |some a=>match bp P a&& !Nat.beq i x with
   |true=>jt ops x is (l.setIfInBounds i true)|false=>jt ops x is l
  |none=>jt ops x is l
def axF (x:Nat):List Nat->Bool
 |[]=>true|j::l=>Nat.beq j x&&axF x l
def Rt (ops:Array Oper)(a:Array Bool)(st:St):List Nat->Option (Nat×Oper)
 |[]=>none|i::l=>match ops[i]? with
  |some b=>match axF i (Region.ready .any ops (jt P ops i (List.range ops.size) a))&&agQ P ops a st (List.range ops.size) with
   |true=>some (i,b)|false=>Rt ops a st l
  |none=>none
noncomputable def az2 (x y:Option U):Option U:=open Classical in if x=y then x else none
noncomputable def auN:List (Option U)->Option U
 |[]=>none|[x]=>x|x::l=>az2 x (auN l)
inductive BT where|l|n (a b:BT)
def agd (ops:Array Oper)(a:Array Bool):List Nat:=Region.ready .any ops (jt P ops ops.size (List.range ops.size) a)
def axG (ops:Array Oper)(b:Array Bool)(o:Oper):List Nat:=(List.range ops.size).filter fun x=>match ops[x]? with
 |some a=>bp P a&& !b.getD x true&&o.after.any fun e=>Region.binds .any e&&Nat.beq e.on x
 |none=>false
def az3 (ops:Array Oper)(a:Array Bool):Bool:=(List.range ops.size).all fun x=>match ops[x]? with
 |some o=> !bp P o || a.getD x true || o.after.all fun e=> !Region.binds .any e || a.getD e.on false
 |none=>true
def anB (ops:Array Oper):List Nat->Array Bool->St->(Array Bool->St->Option U)->Option U
 |[],h8,st,k=>k h8 st|x::l,h8,st,k=>match ops[x]? with
  |some a=>fa P C F a (gx P ops h8 (List.range ops.size) st) fun st=>anB ops l (h8.setIfInBounds x true) st k
  |none=>none
def Hp (ops:Array Oper)(a:Array Bool):List Nat->Bool
 |[]=>true|i::l=>(match ops[i]? with|some b=> !bp P b || a.getD i true|none=>true)&&Hp ops a l
noncomputable def vw (ops:Array Oper):Nat->Array Bool->St->(St->Option U)->Option U
 |0,h8,st,k=>match Region.ready .any ops h8 with
  |[]=>ck (Hp P ops h8 (List.range ops.size)) (k st)|_=>none
 |n+1,h8,st,k=>match Region.ready .any ops h8 with
  |[]=>ck (Hp P ops h8 (List.range ops.size)) (k st)|i::r=>let st:=gx P ops h8 (List.range ops.size) st
   match Rs P C ops h8 st (i::r) with
   |some (b,a)=>Oe P C F ops.toList a st fun st=>vw ops n (h8.setIfInBounds b true) st k
   |none=>match Rt P ops h8 st (i::r) with
    |some (b,a)=>Oe P C F ops.toList a st fun st=>vw ops n (h8.setIfInBounds b true) st k
    |none=>ck (agQ P ops h8 st (List.range ops.size)&&az3 P ops h8) (auN ((agd P ops h8).map fun x=>match ops[x]? with
     |some a=>anB P C F ops (axG P ops h8 a) h8 st fun h8 st=>Oe P C F ops.toList a (gx P ops h8 (List.range ops.size) st) fun st=>vw ops n (h8.setIfInBounds x true) st k
     |none=>none))
inductive Ex where
 |norm|exit (id:Nat)|ret
structure Hint where
 live:List Tmp
 mat:List (Tmp×TypeId×Ty):=[]
 roT:List Tmp:=[]
 wk:List Tmp:=[]
 F4:List (Nat×Nat×TypeId×Ty):=[]
 xl:List Tmp:=[]
 rl:List Tmp:=[]
 roB:List (Nat×Nat):=[]
 aBU:Bool:=false
def aCW (env:List Nat)(c:AC):List Nat:=match c with
 |.own id _|.vt id _ _=>match LY env id with|true=>env|false=>env++[id]
 |_=>env
def axH (env:List Nat)(l:List AC):List Nat:=l.foldl aCW env
def AV.cells:AV->List AC
 |.v x=>x.cells|.Od l=>l.flatMap CV.cells
def idxOf:List Nat->Nat->Nat->Option Nat
 |[],_,_=>none|x::l,n,i=>match Nat.beq x n with|true=>some i|false=>idxOf l n (i+1)
def aeB (env d:List Nat):AC->AC
 |.own id len=>match idxOf env id 0 with|some i=>.own (1000000+i) len|none=>.none
 |.vt id i a=>match idxOf env id 0 with|some e=>.vt (1000000+e) i a|none=>.none
 |.ptr b a=>match LY d b with|true=>.ptr b a|false=>.none
 |.fnp _ _=>.none|c=>c
def az4 (env a:List Nat):CV->CV
 |.c x=>.c (aeB env a x)|.agg l=>.agg (l.map (aeB env a))
def az5 (env a:List Nat):AV->AV
 |.v x=>.v (az4 env a x)|.Od l=>.Od (l.map (az4 env a))
def anC (st:St)(t:Tmp)(e:TypeId)(u:Ty):St:=match st.get t,look st.bl (2000000+t),Nat.beq u.n 0 with
 |.v (.c .nil),none,false=>{(st.put t (.v (.c (.own (2000000+t) none)))) with bl:=(2000000+t,some ⟨e,u,[],true,true⟩)::st.bl}
 |_,_,_=>st
def age (st:St)(b j:Nat)(e:TypeId)(u:Ty):St:=match look st.bx b,look st.bl (3000000+100*b+j),Nat.beq u.n 0 with
 |some l,none,false=>match kb l j with
  |some .nil=>{st with bx:=(b,Eb l j (.own (3000000+100*b+j) none))::st.bx,bl:=(3000000+100*b+j,some ⟨e,u,[],true,true⟩)::st.bl}
  |_=>st
 |_,_,_=>st
def auO (st:St)(t:Tmp):St:=match st.get t with
 |.v (.c (.own id len))=>match st.nO id with
  |some b=>(st.df (.own id len)).put t (.v (.c (.ro b.f b.e b.t (HE b.xs len))))|none=>st
 |_=>st
def anD (st:St)(b j:Nat):St:=match look st.bx b with
 |some l=>match kb l j with
  |some (.own id len)=>match st.nO id with
   |some a=>{(st.df (.own id len)) with bx:=(b,Eb l j (.ro false a.e a.t (HE a.xs len)))::(st.df (.own id len)).bx}
   |none=>st
  |some (.ro _ e t xs)=>{st with bx:=(b,Eb l j (.ro false e t xs))::st.bx}
  |_=>st
 |none=>st
def axI (st:St):Bool->St
 |true=>{st with sp:=.v (.c .none)}
 |false=>st
def anE (st:St)(t:Tmp):St:=match st.get t with
 |.v (.c (.ro _ e u xs))=>st.put t (.v (.c (.ro false e u xs)))|.v (.c (.own id len))=>match st.nO id with
  |some b=>{st with bl:=(id,some {b with f:=false})::st.bl}
  |none=>st
 |_=>st
def Ru:List AV->List Nat
 |[]=>[]|.v (.c (.ptr b _))::l=>match LY (Ru l) b with|true=>Ru l|false=>b::Ru l
 |_::l=>Ru l
def az6 (a:List (Nat×AV))(bx:List (Nat×List AC)):List Nat :=
 bx.foldl (fun env b=>axH env b.2) (a.foldl (fun env x=>axH env x.2.cells) [])
def asI (st:St)(b:Nat):List AC:=match look st.bx b with|some l=>l|none=>[]
def Rv (st:St)(env:List Nat):Nat->List Nat->List (Nat×Option eC)
 |_,[]=>[]|i,id::l=>(1000000+i,match idxOf env id 0 with
  |some a=>match Nat.beq a i with|true=>st.nO id|false=>none
  |none=>none)::Rv st env (i+1) l
def aCX (st:St)(tm:List (Nat×AV))(a:List Nat)(env:List Nat):St :=
 {nt:=st.nt,tm:=tm.map fun x=>(x.1,az5 env a x.2),bx:=a.map fun b=>(b,(asI st b).map (aeB env a)),bl:=Rv st env 0 env,sp:=az5 env a st.sp,rob:=st.rob}
def mR (d:List Tmp)(st:St):St :=
 let a:=d.map fun t=>(t,st.get t)
 let c:=Ru (st.sp::a.map (·.2))
 aCX st a c (az6 ((0,st.sp)::a) (c.map fun b=>(b,asI st b)))
def axJ (h:Hint)(st:St):St :=
 mR h.live (h.wk.foldl anE (h.roT.foldl auO (h.roB.foldl (fun st (b,a)=>anD st b a) (h.F4.foldl (fun st (b,a,e,u)=>age st b a e u) (h.mat.foldl (fun st (t,e,u)=>anC st t e u) (axI st h.aBU))))))
def aBV (h:Hint)(e:Ex)(st:St):St:=match e with
 |.norm=>st|.exit _=>mR h.xl st|.ret=>mR h.rl st
def anF (h:Option Hint)(st:St):St:=match h with|some h=>axJ h st|none=>st
def agS (h:Option Hint)(e:Ex)(st:St):St:=match h with|some h=>aBV h e st|none=>st
def az7 (b:St->(Ex->St->Option U)->Option U)(h:Option Hint)(k:Ex->St->Option U):Nat->St->Option U
 |0,_=>none|n+1,st=>b st fun e b9=>match e with
  |.norm=>az7 b h k n (anF h b9)|.exit a=>k (.exit a) (agS h (.exit a) b9)|.ret=>k .ret (agS h .ret b9)
def pJ:Code->Nat
 |.region id _ _=>id|.seq a _=>pJ a|.block _ b=>pJ b|_=>0
def ju (o:Oper):Bool:=match o.op with
 |.move _|.assign _|.pick _ _ _|.load _ _|.nilCheck _|.binOp _ _ _ _ _|.unOp _ _ _|.fieldAddr _ _ _|.indexAddr _ _ _|.index _ _ _|.field _ _ _|.extract _ _|.build _ _|.slice _ _ _ _ _=>true|.convert _ dst _=>match P.underlying dst with|some (.slice _)=>false|_=>true
 |.call {callee:=.builtin .len,..}|.call {callee:=.builtin .min,..}|.call {callee:=.builtin .max,..}=>true|.call {callee:=.value (.func f),..}=>match C f with|some (.one b)=>Nat.beq b.m 1&&b.rs.all fun a=>flat a.1|_=>false
 |_=>false
def asJ (ops:Array Oper):Bool:=P.follows .mixedOrders&&Region.lexB .any ops&&ops.toList.all fun a=>ju P C a
def anG (d:Nat)(c:Nat->AC):AC->AC
 |.ptr b a=>match Nat.beq b d with|true=>c a|false=>.ptr b a
 |.fnp g b=>match Nat.beq b d with|true=>.none|false=>.fnp g b
 |x=>x
def axK (d:Nat)(c:Nat->AC):CV->CV
 |.c x=>.c (anG d c x)|.agg l=>.agg (l.map (anG d c))
def auP (d:Nat)(c:Nat->AC):AV->AV
 |.v x=>.v (axK d c x)|.Od l=>.Od (l.map (axK d c))
def St.al6 (st:St)(d:Nat)(c:Nat->AC):St :=
 {st with tm:=st.tm.map fun p=>(p.1,auP d c p.2),bx:=(st.bx.filter fun p=> !Nat.beq p.1 d).map fun p=>(p.1,p.2.map (anG d c)),sp:=auP d c st.sp}
def axL (d:Nat)(u:Ty)(st:St)(k:St->Option U):Option U:=match look st.bx d with
 |some cells=>match im st u cells with
  |some (y,[])=>ck (nQ st cells) (k ((st.freeze cells).al6 d fun a=>.Oc (bT cells) u y a))
  |_=>none
 |none=>none
def JF (e:TypeId):Ty->Bool
 |.pair a b=>JF e a || JF e b|.sl c t=>Nat.beq c e || JF e t|_=>false
def anH (e:TypeId):AC->AC
 |.ro f a t xs=>match Nat.beq a e || JF e t with|true=>.none|false=>.ro f a t xs
 |.Oc _ _ _ _=>.none|x=>x
def axM (e:TypeId):CV->CV
 |.c x=>.c (anH e x)|.agg l=>.agg (l.map (anH e))
def auQ (e:TypeId):AV->AV
 |.v x=>.v (axM e x)|.Od l=>.Od (l.map (axM e))
def av5 (e:TypeId):Option eC->Option eC
 |some b=>match JF e b.t || (!b.w&&Nat.beq b.e e) with|true=>none|false=>some b
 |none=>none
def apS (e:TypeId)(u:Ty):List AC->Nat->Option (Nat×List u.D)
 |[],_=>none|.ro true a t xs::l,i=>match Nat.beq a e with
  |true=>if h:t.beq u=true then some (i,Ro (Ty.beq_eq h) xs) else none|false=>apS e u l (i+1)
 |_::l,i=>apS e u l (i+1)
def aeC (d id:Nat)(e:TypeId)(u:Ty)(l:List AC)(j:Nat)(xs:List u.D)(st:St):St :=
 {st with tm:=st.tm.map fun p=>(p.1,auQ e p.2),bx:=(d,Eb (l.map (anH e)) j (.own id none))::st.bx.map fun p=>(p.1,p.2.map (anH e)),bl:=(id,some ⟨e,u,xs,true,true⟩)::st.bl.map fun p=>(p.1,av5 e p.2),sp:=auQ e st.sp}
def auR (d:Nat)(e:TypeId)(u:Ty)(st:St)(k:St->Option U):Option U:=match look st.bx d,look st.bl (6000000+d) with
 |some l,none=>match apS e u l 0 with
  |some (a,xs)=>ck (big u&& !JF e u) (k (aeC d (6000000+d) e u l a xs st))|none=>none
 |_,_=>none
def axN (a:List Nat):List (Tmp×TypeId×Ty)->St->(St->Option U)->Option U
 |[],st,k=>k st|(d,e,u)::l,st,k=>match LY a e with
  |true=>auR d e u st fun st=>axN a l st k
  |false=>axL d u st fun st=>axN a l st k
def av6 (H:Nat->Option Hint):List Nat:=match H 999998 with|some h=>h.live|none=>[]
def aCY (H:Nat->Option Hint)(id:Nat):List (Tmp×TypeId×Ty):=match H (900000+id) with|some h=>h.mat|none=>[]
noncomputable def run (H:Nat->Option Hint):Code->St->(Ex->St->Option U)->Option U
 |.skip,st,k=>k .norm st|.region id ops az8,st,k=>match (!az8 || asJ P C ops) with
  |true=>vv P C F ops.toList ops.toList st fun st=>k .norm st
  |false=>match P.follows .mixedOrders&&Region.noSelect ops&&pI P ops st.nt with
   |true=>axN (av6 H) (aCY H id) st fun st=>vw P C F ops ops.size (Array.replicate ops.size false) st fun st=>k .norm st
   |false=>none
 |.seq a b,st,k=>run H a st fun e st=>match e with
  |.norm=>run H b st k|e=>k e st
 |.cond c a b,st,k=>match st.ac c with
  |.bool v=>br v (run H a (st.lit c true) k) (run H b (st.lit c false) k)|_=>none
 |.block id b,st,k=>run H b st fun e st=>match e with
  |.exit d=>match Nat.beq d id with|true=>k .norm st|false=>k (.exit d) st
  |e=>k e st
 |.loop b,st,k=>az7 (fun st k=>run H b st k) (H (pJ b)) k F.n (anF (H (pJ b)) st)
 |.exit id,st,k=>k (.exit id) st|.ret,st,k=>k .ret st|_,_,_=>none
def aCZ (ps:List (Ty×Bool))(x:Args ps):List CV:=exF false ps x
def apT:Nat->List CV->List (Nat×AV)
 |_,[]=>[]|i,v::l=>(i,.v v)::apT (i+1) l
def axO (st:St):ResultVar->Option CV
 |.tmp t=>some (st.dB (.tmp t))|.cell a t=>match sF st (st.ac (.tmp a)) with
  |some (l,off) =>
   let q:=rJ (P.cellsOf t) (rK off l)
   match Nat.beq q.length (P.cellsOf t) with
   |true=>match UX P t with
    |some true=>some (.agg q)|some false=>match q with
     |[x]=>some (.c x)|_=>none
    |none=>none
   |false=>none
  |none=>none
def Og (st:St):List ResultVar->Option (List CV)
 |[]=>some []|r::l=>match axO P st r with
  |some c=>match Og st l with
   |some cs=>some (c::cs)|none=>none
  |none=>none
def Rw (a:Func)(rs:List (Ty×Bool))(m:Nat):Ex->St->Option (Args rs):=fun e st =>
 match e with
 |.exit _=>none|_=>match Og P st a.results.toList with
  |some l=>match fN st m [] (aN l)&&(match m with|2=>vu st rs l|_=>true) with
   |true=>Ax st rs l|false=>none
  |none=>none
def cr (a : Func) : Code := match a.body with | some c => c | none => .refuse ""
def agT (H:Nat->Option Hint):List Nat:=match H 999999 with|some h=>h.live|none=>[]
noncomputable def aBW (H:Nat->Option Hint) (a:Func) (ps rs:List (Ty×Bool)) (m:Nat) (x:Args ps):Option (Args rs) :=
 ck (Nat.ble ps.length a.ntmps&&dH ps&&dH rs&&Nat.ble m 2) (run P C F H (cr a) {nt:=a.ntmps,tm:=apT 0 (aCZ ps x),bx:=[],bl:=[],rob:=agT H} (Rw P a rs m))
def aBX (pm:PM)(a:Ty×Bool)(x:a.1.D):CV×List (Nat×Option eC)×List (Nat×List AC):=match pm with
 |.rd=>(match a.2 with|true=>.agg (ex false a.1 x)|false=>.c (match ex false a.1 x with|[c]=>c|_=>.none),[],[])
 |.own f=>((ex1 62500 f a x 0).1,(ex1 62500 f a x 0).2,[])|.box=>(.c (.ptr 4000000 0),[],[(4000000,ex false a.1 x)])|.cur=>(.c (.ptr 4000000 0),[],[(4000000,ex true a.1 x)])
def exP (pm:PM):Nat->(ps:List (Ty×Bool))->Args ps->List CV×(CV×List (Nat×Option eC)×List (Nat×List AC))
 |0,a::l,x=>((aBX pm a x.1).1::exF false l x.2,aBX pm a x.1)|i+1,a::l,x=>((match a.2 with|true=>.agg (ex false a.1 x.1)|false=>.c (match ex false a.1 x.1 with|[c]=>c|_=>.none))::(exP pm i l x.2).1,(exP pm i l x.2).2)
 |_,[],_=>([],(.c .none,[],[]))
def Xj (nt:Nat)(pm:PM)(i:Nat)(ps:List (Ty×Bool))(x:Args ps):St :=
 {nt:=nt,tm:=apT 0 (exP pm i ps x).1,bx:=(exP pm i ps x).2.2.2,bl:=(exP pm i ps x).2.2.1,sp:=.v (exP pm i ps x).2.1}
def akJ (st:St)(pm:PM)(rs a:List (Ty×Bool))(m:Nat)(l:List CV):Option (Args rs×Args a) :=
 match pm with
 |.rd=>match a with
  |[]=>match rdM m with
   |some f=>match l with
    |[.c (.ptr b 0)]=>match look st.bx b with
     |some c=>match fN st (match f with|true=>1|false=>0) [] c&&uQ c with
      |true=>match Ax st rs [.agg c]with|some r=>some (r,())|none=>none
      |false=>none
     |none=>none
    |_=>none
   |none=>none
  |_=>none
 |.box=>match st.sp,a with
  |.v (.c (.ptr b 0)),[q]=>match look st.bx b with
   |some c=>match uQ c&&fN st m [] (aN l)&&(match m with|2|3=>vu st rs l|_=>true)&&Nat.ble m 3 with
    |true=>match Ax st rs l,imV st q (.agg c) with
     |some r,some y=>some (r,(y,()))|_,_=>none
    |false=>none
   |none=>none
  |_,_=>none
 |.cur=>match st.sp,a with
  |.v (.c (.ptr b 0)),[q]=>match look st.bx b with
   |some c=>match uQ c&&bT c&&fN st m [] (aN l)&&(match m with|2=>vu st rs l|_=>true)&&Nat.ble m 2 with
    |true=>match Ax st rs l,imV st q (.agg c) with
     |some r,some y=>some (r,(y,()))|_,_=>none
    |false=>none
   |none=>none
  |_,_=>none
 |.own _=>match Nat.beq m 2 || Nat.beq m 3 with
  |true=>match a with
   |[]=>match fN st m [] (aN l)&&vu st rs l with
    |true=>match Ax st rs l with|some r=>some (r,())|none=>none
    |false=>none
   |[q]=>match st.sp with
    |.v c=>match fN st m [] (aN (l++[c]))&&vu st rs l&&vu st [q] [c]with
     |true=>match Ax st rs l,Ax st [q] [c]with
      |some r,some y=>some (r,y)|_,_=>none
     |false=>none
    |_=>none
   |_=>none
  |false=>none
def aBY (b:Func)(pm:PM)(rs a:List (Ty×Bool))(m:Nat):Ex->St->Option (Args rs×Args a):=fun e st =>
 match e with
 |.exit _=>none|_=>match Og P st b.results.toList with
  |some l=>akJ st pm rs a m l|none=>none
def az9:List Nat->Bool
 |[]=>true|_=>false
def aBl (pm:PM)(a:Option (Ty×Bool))(l:List Nat):Bool:=match pm,a with
 |.cur,some a=>l.all fun e=> !JF e a.1
 |_,_=>az9 l
noncomputable def auT (H:Nat->Option Hint) (a:Func) (ps:List (Ty×Bool)) (i:Nat) (pm:PM) (rs b:List (Ty×Bool)) (m:Nat) (x:Args ps):Option (Args rs×Args b) :=
 ck (Nat.ble ps.length a.ntmps&&Nat.blt i ps.length&&dH ps&&dH rs&&aBl pm (kb ps i) (av6 H)) (run P C F H (cr a) {(Xj a.ntmps pm i ps x) with rob:=agT H} (aBY P a pm rs b m))
def asK (f:Func)(a b q:Ty×Bool):Ex->St->Option (a.1.D×b.1.D×q.1.D):=fun e st =>
 match e with
 |.exit _=>none|_=>match Og P st f.results.toList with
  |some [d,c]=>match Ax st [b] [c]with
   |some n=>br (agL b.1 n.1)
     (match akJ st (.own true) [a,b] [] 2 [d,c]with|some r=>some (r.1.1,r.1.2.1,q.1.aw)|none=>none)
     (ck (aBk a d) (match akJ st (.own true) [b] [q] 2 [c]with|some r=>some (a.1.aw,r.1.1,r.2.1)|none=>none))
   |none=>none
  |_=>none
noncomputable def akK (H:Nat->Option Hint) (c:Func) (ps:List (Ty×Bool)) (i:Nat) (a b q:Ty×Bool) (x:Args ps):Option (a.1.D×b.1.D×q.1.D) :=
 ck (Nat.ble ps.length c.ntmps&&Nat.blt i ps.length&&dH ps&&dH [a,b]&&az9 (av6 H)) (run P C F H (cr c) {(Xj c.ntmps (.own true) i ps x) with rob:=agT H} (asK P c a b q))
end
end Go.Am
namespace Go.Am
inductive At where
 |l|r|b|t|e|i
def sub:List At->Code->Code
 |[],c=>c|.l::p,.seq a _=>sub p a|.r::p,.seq _ b=>sub p b|.b::p,.block _ b=>sub p b|.t::p,.cond _ a _=>sub p a|.e::p,.cond _ _ a=>sub p a|.i::p,.loop a=>sub p a|_,_=>.skip
section
variable (P:Program) (C:FuncId->Option Any) (F:nP) {U:Type} (H:Nat->Option Hint)
noncomputable def JG:List At->Code->(Ex->St->Option U)->(Ex->St->Option U)
 |[],_,k=>k|.l::p,.seq a b,k=>JG p a fun e st=>match e with
  |.norm=>run P C F H b st k|e=>k e st
 |.r::p,.seq _ b,k=>JG p b k|.b::p,.block id b,k=>JG p b fun e st=>match e with
  |.exit c=>match Nat.beq c id with|true=>k .norm st|false=>k (.exit c) st
  |e=>k e st
 |.t::p,.cond _ a _,k=>JG p a k|.e::p,.cond _ _ a,k=>JG p a k|_,_,k=>k
noncomputable def lp (b:Code) (k:Ex->St->Option U) (n:Nat) (st:St):Option U :=
 az7 (fun st k=>run P C F H b st k) (H (pJ b)) k n st
noncomputable def itk (b:Code) (k:Ex->St->Option U) (n:Nat):Ex->St->Option U:=fun e b9=>match e with
 |.norm=>lp P C F H b k n (anF (H (pJ b)) b9)|.exit a=>k (.exit a) (agS (H (pJ b)) (.exit a) b9)|.ret=>k .ret (agS (H (pJ b)) .ret b9)
end
end Go.Am
