/- No condition. -/
import Derived.WalkKit
import Derived.KernelRfl
import Derived.Deep.Quiet
import Derived.OrdersHeld
import Derived.Deep.RegionHeld3
set_option linter.all false
namespace Go.Am
abbrev aD:= @Bool.and_eq_true
abbrev aL:= @List.length_append
abbrev aK:= @decide_eq_false
abbrev aH:= @decide_eq_true
abbrev aV:= @List.length_cons
abbrev bR:= @beq_eq_false_iff_ne
abbrev af:= @if_neg
abbrev ba:= @List.length_nil
abbrev bz:= @List.length_take
abbrev ah:= @if_pos
abbrev aG:= @Bool.not_true
abbrev a1:= @List.length_drop
abbrev aQ:= @Nat.zero_le
abbrev bV:= @decide_eq_true_eq
abbrev dr:= @List.length_singleton
abbrev cy:= @List.getElem_mem
abbrev bc:= @beq_iff_eq
abbrev ij:= @Option.isSome_iff_exists
abbrev bP:= @Nat.le_refl
abbrev cj:= @Nat.le_trans
abbrev lS:= @List.getElem?_eq_getElem
abbrev dW:= @Bool.not_false
abbrev eO:= @Option.some.inj
abbrev ik:= @List.append_assoc
abbrev u9:= @List.getElem?_eq_some_iff
abbrev vQ:= @Array.getElem?_eq_some_iff
abbrev fS:= @List.append_nil
abbrev ki:= @List.mem_singleton
abbrev hD:= @List.all_eq_true
abbrev fe:= @List.mem_cons
abbrev kC:= @Int.toNat_natCast
abbrev rL:= @List.mem_cons_of_mem
abbrev lT:= @of_decide_eq_true
abbrev ju:= @Bool.or_eq_true
abbrev il:= @List.mem_range
abbrev kj:= @List.mem_append
abbrev hH:= @Bool.true_and
abbrev mH:= @List.take_length
abbrev vR:= @Array.toArray_toList
abbrev Nb:= @Array.getD_eq_getD_getElem?
abbrev Fa:= @Nat.mul_le_mul_right
abbrev QG:= @List.drop_eq_getElem_cons
abbrev r7:= @List.length_map
abbrev Dj:= @Nat.lt_of_lt_of_le
abbrev WS:= @List.eq_nil_of_length_eq_zero
abbrev SN:= @List.getD_eq_getElem?_getD
abbrev r8:= @List.map_cons
abbrev WT:= @List.mem_of_find?_eq_some
abbrev HX:= @Bool.eq_false_iff
abbrev Fb:= @List.cons_append
abbrev J5:= @List.mem_cons_self
abbrev va:= @Bool.false_or
abbrev fD:= @if_false
abbrev J6:= @List.take_add_one
abbrev vS:= @List.cons.inj
abbrev Nc:= @List.getElem?_take
abbrev Fc:= @List.nil_append
abbrev QH:= @bne_eq_false_iff_eq
abbrev vd:= @Nat.zero_add
abbrev fE:= @if_true
abbrev SO:= @Nat.pos_of_ne_zero
abbrev Nd:= @List.length_set
abbrev ajp:= @Int.tmod_eq_emod_of_nonneg
abbrev QI:= @Nat.not_lt_zero
abbrev HY:= @List.mem_map
abbrev afA:= @Bool.or_eq_false_iff
abbrev ao7:= @Int.tdiv_eq_ediv_of_nonneg
abbrev ajq:= @List.take_of_length_le
abbrev WU:= @List.drop_length
abbrev Dk:= @bne_iff_ne
abbrev afB:= @List.getElem_of_mem
abbrev aaj:= @List.length_range
abbrev afC:= @List.getElem?_drop
abbrev J7:= @Nat.add_mul
abbrev aak:= @Array.toList_map
abbrev ajr:= @List.mem_of_mem_take
abbrev aal:= @beq_self_eq_true
abbrev SP:= @Nat.add_assoc
abbrev QJ:= @Nat.lt_or_ge
abbrev ve:= @congrArg
abbrev afD:= @Bool.not_eq_true'
abbrev WV:= @Bool.false_and
abbrev QK:= @Int.pow_succ
abbrev atg:= @Classical.byContradiction
abbrev ao8:= @List.take_append_drop
abbrev ajs:= @Int.emod_lt_of_pos
abbrev QL:= @Int.le_refl
abbrev aam:= @List.drop_zero
abbrev axL:= @Array.getElem?_setIfInBounds
abbrev afE:= @List.find?_some
abbrev ao9:= @Int.toNat_of_nonneg
abbrev WW:= @Nat.add_zero
abbrev apa:= @Bool.false_eq_true
abbrev apb:= @Nat.eq_zero_or_pos
abbrev apc:= @Array.any_eq_true'
abbrev apd:= @of_decide_eq_false
abbrev afF:= @Bool.and_false
abbrev Fe:= @BEq.comm
abbrev ath:= @List.length_filter_le
abbrev axM:= @Array.getElem?_eq_getElem
abbrev YJ:= @Nat.min_eq_left
abbrev YK:= @Int.emod_nonneg
abbrev ade:= @List.all_eq_false
abbrev ajt:= @List.mem_of_getElem?
abbrev SQ:= @Nat.lt_irrefl
abbrev aqz:= @Nat.le_mul_of_pos_right
abbrev adf:= @List.countP_cons
abbrev aqA:= @decide_eq_false_iff_not
abbrev Px:= @Nat.one_mul
abbrev aju:= @List.find?_eq_none
abbrev SR:= @Nat.sub_zero
abbrev ajv:= @Option.toList_some
abbrev aqB:= @List.drop_eq_nil_of_le
abbrev adg:= @List.map_append
abbrev AI:= @Prod.ext
abbrev AJ:= @Eq.trans
abbrev YL:= @List.sum_cons
abbrev ajw:= @bne_self_eq_false
abbrev aqC:= @List.getElem?_append
abbrev aqD:= @List.mem_iff_getElem
abbrev ajx:= @Option.bind_some
abbrev YM:= @Bool.true_or
abbrev avK:= @List.getElem_append_left
abbrev avL:= @Array.getElem?_eq_none
abbrev avM:= @List.getElem_cons_zero
abbrev adh:= @Nat.succ_pos
abbrev avN:= @Nat.div_lt_iff_lt_mul
abbrev avO:= @List.countP_mono_left
abbrev avP:= @List.countP_le_length
abbrev avQ:= @List.set_getElem_self
abbrev YN:= @Nat.mod_lt
abbrev aqE:= @Nat.mod_eq_of_lt
abbrev avR:= @List.mem_of_mem_drop
abbrev aqF:= @List.take_left'
abbrev aqG:= @UInt8.toNat_inj
abbrev ajy:= @Nat.zero_mul
abbrev ajz:= @Nat.ne_of_lt
inductive Ty where
 |int (k:IntKind)|bool|str|unit
 |pair (a b:Ty)
 |sl (e:TypeId) (t:Ty)
@[reducible] def Ty.D:Ty->Type
 |.int _=>Int|.bool=>Bool|.str=>ByteArray|.unit=>Unit|.pair a b=>a.D×b.D|.sl _ t=>List t.D
def Ty.aq:(t:Ty)->t.D
 |.int _=>(0:Int)|.bool=>false|.str=>ByteArray.empty|.unit=>()|.pair a b=>(a.aq,b.aq)|.sl _ _=>[]
def Ty.n:Ty->Nat
 |.int _|.bool|.str|.sl _ _=>1|.unit=>0|.pair a b=>a.n+b.n
def avS:IntKind->IntKind->Bool
 |.i8,.i8|.i16,.i16|.i32,.i32|.i64,.i64|.u8,.u8|.u16,.u16|.u32,.u32|.u64,.u64=>true|_,_=>false
def aan {a b:IntKind}(h:avS a b=true):a=b:=by cases a<;>cases b<;>first|rfl|cases h
def Ty.beq:Ty->Ty->Bool
 |.int k,.int l=>avS k l|.bool,.bool|.str,.str|.unit,.unit=>true|.pair a b,.pair c d=>a.beq c&&b.beq d|.sl e t,.sl f u=>Nat.beq e f&&t.beq u|_,_=>false
def Ty.beq_eq:∀{a b:Ty},a.beq b=true->a=b
 |.int k,.int l,h=>by rw[aan (show avS k l=true from h)]
 |.bool,.bool,_|.str,.str,_|.unit,.unit,_=>rfl|.pair a b,.pair c d,h=>by have g:(a.beq c&&b.beq d)=true:=h;rw[Bool.and_eq_true]at g;rw[Ty.beq_eq g.1,Ty.beq_eq g.2]
 |.sl e t,.sl f u,h=>by have g:(Nat.beq e f&&t.beq u)=true:=h;rw[Bool.and_eq_true]at g;rw[Nat.eq_of_beq_eq_true g.1,Ty.beq_eq g.2]
def ati:List Ty->Ty
 |[]=>.unit|[a]=>a|a::b::l=>.pair a (ati (b::l))
def aqH (P:Program):Nat->TypeId->Option Ty
 |0,_=>none
 |n+1,t =>
  match P.underlying t with
  |some (.int k)=>some (.int k)|some .bool=>some .bool|some .string=>some .str|some (.slice e)=>(aqH P n e).map (.sl e)|some (.struct a)=>(a.toList.mapM fun f=>aqH P n f.type).map ati
  |some (.array m e)=>(aqH P n e).map fun t=>ati (List.replicate m t)
  |_=>none
inductive AC where
 |none
 |int (k:IntKind) (n:Int)
 |bool (b:Bool)
 |str (s:ByteArray)
 |nil
 |ro (f:Bool) (e:TypeId) (t:Ty) (xs:List t.D)
 |own (id:Nat) (len:Option Int)
 |ptr (b:Nat) (off:Nat)
 |Ak (id:Nat) (i:Int) (off:Nat)
 |Sx (f:Bool) (t:Ty) (x:t.D) (off:Nat)
 |fnp (g:Nat) (b:Nat)
 |any
inductive CV where
 |c (x:AC)
 |agg (l:List AC)
inductive AV where
 |v (x:CV)
 |SL (l:List CV)
def CV.cells:CV->List AC
 |.c x=>[x]|.agg l=>l
structure fa where
 e:TypeId
 t:Ty
 xs:List t.D
 f:Bool
 w:Bool
structure St where
 nt:Nat
 tm:List (Nat×AV)
 bx:List (Nat×List AC)
 bl:List (Nat×Option fa)
 sp:AV:=.v (.c .none)
 rob:List Nat:=[]
def look {U:Type}:List (Nat×U)->Nat->Option U
 |[],_=>none|(k,v)::l,n=>match Nat.beq k n with|true=>some v|false=>look l n
def St.get (st:St)(t:Nat):AV:=match look st.tm t with|some v=>v|none=>.v (.c .none)
def St.put (st:St)(d:Nat)(v:AV):St:={st with tm:=(d,v)::st.tm}
def St.nS (st:St)(id:Nat):Option fa:=match look st.bl id with|some b=>b|none=>none
def ck {U:Type}(c:Bool)(k:Option U):Option U:=match c with|true=>k|false=>none
def br {U:Type}(c:Bool)(x y:U):U:=match c with|true=>x|false=>y
def SS:Value->AC
 |.int k n=>.int k n|.bool b=>.bool b|.string s=>.str s|.slice none 0 0=>.nil|_=>.none
def J8:Value->CV
 |.agg cs=>.agg (cs.toList.map SS)|v=>.c (SS v)
def St.ev (st:St):Operand->AV
 |.tmp t=>st.get t|.const v=>.v (J8 v)|_=>.v (.c .none)
def St.dO (st:St)(o:Operand):CV:=match st.ev o with|.v x=>x|.SL _=>.c .none
def St.ac (st:St)(o:Operand):AC:=match st.dO o with|.c x=>x|.agg _=>.none
def CV.kn:CV->Bool
 |.c .none=>false|_=>true
def ex (f:Bool):(t:Ty)->t.D->List AC
 |.int k,x=>[.int k x]|.bool,x=>[.bool x]|.str,x=>[.str x]|.unit,_=>[]|.pair a b,x=>ex f a x.1++ex f b x.2|.sl e t,x=>[.ro f e t x]
def WX {t u:Ty}(h:t=u)(x:List t.D):List u.D:=h▸x
def HZ {U:Type}(xs:List U):Option Int->List U
 |none=>xs|some n=>xs.take n.toNat
def cz (st:St)(t:Ty):AC->Option (List t.D)
 |.nil=>some []|.ro _ _ u xs=>if h:u.beq t=true then some (WX (Ty.beq_eq h) xs) else none|.own id len=>match st.nS id with
  |some b=>if h:b.t.beq t=true then some (HZ (WX (Ty.beq_eq h) b.xs) len) else none|none=>none
 |_=>none
def im (st:St):(t:Ty)->List AC->Option (t.D×List AC)
 |.int k,.int l n::r=>if avS l k then some (n,r) else none|.bool,.bool b::r=>some (b,r)|.str,.str s::r=>some (s,r)|.unit,r=>some ((),r)|.pair a b,r=>match im st a r with
  |some (x,d)=>match im st b d with
   |some (y,e)=>some ((x,y),e)|none=>none
  |none=>none
 |.sl _ t,c::r=>match cz st t c with
  |some xs=>some (xs,r)|none=>none
 |_,_=>none
@[reducible] def Args:List (Ty×Bool)->Type
 |[]=>Unit|a::l=>a.1.D×Args l
structure Con where
 ps:List (Ty×Bool)
 rs:List (Ty×Bool)
 m:Nat
 g:Args ps->Option (Args rs)
inductive PM where
 |rd|own (f:Bool)|box|cur
structure Nf where
 ps:List (Ty×Bool)
 i:Nat
 pm:PM
 rs:List (Ty×Bool)
 m:Nat
 qs:List (Ty×Bool)
 g:Args ps->Option (Args rs×Args qs)
structure Idx where
 g:Nat
 a:Ty×Bool
 q:Ty
 p:a.1.D->q.D->Bool
structure Sel where
 ps:List (Ty×Bool)
 i:Nat
 a:Ty×Bool
 b:Ty×Bool
 q:Ty×Bool
 g:Args ps->Option (a.1.D×b.1.D×q.1.D)
def ajA:(t:Ty)->t.D->Bool
 |.bool,x=>x|.int _,x=>x==0|_,_=>false
def aE2:(t:Ty)->t.D->t.D
 |.bool,_=>true|.int _,_=>(0:Int)|_,x=>x
def aE3:(t:Ty)->t.D->t.D
 |.bool,_=>false|_,x=>x
inductive Any where
 |one (c:Con)|two (c:Nf)|sel (c:Sel)|idx (i:Idx)
 |ins (e:TypeId) (u:Ty)
 |del (e:TypeId) (u:Ty)
def oK {U:Type}(p:U->Bool):List U->Int->Int
 |[],_=>-1|x::l,i=>match p x with|true=>i|false=>oK p l (i+1)
def flat:Ty->Bool
 |.int _|.bool|.str|.unit=>true|.pair a b=>flat a&&flat b|.sl _ _=>false
def exR (id:Nat)(f:Bool):(t:Ty)->t.D->Nat->List AC×List (Nat×Option fa)
 |.int k,x,_=>([.int k x],[])|.bool,x,_=>([.bool x],[])|.str,x,_=>([.str x],[])|.unit,_,_=>([],[])|.pair a b,x,c=>((exR id f a x.1 c).1++(exR id f b x.2 (c+a.n)).1,(exR id f a x.1 c).2++(exR id f b x.2 (c+a.n)).2)|.sl e t,x,c=>([.own (id*64+c) none],[(id*64+c,some ⟨e,t,x,f || flat t,true⟩)])
structure nT where
 n:Nat
 mem:Int
 str:Int
@[reducible] def nT.J9 (n:Nat):nT:=⟨n,140737488355328,9223372036854775807⟩
def aDM {U:Type}(d:BinOp)(c:IntKind)(a b:Int)(k:AC->Option U):Option U :=
 match d with
 |.add=>k (.int c (c.wrap (a+b)))|.sub=>k (.int c (c.wrap (a-b)))|.mul=>k (.int c (c.wrap (a*b)))|.quo=>ck (!(b==0)) (k (.int c (c.wrap (a.tdiv b))))|.rem=>ck (!(b==0)) (k (.int c (a.tmod b)))|.and=>k (.int c (c.wrap (BitVec.ofInt c.bits a &&& BitVec.ofInt c.bits b).toNat))|.or=>k (.int c (c.wrap (BitVec.ofInt c.bits a ||| BitVec.ofInt c.bits b).toNat))|.xor=>k (.int c (c.wrap (BitVec.ofInt c.bits a ^^^ BitVec.ofInt c.bits b).toNat))|.eql=>k (.bool (a==b))|.neq=>k (.bool (a != b))|.lss=>k (.bool (decide (a<b)))|.leq=>k (.bool (decide (a<=b)))|.gtr=>k (.bool (decide (a>b)))|.geq=>k (.bool (decide (a>=b)))|_=>none
def axN {U:Type}(d:BinOp)(c:IntKind)(a b:Int)(k:AC->Option U):Option U :=
 match d with
 |.shl=>ck (decide (0<=b)) (k (.int c (c.wrap (a*2 ^ (min b.toNat c.bits)))))|.shr=>ck (decide (0<=b)) (k (.int c (a.fdiv (2 ^ (min b.toNat c.bits)))))|_=>none
def aDN {U:Type}(F:nT)(c:BinOp)(a b:ByteArray)(k:AC->Option U):Option U :=
 match c with
 |.add=>ck (decide (((a.size+b.size:Nat):Int)<=F.str)) (k (.str (a++b)))|.eql=>k (.bool (a.toList==b.toList))|.neq=>k (.bool (!(a.toList==b.toList)))|.lss=>k (.bool (Op.bytesLess a.toList b.toList))|.leq=>k (.bool (Op.bytesLess a.toList b.toList || a.toList==b.toList))|.gtr=>k (.bool (!(Op.bytesLess a.toList b.toList || a.toList==b.toList)))|.geq=>k (.bool (!(Op.bytesLess a.toList b.toList)))|_=>none
def aCz {U:Type}(P:Program)(F:nT)(c:BinOp)(e:TypeId)(x y:AC)(k:AC->Option U):Option U :=
 match x,y with
 |.int d a,.int f b=>match c with
  |.shl|.shr=>axN c d a b k|_=>ck (avS d f) (aDM c d a b k)
 |.str a,.str b=>aDN F c a b k|.bool a,.bool b=>match P.underlying e,c with
  |some .bool,.eql=>k (.bool (a==b))|some .bool,.neq=>k (.bool (!(a==b)))|_,_=>none
 |_,_=>none
def eqFields (P:Program):List Field->Nat->List AC->List AC->Option Bool
 |[],_,[],[]=>some true
 | f :: d, i, a :: r, b :: s => match Nat.beq f.offset i && !(f.name == "_") with
  |true=>match eqFields P d (i+1) r s with
   |some c=>match P.underlying f.type,a,b with
    |some (.int _),.int k x,.int l y=>match avS k l with|true=>some ((x==y)&&c)|false=>none
    |some .string,.str x,.str y=>some ((x.toList==y.toList)&&c)|some .bool,.bool x,.bool y=>some ((x==y)&&c)|_,_,_=>none
   |none=>none
  |false=>none
 |_,_,_,_=>none
def ajB (P:Program)(t:TypeId)(l m:List AC):Option Bool :=
 match P.underlying t with
 |some (.struct a)=>match P.stoodInHeld t || P.eqGuardType P.depth t with
  |false=>eqFields P a.toList 0 l m|true=>none
 |_=>none
def ajC (st:St):AC->Option Int
 |.nil=>some 0|.ro _ _ _ xs=>some (xs.length:Int)|.own _ (some n)=>some n|.own id none=>match st.nS id with|some b=>some (b.xs.length:Int)|none=>none
 |.str s=>some (s.size:Int)|_=>none
def atj (P:Program)(t:TypeId)(f:Nat):Option Nat :=
 match P.underlying t with
 |some (.struct a)=>match a[f]? with
  |some x=>match P.cellsOf x.type with
   |0=>none|_=>some x.offset
  |none=>none
 |_=>none
def aqI (P:Program)(t:TypeId)(f:Nat):Option (TypeId×Nat) :=
 match P.underlying t with
 |some (.struct a)=>match a[f]? with
  |some x=>some (x.type,x.offset)|none=>none
 |_=>none
def Wm (P:Program)(t:TypeId):Option Bool :=
 match P.underlying t with
 |some (.struct _)|some (.array _ _)=>some true|some _=>some false|none=>none
def Dl (P:Program)(t:TypeId):Option TypeId :=
 match P.underlying t with
 |some (.slice e)=>some e|_=>none
def MF {U:Type}:List U->Nat->U->List U
 |[],_,_=>[]|_::l,0,v=>v::l|x::l,n+1,v=>x::MF l n v
def l1 {U:Type}:List U->Nat->Option U
 |[],_=>none|x::_,0=>some x|_::l,n+1=>l1 l n
def rM {U:Type}:Nat->List U->List U
 |0,_=>[]|_+1,[]=>[]|n+1,x::l=>x::rM n l
def rN {U:Type}:Nat->List U->List U
 |0,l=>l|_+1,[]=>[]|n+1,_::l=>rN n l
def F6 {U:Type}:List U->Nat->List U->List U
 |l,_,[]=>l|l,n,v::a=>F6 (MF l n v) (n+1) a
def Al (st:St):(t:Ty)->t.D->Nat×List AC->Option (t.D×(Nat×List AC))
 |.unit,x,s=>some (x,s)|.pair a b,x,s=>match Al st a x.1 s with
  |some (y,f)=>match Al st b x.2 f with
   |some (z,g)=>some ((y,z),g)|none=>none
  |none=>none
 |.int k,x,(0,c::r)=>match im st (.int k) [c]with|some (n,_)=>some (n,(0,r))|none=>none
 |.bool,x,(0,c::r)=>match im st .bool [c]with|some (n,_)=>some (n,(0,r))|none=>none
 |.str,x,(0,c::r)=>match im st .str [c]with|some (n,_)=>some (n,(0,r))|none=>none
 |.sl e t,x,(0,c::r)=>match im st (.sl e t) [c]with|some (n,_)=>some (n,(0,r))|none=>none
 |.int _,x,(0,[])=>some (x,(0,[]))|.bool,x,(0,[])=>some (x,(0,[]))|.str,x,(0,[])=>some (x,(0,[]))|.sl _ _,x,(0,[])=>some (x,(0,[]))|.int _,x,(d+1,l)=>some (x,(d,l))|.bool,x,(d+1,l)=>some (x,(d,l))|.str,x,(d+1,l)=>some (x,(d,l))|.sl _ _,x,(d+1,l)=>some (x,(d,l))
def St.du (st:St):AC->St
 |.own id _=>match st.nS id with
  |some b=>{st with bl:=(id,some {b with w:=false})::st.bl}
  |none=>st
 |_=>st
def St.freeze (st:St)(l:List AC):St:=l.foldl St.du st
def afG:List AC->Bool
 |[]=>true|.none::_=>false|_::l=>afG l
def avU (id:Nat):List AC->Bool
 |[]=>true|.own i _::l=> !Nat.beq i id&&avU id l|_::l=>avU id l
def ca:List AC->Bool
 |[]=>true|.ro f _ _ _::l=>f&&ca l|_::l=>ca l
def nN (st:St):List AC->Bool
 |[]=>true|.own id _::l=>(match st.nS id with|some b=>b.f|none=>false)&&nN st l
 |_::l=>nN st l
def iq (s:ByteArray)(i:Int):Int:=((s.data.toList.getD i.toNat 0).toNat:Int)
def bytesOf (s:ByteArray):List Int:=s.data.toList.map fun b=>(b.toNat:Int)
def strOf (xs:List Int):ByteArray:=⟨(xs.map fun n=>UInt8.ofNat n.toNat).toArray⟩
def St.pk {U:Type}(st:St)(d:Option Tmp)(v:AV)(k:St->Option U):Option U :=
 match d with
 |none=>k st|some d=>ck (Nat.blt d st.nt) (k (st.put d v))
def St.lit (st:St)(o:Operand)(b:Bool):St :=
 match o with
 |.tmp t=>st.put t (.v (.c (.bool b)))|_=>st
section
variable (P:Program) (C:FuncId->Option Any) (F:nT) {U:Type}
def rW (t:TypeId):Option CV :=
 match P.info? t with
 |some i=>match i.zero with
  |some v=>some (J8 v)|none=>none
 |none=>none
def St.row (st:St)(d:Tmp)(b:fa)(k:St->Option U):Option U :=
 match look st.bl (d*64) with
 |some _=>none|none=>ck (Nat.blt d st.nt) (k {(st.put d (.v (.c (.own (d*64) none)))) with bl:=(d*64,some b)::st.bl})
def Wn:List Nat->Nat->Bool
 |[],_=>false|x::l,n=>match Nat.beq x n with|true=>true|false=>Wn l n
def gO (st:St)(t:Ty):Nat->List (Nat×Operand)->Option (List t.D)
 |_,[]=>some []|i,(a,b)::l=>match Nat.beq i a with
  |true=>match im st t (st.dO b).cells with
   |some (x,[])=>match gO st t (i+1) l with
    |some xs=>some (x::xs)|none=>none
   |_=>none
  |false=>none
def cm (st:St):List (Nat×Operand)->List AC
 |[]=>[]|(_,a)::l=>(st.dO a).cells++cm st l
def ajD (t:TypeId):Option (List (Nat×Nat)) :=
 match P.underlying t with
 |some (.struct a)=>a.toList.mapM fun f=>(P.info? f.type).map fun i=>(f.offset,i.size)
 |_=>none
def AK (st:St)(b:List (Nat×Nat)):List AC->List (Nat×Operand)->Option (List AC)
 |acc,[]=>some acc|acc,(f,a)::l=>match l1 b f with
  |some (off,size)=>match (st.dO a).kn&&Nat.beq size (st.dO a).cells.length&&Nat.ble (off+(st.dO a).cells.length) acc.length with
   |true=>AK st b (F6 acc off (st.dO a).cells) l|false=>none
  |none=>none
def sK (st:St):AC->Option (List AC×Nat)
 |.ptr b off=>match look st.bx b with|some l=>some (l,off)|none=>none
 |.Ak id i off=>match st.nS id with|some b=>some (ex b.f b.t (b.xs.getD i.toNat b.t.aq),off)|none=>none
 |.Sx f t x off=>some (ex f t x,off)|_=>none
def vf (o:Option Operand)(st:St)(d:Int):Option Int :=
 match o with
 |none=>some d|some x=>match st.ac x with|.int _ n=>some n|_=>none
def jv (st:St):List Operand->List AC
 |[]=>[]|o::l=>(st.dO o).cells++jv st l
def imV (st:St)(a:Ty×Bool)(c:CV):Option a.1.D :=
 match c,a.2 with
 |.agg l,true=>match im st a.1 l with
  |some (x,[])=>some x|_=>none
 |.c c,false=>match im st a.1 [c]with
  |some (x,[])=>some x|_=>none
 |_,_=>none
def im1 (st:St)(a:Ty×Bool)(o:Operand):Option a.1.D:=imV st a (st.dO o)
def MG (st:St):(ps:List (Ty×Bool))->List Operand->Option (Args ps)
 |[],[]=>some ()|a::l,b::os=>match im1 st a b with
  |some x=>match MG st l os with
   |some y=>some (x,y)|none=>none
  |none=>none
 |_,_=>none
def AL (st:St):(ps:List (Ty×Bool))->List CV->Option (Args ps)
 |[],[]=>some ()|a::l,b::os=>match imV st a b with
  |some x=>match AL st l os with
   |some y=>some (x,y)|none=>none
  |none=>none
 |_,_=>none
def aN:List CV->List AC
 |[]=>[]|c::l=>c.cells++aN l
def ex1 (id:Nat)(f:Bool)(a:Ty×Bool)(x:a.1.D)(j:Nat):CV×List (Nat×Option fa) :=
 (match a.2 with|true=>.agg (exR id f a.1 x j).1|false=>.c (match (exR id f a.1 x j).1 with|[c]=>c|_=>.none),(exR id f a.1 x j).2)
def ks (id:Nat)(f:Bool):(rs:List (Ty×Bool))->Args rs->Nat->List CV×List (Nat×Option fa)
 |[],_,_=>([],[])|a::l,x,b=>((ex1 id f a x.1 b).1::(ks id f l x.2 (b+a.1.n)).1,(ex1 id f a x.1 b).2++(ks id f l x.2 (b+a.1.n)).2)
def fq:List (Nat×Option fa)->St->Bool
 |[],_=>true|(id,_)::l,st=>(match look st.bl id with|some _=>false|none=>true)&&fq l st
def eh:List (Ty×Bool)->Bool
 |[]=>true|a::l=>(a.2 || Nat.beq a.1.n 1)&&eh l
def H0:List CV->AV
 |[v]=>.v v|l=>.SL l
def exF (f:Bool):(rs:List (Ty×Bool))->Args rs->List CV
 |[],_=>[]|a::l,x=>(match a.2 with|true=>.agg (ex f a.1 x.1)|false=>.c (match ex f a.1 x.1 with|[c]=>c|_=>.none))::exF f l x.2
def VC (con:Con)(st:St)(d:Option Tmp)(args:List Operand)(k:St->Option U):Option U :=
 match MG st con.ps args with
 |some x=>(con.g x).bind fun r =>
  match d with
  |none=>none|some d=>match con.m with
   |0=>ck (Nat.blt d st.nt&&eh con.rs) (k ((st.freeze (jv st args)).put d (H0 (exF (nN st (jv st args)&&ca (jv st args)) con.rs r))))|1=>ck (Nat.blt d st.nt&&eh con.rs) (k (st.put d (H0 (exF true con.rs r))))
   |_ =>
    let q:=ks d true con.rs r 0
    ck (fq q.2 st&&Nat.blt d st.nt&&eh con.rs) (k {(st.put d (H0 q.1)) with bl:=q.2++st.bl})
 |_=>none
def fT (st:St)(m:Nat):List Nat->List AC->Bool
 |_,[]=>true|seen,.own id len::l=>match st.nS id with
  |some b=>(b.f || Nat.beq m 0 || Nat.beq m 3)&&(match m with|2|3=>b.w&& !Wn seen id&&(match len with|none=>true|some _=>false)|_=>true)&&fT st m (id::seen) l
  |none=>false
 |seen,.ro f _ _ _::l=>(match m with|2|3=>false|1=>f|_=>true)&&fT st m seen l
 |seen,_::l=>fT st m seen l
def vg:List AC->Bool
 |[]=>true|.own _ _::_=>false|_::l=>vg l
def En (st:St):Ty->List AC->Option (List AC)
 |.sl e _,.own id _::r=>match st.nS id with
  |some b=>match Nat.beq b.e e with|true=>some r|false=>none
  |none=>none
 |.sl _ t,.nil::r=>match Nat.beq t.n 0 with|true=>none|false=>some r
 |.int _,_::r|.bool,_::r|.str,_::r=>some r|.unit,r=>some r|.pair a b,r=>match En st a r with|some r=>En st b r|none=>none
 |_,_=>none
def vT (st:St):List (Ty×Bool)->List CV->Bool
 |[],[]=>true|a::l,b::os=>(match En st a.1 b.cells with|some []=>true|_=>false)&&vT st l os
 |_,_=>false
def pmM:Bool->Nat
 |true=>2|false=>3
def im2 (st:St)(pm:PM)(a:Ty×Bool)(o:Operand):Option a.1.D:=match pm with
 |.rd=>im1 st a o|.own f=>match fT st (pmM f) [] (st.dO o).cells&&vT st [a] [st.dO o]with|true=>im1 st a o|false=>none
 |.box=>match st.dO o with
  |.c (.ptr b 0)=>match look st.bx b with|some l=>imV st a (.agg l)|none=>none
  |_=>none
 |.cur=>match st.dO o with
  |.c (.ptr b 0)=>match look st.bx b with|some l=>(match vg l with|true=>imV st a (.agg l)|false=>none)|none=>none
  |_=>none
def iK (st:St)(pm:PM):Nat->(ps:List (Ty×Bool))->List Operand->Option (Args ps)
 |0,a::l,b::os=>match im2 st pm a b with
  |some x=>match MG st l os with|some y=>some (x,y)|none=>none
  |none=>none
 |i+1,a::l,b::os=>match im1 st a b with
  |some x=>match iK st pm i l os with|some y=>some (x,y)|none=>none
  |none=>none
 |_,_,_=>none
def fU (st:St)(pm:PM):Nat->List Operand->List AC
 |0,a::os=>(match pm with
  |.rd=>(st.dO a).cells|.own _|.cur=>[]|.box=>match st.dO a with|.c (.ptr b _)=>(match look st.bx b with|some l=>l|none=>[])|_=>[])++jv st os
 |i+1,a::os=>(st.dO a).cells++fU st pm i os|_,[]=>[]
def anI (st:St)(i:Nat)(args:List Operand):CV:=match l1 args i with|some a=>st.dO a|none=>.c .none
def St.gone (st:St):List AC->St
 |[]=>st|.own id _::l=>{st.gone l with bl:=(id,none)::(st.gone l).bl}
 |_::l=>st.gone l
def rX (f:Bool):(t:Ty)->t.D->List AC->List (Nat×Option fa)×List AC
 |.pair a b,x,l=>((rX f a x.1 l).1++(rX f b x.2 (rX f a x.1 l).2).1,(rX f b x.2 (rX f a x.1 l).2).2)|.unit,_,l=>([],l)|.sl e t,x,.own id _::l=>([(id,some ⟨e,t,x,f,true⟩)],l)|_,_,_::l=>([],l)|_,_,[]=>([],[])
def m2 (m:Nat):Bool:=Nat.beq m 2
def rdM:Nat->Option Bool
 |4=>some true|5=>some false|_=>none
def aqJ (f:Bool)(rs:List (Ty×Bool))(st:St)(d:Tmp)(r:Args rs)(k:St->Option U):Option U :=
 match rs,r with
 |[a],r=>match look st.bx d with
  |none=>ck (Nat.blt d st.nt&&a.2) (k {(st.put d (.v (.c (.ptr d 0)))) with bx:=(d,ex f a.1 r.1)::st.bx})
  |some _=>none
 |_,_=>none
def aao (rs a:List (Ty×Bool))(m:Nat)(st:St)(c:CV)(d:Tmp)(r:Args rs×Args a)(k:St->Option U):Option U :=
 let q:=ks d (m2 m) rs r.1 0
 ck ((Nat.beq m 2 || Nat.beq m 3)&&fq q.2 st&&Nat.blt d st.nt&&eh rs) (match a,r with
  |[],_=>k {(st.put d (H0 q.1)) with bl:=q.2++(st.gone c.cells).bl}
  |[p],r=>k {(st.put d (H0 q.1)) with bl:=q.2++((rX (m2 m) p.1 r.2.1 c.cells).1++st.bl)}
  |_,_=>none)
def ai3 (rs a:List (Ty×Bool))(m:Nat)(st:St)(c:CV)(d:Tmp)(r:Args rs×Args a)(k:St->Option U):Option U :=
 match a,r,c with
 |[p],r,.c (.ptr b _)=>match m with
  |0=>ck (Nat.blt d st.nt&&eh rs) (k {(st.put d (H0 (exF false rs r.1))) with bx:=(b,ex false p.1 r.2.1)::st.bx})
  |1=>ck (Nat.blt d st.nt&&eh rs) (k {(st.put d (H0 (exF true rs r.1))) with bx:=(b,ex false p.1 r.2.1)::st.bx})
  |m =>
   let q:=ks d (m2 m) rs r.1 0
   ck ((Nat.beq m 2 || Nat.beq m 3)&&fq q.2 st&&Nat.blt d st.nt&&eh rs) (k {(st.put d (H0 q.1)) with bl:=q.2++st.bl,bx:=(b,ex false p.1 r.2.1)::st.bx})
 |_,_,_=>none
def ai4 (rs e:List (Ty×Bool))(m:Nat)(st:St)(c:CV)(d:Tmp)(r:Args rs×Args e)(k:St->Option U):Option U :=
 match e,r,c with
 |[p],r,.c (.ptr b _)=>match look st.bx b with
  |some a=>match m with
   |0=>ck (Nat.blt d st.nt&&eh rs) (k {(st.put d (H0 (exF false rs r.1))) with bx:=(b,ex (ca a) p.1 r.2.1)::st.bx})
   |1=>ck (Nat.blt d st.nt&&eh rs) (k {(st.put d (H0 (exF (ca a) rs r.1))) with bx:=(b,ex (ca a) p.1 r.2.1)::st.bx})
   |m =>
    let q:=ks d (ca a) rs r.1 0
    ck (Nat.beq m 2&&fq q.2 st&&Nat.blt d st.nt&&eh rs) (k {(st.put d (H0 q.1)) with bl:=q.2++st.bl,bx:=(b,ex (ca a) p.1 r.2.1)::st.bx})
  |none=>none
 |_,_,_=>none
def aCA (st:St)(con:Nf)(args:List Operand):List AC:=match con.pm with
 |.cur=>(match con.m with|1|2=>[]|_=>fU st .cur con.i args)
 |pm=>fU st pm con.i args
def aap (con:Nf)(st:St)(d:Option Tmp)(args:List Operand)(k:St->Option U):Option U :=
 let a:=st.freeze (aCA st con args)
 match iK a con.pm con.i con.ps args with
 |some x=>(con.g x).bind fun r =>
  match d with
  |none=>none|some d=>match con.pm with
   |.rd=>match rdM con.m with
    |some f=>aqJ f con.rs a d r.1 k|none=>none
   |.own _=>aao con.rs con.qs con.m a (anI a con.i args) d r k|.box=>ai3 con.rs con.qs con.m a (anI a con.i args) d r k|.cur=>ai4 con.rs con.qs con.m a (anI a con.i args) d r k
 |none=>none
def aAB (a:Ty×Bool):CV:=match a.2 with|true=>.agg (List.replicate a.1.n .any)|false=>.c .none
def aDO (a:Ty×Bool)(c:CV):Bool:=match a.2,c with
 |true,.agg l=>Nat.beq l.length a.1.n&&afG l|true,.c _=>false|false,_=>true
def aAC (a b q:Ty×Bool)(st:St)(c:CV)(d:Tmp)(n:b.1.D)(y:q.1.D)(k:St->Option U):Option U :=
 ck (Nat.blt d st.nt&&eh [b]&&fq (ks d true [b] (n,()) 0).2 st) (k {(st.put d (.SL (aAB a::(ks d true [b] (n,()) 0).1))) with bl:=(ks d true [b] (n,()) 0).2++((rX true q.1 y c.cells).1++st.bl)})
def aqK (con:Sel)(st:St)(d:Option Tmp)(args:List Operand)(k:St->Option U):Option U :=
 let a:=st.freeze (fU st (.own true) con.i args)
 match iK a (.own true) con.i con.ps args with
 |some x=>(con.g x).bind fun r =>
  match d with
  |none=>none|some d=>br (ajA con.b.1 r.2.1) (aao [con.a,con.b] [] 2 a (anI a con.i args) d ((r.1,(aE2 con.b.1 r.2.1,())),()) k) (aAC con.a con.b con.q a (anI a con.i args) d (aE3 con.b.1 r.2.1) r.2.2 k)
 |none=>none
def aqL (i:Idx)(st:St)(d:Option Tmp)(args:List Operand)(k:St->Option U):Option U :=
 match args with
 |[s,f]=>match st.ac f with
  |.fnp g b=>match Nat.beq g i.g with
   |true=>match look st.bx b with
    |some l=>match im st i.q l with
     |some (y,[])=>match cz st i.a.1 (st.ac s) with
      |some xs=>st.pk d (.v (.c (.int .i64 (oK (fun x=>i.p x y) xs 0)))) k
      |none=>none
     |_=>none
    |none=>none
   |false=>none
  |_=>none
 |_=>none
def YO (c:Bool)(st:St):Int->List Operand->Option Int
 |a,[]=>some a|a,d::l=>match st.ac d with
  |.int _ b=>YO c st (match c with|true=>if b>a then b else a|false=>if b<a then b else a) l
  |_=>none
def SU (st:St)(e:TypeId)(u:Ty):AC->Option (List u.D×Bool×St)
 |.nil=>some ([],true,st)|.own id none=>match st.nS id with
  |some b=>match b.w&&Nat.beq b.e e with
   |true=>if h:b.t.beq u=true then some (WX (Ty.beq_eq h) b.xs,b.f,{st with bl:=(id,none)::st.bl}) else none
   |false=>none
  |none=>none
 |_=>none
def VD (st:St)(u:Ty):AC->Option (List u.D×Bool)
 |.own id len=>match cz st u (.own id len),st.nS id with
  |some a,some b=>some (a,b.f)|_,_=>none
 |.ro f c d a=>match cz st u (.ro f c d a) with
  |some a=>some (a,f)|none=>none
 |.nil=>some ([],true)|_=>none
def avW (e:TypeId)(u:Ty)(st:St)(d:Option Tmp)(args:List Operand)(k:St->Option U):Option U :=
 match d,args with
 |some d,[s,i,v]=>match st.ac i,st.ac v with
  |.int .i64 n,.own a none=>match st.nS a with
   |some b=>match b.w&&Nat.beq b.e e with
    |true=>if h:b.t.beq u=true then
      match SU st e u (st.ac s) with
      |some (xs,f,c)=>match look c.bl a with
       |some (some _)=>ck (!Nat.beq u.n 0&&decide (0<=n)&&decide (n<=(xs.length:Int))&&decide (1<=(b.xs.length:Int))&&decide (((xs.length+b.xs.length:Nat):Int)<=1073741824))
         (c.row d ⟨e,u,xs.take n.toNat++WX (Ty.beq_eq h) b.xs++xs.drop n.toNat,f&&(b.f || flat u),true⟩ k)
       |_=>none
      |none=>none
     else none
    |false=>none
   |none=>none
  |_,_=>none
 |_,_=>none
def avX (e:TypeId)(u:Ty)(st:St)(d:Option Tmp)(args:List Operand)(k:St->Option U):Option U :=
 match d,args with
 |some d,[s,i,a]=>match st.ac i,st.ac a with
  |.int .i64 n,.int .i64 m=>match SU st e u (st.ac s) with
   |some (xs,f,b)=>ck (!Nat.beq u.n 0&&decide (0<=n)&&decide (n<=m)&&decide (m<=(xs.length:Int)))
     (b.row d ⟨e,u,xs.take n.toNat++xs.drop m.toNat,f,true⟩ k)
   |none=>none
  |_,_=>none
 |_,_=>none
def axP:CV->Bool
 |.c (.int .u8 0)=>true|_=>false
def Ng (st:St)(d:Tmp)(s x:AC)(t c e:TypeId)(u:Ty)(z:CV)(k:St->Option U):Option U :=
 match SU st e u s with
 |some (xs,f,a)=>match x with
  |.str w=>if h:u.beq (.int .u8)=true then
    match P.underlying c with
    |some .string=>ck (Nat.beq (P.cellsOf e) 1&&Nat.beq (P.bytesOf e) 1&&axP z&&decide (((xs.length+w.size:Nat):Int)<=F.mem))
      (a.row d ⟨e,.int .u8,WX (Ty.beq_eq h) xs++bytesOf w,f,true⟩ k)
    |_=>none
   else none
  |x=>match VD st u x with
   |some (b,g) =>
    ck (Nat.beq t c&&Nat.beq (P.cellsOf e) u.n&&Nat.beq z.cells.length u.n&&z.kn&& !Nat.beq u.n 0&& !Nat.beq (P.bytesOf e) 0&&decide (((xs.length+b.length:Nat):Int)*(P.bytesOf e:Int)<=F.mem))
     (a.row d ⟨e,u,xs++b,f&&(g || flat u),true⟩ k)
   |none=>none
 |none=>none
def fo (o:Oper)(st:St)(k:St->Option U):Option U :=
 match o.op with
 |.move x|.assign x=>st.pk o.dst (st.ev x) k|.pick c a b=>match st.ac c with
  |.bool v=>br v ((st.lit c true).pk o.dst (st.ev a) k) ((st.lit c false).pk o.dst (st.ev b) k)|_=>none
 |.box t x=>match o.dst with
  |some d=>match Wn st.rob d with
   |true=>match aqH P 20 t with
    |some u=>match im st u (st.dO x).cells with
     |some (y,[])=>ck (Nat.blt d st.nt&&(st.dO x).kn&&nN st (st.dO x).cells) (k ((st.freeze (st.dO x).cells).put d (.v (.c (.Sx (ca (st.dO x).cells) u y 0)))))|_=>none
    |none=>none
   |false=>match look st.bx d with
    |none=>ck (Nat.blt d st.nt&&(st.dO x).kn) (k {(st.put d (.v (.c (.ptr d 0)))) with bx:=(d,(st.dO x).cells)::st.bx})
    |some _=>none
  |none=>none
 |.alloc t=>match o.dst with
  |some d=>match look st.bx d with
   |none=>match rW P t with
    |some z=>ck (Nat.blt d st.nt&&z.kn) (k {(st.put d (.v (.c (.ptr d 0)))) with bx:=(d,z.cells)::st.bx})
    |none=>none
   |some _=>none
  |none=>none
 |.build t parts=>match rW P t,ajD P t with
  |some z,some I=>match z.kn,AK st I z.cells parts.toList with
   |true,some l=>st.pk o.dst (.v (.agg l)) k|_,_=>none
  |_,_=>none
 |.buildSlice t len parts=>match o.dst,Dl P t with
  |some d,some e=>match aqH P 20 e with
   |some u=>match gO st u 0 parts.toList with
    |some xs=>match Nat.beq parts.toList.length len&&nN st (cm st parts.toList)&&(Nat.beq (P.cellsOf e) u.n&& !Nat.beq u.n 0&&Nat.ble (len*u.n) 16777216&&(rW P e).isSome) with
     |true=>(st.freeze (cm st parts.toList)).row d ⟨e,u,xs,ca (cm st parts.toList),true⟩ k|false=>none
    |none=>none
   |none=>none
  |_,_=>none
 |.load t a=>match sK st (st.ac a) with
  |some (l,off) =>
   let q:=rM (P.cellsOf t) (rN off l)
   match Nat.beq q.length (P.cellsOf t) with
   |true=>match Wm P t with
    |some true=>st.pk o.dst (.v (.agg q)) k|some false=>match q with
     |[x]=>st.pk o.dst (.v (.c x)) k|_=>none
    |none=>none
   |false=>none
  |none=>none
 |.store t a x=>match (st.dO x).kn&&afG (st.dO x).cells&&Nat.beq (P.cellsOf t) (st.dO x).cells.length&&(P.info? t).isSome with
  |true=>match st.ac a with
   |.ptr b off=>match look st.bx b with
    |some l=>match Nat.ble (off+(st.dO x).cells.length) l.length with
     |true=>({st with bx:=(b,F6 l off (st.dO x).cells)::st.bx}).pk o.dst (.SL []) k
     |false=>none
    |none=>none
   |.Ak id i off=>match st.nS id with
    |some b=>match b.w&&nN st (st.dO x).cells&&avU id (st.dO x).cells with
     |true=>match Al st b.t (b.xs.getD i.toNat b.t.aq) (off,(st.dO x).cells) with
      |some (y,(0,[])) =>
       let E:=st.freeze (st.dO x).cells
       ({E with bl:=(id,some {b with xs:=b.xs.set i.toNat y,f:=b.f&&ca (st.dO x).cells})::E.bl}).pk o.dst (.SL []) k
      |_=>none
     |false=>none
    |none=>none
   |_=>none
  |false=>none
 |.nilCheck x=>match st.ac x with
  |.ptr b off=>st.pk o.dst (.v (.c (.ptr b off))) k|_=>none
 |.binOp op G x y _=>match st.dO x,st.dO y with
  |.c a,.c b=>aCz P F op G a b fun r=>st.pk o.dst (.v (.c r)) k
  |.agg l,.agg m=>match op,ajB P G l m with
   |.eql,some c=>st.pk o.dst (.v (.c (.bool c))) k|.neq,some c=>st.pk o.dst (.v (.c (.bool (!c)))) k|_,_=>none
  |_,_=>none
 |.unOp op _ x=>match op,st.ac x with
  |.not,.bool b=>st.pk o.dst (.v (.c (.bool (!b)))) k|.neg,.int j n=>st.pk o.dst (.v (.c (.int j (j.wrap (0-n))))) k|_,_=>none
 |.convert src dst x=>match P.underlying src,P.underlying dst,st.ac x with
  |some (.int _),some (.int j),.int _ n=>st.pk o.dst (.v (.c (.int j (j.wrap n)))) k|some .string,some .string,.str s=>st.pk o.dst (.v (.c (.str s))) k|some .string,some (.slice e),.str s=>match P.underlying e with
   |some (.int .u8)=>ck (decide ((s.size:Int)<=F.mem)) (st.pk o.dst (.v (.c (.ro true e (.int .u8) (bytesOf s)))) k)|_=>none
  |some (.slice e),some .string,c=>match P.underlying e,cz st (.int .u8) c with
   |some (.int .u8),some xs=>st.pk o.dst (.v (.c (.str (strOf xs)))) k|_,_=>none
  |_,_,_=>none
 |.makeSlice t a b=>match o.dst,Dl P t,st.ac a,st.ac b with
  |some d,some e,.int .i64 n,.int .i64 m=>match aqH P 20 e,rW P e with
   |some u,some z=>match im st u z.cells with
    |some (x,[])=>ck (z.kn&&(Nat.beq (P.cellsOf e) u.n&& !Nat.beq u.n 0&& !Nat.beq (P.bytesOf e) 0)&&decide (0<=n)&&n==m&&decide (n*(P.bytesOf e:Int)<=F.mem))
      (st.row d ⟨e,u,List.replicate n.toNat x,true,true⟩ k)
    |_=>none
   |_,_=>none
  |_,_,_,_=>none
 |.slice t x p B none=>match P.underlying t with
  |some .string=>match st.ac x with
   |.str s=>match vf p st 0,vf B st (s.size:Int) with
    |some l,some h=>ck (decide (0<=l)&&decide (l<=h)&&decide (h<=(s.size:Int))) (st.pk o.dst (.v (.c (.str (s.extract l.toNat h.toNat)))) k)|_,_=>none
   |_=>none
  |some (.slice D)=>match st.ac x with
   |.ro f e u xs=>match vf p st 0,vf B st (xs.length:Int) with
    |some l,some h=>ck (Nat.beq (P.cellsOf D) u.n&& !Nat.beq u.n 0&&(decide (0<=l)&&decide (l<=h)&&decide (h<=(xs.length:Int)))) (st.pk o.dst (.v (.c (.ro f e u ((xs.take h.toNat).drop l.toNat)))) k)|_,_=>none
   |.own id none=>match st.nS id,p with
    |some b,none=>match vf B st (b.xs.length:Int) with
     |some h=>ck (Nat.beq (P.cellsOf D) b.t.n&&(decide (0<=h)&&decide (h<=(b.xs.length:Int)))) (st.pk o.dst (.v (.c (.own id (some h)))) k)|none=>none
    |some b,some p=>match vf (some p) st 0,vf B st (b.xs.length:Int) with
     |some l,some h=>ck (Nat.beq (P.cellsOf D) b.t.n&&(decide (0<=l)&&decide (l<=h)&&decide (h<=(b.xs.length:Int))))
       (({st with bl:=(id,some {b with w:=false})::st.bl}).pk o.dst (.v (.c (.ro b.f b.e b.t ((b.xs.take h.toNat).drop l.toNat)))) k)
     |_,_=>none
    |none,_=>none
   |_=>none
  |_=>none
 |.fieldAddr t x f=>match atj P t f with
  |some q=>match st.ac x with
   |.ptr b off=>st.pk o.dst (.v (.c (.ptr b (off+q)))) k|.Ak id i off=>match st.nS id with
    |some _=>st.pk o.dst (.v (.c (.Ak id i (off+q)))) k|none=>none
   |.Sx K u y off=>st.pk o.dst (.v (.c (.Sx K u y (off+q)))) k|_=>none
  |none=>none
 |.indexAddr t x i=>match st.ac i with
  |.int _ n=>match P.underlying t with
   |some (.slice e)=>match st.ac x with
    |.own id len=>match st.nS id with
     |some b=>match ajC st (.own id len) with
      |some m=>ck (Nat.beq (P.cellsOf e) b.t.n&&(decide (0<=n)&&decide (n<m))) (st.pk o.dst (.v (.c (.Ak id n 0))) k)|none=>none
     |none=>none
    |.ro f _ u xs=>ck (Nat.beq (P.cellsOf e) u.n&& !Nat.beq u.n 0&&(decide (0<=n)&&decide (n<(xs.length:Int)))) (st.pk o.dst (.v (.c (.Sx f u (xs.getD n.toNat u.aq) 0))) k)|_=>none
   |some (.array m e)=>match st.ac x with
    |.ptr b off=>ck (!Nat.beq (P.cellsOf e) 0&&(decide (0<=n)&&decide (n<(m:Int)))) (st.pk o.dst (.v (.c (.ptr b (off+n.toNat*P.cellsOf e)))) k)|_=>none
   |_=>none
  |_=>none
 |.index t x i=>match P.underlying t,st.ac x,st.ac i with
  |some .string,.str s,.int _ n=>ck (decide (0<=n)&&decide (n<(s.size:Int))) (st.pk o.dst (.v (.c (.int .u8 (iq s n)))) k)|_,_,_=>none
 |.field t x f=>match aqI P t f,st.dO x with
  |some (t,off),.agg l =>
   let q:=rM (P.cellsOf t) (rN off l)
   match Nat.beq q.length (P.cellsOf t) with
   |true=>match Wm P t with
    |some true=>st.pk o.dst (.v (.agg q)) k|some false=>match q with
     |[x]=>st.pk o.dst (.v (.c x)) k|_=>none
    |none=>none
   |false=>none
  |_,_=>none
 |.extract x i=>match st.ev x with
  |.SL l=>match l1 l i with
   |some v=>st.pk o.dst (.v v) k|none=>none
  |_=>none
 |.call {callee:=.value (.func f),args,..}=>match C f with
  |some (.one A)=>VC A st o.dst args.toList k|some (.two A)=>aap A st o.dst args.toList k|some (.sel A)=>aqK A st o.dst args.toList k|some (.idx i)=>aqL i st o.dst args.toList k|some (.ins e u)=>avW e u st o.dst args.toList k|some (.del e u)=>avX e u st o.dst args.toList k|none=>none
 |.call {callee:=.builtin .len,args,argTypes}=>match args.toList,argTypes.toList with
  |[x],[t]=>match P.underlying t,ajC st (st.ac x) with
   |some .string,some n=>match st.ac x with|.str _=>st.pk o.dst (.v (.c (.int .i64 n))) k|_=>none
   |some (.slice _),some n=>match st.ac x with|.str _=>none|_=>st.pk o.dst (.v (.c (.int .i64 n))) k
   |_,_=>none
  |_,_=>none
 |.call {callee:=.builtin .max,args,..}=>match args.toList with
  |x::l=>match st.ac x with
   |.int j a=>match YO true st a l with
    |some r=>st.pk o.dst (.v (.c (.int j r))) k|none=>none
   |_=>none
  |_=>none
 |.call {callee:=.builtin .min,args,..}=>match args.toList with
  |x::l=>match st.ac x with
   |.int j a=>match YO false st a l with
    |some r=>st.pk o.dst (.v (.c (.int j r))) k|none=>none
   |_=>none
  |_=>none
 |.call {callee:=.builtin .append,args,argTypes}=>match o.dst,args.toList,argTypes.toList with
  |some d,[s,x],[t,t2]=>match Dl P t with
   |some e=>match aqH P 20 e,rW P e with
    |some u,some z=>Ng P F st d (st.ac s) (st.ac x) t t2 e u z k|_,_=>none
   |none=>none
  |_,_,_=>none
 |.makeFunc (.func g) first L=>match first.toList,L.toList with
  |[],[x]=>match st.ac x with
   |.ptr b 0=>st.pk o.dst (.v (.c (.fnp g b))) k|_=>none
  |_,_=>none
 |_=>none
def vU (all:List Oper):List Oper->St->(St->Option U)->Option U
 |[],st,k=>k st|o::l,st,k=>match o.guard with
  |none=>fo P C F o st fun st=>vU all l st k
  |some (c,SV)=>match l1 all c with
   |some d=>match d.dst with
    |some a=>match st.get a with
     |.v (.c (.bool b)) =>
      let yes (st:St):Option U:=fo P C F o st fun st=>vU all l st k
      let no (st:St):Option U:=st.pk o.dst (.SL []) fun st=>vU all l st k
      br b (let st:=st.put a (.v (.c (.bool true)));match SV with|true=>yes st|false=>no st)
         (let st:=st.put a (.v (.c (.bool false)));match SV with|true=>no st|false=>yes st)
     |.SL []=>st.pk o.dst (.SL []) fun st=>vU all l st k
     |_=>none
    |none=>none
   |none=>none
def Py (all:List Oper)(o:Oper)(st:St)(k:St->Option U):Option U :=
 match o.guard with
 |none=>fo P C F o st k|some (c,SV)=>match l1 all c with
  |some d=>match d.dst with
   |some a=>match st.get a with
    |.v (.c (.bool b)) =>
     br b (let st:=st.put a (.v (.c (.bool true)));match SV with|true=>fo P C F o st k|false=>st.pk o.dst (.SL []) k)
        (let st:=st.put a (.v (.c (.bool false)));match SV with|true=>st.pk o.dst (.SL []) k|false=>fo P C F o st k)
    |.SL []=>st.pk o.dst (.SL []) k|_=>none
   |none=>none
  |none=>none
def nO (o:Oper):Bool:=match o.op with
 |.move _|.assign _|.pick _ _ _|.load _ _|.nilCheck _|.binOp _ _ _ _ _|.unOp _ _ _|.fieldAddr _ _ _|.indexAddr _ _ _|.index _ _ _|.field _ _ _|.extract _ _|.build _ _|.slice _ _ _ _ _=>true|.convert _ dst _=>match P.underlying dst with|some (.slice _)=>false|_=>true
 |.call {callee:=.builtin .len,..}|.call {callee:=.builtin .min,..}|.call {callee:=.builtin .max,..}=>true|_=>false
def avY (o:Oper):Bool:=match o.op with
 |.call {callee:=.value (.func f),..}=>match C f with|some (.one _)=>true|_=>false
 |_=>false
def bA (o:Oper):Bool:=match o.guard,o.dst,o.op with
 |none,some _,.alloc t=>match rW P t with|some z=>z.kn|none=>false
 |none,some _,.buildSlice t len parts=>match Dl P t with
  |some e=>match aqH P 20 e with
   |some u=>(flat u || Nat.beq len 0)&&Nat.beq parts.toList.length len&&(Nat.beq (P.cellsOf e) u.n&& !Nat.beq u.n 0&&Nat.ble (len*u.n) 16777216&&(rW P e).isSome)|none=>false
  |none=>false
 |_,_,_=>false
def aqM (o:Oper):Bool:=match o.op with
 |.alloc _|.box _ _|.buildSlice _ _ _=>true|_=>false
def ajE:Option Tmp->Option Tmp->Bool
 |some a,some b=>Nat.beq a b|_,_=>false
def F7 (o:Oper):Bool:=bA P o&&match o.op with|.buildSlice _ 0 _=>true|_=>false
def YP (o:Oper):Option Tmp:=match o.op with
 |.call {callee:=.builtin .append,args,argTypes}=>match args.toList,argTypes.toList with
  |[.tmp t,_],[a,b]=>match Nat.beq a b with|true=>some t|false=>none
  |_,_=>none
 |_=>none
def Nh (ops:Array Oper)(o:Oper):Bool:=match YP o with
 |some t=>(List.range ops.size).any fun x=>match ops[x]? with
  |some a=>F7 P a&&ajE a.dst (some t)&&o.after.any fun e=>Region.binds .any e&&Nat.beq e.on x
  |none=>false
 |none=>false
def oL (ops:Array Oper)(o:Oper):Bool:=nO P o || bA P o || avY C o || aqM o || Nh P ops o
def aFO (o:Oper):Bool:=match o.op with
 |.load _ _|.convert _ _ _=>true|_=>false
def H2 (st:St)(o:Oper):Bool:=match o.op with
 |.load _ a=>match st.ac a with|.Sx _ _ _ _=>true|_=>false
 |.convert _ _ _=>false|_=>true
def axQ (ops:List Oper)(st:St)(o:Oper):Bool:=match o.guard with
 |none=>false|some (a,SV)=>match l1 ops a with
  |some b=>match b.dst with
   |some c=>match st.get c,SV with
    |.v (.c (.bool true)),false=>true|.v (.c (.bool false)),true=>true|.SL [],_=>true|_,_=>false
   |none=>false
  |none=>false
def St.drop (st:St)(t:Tmp):St:={st with tm:=st.tm.filter fun p=> !Nat.beq p.1 t}
def gy (ops:Array Oper)(a:Array Bool):List Nat->St->St
 |[],st=>st|i::l,st=>match ops[i]? with
  |some b=>match bA P b&& !a.getD i true,b.dst with
   |true,some d=>(gy ops a l st).drop d|_,_=>gy ops a l st
  |none=>gy ops a l st
def aaq (o:Oper)(t:Tmp):Bool:=match o.op with
 |.buildSlice _ _ parts=>parts.toList.any fun p=>match p.2 with|.tmp s=>Nat.beq s t|_=>false
 |_=>false
def Ka (st:St)(o:Oper):Bool:=match o.op with
 |.buildSlice t _ parts=>match Dl P t with
  |some e=>match aqH P 20 e with
   |some u=>(gO st u 0 parts.toList).isSome|none=>false
  |none=>false
 |_=>true
def waits (ops:Array Oper)(b:Array Bool)(o:Oper):Bool:=o.after.any fun e=>Region.binds .any e&&match ops[e.on]? with|some a=> !bA P a&& !b.getD e.on true|none=>false
def ajF (ops:Array Oper)(b:Array Bool)(st:St):List Nat->Bool
 |[]=>true|y::l=>(match ops[y]? with|some a=> !bA P a || b.getD y true || waits P ops b a || Ka P st a|none=>true)&&ajF ops b st l
def ajG (ops:Array Oper):Bool:=(List.range ops.size).all fun x=>match ops[x]? with
 |some a=> !bA P a || (List.range ops.size).all fun y=>match ops[y]? with
  |some b=>match b.dst with
   |some t=> !aaq a t || (!bA P b&&a.after.any fun e=>Region.binds .any e&&Nat.beq e.on y)
   |none=>true
  |none=>true
 |none=>true
def pB (ops:Array Oper)(nt:Nat):Bool:=ajG P ops&&(List.range ops.size).all fun x=>match ops[x]? with
 |some a=> !bA P a || ((match a.dst with|some d=>Nat.blt d nt|none=>false)&&(List.range ops.size).all fun y=>Nat.beq y x || match ops[y]? with|some b=> !ajE b.dst a.dst|none=>true)
 |none=>true
def mI (ops:Array Oper)(a:Array Bool)(i:Nat):Nat->Oper->Bool
 |0,_=>false|n+1,b=>b.after.any fun e=>Region.binds .any e&&(e.on==i || (!a.getD e.on true&&match ops[e.on]? with|some c=>mI ops a i n c|none=>false))
def SW (o:Oper):Option Tmp:=match o.op with
 |.call {callee:=.value (.func f),args,..}=>match C f with
  |some (.two a)=>match a.pm with
   |.box|.cur=>match l1 args.toList a.i with|some (.tmp t)=>some t|_=>none
   |_=>none
  |_=>none
 |.store _ (.tmp t) _=>some t|_=>none
def avZ (ops:Array Oper)(c:Array Bool)(t:Tmp):Bool:=(List.range ops.size).all fun a=>match ops[a]? with
 |some b=>c.getD a true || !ajE b.dst (some t)|none=>true
def Pz (o:Oper):Bool:=match o.op with|.alloc _=>true|_=>false
def aAD (ops:Array Oper)(c:Array Bool)(b:Oper)(t:Tmp):Bool:=(List.range ops.size).any fun x=>match ops[x]? with
 |some a=>bA P a&&Pz a&&ajE a.dst (some t)&& !c.getD x true&&b.after.any fun e=>Region.binds .any e&&Nat.beq e.on x
 |none=>false
def HF (ops:Array Oper)(b:Array Bool)(st:St)(i:Nat)(ok:Nat->Bool):Bool:=(List.range ops.size).all fun c=>match ops[c]? with
 |some a=>oL P C ops a || b.getD c true || mI ops b i 3 a || (match SW C a with
  |some t=>(match st.get t with|.v (.c (.ptr d 0))=>ok d|_=>false)&&avZ ops b t || aAD P ops b a t
  |none=>false)
 |none=>true
def aqN (ops:Array Oper)(a:Array Bool)(st:St)(i:Nat)(o:Oper):Bool:=match o.op with
 |.load _ x=>match st.ac x with
  |.ptr b _=>HF P C ops a st i fun c=> !Nat.beq c b
  |.Ak id _ _=>match st.nS id with
   |some b=>b.w&&HF P C ops a st i fun _=>true
   |none=>false
  |_=>false
 |_=>false
def aar (ops:Array Oper)(b:Array Bool)(i:Nat):Bool :=
 (List.range ops.size).all fun c=>match ops[c]? with
  |some a=>oL P C ops a || b.getD c true || mI ops b i 3 a|none=>true
def SX (ops:Array Oper)(b:Array Bool)(st:St):List Nat->Option (Nat×Oper)
 |[]=>none|i::l=>match ops[i]? with
  |some a=>match nO P a&&Region.free .any ops b i&&(H2 st a || aar P C ops b i || axQ ops.toList st a || aqN P C ops b st i a) with
   |true=>some (i,a)|false=>SX ops b st l
  |none=>none
def jw (ops:Array Oper)(x:Nat):List Nat->Array Bool->Array Bool
 |[],l=>l|i::is,l=>match ops[i]? with
  |some a=>match bA P a&& !Nat.beq i x with
   |true=>jw ops x is (l.setIfInBounds i true)|false=>jw ops x is l
  |none=>jw ops x is l
def aAE (x:Nat):List Nat->Bool
 |[]=>true|j::l=>Nat.beq j x&&aAE x l
def SY (ops:Array Oper)(a:Array Bool)(st:St):List Nat->Option (Nat×Oper)
 |[]=>none|i::l=>match ops[i]? with
  |some b=>match aAE i (Region.ready .any ops (jw P ops i (List.range ops.size) a))&&ajF P ops a st (List.range ops.size) with
   |true=>some (i,b)|false=>SY ops a st l
  |none=>none
noncomputable def aCB (x y:Option U):Option U:=open Classical in if x=y then x else none
noncomputable def axR:List (Option U)->Option U
 |[]=>none|[x]=>x|x::l=>aCB x (axR l)
inductive BT where|l|n (a b:BT)
def ai5 (ops:Array Oper)(a:Array Bool):List Nat:=Region.ready .any ops (jw P ops ops.size (List.range ops.size) a)
def aAF (ops:Array Oper)(b:Array Bool)(o:Oper):List Nat:=(List.range ops.size).filter fun x=>match ops[x]? with
 |some a=>bA P a&& !b.getD x true&&o.after.any fun e=>Region.binds .any e&&Nat.beq e.on x
 |none=>false
def aCC (ops:Array Oper)(a:Array Bool):Bool:=(List.range ops.size).all fun x=>match ops[x]? with
 |some o=> !bA P o || a.getD x true || o.after.all fun e=> !Region.binds .any e || a.getD e.on false
 |none=>true
def aqO (ops:Array Oper):List Nat->Array Bool->St->(Array Bool->St->Option U)->Option U
 |[],ir,st,k=>k ir st|x::l,ir,st,k=>match ops[x]? with
  |some a=>fo P C F a (gy P ops ir (List.range ops.size) st) fun st=>aqO ops l (ir.setIfInBounds x true) st k
  |none=>none
def HG (ops:Array Oper)(a:Array Bool):List Nat->Bool
 |[]=>true|i::l=>(match ops[i]? with|some b=> !bA P b || a.getD i true|none=>true)&&HG ops a l
noncomputable def vV (ops:Array Oper):Nat->Array Bool->St->(St->Option U)->Option U
 |0,ir,st,k=>match Region.ready .any ops ir with
  |[]=>ck (HG P ops ir (List.range ops.size)) (k st)|_=>none
 |n+1,ir,st,k=>match Region.ready .any ops ir with
  |[]=>ck (HG P ops ir (List.range ops.size)) (k st)|i::r=>let st:=gy P ops ir (List.range ops.size) st
   match SX P C ops ir st (i::r) with
   |some (b,a)=>Py P C F ops.toList a st fun st=>vV ops n (ir.setIfInBounds b true) st k
   |none=>match SY P ops ir st (i::r) with
    |some (b,a)=>Py P C F ops.toList a st fun st=>vV ops n (ir.setIfInBounds b true) st k
    |none=>ck (ajF P ops ir st (List.range ops.size)&&aCC P ops ir) (axR ((ai5 P ops ir).map fun x=>match ops[x]? with
     |some a=>aqO P C F ops (aAF P ops ir a) ir st fun ir st=>Py P C F ops.toList a (gy P ops ir (List.range ops.size) st) fun st=>vV ops n (ir.setIfInBounds x true) st k
     |none=>none))
inductive Ex where
 |norm|exit (id:Nat)|ret
structure Hint where
 live:List Tmp
 mat:List (Tmp×TypeId×Ty):=[]
 roT:List Tmp:=[]
 wk:List Tmp:=[]
 vW:List (Nat×Nat×TypeId×Ty):=[]
 xl:List Tmp:=[]
 rl:List Tmp:=[]
 roB:List (Nat×Nat):=[]
 aD9:Bool:=false
def aE4 (env:List Nat)(c:AC):List Nat:=match c with
 |.own id _|.Ak id _ _=>match Wn env id with|true=>env|false=>env++[id]
 |_=>env
def aAG (env:List Nat)(l:List AC):List Nat:=l.foldl aE4 env
def AV.cells:AV->List AC
 |.v x=>x.cells|.SL l=>l.flatMap CV.cells
def idxOf:List Nat->Nat->Nat->Option Nat
 |[],_,_=>none|x::l,n,i=>match Nat.beq x n with|true=>some i|false=>idxOf l n (i+1)
def ag6 (env d:List Nat):AC->AC
 |.own id len=>match idxOf env id 0 with|some i=>.own (1000000+i) len|none=>.none
 |.Ak id i a=>match idxOf env id 0 with|some e=>.Ak (1000000+e) i a|none=>.none
 |.ptr b a=>match Wn d b with|true=>.ptr b a|false=>.none
 |.fnp _ _=>.none|c=>c
def aCD (env a:List Nat):CV->CV
 |.c x=>.c (ag6 env a x)|.agg l=>.agg (l.map (ag6 env a))
def aCE (env a:List Nat):AV->AV
 |.v x=>.v (aCD env a x)|.SL l=>.SL (l.map (aCD env a))
def aqP (st:St)(t:Tmp)(e:TypeId)(u:Ty):St:=match st.get t,look st.bl (2000000+t),Nat.beq u.n 0 with
 |.v (.c .nil),none,false=>{(st.put t (.v (.c (.own (2000000+t) none)))) with bl:=(2000000+t,some ⟨e,u,[],true,true⟩)::st.bl}
 |_,_,_=>st
def ai6 (st:St)(b j:Nat)(e:TypeId)(u:Ty):St:=match look st.bx b,look st.bl (3000000+100*b+j),Nat.beq u.n 0 with
 |some l,none,false=>match l1 l j with
  |some .nil=>{st with bx:=(b,MF l j (.own (3000000+100*b+j) none))::st.bx,bl:=(3000000+100*b+j,some ⟨e,u,[],true,true⟩)::st.bl}
  |_=>st
 |_,_,_=>st
def axS (st:St)(t:Tmp):St:=match st.get t with
 |.v (.c (.own id len))=>match st.nS id with
  |some b=>(st.du (.own id len)).put t (.v (.c (.ro b.f b.e b.t (HZ b.xs len))))|none=>st
 |_=>st
def aqQ (st:St)(b j:Nat):St:=match look st.bx b with
 |some l=>match l1 l j with
  |some (.own id len)=>match st.nS id with
   |some a=>{(st.du (.own id len)) with bx:=(b,MF l j (.ro false a.e a.t (HZ a.xs len)))::(st.du (.own id len)).bx}
   |none=>st
  |some (.ro _ e t xs)=>{st with bx:=(b,MF l j (.ro false e t xs))::st.bx}
  |_=>st
 |none=>st
def aAH (st:St):Bool->St
 |true=>{st with sp:=.v (.c .none)}
 |false=>st
def aqR (st:St)(t:Tmp):St:=match st.get t with
 |.v (.c (.ro _ e u xs))=>st.put t (.v (.c (.ro false e u xs)))|.v (.c (.own id len))=>match st.nS id with
  |some b=>{st with bl:=(id,some {b with f:=false})::st.bl}
  |none=>st
 |_=>st
def SZ:List AV->List Nat
 |[]=>[]|.v (.c (.ptr b _))::l=>match Wn (SZ l) b with|true=>SZ l|false=>b::SZ l
 |_::l=>SZ l
def aCF (a:List (Nat×AV))(bx:List (Nat×List AC)):List Nat :=
 bx.foldl (fun env b=>aAG env b.2) (a.foldl (fun env x=>aAG env x.2.cells) [])
def av0 (st:St)(b:Nat):List AC:=match look st.bx b with|some l=>l|none=>[]
def S0 (st:St)(env:List Nat):Nat->List Nat->List (Nat×Option fa)
 |_,[]=>[]|i,id::l=>(1000000+i,match idxOf env id 0 with
  |some a=>match Nat.beq a i with|true=>st.nS id|false=>none
  |none=>none)::S0 st env (i+1) l
def aE5 (st:St)(tm:List (Nat×AV))(a:List Nat)(env:List Nat):St :=
 {nt:=st.nt,tm:=tm.map fun x=>(x.1,aCE env a x.2),bx:=a.map fun b=>(b,(av0 st b).map (ag6 env a)),bl:=S0 st env 0 env,sp:=aCE env a st.sp,rob:=st.rob}
def keep (d:List Tmp)(st:St):St :=
 let a:=d.map fun t=>(t,st.get t)
 let c:=SZ (st.sp::a.map (·.2))
 aE5 st a c (aCF ((0,st.sp)::a) (c.map fun b=>(b,av0 st b)))
def aAI (h:Hint)(st:St):St :=
 keep h.live (h.wk.foldl aqR (h.roT.foldl axS (h.roB.foldl (fun st (b,a)=>aqQ st b a) (h.vW.foldl (fun st (b,a,e,u)=>ai6 st b a e u) (h.mat.foldl (fun st (t,e,u)=>aqP st t e u) (aAH st h.aD9))))))
def aEa (h:Hint)(e:Ex)(st:St):St:=match e with
 |.norm=>st|.exit _=>keep h.xl st|.ret=>keep h.rl st
def aqS (h:Option Hint)(st:St):St:=match h with|some h=>aAI h st|none=>st
def ajH (h:Option Hint)(e:Ex)(st:St):St:=match h with|some h=>aEa h e st|none=>st
def aCG (b:St->(Ex->St->Option U)->Option U)(h:Option Hint)(k:Ex->St->Option U):Nat->St->Option U
 |0,_=>none|n+1,st=>b st fun e cA=>match e with
  |.norm=>aCG b h k n (aqS h cA)|.exit a=>k (.exit a) (ajH h (.exit a) cA)|.ret=>k .ret (ajH h .ret cA)
def pC:Code->Nat
 |.region id _ _=>id|.seq a _=>pC a|.block _ b=>pC b|_=>0
def jx (o:Oper):Bool:=match o.op with
 |.move _|.assign _|.pick _ _ _|.load _ _|.nilCheck _|.binOp _ _ _ _ _|.unOp _ _ _|.fieldAddr _ _ _|.indexAddr _ _ _|.index _ _ _|.field _ _ _|.extract _ _|.build _ _|.slice _ _ _ _ _=>true|.convert _ dst _=>match P.underlying dst with|some (.slice _)=>false|_=>true
 |.call {callee:=.builtin .len,..}|.call {callee:=.builtin .min,..}|.call {callee:=.builtin .max,..}=>true|.call {callee:=.value (.func f),..}=>match C f with|some (.one b)=>Nat.beq b.m 1&&b.rs.all fun a=>flat a.1|_=>false
 |_=>false
def av1 (ops:Array Oper):Bool:=P.follows .mixedOrders&&Region.lexB .any ops&&ops.toList.all fun a=>jx P C a
def aqT (d:Nat)(c:Nat->AC):AC->AC
 |.ptr b a=>match Nat.beq b d with|true=>c a|false=>.ptr b a
 |.fnp g b=>match Nat.beq b d with|true=>.none|false=>.fnp g b
 |x=>x
def aAJ (d:Nat)(c:Nat->AC):CV->CV
 |.c x=>.c (aqT d c x)|.agg l=>.agg (l.map (aqT d c))
def axT (d:Nat)(c:Nat->AC):AV->AV
 |.v x=>.v (aAJ d c x)|.SL l=>.SL (l.map (aAJ d c))
def St.ape (st:St)(d:Nat)(c:Nat->AC):St :=
 {st with tm:=st.tm.map fun p=>(p.1,axT d c p.2),bx:=(st.bx.filter fun p=> !Nat.beq p.1 d).map fun p=>(p.1,p.2.map (aqT d c)),sp:=axT d c st.sp}
def aAK (d:Nat)(u:Ty)(st:St)(k:St->Option U):Option U:=match look st.bx d with
 |some cells=>match im st u cells with
  |some (y,[])=>ck (nN st cells) (k ((st.freeze cells).ape d fun a=>.Sx (ca cells) u y a))
  |_=>none
 |none=>none
def aCH:List (Tmp×TypeId×Ty)->St->(St->Option U)->Option U
 |[],st,k=>k st|(d,_,u)::l,st,k=>aAK d u st fun st=>aCH l st k
def aE6 (H:Nat->Option Hint)(id:Nat):List (Tmp×TypeId×Ty):=match H (900000+id) with|some h=>h.mat|none=>[]
noncomputable def run (H:Nat->Option Hint):Code->St->(Ex->St->Option U)->Option U
 |.skip,st,k=>k .norm st|.region id ops aCI,st,k=>match (!aCI || av1 P C ops) with
  |true=>vU P C F ops.toList ops.toList st fun st=>k .norm st
  |false=>match P.follows .mixedOrders&&Region.noSelect ops&&pB P ops st.nt with
   |true=>aCH (aE6 H id) st fun st=>vV P C F ops ops.size (Array.replicate ops.size false) st fun st=>k .norm st
   |false=>none
 |.seq a b,st,k=>run H a st fun e st=>match e with
  |.norm=>run H b st k|e=>k e st
 |.cond c a b,st,k=>match st.ac c with
  |.bool v=>br v (run H a (st.lit c true) k) (run H b (st.lit c false) k)|_=>none
 |.block id b,st,k=>run H b st fun e st=>match e with
  |.exit d=>match Nat.beq d id with|true=>k .norm st|false=>k (.exit d) st
  |e=>k e st
 |.loop b,st,k=>aCG (fun st k=>run H b st k) (H (pC b)) k F.n (aqS (H (pC b)) st)
 |.exit id,st,k=>k (.exit id) st|.ret,st,k=>k .ret st|_,_,_=>none
def aE7 (ps:List (Ty×Bool))(x:Args ps):List CV:=exF false ps x
def atk:Nat->List CV->List (Nat×AV)
 |_,[]=>[]|i,v::l=>(i,.v v)::atk (i+1) l
def aAL (st:St):ResultVar->Option CV
 |.tmp t=>some (st.dO (.tmp t))|.cell a t=>match sK st (st.ac (.tmp a)) with
  |some (l,off) =>
   let q:=rM (P.cellsOf t) (rN off l)
   match Nat.beq q.length (P.cellsOf t) with
   |true=>match Wm P t with
    |some true=>some (.agg q)|some false=>match q with
     |[x]=>some (.c x)|_=>none
    |none=>none
   |false=>none
  |none=>none
def PA (st:St):List ResultVar->Option (List CV)
 |[]=>some []|r::l=>match aAL P st r with
  |some c=>match PA st l with
   |some cs=>some (c::cs)|none=>none
  |none=>none
def fin (a:Func)(rs:List (Ty×Bool))(m:Nat):Ex->St->Option (Args rs):=fun e st =>
 match e with
 |.exit _=>none|_=>match PA P st a.results.toList with
  |some l=>match fT st m [] (aN l)&&(match m with|2=>vT st rs l|_=>true) with
   |true=>AL st rs l|false=>none
  |none=>none
def iu (a : Func) : Code := match a.body with | some c => c | none => .refuse ""
def apf (H:Nat->Option Hint):List Nat:=match H 999999 with|some h=>h.live|none=>[]
noncomputable def aEb (H:Nat->Option Hint) (a:Func) (ps rs:List (Ty×Bool)) (m:Nat) (x:Args ps):Option (Args rs) :=
 ck (Nat.ble ps.length a.ntmps&&eh ps&&eh rs&&Nat.ble m 2) (run P C F H (iu a) {nt:=a.ntmps,tm:=atk 0 (aE7 ps x),bx:=[],bl:=[],rob:=apf H} (fin P a rs m))
def aEc (pm:PM)(a:Ty×Bool)(x:a.1.D):CV×List (Nat×Option fa)×List (Nat×List AC):=match pm with
 |.rd=>(match a.2 with|true=>.agg (ex false a.1 x)|false=>.c (match ex false a.1 x with|[c]=>c|_=>.none),[],[])
 |.own f=>((ex1 62500 f a x 0).1,(ex1 62500 f a x 0).2,[])|.box=>(.c (.ptr 4000000 0),[],[(4000000,ex false a.1 x)])|.cur=>(.c (.ptr 4000000 0),[],[(4000000,ex true a.1 x)])
def exP (pm:PM):Nat->(ps:List (Ty×Bool))->Args ps->List CV×(CV×List (Nat×Option fa)×List (Nat×List AC))
 |0,a::l,x=>((aEc pm a x.1).1::exF false l x.2,aEc pm a x.1)|i+1,a::l,x=>((match a.2 with|true=>.agg (ex false a.1 x.1)|false=>.c (match ex false a.1 x.1 with|[c]=>c|_=>.none))::(exP pm i l x.2).1,(exP pm i l x.2).2)
 |_,[],_=>([],(.c .none,[],[]))
def adi (nt:Nat)(pm:PM)(i:Nat)(ps:List (Ty×Bool))(x:Args ps):St :=
 {nt:=nt,tm:=atk 0 (exP pm i ps x).1,bx:=(exP pm i ps x).2.2.2,bl:=(exP pm i ps x).2.2.1,sp:=.v (exP pm i ps x).2.1}
def anJ (st:St)(pm:PM)(rs a:List (Ty×Bool))(m:Nat)(l:List CV):Option (Args rs×Args a) :=
 match pm with
 |.rd=>match a with
  |[]=>match rdM m with
   |some f=>match l with
    |[.c (.ptr b 0)]=>match look st.bx b with
     |some c=>match fT st (match f with|true=>1|false=>0) [] c&&vg c with
      |true=>match AL st rs [.agg c]with|some r=>some (r,())|none=>none
      |false=>none
     |none=>none
    |_=>none
   |none=>none
  |_=>none
 |.box=>match st.sp,a with
  |.v (.c (.ptr b 0)),[q]=>match look st.bx b with
   |some c=>match vg c&&fT st m [] (aN l)&&(match m with|2|3=>vT st rs l|_=>true)&&Nat.ble m 3 with
    |true=>match AL st rs l,imV st q (.agg c) with
     |some r,some y=>some (r,(y,()))|_,_=>none
    |false=>none
   |none=>none
  |_,_=>none
 |.cur=>match st.sp,a with
  |.v (.c (.ptr b 0)),[q]=>match look st.bx b with
   |some c=>match vg c&&ca c&&fT st m [] (aN l)&&(match m with|2=>vT st rs l|_=>true)&&Nat.ble m 2 with
    |true=>match AL st rs l,imV st q (.agg c) with
     |some r,some y=>some (r,(y,()))|_,_=>none
    |false=>none
   |none=>none
  |_,_=>none
 |.own _=>match Nat.beq m 2 || Nat.beq m 3 with
  |true=>match a with
   |[]=>match fT st m [] (aN l)&&vT st rs l with
    |true=>match AL st rs l with|some r=>some (r,())|none=>none
    |false=>none
   |[q]=>match st.sp with
    |.v c=>match fT st m [] (aN (l++[c]))&&vT st rs l&&vT st [q] [c]with
     |true=>match AL st rs l,AL st [q] [c]with
      |some r,some y=>some (r,y)|_,_=>none
     |false=>none
    |_=>none
   |_=>none
  |false=>none
def aE8 (b:Func)(pm:PM)(rs a:List (Ty×Bool))(m:Nat):Ex->St->Option (Args rs×Args a):=fun e st =>
 match e with
 |.exit _=>none|_=>match PA P st b.results.toList with
  |some l=>anJ st pm rs a m l|none=>none
noncomputable def axU (H:Nat->Option Hint) (a:Func) (ps:List (Ty×Bool)) (i:Nat) (pm:PM) (rs b:List (Ty×Bool)) (m:Nat) (x:Args ps):Option (Args rs×Args b) :=
 ck (Nat.ble ps.length a.ntmps&&Nat.blt i ps.length&&eh ps&&eh rs) (run P C F H (iu a) {(adi a.ntmps pm i ps x) with rob:=apf H} (aE8 P a pm rs b m))
def av2 (f:Func)(a b q:Ty×Bool):Ex->St->Option (a.1.D×b.1.D×q.1.D):=fun e st =>
 match e with
 |.exit _=>none|_=>match PA P st f.results.toList with
  |some [d,c]=>match AL st [b] [c]with
   |some n=>br (ajA b.1 n.1)
     (match anJ st (.own true) [a,b] [] 2 [d,c]with|some r=>some (r.1.1,r.1.2.1,q.1.aq)|none=>none)
     (ck (aDO a d) (match anJ st (.own true) [b] [q] 2 [c]with|some r=>some (a.1.aq,r.1.1,r.2.1)|none=>none))
   |none=>none
  |_=>none
noncomputable def anK (H:Nat->Option Hint) (c:Func) (ps:List (Ty×Bool)) (i:Nat) (a b q:Ty×Bool) (x:Args ps):Option (a.1.D×b.1.D×q.1.D) :=
 ck (Nat.ble ps.length c.ntmps&&Nat.blt i ps.length&&eh ps&&eh [a,b]) (run P C F H (iu c) {(adi c.ntmps (.own true) i ps x) with rob:=apf H} (av2 P c a b q))
end
end Go.Am
namespace Go.Am
inductive At where
 |l|r|b|t|e|i
def sub:List At->Code->Code
 |[],c=>c|.l::p,.seq a _=>sub p a|.r::p,.seq _ b=>sub p b|.b::p,.block _ b=>sub p b|.t::p,.cond _ a _=>sub p a|.e::p,.cond _ _ a=>sub p a|.i::p,.loop a=>sub p a|_,_=>.skip
section
variable (P:Program) (C:FuncId->Option Any) (F:nT) {U:Type} (H:Nat->Option Hint)
noncomputable def adj:List At->Code->(Ex->St->Option U)->(Ex->St->Option U)
 |[],_,k=>k|.l::p,.seq a b,k=>adj p a fun e st=>match e with
  |.norm=>run P C F H b st k|e=>k e st
 |.r::p,.seq _ b,k=>adj p b k|.b::p,.block id b,k=>adj p b fun e st=>match e with
  |.exit c=>match Nat.beq c id with|true=>k .norm st|false=>k (.exit c) st
  |e=>k e st
 |.t::p,.cond _ a _,k=>adj p a k|.e::p,.cond _ _ a,k=>adj p a k|_,_,k=>k
noncomputable def lp (b:Code) (k:Ex->St->Option U) (n:Nat) (st:St):Option U :=
 aCG (fun st k=>run P C F H b st k) (H (pC b)) k n st
noncomputable def itk (b:Code) (k:Ex->St->Option U) (n:Nat):Ex->St->Option U:=fun e cA=>match e with
 |.norm=>lp P C F H b k n (aqS (H (pC b)) cA)|.exit a=>k (.exit a) (ajH (H (pC b)) (.exit a) cA)|.ret=>k .ret (ajH (H (pC b)) .ret cA)
end
end Go.Am
